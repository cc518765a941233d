/- Texts of this work, laid together: a logic of steps, plain laws, and walks of Go functions, each without a condition but those that its theorems name. -/
import Derived.Test.YtdcaehepmkhciaaKTreePlays2
import Derived.Test.YtdcaehepmkhciaaRows
/- Plain laws of trees of tokens: a token goes, and all below it. -/
namespace Go.Gx.T15
open Go.Gx Go.Gx.T10 Go.Gx.T12
theorem mput_len {κ ν : Type} [DecidableEq κ] {k : κ} {u v : ν} : ∀ {l : List (κ × ν)}, lkp l k = some u → (mput l k v).length = l.length
  | [], h => by simp [lkp] at h
  | p :: t, h => by
    rw [lkp] at h
    rw [mput]
    by_cases e : p.1 = k
    · rw [if_pos e]; rfl
    · rw [if_neg e] at h ⊢
      simp only [List.length_cons, mput_len h]
section
variable {α : Type} [DecidableEq α]
/-- The tree without a token, and all below it. -/
def delS (s : TS (Tk α) α) (x xp : Tk α) (id : Int) (T : RT α) : TS (Tk α) α := outs (lessS s x.par (less xp id)) (post T)
section
variable {s : TS (Tk α) α} {id : Int} {x xp : Tk α} {T : RT α}
omit [DecidableEq α] in
theorem Goes.pn (h : TInv s) (g : Goes s id T) (hx : lkp s.toks id = some x) : ¬ x.par ∈ (post T).map (·.1) := fun hm => by
  have h1 := (g.anc _ hm).le h.ord
  have := h.rng id x hx
  omega
omit [DecidableEq α] in
theorem Goes.here (g : Goes s id T) : ∀ k ∈ (post T).map (·.1), ∃ y, lkp s.toks k = some y := fun k hk => by
  obtain ⟨q, hq, rfl⟩ := List.mem_map.1 hk
  exact fitsG_mem g.fit q hq
omit [DecidableEq α] in
theorem Goes.mem (h : TInv s) (g : Goes s id T) (h0 : 1 ≤ id) (k : Int) : k ∈ (post T).map (·.1) ↔ Anc (lkp s.toks) id k := by
  refine ⟨g.anc k, fun ha => ?_⟩
  induction ha with
  | refl => have h1 := post_id T; rw [g.top] at h1; exact h1
  | step h1 h2 ih =>
    rename_i c y
    have h3 := h2.le h.ord
    have hne : ¬ c = 1 := fun e => by
      subst e
      obtain ⟨r, hr, hr0⟩ := h.root
      rw [h1] at hr; simp only [Option.some.injEq] at hr; subst hr
      omega
    obtain ⟨z, hz, hc⟩ := h.par c y h1 hne
    exact fitsG_closed g.fit _ ih z hz c hc
omit [DecidableEq α] in
theorem Goes.len (h : TInv s) (g : Goes s id T) : (post T).length ≤ s.last.toNat := by
  have h1 := nodup_len (n := s.last.toNat) g.nd (fun k hk => by
    obtain ⟨y, hy⟩ := g.here k hk
    have := h.rng k y hy
    omega)
  simpa using h1
theorem del_lkp (h : TInv s) (k : Int) : lkp (delS s x xp id T).toks k = if k ∈ (post T).map (·.1) then none else if x.par = k then some (less xp id) else lkp s.toks k := by
  unfold delS
  rw [outs_toks]
  split
  · rename_i hk
    exact mdels_none _ _ (mput_nodup h.nd _ _) (.inl hk)
  · rename_i hk
    rw [mdels_lkp _ _ hk]
    exact lkp_mput _ _ _ _
theorem del_last : (delS s x xp id T).last = s.last := by unfold delS; rw [outs_last]; rfl
theorem TInv.del (h : TInv s) (hid : ¬ id = 1) (hx : lkp s.toks id = some x) (hp : lkp s.toks x.par = some xp) (g : Goes s id T) : TInv (delS s x xp id T) := by
  have hlk := fun k => del_lkp (x := x) (xp := xp) (id := id) (T := T) h k
  have hpn := g.pn h hx
  have hr := h.rng id x hx
  have hin : id ∈ (post T).map (·.1) := by have h1 := post_id T; rw [g.top] at h1; exact h1
  have inv : ∀ k y, lkp (delS s x xp id T).toks k = some y → ¬ k ∈ (post T).map (·.1) ∧ ∃ y0, lkp s.toks k = some y0 ∧ y.par = y0.par ∧ (∀ c, c ∈ y.kids → c ∈ y0.kids ∧ (k = x.par → ¬ c = id)) ∧ (y0.kids.Pairwise (· < ·) → y.kids.Pairwise (· < ·)) := by
    intro k y e
    rw [hlk] at e
    split at e
    · cases e
    · rename_i hk
      refine ⟨hk, ?_⟩
      split at e
      · rename_i h1
        simp only [Option.some.injEq] at e
        subst e; subst h1
        refine ⟨xp, hp, rfl, fun c hc => ?_, fun hpw => hpw.filter _⟩
        have := List.mem_filter.1 hc
        exact ⟨this.1, fun _ e => by simp [e] at this⟩
      · rename_i h1
        exact ⟨y, e, rfl, fun c hc => ⟨hc, fun e => absurd e.symm h1⟩, fun hpw => hpw⟩
  have fwd : ∀ k y0, lkp s.toks k = some y0 → ¬ k ∈ (post T).map (·.1) → ∃ y, lkp (delS s x xp id T).toks k = some y ∧ y.par = y0.par ∧ ∀ c, c ∈ y0.kids → ¬ c = id → c ∈ y.kids := by
    intro k y0 e hk
    rw [hlk, if_neg hk]
    by_cases h1 : x.par = k
    · subst h1
      rw [hp] at e; simp only [Option.some.injEq] at e; subst e
      rw [if_pos rfl]
      exact ⟨_, rfl, rfl, fun c hc hne => List.mem_filter.2 ⟨hc, by simp [hne]⟩⟩
    · rw [if_neg h1]; exact ⟨y0, e, rfl, fun c hc _ => hc⟩
  refine ⟨?_, by rw [del_last]; exact h.lo, fun k y e => ?_, fun k y e hne => ?_, fun k y e c hc => ?_, fun k y e => ?_, ?_⟩
  · unfold delS
    rw [outs_toks]
    exact mdels_nodup _ _ (mput_nodup h.nd _ _)
  · obtain ⟨_, y0, h1, h2, _⟩ := inv k y e
    rw [del_last, h2]; exact h.rng k y0 h1
  · obtain ⟨hk, y0, h1, h2, _⟩ := inv k y e
    obtain ⟨z, h3, h4⟩ := h.par k y0 h1 hne
    have h5 : ¬ y0.par ∈ (post T).map (·.1) := fun hm => hk (fitsG_closed g.fit _ hm z h3 k h4)
    obtain ⟨z', h6, _, h7⟩ := fwd _ z h3 h5
    exact ⟨z', by rw [h2]; exact h6, h7 k h4 (fun e => hk (by rw [e]; exact hin))⟩
  · obtain ⟨hk, y0, h1, h2, h3, _⟩ := inv k y e
    obtain ⟨hc0, hcn⟩ := h3 c hc
    obtain ⟨yc, h4, h5⟩ := h.kid k y0 h1 c hc0
    have hcK : ¬ c ∈ (post T).map (·.1) := fun hm => by
      cases g.anc c hm with
      | refl =>
        rw [hx] at h4; simp only [Option.some.injEq] at h4; subst h4
        exact hcn h5.symm rfl
      | step h6 h7 =>
        rw [h4] at h6; simp only [Option.some.injEq] at h6; subst h6
        rw [h5] at h7
        exact hk ((g.mem h hr.1 k).2 h7)
    obtain ⟨z', h8, h9, _⟩ := fwd c yc h4 hcK
    exact ⟨z', h8, h9.trans h5⟩
  · obtain ⟨_, y0, h1, _, _, h4⟩ := inv k y e
    exact h4 (h.up k y0 h1)
  · obtain ⟨r, h1, h2⟩ := h.root
    obtain ⟨z', h3, h4, _⟩ := fwd 1 r h1 (fun hm => by have := (g.anc 1 hm).le h.ord; omega)
    exact ⟨z', h3, h4.trans h2⟩
omit [DecidableEq α] in
theorem TInv.delgo (h : TInv s) (hid : ¬ id = 1) (hn : ¬ lkp s.toks id = none) : ∃ x xp T, lkp s.toks id = some x ∧ lkp s.toks x.par = some xp ∧ Goes s id T := by
  cases hx : lkp s.toks id with
  | none => exact absurd hx hn
  | some x =>
    obtain ⟨xp, h1, _⟩ := h.par id x hx hid
    obtain ⟨T, hT⟩ := h.goes _ id x hx (Nat.lt_succ_self _)
    exact ⟨x, xp, T, rfl, h1, hT⟩
end
end
end Go.Gx.T15

/- Plain laws of trees of tokens: who is where, and with what; ways up. -/
namespace Go.Gx.T15
open Go.Gx Go.Gx.T10 Go.Gx.T12
/-- Maps of maps: what each has. -/
structure Nst {κ : Type} [DecidableEq κ] (c : List (κ × List (Int × Int))) (S : κ → Int → Prop) : Prop where
  nd : (c.map (·.1)).Nodup
  mm : ∀ k h, lkp c k = some h → Mm h (S k)
  ne : ∀ k id, S k id → ∃ h, lkp c k = some h
section
variable {κ : Type} [DecidableEq κ]
theorem Nst.nil : Nst ([] : List (κ × List (Int × Int))) (fun _ _ => False) := ⟨by simp, fun k h e => by simp [lkp] at e, fun _ _ h => h.elim⟩
theorem Nst.congr {c : List (κ × List (Int × Int))} {S T : κ → Int → Prop} (h : Nst c S) (e : ∀ k id, S k id ↔ T k id) : Nst c T := ⟨h.nd, fun k m hm => (h.mm k m hm).congr (e k), fun k id ht => h.ne k id ((e k id).2 ht)⟩
theorem Nst.get {c : List (κ × List (Int × Int))} {S : κ → Int → Prop} (h : Nst c S) (k : κ) : Mm ((lkp c k).getD []) (S k) := by
  cases e : lkp c k with
  | none => exact Mm.nil.congr (fun id => ⟨False.elim, fun hs => by obtain ⟨m, hm⟩ := h.ne k id hs; rw [e] at hm; cases hm⟩)
  | some m => exact h.mm k m e
theorem Nst.put {c : List (κ × List (Int × Int))} {S : κ → Int → Prop} (h : Nst c S) (k : κ) (id : Int) : Nst (nput c k id) (fun k' i => (k' = k ∧ i = id) ∨ S k' i) := by
  unfold nput
  refine ⟨mput_nodup h.nd _ _, fun k' m hm => ?_, fun k' i hs => ?_⟩
  · rw [lkp_mput] at hm
    split at hm
    · rename_i e; subst e
      simp only [Option.some.injEq] at hm; subst hm
      exact ((h.get k).put id).congr (fun i => by simp)
    · rename_i e
      exact (h.mm k' m hm).congr (fun i => ⟨.inr, fun hs => by rcases hs with hs | hs; exact absurd hs.1.symm e; exact hs⟩)
  · rw [lkp_mput]
    split
    · exact ⟨_, rfl⟩
    · rename_i e
      rcases hs with hs | hs
      · exact absurd hs.1.symm e
      · exact h.ne k' i hs
theorem _root_.Go.Gx.T12.Mm.del {m : List (Int × Int)} {S : Int → Prop} (h : Mm m S) (id : Int) : Mm (mdel m id) (fun x => ¬ x = id ∧ S x) := by
  refine ⟨mdel_nodup h.nd _, fun q hq => h.one q ((mdel_sub m id).subset hq), fun x => ?_⟩
  rw [lkp_mdel h.nd]
  by_cases e : id = x
  · subst e; simp
  · rw [if_neg e, h.mem]
    exact ⟨fun hs => ⟨fun h2 => e h2.symm, hs⟩, fun hs => hs.2⟩
theorem Nst.drop {c : List (κ × List (Int × Int))} {S : κ → Int → Prop} (h : Nst c S) (k : κ) (id : Int) : Nst (ndrop c k id) (fun k' i => ¬ (k' = k ∧ i = id) ∧ S k' i) := by
  have hm := (h.get k).del id
  unfold ndrop
  split
  · rename_i h0
    have hn : mdel ((lkp c k).getD []) id = [] := List.eq_nil_of_length_eq_zero h0
    have none : ∀ i, S k i → i = id := fun i hs => by
      by_cases e : i = id
      · exact e
      · have := (hm.mem i).2 ⟨e, hs⟩
        rw [hn] at this; simp [lkp] at this
    refine ⟨mdel_nodup h.nd _, fun k' m hm' => ?_, fun k' i hs => ?_⟩
    · rw [lkp_mdel h.nd] at hm'
      split at hm'
      · cases hm'
      · rename_i e
        exact (h.mm k' m hm').congr (fun i => ⟨fun hs => ⟨fun h2 => e h2.1.symm, hs⟩, fun hs => hs.2⟩)
    · rw [lkp_mdel h.nd]
      by_cases e : k = k'
      · subst e; exact absurd ⟨rfl, none i hs.2⟩ hs.1
      · rw [if_neg e]; exact h.ne k' i hs.2
  · refine ⟨mput_nodup h.nd _ _, fun k' m hm' => ?_, fun k' i hs => ?_⟩
    · rw [lkp_mput] at hm'
      split at hm'
      · rename_i e; subst e
        simp only [Option.some.injEq] at hm'; subst hm'
        exact hm.congr (fun i => by simp)
      · rename_i e
        exact (h.mm k' m hm').congr (fun i => ⟨fun hs => ⟨fun h2 => e h2.1.symm, hs⟩, fun hs => hs.2⟩)
    · rw [lkp_mput]
      split
      · exact ⟨_, rfl⟩
      · exact h.ne k' i hs.2
theorem Nst.items {c : List (κ × List (Int × Int))} {S : κ → Int → Prop} (h : Nst c S) (k : κ) (id : Int) : id ∈ itemsN c k ↔ S k id := by
  have hm := h.get k
  have hp : id ∈ sortI (((lkp c k).getD []).map Prod.fst) ↔ id ∈ ((lkp c k).getD []).map Prod.fst := (List.mergeSort_perm _ _).mem_iff
  unfold itemsN
  rw [hp, lkp_keys, hm.mem]
theorem Nst.wf {c : List (κ × List (Int × Int))} {S : κ → Int → Prop} (h : Nst c S) (k : κ) {n : Nat} (hn : n ≤ 1000) (hb : ∀ id, S k id → 1 ≤ id ∧ id ≤ (n : Int)) : ∀ m, lkp c k = some m → (∀ q ∈ m, (Lit.int .i64 q.1).wf = true) ∧ m.length ≤ 1000 := by
  intro m hm
  have h1 := h.mm k m hm
  have hr : ∀ x ∈ m.map Prod.fst, 1 ≤ x ∧ x ≤ (n : Int) := fun x hx => hb x ((h1.mem x).1 (lkp_keys.1 hx))
  refine ⟨fun q hq => wf_mk (by have := hr q.1 (List.mem_map.2 ⟨q, hq, rfl⟩); omega), ?_⟩
  have h2 := nodup_len h1.nd hr
  simp at h2; omega
end
section
variable {α : Type}
mutual
theorem fitsG_fac {g : Int → Option (Tk α)} : ∀ {T : RT α}, FitsG g T → ∀ q ∈ post T, ∃ x, g q.1 = some x ∧ x.pla = q.2.1 ∧ x.fac = q.2.2
  | .mk i a f ks, ⟨⟨x, h1, h2, h3, _⟩, h5⟩, q, hq => by
    rcases List.mem_append.1 hq with hq | hq
    · exact fitsGL_fac h5 q hq
    · rw [List.mem_singleton.1 hq]; exact ⟨x, h1, h2, h3⟩
theorem fitsGL_fac {g : Int → Option (Tk α)} : ∀ {ks : List (RT α)}, FitsGL g ks → ∀ q ∈ postL ks, ∃ x, g q.1 = some x ∧ x.pla = q.2.1 ∧ x.fac = q.2.2
  | t :: ts, ⟨h1, h2⟩, q, hq => by
    rcases List.mem_append.1 hq with hq | hq
    · exact fitsG_fac h1 q hq
    · exact fitsGL_fac h2 q hq
end
end
section
variable {α : Type} [DecidableEq α]
/-- Who has a fact, as the maps say. -/
def FInv (s : TS (Tk α) α) : Prop := Nst s.fc (fun f id => ¬ f = 0 ∧ ∃ x, lkp s.toks id = some x ∧ x.fac = f)
theorem FInv.new (a : α) : FInv (newS a) := by
  refine Nst.nil.congr (fun f id => ⟨False.elim, fun ⟨h0, x, hx, hf⟩ => ?_⟩)
  simp only [newS, lkp] at hx
  split at hx
  · simp only [Option.some.injEq] at hx; subst hx; exact h0 hf.symm
  · cases hx
theorem FInv.add {s : TS (Tk α) α} (hI : TInv s) (h : FInv s) (par : Int) (a : α) (f : Int) : FInv (addS s par a f) := by
  cases hx : lkp s.toks par with
  | none => rw [add_no hx]; exact h
  | some x =>
    have hr := hI.rng par x hx
    have hfresh : lkp s.toks (s.last + 1) = none := by
      cases e : lkp s.toks (s.last + 1) with
      | none => rfl
      | some y => have := hI.rng _ y e; omega
    have hlk := add_lkp (a := a) (f := f) hx
    have efc : (addS s par a f).fc = if f = 0 then s.fc else nput s.fc f (s.last + 1) := by unfold addS; rw [hx]
    have key : ∀ g id, (∃ y, lkp (addS s par a f).toks id = some y ∧ y.fac = g) ↔ (id = s.last + 1 ∧ g = f) ∨ ∃ y, lkp s.toks id = some y ∧ y.fac = g := by
      intro g id
      rw [hlk]
      by_cases h1 : par = id
      · subst h1
        rw [if_pos rfl, hx]
        constructor
        · rintro ⟨y, hy, hg⟩
          simp only [Option.some.injEq] at hy; subst hy
          exact .inr ⟨x, rfl, hg⟩
        · rintro (⟨h2, _⟩ | ⟨y, hy, hg⟩)
          · omega
          · simp only [Option.some.injEq] at hy; subst hy
            exact ⟨_, rfl, hg⟩
      · rw [if_neg h1]
        by_cases h2 : s.last + 1 = id
        · subst h2
          rw [if_pos rfl, hfresh]
          constructor
          · rintro ⟨y, hy, hg⟩
            simp only [Option.some.injEq] at hy; subst hy
            exact .inl ⟨rfl, hg.symm⟩
          · rintro (⟨_, h3⟩ | ⟨y, hy, _⟩)
            · exact ⟨_, rfl, h3.symm⟩
            · cases hy
        · rw [if_neg h2]
          exact ⟨.inr, fun h3 => by rcases h3 with h3 | h3; exact absurd h3.1.symm h2; exact h3⟩
    unfold FInv
    rw [efc]
    by_cases h0 : f = 0
    · rw [if_pos h0]
      refine Nst.congr h (fun g id => ?_)
      rw [key]
      constructor
      · rintro ⟨h1, h2⟩; exact ⟨h1, .inr h2⟩
      · rintro ⟨h1, ⟨_, h2⟩ | h2⟩
        · exact absurd (h2.trans h0) h1
        · exact ⟨h1, h2⟩
    · rw [if_neg h0]
      refine (Nst.put h f (s.last + 1)).congr (fun g id => ?_)
      rw [key]
      constructor
      · rintro (⟨rfl, rfl⟩ | ⟨h1, h2⟩)
        · exact ⟨h0, .inl ⟨rfl, rfl⟩⟩
        · exact ⟨h1, .inr h2⟩
      · rintro ⟨h1, ⟨rfl, rfl⟩ | h2⟩
        · exact .inl ⟨rfl, rfl⟩
        · exact .inr ⟨h1, h2⟩
theorem outs_fc : ∀ (gs : List (Gn α)) (s : TS (Tk α) α) (S : Int → Int → Prop), Nst s.fc S → Nst (outs s gs).fc (fun f id => S f id ∧ ∀ g ∈ gs, ¬ (g.1 = id ∧ g.2.2 = f ∧ ¬ f = 0))
  | [], s, S, h => h.congr (fun f id => by simp)
  | g :: t, s, S, h => by
    have h1 : Nst (out1 s g).fc (fun f id => S f id ∧ ¬ (g.1 = id ∧ g.2.2 = f ∧ ¬ f = 0)) := by
      show Nst (if g.2.2 = 0 then s.fc else ndrop s.fc g.2.2 g.1) _
      split
      · rename_i h0
        exact h.congr (fun f id => ⟨fun hs => ⟨hs, fun ⟨_, h2, h3⟩ => h3 (h2 ▸ h0)⟩, fun hs => hs.1⟩)
      · rename_i h0
        exact (h.drop g.2.2 g.1).congr (fun f id => ⟨fun ⟨h2, h3⟩ => ⟨h3, fun ⟨h4, h5, _⟩ => h2 ⟨h5.symm, h4.symm⟩⟩, fun ⟨h2, h3⟩ => ⟨fun ⟨h4, h5⟩ => h3 ⟨h5.symm, h4.symm, by rw [h4]; exact h0⟩, h2⟩⟩)
    refine (outs_fc t (out1 s g) _ h1).congr (fun f id => ?_)
    simp only [List.forall_mem_cons]
    exact and_assoc
theorem FInv.del {s : TS (Tk α) α} {id : Int} {x xp : Tk α} {T : RT α} (hI : TInv s) (h : FInv s) (hp : lkp s.toks x.par = some xp) (g : Goes s id T) : FInv (delS s x xp id T) := by
  have h1 := outs_fc (post T) (lessS s x.par (less xp id)) _ (show Nst (lessS s x.par (less xp id)).fc _ from h)
  refine Nst.congr h1 (fun f k => ?_)
  rw [del_lkp hI]
  constructor
  · rintro ⟨⟨h0, y, hy, hf⟩, h3⟩
    refine ⟨h0, ?_⟩
    have hk : ¬ k ∈ (post T).map (·.1) := fun hm => by
      obtain ⟨q, hq, rfl⟩ := List.mem_map.1 hm
      obtain ⟨z, hz, _, hz2⟩ := fitsG_fac g.fit q hq
      rw [hy] at hz; simp only [Option.some.injEq] at hz; subst hz
      exact h3 q hq ⟨rfl, hz2.symm.trans hf, h0⟩
    rw [if_neg hk]
    by_cases h4 : x.par = k
    · rw [if_pos h4]; subst h4
      rw [hp] at hy; simp only [Option.some.injEq] at hy; subst hy
      exact ⟨_, rfl, hf⟩
    · rw [if_neg h4]; exact ⟨y, hy, hf⟩
  · rintro ⟨h0, y, hy, hf⟩
    split at hy
    · cases hy
    · rename_i hk
      refine ⟨⟨h0, ?_⟩, fun q hq ⟨h4, _⟩ => hk (by rw [← h4]; exact List.mem_map.2 ⟨q, hq, rfl⟩)⟩
      split at hy
      · rename_i h4; subst h4
        simp only [Option.some.injEq] at hy; subst hy
        exact ⟨xp, hp, hf⟩
      · exact ⟨y, hy, hf⟩
def factsR (s : TS (Tk α) α) (id : Int) : List Int := (factsF (s.last.toNat + 1) (lkp s.toks) id).reverse
omit [DecidableEq α] in
theorem TInv.cases {s : TS (Tk α) α} (h : TInv s) (id : Int) : (id = 1 ∨ lkp s.toks id = none) ∨ (¬ id = 1 ∧ ∃ x xp T, lkp s.toks id = some x ∧ lkp s.toks x.par = some xp ∧ Goes s id T) := by
  by_cases h1 : id = 1
  · exact .inl (.inl h1)
  · by_cases h2 : lkp s.toks id = none
    · exact .inl (.inr h2)
    · exact .inr ⟨h1, h.delgo h1 h2⟩
end
def opC (o : Bool × Int × ByteArray × Int) : List Value := [.bool o.1, .int .i64 o.2.1, .string o.2.2.1, .int .i64 o.2.2.2]
/-! ### the document's example -/
def awT : ByteArray := ⟨#[116, 111, 112]⟩
def awX : ByteArray := ⟨#[120]⟩
def awY : ByteArray := ⟨#[121]⟩
def aw0 : TS (Tk ByteArray) ByteArray := newS awT
def aw1 : TS (Tk ByteArray) ByteArray := addS aw0 1 awX 5
def aw2 : TS (Tk ByteArray) ByteArray := addS aw1 1 awX 6
def aw3 : TS (Tk ByteArray) ByteArray := addS aw2 2 awY 0
def awTr : RT ByteArray := .mk 2 awX 5 [.mk 4 awY 0 []]
theorem awI : TInv aw0 ∧ TInv aw1 ∧ TInv aw2 ∧ TInv aw3 := ⟨TInv.new _, (TInv.new _).add _ _ _, ((TInv.new _).add _ _ _).add _ _ _, (((TInv.new _).add _ _ _).add _ _ _).add _ _ _⟩
theorem aw_x : lkp aw3.toks 2 = some ⟨awX, 1, 5, [4]⟩ := rfl
theorem aw_xp : lkp aw3.toks 1 = some ⟨awT, 0, 0, [2, 3]⟩ := rfl
theorem aw_fit : FitsG (lkp aw3.toks) awTr := ⟨⟨_, aw_x, rfl, rfl, rfl⟩, ⟨⟨⟨awY, 2, 0, []⟩, rfl, rfl, rfl, rfl⟩, trivial⟩, trivial⟩
def awE : ByteArray := ⟨#[]⟩
end Go.Gx.T15

/- Walks: what Go functions of this chapter come to, each as a function on plain data; no condition but those that each theorem names. Printed by a program of this work (gen.py). -/
namespace Go.Proofs.Ytdcaehepmkhciaa
open Go.Gx Go.Gx Go.Gx.T10 Go.Gx.T12 Go.Gx.T10 Go.Gx.T11 Go.Gx.T15 Go.Gx.T12 Go.Gx.T6 Go.Gx.T4
theorem ret_and {P : Program} {f : FuncId} {vs : Array Value} {w : World} {Q : Value → World → Prop} (h : Calls P f vs w (Ret fun r w' => True ∧ Q r w')) : Calls P f vs w (Ret fun r w' => Q r w') := h.mono (fun e w' hR => by
 cases e with
 | returned r => exact hR.2
 | panicked c => exact hR.elim
 | outgrown => exact hR.elim)
theorem and_true_ret {P : Program} {f : FuncId} {vs : Array Value} {w : World} {Q : Value → World → Prop} (h : Calls P f vs w (Ret fun r w' => Q r w')) : Calls P f vs w (Ret fun r w' => True ∧ Q r w') := h.mono (fun e w' hR => by
 cases e with
 | returned r => exact ⟨trivial, hR⟩
 | panicked c => exact hR.elim
 | outgrown => exact hR.elim)
theorem c_ElenS {F : Nat → Prop} {G : Ghost} (p : Nat)  (s : TS (Tk ByteArray) ByteArray)  (w : World) (hG : Has G w) (hA : (treeE 119 122 3 kS p s).holds w F) (hFG : ∀ b, F b → G b = none) :
  Calls Try.prog 16 #[Value.pointer (some ⟨p, 0, none⟩)] w (Ret fun r w' => r = Value.int .i64 (s.toks.length : Nat) ∧ Kept (treeE 119 122 3 kS p s) F w w') :=
 tree_see0 (R := fun r => r = Value.int .i64 (s.toks.length : Nat)) (fun l G' F' hl hle hT hG hA hF => by
  have h9 := c_tlenS p ⟨l, s.pl, s.fc, s.last⟩ hT w hG hA hF
  dsimp only at h9
  try rw [gT_era] at h9
  try rw [← eraT_len] at h9
  rw [hl]; exact h9) hG hA hFG
theorem c_EplaceS {F : Nat → Prop} {G : Ghost} (p : Nat) (id : Int) (s : TS (Tk ByteArray) ByteArray)  (w : World) (hG : Has G w) (hA : (treeE 119 122 3 kS p s).holds w F) (hFG : ∀ b, F b → G b = none) :
  Calls Try.prog 14 #[Value.pointer (some ⟨p, 0, none⟩), Value.int .i64 id] w (Ret fun r w' => r = Value.tuple #[kS (((lkp s.toks id).map Tk.pla).getD ByteArray.empty), Value.bool (lkp s.toks id).isSome] ∧ Kept (treeE 119 122 3 kS p s) F w w') :=
 tree_see0 (R := fun r => r = Value.tuple #[kS (((lkp s.toks id).map Tk.pla).getD ByteArray.empty), Value.bool (lkp s.toks id).isSome]) (fun l G' F' hl hle hT hG hA hF => by
  have h9 := c_tplaceS p id ⟨l, s.pl, s.fc, s.last⟩ hT w hG hA hF
  dsimp only at h9
  try rw [gT_era] at h9
  try rw [← eraT_len] at h9
  rw [hl]; exact h9) hG hA hFG
theorem c_EupS {F : Nat → Prop} {G : Ghost} (p : Nat) (id : Int) (a : ByteArray) (s : TS (Tk ByteArray) ByteArray) (hI : TInv s) (hid : id ≤ s.last) (w : World) (hG : Has G w) (hA : (treeE 119 122 3 kS p s).holds w F) (hFG : ∀ b, F b → G b = none) :
  Calls Try.prog 93 #[Value.pointer (some ⟨p, 0, none⟩), Value.int .i64 id, kS a] w (Ret fun r w' => r = Value.tuple #[Value.int .i64 (upF (s.last.toNat + 1) (lkp s.toks) id a), Value.bool (decide (0 < upF (s.last.toNat + 1) (lkp s.toks) id a))] ∧ Kept (treeE 119 122 3 kS p s) F w w') :=
 tree_see0 (R := fun r => r = Value.tuple #[Value.int .i64 (upF (s.last.toNat + 1) (lkp s.toks) id a), Value.bool (decide (0 < upF (s.last.toNat + 1) (lkp s.toks) id a))]) (fun l G' F' hl hle hT hG hA hF => by
  have hO : Ord (gT l) := by (have h8 := hI.ord; rw [hl, ← gT_era] at h8; exact h8)
  have h9 := c_tupS p id a ⟨l, s.pl, s.fc, s.last⟩ hT hO hid w hG hA hF
  dsimp only at h9
  try rw [gT_era] at h9
  try rw [← eraT_len] at h9
  rw [hl]; exact h9) hG hA hFG
theorem c_EkidsS {F : Nat → Prop} {G : Ghost} (p : Nat) (id : Int) (s : TS (Tk ByteArray) ByteArray) (hkl : ∀ x, lkp s.toks id = some x → x.kids.length ≤ 1000) (w : World) (hG : Has G w) (hA : (treeE 119 122 3 kS p s).holds w F) (hFG : ∀ b, F b → G b = none) :
  Calls Try.prog 88 #[Value.pointer (some ⟨p, 0, none⟩), Value.int .i64 id] w (Ret fun r w' => Kept (starL [rowA r 3 1 (((lkp s.toks id).map Tk.kids).getD []).length ((((lkp s.toks id).map Tk.kids).getD []).flatMap cI), treeE 119 122 3 kS p s]) F w w') :=
 ret_and (tree_see (R := fun _ => True) (Z := fun r => rowA r 3 1 (((lkp s.toks id).map Tk.kids).getD []).length ((((lkp s.toks id).map Tk.kids).getD []).flatMap cI)) (fun l G' F' hl hle hT hG hA hF => by
  have hkl2 : ∀ v, lkp l id = some v → v.2.2.kids.length ≤ 1000 := fun v hv => hkl v.2.2 (by rw [hl, eraT_lkp, hv]; rfl)
  have h9 := c_tkidsS p id ⟨l, s.pl, s.fc, s.last⟩ hT hkl2 w hG hA hF
  dsimp only at h9
  try rw [gT_era] at h9
  try unfold factsR
  try rw [hl]
  exact and_true_ret h9) hG hA hFG)
theorem c_EparS {F : Nat → Prop} {G : Ghost} (p : Nat) (id : Int) (s : TS (Tk ByteArray) ByteArray)  (w : World) (hG : Has G w) (hA : (treeE 119 122 3 kS p s).holds w F) (hFG : ∀ b, F b → G b = none) :
  Calls Try.prog 15 #[Value.pointer (some ⟨p, 0, none⟩), Value.int .i64 id] w (Ret fun r w' => r = Value.int .i64 (((lkp s.toks id).map Tk.par).getD 0) ∧ Kept (treeE 119 122 3 kS p s) F w w') :=
 tree_see0 (R := fun r => r = Value.int .i64 (((lkp s.toks id).map Tk.par).getD 0)) (fun l G' F' hl hle hT hG hA hF => by
  have h9 := c_tparS p id ⟨l, s.pl, s.fc, s.last⟩ hT w hG hA hF
  dsimp only at h9
  try rw [gT_era] at h9
  try rw [← eraT_len] at h9
  rw [hl]; exact h9) hG hA hFG
theorem c_EfactS {F : Nat → Prop} {G : Ghost} (p : Nat) (id : Int) (s : TS (Tk ByteArray) ByteArray)  (w : World) (hG : Has G w) (hA : (treeE 119 122 3 kS p s).holds w F) (hFG : ∀ b, F b → G b = none) :
  Calls Try.prog 52 #[Value.pointer (some ⟨p, 0, none⟩), Value.int .i64 id] w (Ret fun r w' => r = Value.int .i64 (((lkp s.toks id).map Tk.fac).getD 0) ∧ Kept (treeE 119 122 3 kS p s) F w w') :=
 tree_see0 (R := fun r => r = Value.int .i64 (((lkp s.toks id).map Tk.fac).getD 0)) (fun l G' F' hl hle hT hG hA hF => by
  have h9 := c_tfactS p id ⟨l, s.pl, s.fc, s.last⟩ hT w hG hA hF
  dsimp only at h9
  try rw [gT_era] at h9
  try rw [← eraT_len] at h9
  rw [hl]; exact h9) hG hA hFG
theorem c_EfactsS {F : Nat → Prop} {G : Ghost} (p : Nat) (id : Int) (s : TS (Tk ByteArray) ByteArray) (hI : TInv s) (hid : id ≤ s.last) (hsl : s.last ≤ 1000) (w : World) (hG : Has G w) (hA : (treeE 119 122 3 kS p s).holds w F) (hFG : ∀ b, F b → G b = none) :
  Calls Try.prog 51 #[Value.pointer (some ⟨p, 0, none⟩), Value.int .i64 id] w (Ret fun r w' => Kept (starL [rowA r 3 1 (factsR s id).length ((factsR s id).flatMap cI), treeE 119 122 3 kS p s]) F w w') :=
 ret_and (tree_see (R := fun _ => True) (Z := fun r => rowA r 3 1 (factsR s id).length ((factsR s id).flatMap cI)) (fun l G' F' hl hle hT hG hA hF => by
  have hO : Ord (gT l) := by (have h8 := hI.ord; rw [hl, ← gT_era] at h8; exact h8)
  have h9 := c_tfactsS p id ⟨l, s.pl, s.fc, s.last⟩ hT hO hid hsl w hG hA hF
  dsimp only at h9
  try rw [gT_era] at h9
  try unfold factsR
  try rw [hl]
  exact and_true_ret h9) hG hA hFG)
theorem c_EwithS {F : Nat → Prop} {G : Ghost} (p : Nat) (k : Int) (s : TS (Tk ByteArray) ByteArray) (hwf : ∀ h, lkp s.fc k = some h → (∀ q ∈ h, (Lit.int .i64 q.1).wf = true) ∧ h.length ≤ 5000) (w : World) (hG : Has G w) (hA : (treeE 119 122 3 kS p s).holds w F) (hFG : ∀ b, F b → G b = none) :
  Calls Try.prog 53 #[Value.pointer (some ⟨p, 0, none⟩), Value.int .i64 k] w (Ret fun r w' => Kept (starL [rowA r 3 1 (itemsN s.fc k).length ((itemsN s.fc k).flatMap cI), treeE 119 122 3 kS p s]) F w w') :=
 ret_and (tree_see (R := fun _ => True) (Z := fun r => rowA r 3 1 (itemsN s.fc k).length ((itemsN s.fc k).flatMap cI)) (fun l G' F' hl hle hT hG hA hF => by
  have h9 := c_twithS p k ⟨l, s.pl, s.fc, s.last⟩ hT hwf w hG hA hF
  dsimp only at h9
  try rw [gT_era] at h9
  try unfold factsR
  try rw [hl]
  exact and_true_ret h9) hG hA hFG)
theorem c_EatS {F : Nat → Prop} {G : Ghost} (p : Nat) (k : ByteArray) (s : TS (Tk ByteArray) ByteArray) (hwf : ∀ h, lkp s.pl k = some h → (∀ q ∈ h, (Lit.int .i64 q.1).wf = true) ∧ h.length ≤ 5000) (w : World) (hG : Has G w) (hA : (treeE 119 122 3 kS p s).holds w F) (hFG : ∀ b, F b → G b = none) :
  Calls Try.prog 90 #[Value.pointer (some ⟨p, 0, none⟩), kS k] w (Ret fun r w' => Kept (starL [rowA r 3 1 (itemsN s.pl k).length ((itemsN s.pl k).flatMap cI), treeE 119 122 3 kS p s]) F w w') :=
 ret_and (tree_see (R := fun _ => True) (Z := fun r => rowA r 3 1 (itemsN s.pl k).length ((itemsN s.pl k).flatMap cI)) (fun l G' F' hl hle hT hG hA hF => by
  have h9 := c_tatS p k ⟨l, s.pl, s.fc, s.last⟩ hT hwf w hG hA hF
  dsimp only at h9
  try rw [gT_era] at h9
  try unfold factsR
  try rw [hl]
  exact and_true_ret h9) hG hA hFG)
theorem c_ints15 (v v2 : Value) (a b : List Int) {G : Ghost} (hs : SlL G v 1 cI (0 : Int) a) (hs2 : SlL G v2 1 cI (0 : Int) b) (w : World) (hG : Has G w) :
  Calls Try.prog 54 #[v, v2] w (Ret fun r w' => r = Value.bool (decide (a = b)) ∧ Since nX w w') := by
 refine enter (args := [_, _]) (X := nX) (G := G) (l := [(0, v), (1, v2)]) Try.func54 rfl Try.ntmps54 hG ⟨rfl, rfl, trivial⟩ (Nat.le_of_ble_eq_true rfl) ?_
 refine c_seq ?_
 refine c_region ?_
 refine r_val .none rfl (p_assign rfl) ?_
 refine r_nil ?_
 refine e_next ?_
 refine c_seq ?_
 refine c_seq ?_
 refine c_region ?_
 refine r_val .none rfl (p_move rfl) ?_
 refine r_val .none rfl (p_leng Try.underlying42 rfl hs) ?_
 have bd_1 := (hs).bound
 refine r_val .none rfl (p_move rfl) ?_
 refine r_val .none rfl (p_leng Try.underlying42 rfl hs2) ?_
 have bd_2 := (hs2).bound
 refine r_val .none rfl (p_ne rfl rfl) ?_
 refine r_nil ?_
 refine e_next ?_
 refine c_splitd (d := 10) rfl (fun h_3 => ?_) (fun h_3 => ?_)
 ·
  have hL := h_3
  first
   | (exfalso; omega)
   | (
    refine c_cond_t rfl ?_
    refine c_seq ?_
    refine c_region ?_
    refine r_val .none rfl (p_assign rfl) ?_
    refine r_nil ?_
    refine e_next ?_
    refine c_ret ?_
    refine e_ret_then ?_
    refine e_ret1 Try.results54 (.tmp rfl .nil) (fun w hm => ⟨?_, hm.since⟩)
    first
    | (rw [decide_eq_false (fun e => hL (by rw [e]))]; done)
    | (rw [decide_eq_false (fun e => hF (by rw [e]))]; done)
    | (rw [decide_eq_true (ints_eq (by omega) (fun i hi => hphi.2 i (by omega)))]; done)
    )
 ·
  have hL := Decidable.not_not.1 h_3
  first
   | (exfalso; omega)
   | (
    refine c_cond_f rfl ?_
    refine c_skip ?_
    refine e_next ?_
    refine c_seq ?_
    refine c_seq ?_
    refine c_region ?_
    refine r_val .none rfl (p_move rfl) ?_
    refine r_val .none rfl (p_leng Try.underlying42 rfl hs) ?_
    have bd_4 := (hs).bound
    refine r_val .none rfl (p_move rfl) ?_
    refine r_nil ?_
    refine e_next ?_
    refine c_block ?_
    refine c_name (d := 0) rfl (fun u_5 hu_5 => ?_)
    refine c_name (d := 1) rfl (fun u_6 hu_6 => ?_)
    refine c_name (d := 12) rfl (fun u_7 hu_7 => ?_)
    refine c_loop (σ := Nat) (fun k => [(13, Value.int .i64 (k : Nat)), (0, u_5), (1, u_6), (12, u_7)]) (fun k => []) (fun _ => _) (fun k => k ≤ a.length ∧ ∀ i, i < k → a.getD i 0 = b.getD i 0) (fun k => a.length - k) (0) ⟨Nat.zero_le _, fun i h => absurd h (Nat.not_lt_zero _)⟩ rfl ⟨rfl, rfl, rfl, rfl, trivial⟩ (.nil) (fun k hphi => ?_)
    subst hu_5
    subst hu_6
    subst hu_7
    refine c_seq ?_
    refine c_region ?_
    refine r_val .none rfl (p_lt rfl rfl) ?_
    refine r_nil ?_
    refine e_next ?_
    refine c_seq ?_
    refine c_splitd (d := 14) rfl (fun h_8 => ?_) (fun h_8 => ?_)
    ·
     first
      | (exfalso; omega)
      | (
       refine c_cond_t rfl ?_
       refine c_skip ?_
       refine e_next ?_
       refine c_seq ?_
       refine c_block ?_
       refine c_seq ?_
       refine c_region ?_
       refine r_val .none rfl (p_move rfl) ?_
       refine r_val .none rfl (p_assign rfl) ?_
       refine r_nil ?_
       refine e_next ?_
       refine c_seq ?_
       refine c_region_q mixed (by kernel_rfl) ?_
       refine q_val .none rfl (p_move rfl) ?_
       refine q_val .none rfl (p_move rfl) ?_
       refine q_iaddr_g .none rfl Try.underlying42 sz3 rfl hs rfl (by first | exact of_decide_eq_true rfl | omega) (fun p_10 o_11 R_9 => ?_)
       refine q_val .none rfl (p_ldg0 Try.underlying3 rfl rfl R_9 (by first | exact of_decide_eq_true rfl | omega) (rfl : _ = Value.int _ _)) ?_
       refine q_val .none rfl (p_move rfl) ?_
       refine q_val .none rfl (p_move rfl) ?_
       refine q_iaddr_g .none rfl Try.underlying42 sz3 rfl hs2 rfl (by first | exact of_decide_eq_true rfl | omega) (fun p_13 o_14 R_12 => ?_)
       refine q_val .none rfl (p_ldg0 Try.underlying3 rfl rfl R_12 (by first | exact of_decide_eq_true rfl | omega) (rfl : _ = Value.int _ _)) ?_
       refine q_val .none rfl (p_ne rfl rfl) ?_
       refine q_nil ?_
       refine e_next ?_
       refine c_splitd (d := 24) rfl (fun h_15 => ?_) (fun h_15 => ?_)
       ·
        have hF := h_15
        first
         | (exfalso; omega)
         | (
          refine c_cond_t rfl ?_
          refine c_seq ?_
          refine c_region ?_
          refine r_val .none rfl (p_assign rfl) ?_
          refine r_nil ?_
          refine e_next ?_
          refine c_ret ?_
          refine e_ret_block ?_
          refine e_ret_then ?_
          refine e_ret_then ?_
          refine e_ret_block ?_
          refine e_ret_then ?_
          refine e_ret1 Try.results54 (.tmp rfl .nil) (fun w hm => ⟨?_, hm.since⟩)
          first
          | (rw [decide_eq_false (fun e => hL (by rw [e]))]; done)
          | (rw [decide_eq_false (fun e => hF (by rw [e]))]; done)
          | (rw [decide_eq_true (ints_eq (by omega) (fun i hi => hphi.2 i (by omega)))]; done)
          )
       ·
        have hF := Decidable.not_not.1 h_15
        first
         | (exfalso; omega)
         | (
          refine c_cond_f rfl ?_
          refine c_skip ?_
          refine e_norm_block ?_
          refine e_next ?_
          refine c_region ?_
          refine r_val .none rfl (p_add rfl rfl (by omega)) ?_
          refine r_val .none rfl (p_move rfl) ?_
          refine r_nil ?_
          refine e_round (k + 1) ⟨⟨by omega, fun i hi => by by_cases e : i = k; (subst e; exact hF); exact hphi.2 i (by omega)⟩, by omega⟩ rfl ⟨rfl, rfl, rfl, rfl, trivial⟩ (.nil)
          )
       )
    ·
     first
      | (exfalso; omega)
      | (
       refine c_cond_f rfl ?_
       refine c_exit ?_
       refine e_exit_then ?_
       refine e_exit_then ?_
       refine e_exit_block ?_
       refine e_next ?_
       refine c_seq ?_
       refine c_region ?_
       refine r_val .none rfl (p_assign rfl) ?_
       refine r_nil ?_
       refine e_next ?_
       refine c_ret ?_
       refine e_ret1 Try.results54 (.tmp rfl .nil) (fun w hm => ⟨?_, hm.since⟩)
       first
       | (rw [decide_eq_false (fun e => hL (by rw [e]))]; done)
       | (rw [decide_eq_false (fun e => hF (by rw [e]))]; done)
       | (rw [decide_eq_true (ints_eq (by omega) (fun i hi => hphi.2 i (by omega)))]; done)
       )
    )
end Go.Proofs.Ytdcaehepmkhciaa

/- Walks: what Go functions of this chapter come to, each as a function on plain data; no condition but those that each theorem names. Printed by a program of this work (gen.py). -/
namespace Go.Proofs.Ytdcaehepmkhciaa
open Go.Gx Go.Gx Go.Gx.T10 Go.Gx.T12 Go.Gx.T10 Go.Gx.T11 Go.Gx.T15 Go.Gx.T12 Go.Gx.T6 Go.Gx.T4
theorem sz40 : SzIs Try.prog 40 3 := by
 unfold SzIs
 kernel_rfl
theorem lf40 : leafT Try.prog 9 40 = some [3, 9, 3] := by
 kernel_rfl
theorem ef40 : eqT Try.prog 9 40 = true := by
 kernel_rfl
theorem eg40 : Try.prog.eqGuardType Try.prog.depth 40 = false := by
 kernel_rfl
theorem cl10 : Callable Try.prog 10 := callable Try.func10 (by kernel_rfl) rfl
theorem cl12 : Callable Try.prog 12 := callable Try.func12 (by kernel_rfl) rfl
theorem cl13 : Callable Try.prog 13 := callable Try.func13 (by kernel_rfl) rfl
theorem c_EaddS {F : Nat → Prop} {G : Ghost} (p : Nat) (par : Int) (a : ByteArray) (f : Int) (s : TS (Tk ByteArray) ByteArray) (hI : TInv s) (hl : s.last ≤ 1000) (w : World) (hG : Has G w) (hA : (treeE 119 122 3 kS p s).holds w F) (hFG : ∀ b, F b → G b = none) :
  Calls Try.prog 13 #[Value.pointer (some ⟨p, 0, none⟩), Value.int .i64 par, kS a, Value.int .i64 f] w (Ret fun r w' => r = Value.tuple #[Value.int .i64 (addN s par), Value.int .i64 (addX s par)] ∧ Kept (treeE 119 122 3 kS p (addS s par a f)) F w w') :=
 c_taddS p par a f s ⟨by have := hI.lo; omega, hl⟩ (fun id x e => (hI.rng id x e).2.1) (fun id x e => by have := hI.klen e; omega) w hG hA hFG
theorem c_EdelS {F : Nat → Prop} {G : Ghost} (p : Nat) (id : Int) (s : TS (Tk ByteArray) ByteArray) (T : RT ByteArray) (x xp : Tk ByteArray) (hI : TInv s) (hl : s.last ≤ 1000) (hid : ¬ id = 1) (hx : lkp s.toks id = some x) (hp : lkp s.toks x.par = some xp) (g : Goes s id T) (w : World) (hG : Has G w) (hA : (treeE 119 122 3 kS p s).holds w F) (hFG : ∀ b, F b → G b = none) :
  Calls Try.prog 12 #[Value.pointer (some ⟨p, 0, none⟩), Value.int .i64 id] w (Ret fun r w' => ∃ v, r = Value.tuple #[v, Value.int .i64 0] ∧ Kept (starL [rowA v 40 3 ((post T)).length (((post T)).flatMap (gnC kS)), treeE 119 122 3 kS p (delS s x xp id T)]) F w w') :=
 c_tdelyesS p id s T x xp hid hx hp g.top g.fit g.nd (g.pn hI hx) (by have := g.len hI; omega) w hG hA hFG
theorem c_awake15   (w : World)  :
  Calls Try.prog 11 #[] w (Ret fun r w' => r = Value.bool true ∧ Since nX w w') := by
 refine enter (args := []) (X := nX) (G := (fun _ => none)) (l := []) Try.func11 rfl Try.ntmps11 (fun _ _ h => by cases h) trivial (Nat.le_of_ble_eq_true rfl) ?_
 refine c_seq ?_
 refine c_region ?_
 refine r_val .none rfl (p_assign rfl) ?_
 refine r_nil ?_
 refine e_next ?_
 refine c_seq ?_
 refine c_region ?_
 refine r_callnew (vs := [_]) .none rfl cl10 rfl (fun w hw => c_tnewS awT w hw) (fun p_1 => ?_)
 refine r_val .none rfl (p_assign rfl) ?_
 refine r_nil ?_
 refine e_next ?_
 refine c_seq ?_
 refine c_seq ?_
 refine c_region ?_
 refine r_val .none rfl (p_move rfl) ?_
 refine r_val .none rfl (p_eq_ptr Try.underlying23 (by first | exact .inr rfl | exact .inl rfl) rfl rfl) ?_
 refine r_say (d := 12) (v := Value.bool false) rfl ?_
 refine r_nil ?_
 refine e_next ?_
 refine c_cond_f rfl ?_
 refine c_skip ?_
 refine e_next ?_
 refine c_seq ?_
 refine c_region ?_
 refine r_val .none rfl (p_move rfl) ?_
 refine r_callo (k := 0) (vs := [_, _, _, _]) .none rfl cl13 rfl rfl (fun w F hw hA hFG => c_EaddS _ 1 awX 5 aw0 awI.1 (by decide) w hw hA hFG) ?_
 refine r_say (d := 15) (v := Value.tuple #[Value.int .i64 2, Value.int .i64 0]) rfl ?_
 refine r_val .none rfl (p_move rfl) ?_
 refine r_val .none rfl (p_extract rfl rfl) ?_
 refine r_val .none rfl (p_extract rfl rfl) ?_
 refine r_val .none rfl (p_assign rfl) ?_
 refine r_val .none rfl (p_assign rfl) ?_
 refine r_nil ?_
 refine e_next ?_
 refine c_seq ?_
 refine c_region ?_
 refine r_val .none rfl (p_move rfl) ?_
 refine r_callo (k := 0) (vs := [_, _, _, _]) .none rfl cl13 rfl rfl (fun w F hw hA hFG => c_EaddS _ 1 awX 6 aw1 awI.2.1 (by decide) w hw hA hFG) ?_
 refine r_say (d := 20) (v := Value.tuple #[Value.int .i64 3, Value.int .i64 0]) rfl ?_
 refine r_val .none rfl (p_move rfl) ?_
 refine r_val .none rfl (p_extract rfl rfl) ?_
 refine r_val .none rfl (p_extract rfl rfl) ?_
 refine r_val .none rfl (p_assign rfl) ?_
 refine r_val .none rfl (p_assign rfl) ?_
 refine r_nil ?_
 refine e_next ?_
 refine c_seq ?_
 refine c_region ?_
 refine r_val .none rfl (p_move rfl) ?_
 refine r_callo (k := 0) (vs := [_, _, _, _]) .none rfl cl13 rfl rfl (fun w F hw hA hFG => c_EaddS _ 2 awY 0 aw2 awI.2.2.1 (by decide) w hw hA hFG) ?_
 refine r_say (d := 25) (v := Value.tuple #[Value.int .i64 4, Value.int .i64 0]) rfl ?_
 refine r_val .none rfl (p_move rfl) ?_
 refine r_val .none rfl (p_extract rfl rfl) ?_
 refine r_val .none rfl (p_extract rfl rfl) ?_
 refine r_val .none rfl (p_assign rfl) ?_
 refine r_val .none rfl (p_assign rfl) ?_
 refine r_nil ?_
 refine e_next ?_
 refine c_seq ?_
 refine c_region ?_
 refine r_val .none rfl (p_move rfl) ?_
 refine r_callov (k := 0) (vs := [_, _]) (u := fun v => .tuple #[v, Value.int .i64 0]) .none rfl cl12 rfl rfl (fun w F hw hA hFG => c_tdelyesS _ 2 aw3 awTr ⟨awX, 1, 5, [4]⟩ ⟨awT, 0, 0, [2, 3]⟩ (by decide) aw_x aw_xp rfl aw_fit (by decide) (by decide) (by decide) w hw hA hFG) (fun dv_2 => ?_)
 refine r_unpack ?_
 refine r_val .none rfl (p_move rfl) ?_
 refine r_val .none rfl (p_extract rfl rfl) ?_
 refine r_val .none rfl (p_extract rfl rfl) ?_
 refine r_val .none rfl (p_assign rfl) ?_
 refine r_val .none rfl (p_assign rfl) ?_
 refine r_nil ?_
 refine e_next ?_
 refine c_seq ?_
 refine c_region ?_
 refine r_val .none rfl (p_move rfl) ?_
 refine r_val .none rfl (p_eq rfl rfl) ?_
 refine r_say (d := 34) (v := Value.bool true) rfl ?_
 refine r_val .none rfl (p_move rfl) ?_
 refine r_val (.some rfl rfl) rfl (p_move rfl) ?_
 refine r_val (.some rfl rfl) rfl (p_eq rfl rfl) ?_
 refine r_say (d := 37) (v := Value.bool true) rfl ?_
 refine r_val .none rfl (p_pick_t rfl rfl) ?_
 refine r_val .none rfl (p_move rfl) ?_
 refine r_val (.some rfl rfl) rfl (p_move rfl) ?_
 refine r_val (.some rfl rfl) rfl (p_eq rfl rfl) ?_
 refine r_say (d := 41) (v := Value.bool true) rfl ?_
 refine r_val .none rfl (p_pick_t rfl rfl) ?_
 refine r_val .none rfl (p_move rfl) ?_
 refine r_val (.some rfl rfl) rfl (p_move rfl) ?_
 refine r_val (.some rfl rfl) rfl (p_eq rfl rfl) ?_
 refine r_say (d := 45) (v := Value.bool true) rfl ?_
 refine r_val .none rfl (p_pick_t rfl rfl) ?_
 refine r_val .none rfl (p_move rfl) ?_
 refine r_val (.some rfl rfl) rfl (p_move rfl) ?_
 refine r_val (.some rfl rfl) rfl (p_eq rfl rfl) ?_
 refine r_say (d := 49) (v := Value.bool true) rfl ?_
 refine r_val .none rfl (p_pick_t rfl rfl) ?_
 refine r_val .none rfl (p_move rfl) ?_
 refine r_val (.some rfl rfl) rfl (p_move rfl) ?_
 refine r_val (.some rfl rfl) rfl (p_eq rfl rfl) ?_
 refine r_say (d := 53) (v := Value.bool true) rfl ?_
 refine r_val .none rfl (p_pick_t rfl rfl) ?_
 refine r_val .none rfl (p_move rfl) ?_
 refine r_val (.some rfl rfl) rfl (p_move rfl) ?_
 refine r_val (.some rfl rfl) rfl (p_eq rfl rfl) ?_
 refine r_val .none rfl (p_pick_t rfl rfl) ?_
 refine r_val .none rfl (p_move rfl) ?_
 refine r_splitd (d := 59) rfl (fun h_3 => ?_) (fun h_3 => ?_)
 ·
  first
   | (exfalso; omega)
   | (
    refine r_val (.some rfl rfl) rfl (p_move rfl) ?_
    refine r_val (.some rfl rfl) rfl (p_leno (k := 0) Try.underlying28 rfl rfl) ?_
    refine r_say (d := 61) (v := Value.int .i64 2) rfl ?_
    refine r_val (.some rfl rfl) rfl (p_eq rfl rfl) ?_
    refine r_say (d := 62) (v := Value.bool true) rfl ?_
    refine r_val .none rfl (p_pick_t rfl rfl) ?_
    refine r_val .none rfl (p_move rfl) ?_
    refine r_val (.some rfl rfl) rfl (p_move rfl) ?_
    refine r_iaddr_o (k := 0) (i := 0) (.some rfl rfl) rfl Try.underlying28 sz40 rfl rfl rfl (by first | exact of_decide_eq_true rfl | omega) (fun p_4 c_5 hv_6 => ?_)
    refine r_val (.some rfl rfl) rfl (p_field Try.underlying40 rfl sz3 rfl) ?_
    refine r_val (.some rfl rfl) rfl (p_ldo (k := 0) (j := 0) (i := 0) Try.underlying3 rfl rfl hv_6 rfl (by first | exact of_decide_eq_true rfl | omega) (by first | exact of_decide_eq_true rfl | omega) ((flatMap_get (cells := (gnC kS)) (fun _ => rfl) (0, ByteArray.empty, 0) _ _ _ (by first | exact of_decide_eq_true rfl | omega) (by first | exact of_decide_eq_true rfl | omega)).trans (rfl : _ = Value.int _ _))) ?_
    refine r_say (d := 68) (v := Value.int .i64 4) rfl ?_
    refine r_val (.some rfl rfl) rfl (p_eq rfl rfl) ?_
    refine r_say (d := 69) (v := Value.bool true) rfl ?_
    refine r_val .none rfl (p_pick_t rfl rfl) ?_
    refine r_val .none rfl (p_move rfl) ?_
    refine r_val (.some rfl rfl) rfl (p_move rfl) ?_
    refine r_iaddr_o (k := 0) (i := 1) (.some rfl rfl) rfl Try.underlying28 sz40 rfl rfl rfl (by first | exact of_decide_eq_true rfl | omega) (fun p_7 c_8 hv_9 => ?_)
    refine r_val (.some rfl rfl) rfl (p_ldoa0 (k := 0) (i := 1) Try.underlying40 rfl sz40 rfl hv_9 rfl (by first | exact of_decide_eq_true rfl | omega) (by first | exact of_decide_eq_true rfl | omega) (fun c hc => flatMap_get (cells := (gnC kS)) (fun _ => rfl) (0, ByteArray.empty, 0) _ _ _ (by first | exact of_decide_eq_true rfl | omega) (by first | exact of_decide_eq_true rfl | omega)) (rfl : _ = Value.agg #[_, _, _])) ?_
    refine r_val (.some rfl rfl) rfl (p_build (vs := [(0, Value.int _ _), (1, Value.string _), (2, Value.int _ _)]) rfl (bl40_0i1_1s1_2i1 _ _ _)) ?_
    refine r_val (.some rfl rfl) rfl (p_eqa rfl rfl (eq_flat Try.underlying40 rfl lf40 ef40 eg40 (.cons (.int Try.underlying3) (.cons (.string Try.underlying9) (.cons (.int Try.underlying3) (.nil)))) (.cons (.int Try.underlying3) (.cons (.string Try.underlying9) (.cons (.int Try.underlying3) (.nil)))))) ?_
    refine r_val .none rfl (p_pick_t rfl rfl) ?_
    refine r_val .none rfl (p_assign rfl) ?_
    refine r_nil ?_
    refine e_next ?_
    refine c_ret ?_
    refine e_ret1 Try.results11 (.tmp rfl .nil) (fun w hm => ⟨?_, hm.since⟩)
    first
    | rfl
    | exact congrArg Value.bool (by decide +kernel)
    )
 ·
  first
   | (exfalso; omega)
   | (
    refine r_skip rfl (.no rfl rfl) ?_
    refine r_skip rfl (.no rfl rfl) ?_
    refine r_skip rfl (.no rfl rfl) ?_
    refine r_val .none rfl (p_pick_f rfl rfl) ?_
    refine r_val .none rfl (p_move rfl) ?_
    refine r_skip rfl (.no rfl rfl) ?_
    refine r_skip rfl (.no rfl rfl) ?_
    refine r_skip rfl (.no rfl rfl) ?_
    refine r_skip rfl (.no rfl rfl) ?_
    refine r_skip rfl (.no rfl rfl) ?_
    refine r_val .none rfl (p_pick_f rfl rfl) ?_
    refine r_val .none rfl (p_move rfl) ?_
    refine r_skip rfl (.no rfl rfl) ?_
    refine r_skip rfl (.no rfl rfl) ?_
    refine r_skip rfl (.no rfl rfl) ?_
    refine r_skip rfl (.no rfl rfl) ?_
    refine r_skip rfl (.no rfl rfl) ?_
    refine r_val .none rfl (p_pick_f rfl rfl) ?_
    refine r_val .none rfl (p_assign rfl) ?_
    refine r_nil ?_
    refine e_next ?_
    refine c_ret ?_
    refine e_ret1 Try.results11 (.tmp rfl .nil) (fun w hm => ⟨?_, hm.since⟩)
    first
    | rfl
    | exact congrArg Value.bool (by decide +kernel)
    )
end Go.Proofs.Ytdcaehepmkhciaa

/- What '%' makes of numbers of either sign. -/
namespace Go.Gx
open Go.RowKit
section
variable {P : Program} {N : Nat} {X : Nat → Prop} {w0 : World} {G : Ghost} {l : List (Nat × Value)} {L : List Asrt}
variable {d : Nat} {ty : TypeId} {pos : String} {after : Array Edge} {gd : Option (Nat × Bool)} {x y : Operand}
end
end Go.Gx

/- Plain laws of trees of tokens: who is out with a token is who has it above itself. -/
namespace Go.Gx.T15
open Go.Gx Go.Gx.T10 Go.Gx.T12
section
variable {α : Type} {s : TS (Tk α) α} {id k up : Int} {b : List (Int × Int)} {f : Bool}
def parS (s : TS (Tk α) α) (up : Int) : Int := ((lkp s.toks up).map Tk.par).getD 0
theorem parS_some {x : Tk α} (h : lkp s.toks up = some x) : parS s up = x.par := by unfold parS; rw [h]; rfl
theorem parS_none (h : lkp s.toks up = none) : parS s up = 0 := by unfold parS; rw [h]; rfl
theorem parS_lt (hI : TInv s) (h : 0 < up) : parS s up < up ∧ 0 ≤ parS s up := by
  cases e : lkp s.toks up with
  | none => rw [parS_none e]; omega
  | some x => rw [parS_some e]; have := hI.rng up x e; omega
structure Bl (s : TS (Tk α) α) (id k : Int) (b : List (Int × Int)) : Prop where
  mm : Mm b (fun c => 2 ≤ c ∧ c < k ∧ Anc (lkp s.toks) id c)
structure Bw (s : TS (Tk α) α) (id k up : Int) (b : List (Int × Int)) (f : Bool) : Prop where
  mm : Mm b (fun c => (2 ≤ c ∧ c < k ∧ Anc (lkp s.toks) id c) ∨ (c = k ∧ f = true))
  an : Anc (lkp s.toks) id k ↔ (f = true ∨ Anc (lkp s.toks) id up)
  up0 : 0 ≤ up
theorem Bl.start : Bl s id 2 [] := ⟨Mm.nil.congr (fun c => ⟨False.elim, fun h => by omega⟩)⟩
theorem Bl.go (h : Bl s id k b) (hk : 0 ≤ k) : Bw s id k k b false := ⟨h.mm.congr (fun c => by simp), by simp, hk⟩
theorem anc_zero (hI : TInv s) (hid : 2 ≤ id) (hu : up ≤ 0) : ¬ Anc (lkp s.toks) id up := fun h => by
  have := h.le hI.ord; omega
theorem anc_par (hI : TInv s) (hid : 2 ≤ id) (hne : ¬ up = id) : Anc (lkp s.toks) id up ↔ Anc (lkp s.toks) id (parS s up) := by
  cases e : lkp s.toks up with
  | none =>
    rw [parS_none e]
    constructor
    · intro h
      cases h with
      | refl => exact absurd rfl hne
      | step h1 _ => rw [e] at h1; cases h1
    · exact fun h => absurd h (anc_zero hI hid (Int.le_refl _))
  | some x =>
    rw [parS_some e]
    constructor
    · intro h
      cases h with
      | refl => exact absurd rfl hne
      | step h1 h2 => rw [e] at h1; simp only [Option.some.injEq] at h1; subst h1; exact h2
    · exact fun h => .step e h
theorem Bw.no (hI : TInv s) (h : Bw s id k up b f) (hne : ¬ up = id) (hid : 2 ≤ id) (hup : 0 < up) : Bw s id k (parS s up) b f :=
  ⟨h.mm, h.an.trans (or_congr Iff.rfl (anc_par hI hid hne)), (parS_lt hI hup).2⟩
variable {T : RT α}
theorem Bl.has (hI : TInv s) (h : Bl s id (s.last + 1) b) (hg : Goes s id T) (hid : 2 ≤ id) (c : Int) : (lkp b c).isSome = true ↔ c ∈ (post T).map (·.1) := by
  rw [h.mm.mem, hg.mem hI (by omega)]
  constructor
  · exact fun h1 => h1.2.2
  · intro h1
    have h2 := h1.le hI.ord
    have h3 := (hg.mem hI (by omega) c).2 h1
    obtain ⟨y, hy⟩ := hg.here c h3
    have := hI.rng c y hy
    exact ⟨by omega, by omega, h1⟩
theorem Bl.len (hI : TInv s) (h : Bl s id (s.last + 1) b) (hg : Goes s id T) (hid : 2 ≤ id) : b.length = (post T).length := by
  have h1 := nodup_same h.mm.nd hg.nd (fun c => (lkp_keys).trans (h.has hI hg hid c))
  simpa using h1
theorem Bl.get (hI : TInv s) (h : Bl s id (s.last + 1) b) (hg : Goes s id T) (hid : 2 ≤ id) {c : Int} (hc : c ∈ (post T).map (·.1)) : (lkp b c).getD 0 = 1 := by
  obtain ⟨v, hv⟩ := Option.isSome_iff_exists.1 ((h.has hI hg hid c).2 hc)
  rw [hv]
  exact h.mm.one _ (lkp_some hv)
end
section
variable {α : Type} [DecidableEq α] {s : TS (Tk α) α} {par : Int} {a : α} {f : Int}
omit [DecidableEq α] in
theorem addN_none (h : lkp s.toks par = none) : addN s par = 0 := by unfold addN; rw [h]; rfl
omit [DecidableEq α] in
theorem addX_none (h : lkp s.toks par = none) : addX s par = 16 := by unfold addX; rw [h]; rfl
omit [DecidableEq α] in
theorem addN_some {x : Tk α} (h : lkp s.toks par = some x) : addN s par = s.last + 1 := by unfold addN; rw [h]; rfl
omit [DecidableEq α] in
theorem addX_some {x : Tk α} (h : lkp s.toks par = some x) : addX s par = 0 := by unfold addX; rw [h]; rfl
theorem addL_some {x : Tk α} (h : lkp s.toks par = some x) : (addS s par a f).last = s.last + 1 := by rw [add_last, h]; rfl
end
end Go.Gx.T15

/- The document's tree: a list of tokens; and that it says what the tree of tokens says. -/
namespace Go.Gx.T15
open Go.Gx Go.Gx.T10 Go.Gx.T12
abbrev RTk := Int × ByteArray × Int × Int
def r0 : RTk := (0, ByteArray.empty, 0, 0)
def rC (x : RTk) : List Value := [.int .i64 x.1, .string x.2.1, .int .i64 x.2.2.1, .int .i64 x.2.2.2]
def rAt (l : List RTk) (id : Int) : RTk := l.getD (id - 1).toNat r0
def rThere (l : List RTk) (id : Int) : Bool := decide (1 ≤ id ∧ id ≤ (l.length : Int) ∧ (rAt l id).2.2.2 = 0)
/-- Which tokens are so. -/
def selF (p : RTk → Bool) (l : List RTk) : Nat → List Int
  | 0 => []
  | n + 1 => selF p l n ++ if p (l.getD n r0) = true then [(n : Int) + 1] else []
theorem selF_mem {p : RTk → Bool} {l : List RTk} {k : Int} : ∀ {n : Nat}, k ∈ selF p l n ↔ 1 ≤ k ∧ k ≤ (n : Int) ∧ p (rAt l k) = true
  | 0 => by simp only [selF, List.not_mem_nil, false_iff]; rintro ⟨h1, h2, _⟩; omega
  | n + 1 => by
    rw [selF, List.mem_append, selF_mem]
    have e : k = (n : Int) + 1 → rAt l k = l.getD n r0 := fun e => by unfold rAt; rw [e, show ((n : Int) + 1 - 1).toNat = n by omega]
    constructor
    · rintro (⟨h1, h2, h3⟩ | h)
      · exact ⟨h1, by omega, h3⟩
      · split at h
        · rename_i hp
          have hk := List.mem_singleton.1 h
          exact ⟨by omega, by omega, by rw [e hk]; exact hp⟩
        · cases h
    · rintro ⟨h1, h2, h3⟩
      by_cases hk : k = (n : Int) + 1
      · right
        rw [e hk] at h3
        rw [if_pos h3, hk]; simp
      · exact .inl ⟨h1, by omega, h3⟩
theorem selF_lt (p : RTk → Bool) (l : List RTk) : ∀ n : Nat, (selF p l n).Pairwise (· < ·)
  | 0 => by simp [selF]
  | n + 1 => by
    rw [selF]
    refine List.pairwise_append.2 ⟨selF_lt p l n, by split <;> simp, fun a ha b hb => ?_⟩
    have h1 := (selF_mem.1 ha).2.1
    split at hb
    · rw [List.mem_singleton.1 hb]; omega
    · cases hb
theorem selF_len (p : RTk → Bool) (l : List RTk) : ∀ n : Nat, (selF p l n).length ≤ n
  | 0 => by simp [selF]
  | n + 1 => by
    have := selF_len p l n
    rw [selF, List.length_append]
    split <;> simp <;> omega
def isKid (id : Int) (x : RTk) : Bool := decide (x.2.2.2 = 0 ∧ x.1 = id ∧ 0 < id)
def isAt (a : ByteArray) (x : RTk) : Bool := decide (x.2.2.2 = 0 ∧ x.2.1 = a)
def isWith (f : Int) (x : RTk) : Bool := decide (x.2.2.2 = 0 ∧ x.2.2.1 = f ∧ ¬ f = 0)
def isIn (x : RTk) : Bool := decide (x.2.2.2 = 0)
def rUp : Nat → List RTk → Int → ByteArray → Int
  | 0, _, _, _ => 0
  | n + 1, l, id, a => if rThere l id = true then (if (rAt l id).2.1 = a then id else rUp n l (rAt l id).1 a) else 0
def rFacts : Nat → List RTk → Int → List Int
  | 0, _, _ => []
  | n + 1, l, id => if rThere l id = true then rFacts n l (rAt l id).1 ++ (if (rAt l id).2.2.1 = 0 then [] else [(rAt l id).2.2.1]) else []
mutual
def RFits (l : List RTk) : RT ByteArray → Prop
  | .mk i _ _ ks => selF (isKid i) l l.length = ks.map RT.id ∧ RFitsL l ks
def RFitsL (l : List RTk) : List (RT ByteArray) → Prop
  | [] => True
  | t :: ts => RFits l t ∧ RFitsL l ts
end
def out1L (l : List RTk) (k : Int) : List RTk := l.set (k - 1).toNat ((rAt l k).1, (rAt l k).2.1, (rAt l k).2.2.1, 1)
def outL (l : List RTk) (ks : List Int) : List RTk := ks.foldl out1L l
theorem out1L_at {l : List RTk} {k : Int} (h1 : 1 ≤ k) (h2 : k ≤ (l.length : Int)) {c : Int} (hc : 1 ≤ c) : rAt (out1L l k) c = if c = k then ((rAt l k).1, (rAt l k).2.1, (rAt l k).2.2.1, 1) else rAt l c := by
  unfold out1L
  by_cases e : c = k
  · subst e
    rw [if_pos rfl]
    show (l.set (c - 1).toNat _).getD (c - 1).toNat r0 = _
    rw [List.getD_eq_getElem?_getD, List.getElem?_set_self (by omega)]; rfl
  · rw [if_neg e]
    show (l.set (k - 1).toNat _).getD (c - 1).toNat r0 = l.getD (c - 1).toNat r0
    rw [List.getD_eq_getElem?_getD, List.getElem?_set_ne (by omega), ← List.getD_eq_getElem?_getD]
theorem outL_len : ∀ (ks : List Int) (l : List RTk), (outL l ks).length = l.length
  | [], _ => rfl
  | k :: t, l => by
    show (outL (out1L l k) t).length = _
    rw [outL_len t]; simp [out1L]
theorem outL_at : ∀ (ks : List Int) (l : List RTk), (∀ k ∈ ks, 1 ≤ k ∧ k ≤ (l.length : Int)) → ∀ c : Int, 1 ≤ c → ((rAt (outL l ks) c).1 = (rAt l c).1 ∧ (rAt (outL l ks) c).2.1 = (rAt l c).2.1 ∧ (rAt (outL l ks) c).2.2.1 = (rAt l c).2.2.1) ∧ (rAt (outL l ks) c).2.2.2 = if c ∈ ks then 1 else (rAt l c).2.2.2
  | [], l, _, c, _ => by simp [outL]
  | k :: t, l, h, c, hc => by
    have hk := h k (by simp)
    have hlen : (out1L l k).length = l.length := by simp [out1L]
    obtain ⟨⟨h1, h2, h3⟩, h4⟩ := outL_at t (out1L l k) (fun q hq => by rw [hlen]; exact h q (by simp [hq])) c hc
    have e0 : outL l (k :: t) = outL (out1L l k) t := rfl
    rw [e0, h1, h2, h3, h4, out1L_at hk.1 hk.2 hc]
    by_cases e : c = k
    · subst e; simp
    · simp [e]
/-! ### that both say the same -/
def PInv (s : TS (Tk ByteArray) ByteArray) : Prop := Nst s.pl (fun a id => ∃ x, lkp s.toks id = some x ∧ x.pla = a)
structure Agr (s : TS (Tk ByteArray) ByteArray) (l : List RTk) : Prop where
  inv : TInv s
  len : s.last = (l.length : Int)
  tok : ∀ id x, lkp s.toks id = some x → rThere l id = true ∧ rAt l id = (x.par, x.pla, x.fac, 0)
  back : ∀ id, rThere l id = true → ∃ x, lkp s.toks id = some x
section
variable {s : TS (Tk ByteArray) ByteArray} {l : List RTk}
theorem there_of {id : Int} : rThere l id = true ↔ 1 ≤ id ∧ id ≤ (l.length : Int) ∧ (rAt l id).2.2.2 = 0 := by unfold rThere; simp
theorem Agr.there (h : Agr s l) (id : Int) : rThere l id = (lkp s.toks id).isSome := by
  cases e : lkp s.toks id with
  | none =>
    cases e2 : rThere l id with
    | false => rfl
    | true => obtain ⟨x, hx⟩ := h.back id e2; rw [e] at hx; cases hx
  | some x => exact (h.tok id x e).1
theorem Agr.up (h : Agr s l) (a : ByteArray) : ∀ (n : Nat) (id : Int), rUp n l id a = upF n (lkp s.toks) id a
  | 0, _ => rfl
  | n + 1, id => by
    rw [rUp, h.there]
    cases e : lkp s.toks id with
    | none => rw [upF_none e]; simp
    | some x =>
      rw [upF_some e, (h.tok id x e).2, h.up a n]
      simp
theorem Agr.facts (h : Agr s l) : ∀ (n : Nat) (id : Int), rFacts n l id = (factsF n (lkp s.toks) id).reverse
  | 0, _ => rfl
  | n + 1, id => by
    rw [rFacts, h.there]
    cases e : lkp s.toks id with
    | none => rw [factsF_none e]; simp
    | some x =>
      rw [factsF_some e, (h.tok id x e).2, h.facts n, List.reverse_append]
      simp only [Option.isSome_some, if_true]
      congr 1
      split <;> simp
theorem Agr.kids (h : Agr s l) {id : Int} {x : Tk ByteArray} (e : lkp s.toks id = some x) : selF (isKid id) l l.length = x.kids := by
  refine ilt_unique (selF_lt _ _ _) (h.inv.up id x e) (fun k => ?_)
  have hr := h.inv.rng id x e
  rw [selF_mem]
  constructor
  · rintro ⟨h1, h2, h3⟩
    simp only [isKid, decide_eq_true_eq] at h3
    obtain ⟨y, hy⟩ := h.back k (there_of.2 ⟨h1, h2, h3.1⟩)
    have h4 := (h.tok k y hy).2
    rw [h4] at h3
    have hy1 : ¬ k = 1 := fun e1 => by
      subst e1
      obtain ⟨r, hr1, hr2⟩ := h.inv.root
      rw [hy] at hr1; simp only [Option.some.injEq] at hr1; subst hr1
      have := h3.2.1; dsimp only at this; omega
    obtain ⟨z, hz, hk⟩ := h.inv.par k y hy hy1
    rw [show y.par = id from h3.2.1, e] at hz
    simp only [Option.some.injEq] at hz
    rw [hz]; exact hk
  · intro hk
    obtain ⟨y, hy, hp⟩ := h.inv.kid id x e k hk
    obtain ⟨h1, h2⟩ := h.tok k y hy
    have h3 := there_of.1 h1
    refine ⟨h3.1, h3.2.1, ?_⟩
    rw [h2]
    simp only [isKid, decide_eq_true_eq]
    exact ⟨trivial, hp, by omega⟩
mutual
theorem Agr.rfits (h : Agr s l) : ∀ {T : RT ByteArray}, FitsG (lkp s.toks) T → RFits l T
  | .mk _ _ _ _, ⟨⟨_, h1, _, _, h4⟩, h5⟩ => ⟨(h.kids h1).trans h4, h.rfitsL h5⟩
theorem Agr.rfitsL (h : Agr s l) : ∀ {ks : List (RT ByteArray)}, FitsGL (lkp s.toks) ks → RFitsL l ks
  | [], _ => trivial
  | _ :: _, ⟨h1, h2⟩ => ⟨h.rfits h1, h.rfitsL h2⟩
end
theorem Agr.at (h : Agr s l) (hp : PInv s) (a : ByteArray) : itemsN s.pl a = selF (isAt a) l l.length := by
  refine ilt_unique (sortI_lt (hp.get a).nd) (selF_lt _ _ _) (fun k => ?_)
  rw [hp.items, selF_mem]
  constructor
  · rintro ⟨x, hx, rfl⟩
    obtain ⟨h1, h2⟩ := h.tok k x hx
    have h3 := there_of.1 h1
    exact ⟨h3.1, h3.2.1, by rw [h2]; simp [isAt]⟩
  · rintro ⟨h1, h2, h3⟩
    simp only [isAt, decide_eq_true_eq] at h3
    obtain ⟨x, hx⟩ := h.back k (there_of.2 ⟨h1, h2, h3.1⟩)
    rw [(h.tok k x hx).2] at h3
    exact ⟨x, hx, h3.2⟩
theorem Agr.with (h : Agr s l) (hf : FInv s) (f : Int) : itemsN s.fc f = selF (isWith f) l l.length := by
  refine ilt_unique (sortI_lt (Nst.get hf f).nd) (selF_lt _ _ _) (fun k => ?_)
  rw [Nst.items hf, selF_mem]
  constructor
  · rintro ⟨h0, x, hx, rfl⟩
    obtain ⟨h1, h2⟩ := h.tok k x hx
    have h3 := there_of.1 h1
    exact ⟨h3.1, h3.2.1, by rw [h2]; simp [isWith, h0]⟩
  · rintro ⟨h1, h2, h3⟩
    simp only [isWith, decide_eq_true_eq] at h3
    obtain ⟨x, hx⟩ := h.back k (there_of.2 ⟨h1, h2, h3.1⟩)
    rw [(h.tok k x hx).2] at h3
    exact ⟨h3.2.2, x, hx, h3.2.1⟩
theorem lkp_fst {α : Type} {m : List (Int × α)} {k : Int} : k ∈ m.map (·.1) ↔ ∃ v, lkp m k = some v := by
  constructor
  · intro hk
    cases e : lkp m k with
    | none =>
      obtain ⟨q, hq, rfl⟩ := List.mem_map.1 hk
      exact absurd rfl (lkp_none.1 e q hq)
    | some v => exact ⟨v, rfl⟩
  · rintro ⟨v, hv⟩
    exact List.mem_map.2 ⟨_, lkp_some hv, rfl⟩
theorem Agr.lenEq (h : Agr s l) : s.toks.length = (selF isIn l l.length).length := by
  have h1 := nodup_same h.inv.nd ((selF_lt isIn l l.length).imp (fun hab => by omega)) (fun k => by
    rw [lkp_fst, selF_mem]
    constructor
    · rintro ⟨x, hx⟩
      obtain ⟨h1, h2⟩ := h.tok k x hx
      have h3 := there_of.1 h1
      exact ⟨h3.1, h3.2.1, by simp [isIn, h3.2.2]⟩
    · rintro ⟨h1, h2, h3⟩
      simp only [isIn, decide_eq_true_eq] at h3
      exact h.back k (there_of.2 ⟨h1, h2, h3⟩))
  simpa using h1
theorem rAt_snoc {y : RTk} {id : Int} (h1 : 1 ≤ id) (h2 : id ≤ (l.length : Int) + 1) : rAt (l ++ [y]) id = if id = (l.length : Int) + 1 then y else rAt l id := by
  unfold rAt
  by_cases e : id = (l.length : Int) + 1
  · rw [if_pos e, e, show ((l.length : Int) + 1 - 1).toNat = l.length by omega]
    simp
  · rw [if_neg e, List.getD_eq_getElem?_getD, List.getElem?_append_left (by omega), ← List.getD_eq_getElem?_getD]
theorem Agr.new (a : ByteArray) : Agr (newS a) [(0, a, 0, 0)] := by
  have h1 : ∀ id x, lkp (newS a).toks id = some x → id = 1 ∧ x = ⟨a, 0, 0, []⟩ := by
    intro id x e
    simp only [newS, lkp] at e
    split at e
    · rename_i h1; simp only [Option.some.injEq] at e; exact ⟨h1.symm, e.symm⟩
    · cases e
  refine ⟨TInv.new a, rfl, fun id x e => ?_, fun id e => ?_⟩
  · obtain ⟨rfl, rfl⟩ := h1 id x e
    exact ⟨by simp [rThere, rAt], rfl⟩
  · have h2 := there_of.1 e
    obtain rfl : id = 1 := by have := h2.2.1; simp at this; omega
    exact ⟨⟨a, 0, 0, []⟩, by simp [newS, lkp]⟩
theorem Agr.add (h : Agr s l) {par : Int} {xq : Tk ByteArray} (hP : lkp s.toks par = some xq) (a : ByteArray) (f : Int) : Agr (addS s par a f) (l ++ [(par, a, f, 0)]) := by
  have hr := h.inv.rng par xq hP
  have hl := h.len
  have hlk := add_lkp (a := a) (f := f) hP
  have hfresh : lkp s.toks (s.last + 1) = none := by
    cases e : lkp s.toks (s.last + 1) with
    | none => rfl
    | some y => have := h.inv.rng _ y e; omega
  refine ⟨h.inv.add _ _ _, by rw [addL_some hP, List.length_append, List.length_singleton]; omega, fun id x e => ?_, fun id e => ?_⟩
  · have hid := (h.inv.add par a f).rng id x e
    rw [addL_some hP] at hid
    have h3 := rAt_snoc (l := l) (y := (par, a, f, 0)) (id := id) hid.1 (by omega)
    rw [hlk] at e
    by_cases h1 : par = id
    · rw [if_pos h1] at e; simp only [Option.some.injEq] at e; subst e
      subst h1
      rw [if_neg (by omega)] at h3
      obtain ⟨h4, h5⟩ := h.tok par xq hP
      have h6 := there_of.1 h4
      exact ⟨there_of.2 ⟨h6.1, by rw [List.length_append, List.length_singleton]; omega, by rw [h3]; exact h6.2.2⟩, by rw [h3]; exact h5⟩
    · rw [if_neg h1] at e
      by_cases h2 : s.last + 1 = id
      · rw [if_pos h2] at e; simp only [Option.some.injEq] at e; subst e
        rw [if_pos (by omega)] at h3
        exact ⟨there_of.2 ⟨hid.1, by rw [List.length_append, List.length_singleton]; omega, by rw [h3]⟩, h3⟩
      · rw [if_neg h2] at e
        have h7 := h.inv.rng id x e
        rw [if_neg (by omega)] at h3
        obtain ⟨h4, h5⟩ := h.tok id x e
        have h6 := there_of.1 h4
        exact ⟨there_of.2 ⟨h6.1, by rw [List.length_append, List.length_singleton]; omega, by rw [h3]; exact h6.2.2⟩, by rw [h3]; exact h5⟩
  · have h2 := there_of.1 e
    rw [List.length_append, List.length_singleton] at h2
    have h3 := rAt_snoc (l := l) (y := (par, a, f, 0)) (id := id) h2.1 (by omega)
    rw [hlk]
    by_cases h1 : par = id
    · rw [if_pos h1]; exact ⟨_, rfl⟩
    · rw [if_neg h1]
      by_cases h4 : s.last + 1 = id
      · rw [if_pos h4]; exact ⟨_, rfl⟩
      · rw [if_neg h4]
        rw [if_neg (by omega)] at h3
        exact h.back id (there_of.2 ⟨h2.1, by omega, by rw [← h3]; exact h2.2.2⟩)
theorem Agr.del (h : Agr s l) {id : Int} {x xp : Tk ByteArray} {T : RT ByteArray} (hid : ¬ id = 1) (hx : lkp s.toks id = some x) (hp : lkp s.toks x.par = some xp) (g : Goes s id T) : Agr (delS s x xp id T) (outL l ((post T).map (·.1))) := by
  have hb : ∀ k ∈ (post T).map (·.1), 1 ≤ k ∧ k ≤ (l.length : Int) := fun k hk => by
    obtain ⟨y, hy⟩ := g.here k hk
    have := there_of.1 (h.tok k y hy).1
    exact ⟨this.1, this.2.1⟩
  refine ⟨h.inv.del hid hx hp g, by rw [del_last, outL_len]; exact h.len, fun k y e => ?_, fun k e => ?_⟩
  · rw [del_lkp h.inv] at e
    split at e
    · cases e
    · rename_i hk
      have key : ∀ z, lkp s.toks k = some z → rThere (outL l ((post T).map (·.1))) k = true ∧ rAt (outL l ((post T).map (·.1))) k = (z.par, z.pla, z.fac, 0) := by
        intro z hz
        obtain ⟨h4, h5⟩ := h.tok k z hz
        have h6 := there_of.1 h4
        obtain ⟨⟨a1, a2, a3⟩, a4⟩ := outL_at _ l hb k h6.1
        rw [if_neg hk] at a4
        have e1 : rAt (outL l ((post T).map (·.1))) k = rAt l k := Prod.ext a1 (Prod.ext a2 (Prod.ext a3 a4))
        exact ⟨there_of.2 ⟨h6.1, by rw [outL_len]; exact h6.2.1, by rw [e1]; exact h6.2.2⟩, by rw [e1]; exact h5⟩
      split at e
      · rename_i h1
        subst h1
        simp only [Option.some.injEq] at e; subst e
        exact key xp hp
      · exact key y e
  · have h2 := there_of.1 e
    rw [outL_len] at h2
    obtain ⟨_, a4⟩ := outL_at _ l hb k h2.1
    rw [del_lkp h.inv]
    by_cases hk : k ∈ (post T).map (·.1)
    · rw [if_pos hk, h2.2.2] at a4; cases a4
    · rw [if_neg hk] at a4 ⊢
      by_cases h1 : x.par = k
      · rw [if_pos h1]; exact ⟨_, rfl⟩
      · rw [if_neg h1]
        exact h.back k (there_of.2 ⟨h2.1, h2.2.1, by rw [← a4]; exact h2.2.2⟩)
end
end Go.Gx.T15

/- Walks: what Go functions of this chapter come to, each as a function on plain data; no condition but those that each theorem names. Printed by a program of this work (gen.py). -/
namespace Go.Proofs.Ytdcaehepmkhciaa
open Go.Gx Go.Gx Go.Gx.T10 Go.Gx.T12 Go.Gx.T10 Go.Gx.T11 Go.Gx.T15 Go.Gx.T12 Go.Gx.T6 Go.Gx.T4
theorem sz108 : SzIs Try.prog 108 4 := by
 unfold SzIs
 kernel_rfl
theorem sz109 : SzIs Try.prog 109 1 := by
 unfold SzIs
 kernel_rfl
theorem zr108 : ZeroIs Try.prog 108 (Value.agg #[Value.int .i64 0, Value.string ⟨#[]⟩, Value.int .i64 0, Value.int .i64 0]) := by
 unfold ZeroIs
 kernel_rfl
theorem there_eq {l : List RTk} {id : Int} (h1 : 1 ≤ id) (h2 : id ≤ (l.length : Int)) : rThere l id = decide ((rAt l id).2.2.2 = 0) := by unfold rThere; simp [h1, h2]
theorem there_no {l : List RTk} {id : Int} (h : ¬ (1 ≤ id ∧ id ≤ (l.length : Int))) : rThere l id = false := by unfold rThere; exact decide_eq_false (fun h2 => h ⟨h2.1, h2.2.1⟩)
theorem c_xthere (b : Nat) (lv : Value) (l : List RTk) {G : Ghost} (id : Int) (hR : RowAt G b 0 1 (at_ [lv])) (hL : SlL G lv 4 rC r0 l) (w : World) (hG : Has G w) :
  Calls Try.prog 57 #[Value.pointer (some ⟨b, 0, none⟩), Value.int .i64 id] w (Ret fun r w' => r = Value.bool (rThere l id) ∧ Since nX w w') := by
 refine enter (args := [_, _]) (X := nX) (G := G) (l := [(0, Value.pointer (some ⟨b, 0, none⟩)), (1, Value.int .i64 id)]) Try.func57 rfl Try.ntmps57 hG ⟨rfl, rfl, trivial⟩ (Nat.le_of_ble_eq_true rfl) ?_
 refine c_seq ?_
 refine c_region ?_
 refine r_val .none rfl (p_assign rfl) ?_
 refine r_nil ?_
 refine e_next ?_
 refine c_seq ?_
 refine c_region ?_
 refine r_val .none rfl (p_move rfl) ?_
 refine r_val .none rfl (p_ge rfl rfl) ?_
 refine r_val .none rfl (p_move rfl) ?_
 refine r_splitd (d := 7) rfl (fun h_1 => ?_) (fun h_1 => ?_)
 ·
  first
   | (exfalso; omega)
   | (
    refine r_val (.some rfl rfl) rfl (p_move rfl) ?_
    refine r_val (.some rfl rfl) rfl (p_move rfl) ?_
    refine r_val (.some rfl rfl) rfl (p_nilcheck rfl) ?_
    refine r_val (.some rfl rfl) rfl (p_field Try.underlying111 rfl sz109 rfl) ?_
    refine r_val (.some rfl rfl) rfl (p_ldg (j := 0) Try.underlying109 rfl rfl hR (by first | exact of_decide_eq_true rfl | omega) rfl) ?_
    refine r_val (.some rfl rfl) rfl (p_leng Try.underlying109 rfl hL) ?_
    have bd_2 := (hL).bound
    refine r_val (.some rfl rfl) rfl (p_le rfl rfl) ?_
    refine r_val .none rfl (p_pick_t rfl rfl) ?_
    refine r_val .none rfl (p_move rfl) ?_
    refine r_splitd (d := 16) rfl (fun h_3 => ?_) (fun h_3 => ?_)
    ·
     first
      | (exfalso; omega)
      | (
       refine r_val (.some rfl rfl) rfl (p_move rfl) ?_
       refine r_val (.some rfl rfl) rfl (p_nilcheck rfl) ?_
       refine r_val (.some rfl rfl) rfl (p_field Try.underlying111 rfl sz109 rfl) ?_
       refine r_val (.some rfl rfl) rfl (p_ldg (j := 0) Try.underlying109 rfl rfl hR (by first | exact of_decide_eq_true rfl | omega) rfl) ?_
       refine r_val (.some rfl rfl) rfl (p_move rfl) ?_
       refine r_val (.some rfl rfl) rfl (p_sub rfl rfl (by omega)) ?_
       rw [show id - 1 = (((id - 1).toNat : Nat) : Int) by omega]
       refine r_iaddr_g (.some rfl rfl) rfl Try.underlying109 sz108 rfl hL rfl (by first | exact of_decide_eq_true rfl | omega) (fun p_5 o_6 R_4 => ?_)
       refine r_val (.some rfl rfl) rfl (p_field Try.underlying108 rfl sz3 rfl) ?_
       refine r_val (.some rfl rfl) rfl (p_ldg (j := 3) Try.underlying3 rfl rfl R_4 (by first | exact of_decide_eq_true rfl | omega) (rfl : _ = Value.int _ _)) ?_
       refine r_val (.some rfl rfl) rfl (p_eq rfl rfl) ?_
       refine r_val .none rfl (p_pick_t rfl rfl) ?_
       refine r_val .none rfl (p_assign rfl) ?_
       refine r_nil ?_
       refine e_next ?_
       refine c_ret ?_
       refine e_ret1 Try.results57 (.tmp rfl .nil) (fun w hm => ⟨?_, hm.since⟩)
       first
       | (rw [there_no (by omega)]; done)
       | (rw [there_eq (by omega) (by omega)]; rfl)
       )
    ·
     first
      | (exfalso; omega)
      | (
       refine r_skip rfl (.no rfl rfl) ?_
       refine r_skip rfl (.no rfl rfl) ?_
       refine r_skip rfl (.no rfl rfl) ?_
       refine r_skip rfl (.no rfl rfl) ?_
       refine r_skip rfl (.no rfl rfl) ?_
       refine r_skip rfl (.no rfl rfl) ?_
       refine r_skip rfl (.no rfl rfl) ?_
       refine r_skip rfl (.no rfl rfl) ?_
       refine r_skip rfl (.no rfl rfl) ?_
       refine r_skip rfl (.no rfl rfl) ?_
       refine r_val .none rfl (p_pick_f rfl rfl) ?_
       refine r_val .none rfl (p_assign rfl) ?_
       refine r_nil ?_
       refine e_next ?_
       refine c_ret ?_
       refine e_ret1 Try.results57 (.tmp rfl .nil) (fun w hm => ⟨?_, hm.since⟩)
       first
       | (rw [there_no (by omega)]; done)
       | (rw [there_eq (by omega) (by omega)]; rfl)
       )
    )
 ·
  first
   | (exfalso; omega)
   | (
    refine r_skip rfl (.no rfl rfl) ?_
    refine r_skip rfl (.no rfl rfl) ?_
    refine r_skip rfl (.no rfl rfl) ?_
    refine r_skip rfl (.no rfl rfl) ?_
    refine r_skip rfl (.no rfl rfl) ?_
    refine r_skip rfl (.no rfl rfl) ?_
    refine r_skip rfl (.no rfl rfl) ?_
    refine r_val .none rfl (p_pick_f rfl rfl) ?_
    refine r_val .none rfl (p_move rfl) ?_
    refine r_skip rfl (.no rfl rfl) ?_
    refine r_skip rfl (.no rfl rfl) ?_
    refine r_skip rfl (.no rfl rfl) ?_
    refine r_skip rfl (.no rfl rfl) ?_
    refine r_skip rfl (.no rfl rfl) ?_
    refine r_skip rfl (.no rfl rfl) ?_
    refine r_skip rfl (.no rfl rfl) ?_
    refine r_skip rfl (.no rfl rfl) ?_
    refine r_skip rfl (.no rfl rfl) ?_
    refine r_skip rfl (.no rfl rfl) ?_
    refine r_val .none rfl (p_pick_f rfl rfl) ?_
    refine r_val .none rfl (p_assign rfl) ?_
    refine r_nil ?_
    refine e_next ?_
    refine c_ret ?_
    refine e_ret1 Try.results57 (.tmp rfl .nil) (fun w hm => ⟨?_, hm.since⟩)
    first
    | (rw [there_no (by omega)]; done)
    | (rw [there_eq (by omega) (by omega)]; rfl)
    )
theorem c_xkids (b : Nat) (lv : Value) (l : List RTk) {G : Ghost} (id : Int) (hR : RowAt G b 0 1 (at_ [lv])) (hL : SlL G lv 4 rC r0 l) (hn : l.length ≤ 1000) (w : World) (hG : Has G w) :
  Calls Try.prog 86 #[Value.pointer (some ⟨b, 0, none⟩), Value.int .i64 id] w (Ret fun r w' => Since nX w w' ∧ ∃ F', (rowA r 3 1 (selF (isKid id) l l.length).length ((selF (isKid id) l l.length).flatMap cI)).holds w' F' ∧ ∀ b, F' b → w.heap.size ≤ b) := by
 refine enter (args := [_, _]) (X := nX) (G := G) (l := [(0, Value.pointer (some ⟨b, 0, none⟩)), (1, Value.int .i64 id)]) Try.func86 rfl Try.ntmps86 hG ⟨rfl, rfl, trivial⟩ (Nat.le_of_ble_eq_true rfl) ?_
 refine c_seq ?_
 refine c_region ?_
 refine r_val .none rfl (p_assign rfl) ?_
 refine r_nil ?_
 refine e_next ?_
 refine c_seq ?_
 refine c_region ?_
 refine r_val .none rfl (p_assign rfl) ?_
 refine r_nil ?_
 refine e_next ?_
 refine c_seq ?_
 refine c_seq ?_
 refine c_region ?_
 refine r_val .none rfl (p_move rfl) ?_
 refine r_val .none rfl (p_nilcheck rfl) ?_
 refine r_val .none rfl (p_field Try.underlying111 rfl sz109 rfl) ?_
 refine r_val .none rfl (p_ldg (j := 0) Try.underlying109 rfl rfl hR (by first | exact of_decide_eq_true rfl | omega) rfl) ?_
 refine r_val .none rfl (p_leng Try.underlying109 rfl hL) ?_
 have bd_1 := (hL).bound
 refine r_val .none rfl (p_move rfl) ?_
 refine r_nil ?_
 refine e_next ?_
 refine c_block ?_
 refine c_nilrow 3 1 ?_
 refine c_name (d := 1) rfl (fun u_2 hu_2 => ?_)
 refine c_name (d := 4) rfl (fun u_3 hu_3 => ?_)
 refine c_name (d := 11) rfl (fun u_4 hu_4 => ?_)
 refine c_name (d := 12) rfl (fun u_5 hu_5 => ?_)
 refine c_loop (σ := Nat × Value) (fun s' => [(13, Value.int .i64 (s'.1 : Nat)), (5, s'.2), (1, u_2), (4, u_3), (11, u_4), (12, u_5)]) (fun s' => [rowA (s'.2) 3 1 ((selF (isKid id) l s'.1)).length (((selF (isKid id) l s'.1)).flatMap cI)]) (fun _ => _) (fun s' => s'.1 ≤ l.length) (fun s' => l.length - s'.1) ((0, _)) (Nat.zero_le _) rfl ⟨rfl, rfl, rfl, rfl, rfl, rfl, trivial⟩ (.keep (fun _ _ h => rowA_nil rfl _ _ h) (.nil)) (fun s' hphi => ?_)
 subst hu_2
 subst hu_3
 subst hu_4
 subst hu_5
 obtain ⟨j, ov⟩ := s'
 dsimp only at hphi ⊢
 have hsl := selF_len (isKid id) l j
 refine c_seq ?_
 refine c_region ?_
 refine r_val .none rfl (p_lt rfl rfl) ?_
 refine r_nil ?_
 refine e_next ?_
 refine c_seq ?_
 refine c_splitd (d := 14) rfl (fun h_6 => ?_) (fun h_6 => ?_)
 ·
  first
   | (exfalso; omega)
   | (
    refine c_cond_t rfl ?_
    refine c_skip ?_
    refine e_next ?_
    refine c_seq ?_
    refine c_block ?_
    refine c_seq ?_
    refine c_region ?_
    refine r_val .none rfl (p_move rfl) ?_
    refine r_iaddr_g .none rfl Try.underlying109 sz108 rfl hL rfl (by first | exact of_decide_eq_true rfl | omega) (fun p_8 o_9 R_7 => ?_)
    refine r_val .none rfl (p_ldga0 Try.underlying108 rfl sz108 rfl R_7 (by first | exact of_decide_eq_true rfl | omega) (rfl : _ = Value.agg #[_, _, _, _])) ?_
    refine r_alloc .none rfl zr108 (IsRow.lit _) (fun b_1 => ?_)
    refine r_val .none rfl (p_assign rfl) ?_
    refine r_stw (k := 0) .none sz108 rfl rfl (IsRow.lit _) (one_lit rfl rfl) rfl ?_
    refine r_nil ?_
    refine e_next ?_
    refine c_seq ?_
    refine c_region ?_
    refine r_val .none rfl (p_field Try.underlying108 rfl sz3 rfl) ?_
    refine r_val .none rfl (p_ld (k := 0) Try.underlying3 rfl rfl rfl (by first | exact of_decide_eq_true rfl | omega) (rfl : _ = Value.int _ _)) ?_
    refine r_val .none rfl (p_eq rfl rfl) ?_
    refine r_val .none rfl (p_move rfl) ?_
    refine' r_and (c := 21) (d := 26) [_, _, _, _, _] rfl (fun h_10 Q_11 hQ_12 => ?_) (fun h_10 Q_11 hQ_12 => ?_) ?_
    rotate_left 1
    ·
     replace h_10 := of_decide_eq_true h_10
     refine r_val (.some rfl rfl) rfl (p_field Try.underlying108 rfl sz3 rfl) ?_
     refine r_val (.some rfl rfl) rfl (p_ld (k := 0) Try.underlying3 rfl rfl rfl (by first | exact of_decide_eq_true rfl | omega) (rfl : _ = Value.int _ _)) ?_
     refine r_val (.some rfl rfl) rfl (p_move rfl) ?_
     refine r_val (.some rfl rfl) rfl (p_eq rfl rfl) ?_
     refine r_val .none rfl (p_pick_t rfl rfl) ?_
     refine r_nil (e_fin (d := 26) hQ_12 rfl (by repeat (first | exact .refl | refine .put rfl ?_ | refine .say rfl ?_ | refine .say2 rfl (by first | assumption | simp_all) ?_)))
    ·
     repeat (first | refine r_skip rfl (.no rfl rfl) ?_ | refine r_skip rfl (.un rfl rfl) ?_)
     refine r_val (by first | exact .none | exact .some rfl rfl) rfl (p_pick_f rfl rfl) ?_
     refine r_nil (e_fin (d := 26) hQ_12 rfl (by repeat (first | exact .refl | refine .put rfl ?_ | refine .say rfl ?_ | refine .say2 rfl (by first | assumption | simp_all) ?_)))
    refine r_val .none rfl (p_move rfl) ?_
    refine' r_and (c := 27) (d := 30) [_, _, _] rfl (fun h_14 Q_15 hQ_16 => ?_) (fun h_14 Q_15 hQ_16 => ?_) ?_
    rotate_left 1
    ·
     try simp only [norms] at h_14
     refine r_val (.some rfl rfl) rfl (p_move rfl) ?_
     refine r_val (.some rfl rfl) rfl (p_gt rfl rfl) ?_
     refine r_val .none rfl (p_pick_t rfl rfl) ?_
     refine r_nil (e_fin (d := 30) hQ_16 rfl (by repeat (first | exact .refl | refine .put rfl ?_ | refine .say rfl ?_ | refine .say2 rfl (by first | assumption | simp_all) ?_)))
    ·
     repeat (first | refine r_skip rfl (.no rfl rfl) ?_ | refine r_skip rfl (.un rfl rfl) ?_)
     refine r_val (by first | exact .none | exact .some rfl rfl) rfl (p_pick_f rfl rfl) ?_
     refine r_nil (e_fin (d := 30) hQ_16 rfl (by repeat (first | exact .refl | refine .put rfl ?_ | refine .say rfl ?_ | refine .say2 rfl (by first | assumption | simp_all) ?_)))
    refine r_nil ?_
    refine e_next ?_
    refine c_split (d := 30) rfl (fun h_18 => ?_) (fun h_18 => ?_)
    ·
     try simp only [norms] at h_18
     have hQ0 := h_18
     have hQ : (isKid id) (l.getD j r0) = true := by (simp only [isKid, decide_eq_true_eq]; simp_all)
     first
      | (exfalso; omega)
      | (
       refine c_cond_t rfl ?_
       refine c_region ?_
       refine r_val .none rfl (p_move rfl) ?_
       refine r_val .none rfl (p_move rfl) ?_
       refine r_val .none rfl (p_add rfl rfl (by omega)) ?_
       refine r_bslice (vs := [(0, Value.int _ _)]) (c := #[_]) .none rfl Try.underlying42 el3 rfl rfl rfl (bs3_10i2 _ _) (IsRow.lit _) (fun b_2 => ?_)
       refine r_append (k := 2) (k2 := 0) .none rfl Try.underlying42 el3 rfl (by decide) rfl rfl rfl rfl rfl (one_lit rfl rfl) (by simp only [maxLen]; omega) (by omega) (fun v_19 => ?_)
       refine r_row1 (k := 2) rfl (fun o_20 => ?_)
       refine r_val .none rfl (p_assign rfl) ?_
       refine r_nil ?_
       refine e_norm_block ?_
       refine e_next ?_
       refine c_region ?_
       refine r_val .none rfl (p_add rfl rfl (by omega)) ?_
       refine r_val .none rfl (p_move rfl) ?_
       refine r_nil ?_
       refine e_round ((j + 1, _)) ⟨by dsimp only; omega, by dsimp only; omega⟩ rfl ⟨rfl, rfl, rfl, rfl, rfl, rfl, trivial⟩ (.drop (.drop (.keep (fun _ _ h => by rw [selF, if_pos hQ]; exact rowA_snoc rfl rfl rfl rfl _ _ h) (.nil))))
       )
    ·
     try simp only [norms] at h_18
     have hQ0 := h_18
     have hQ : ¬ (isKid id) (l.getD j r0) = true := by (intro h7; simp only [isKid, decide_eq_true_eq] at h7; first | (rcases hQ0 with (h8 | h8) | h8; exact h8 h7.1; exact h8 h7.2.1; first | exact h8 h7.2.2 | exact h7.2.2 h8) | (rcases hQ0 with h8 | h8; exact h8 h7.1; exact h8 h7.2))
     first
      | (exfalso; omega)
      | (
       refine c_cond_f rfl ?_
       refine c_skip ?_
       refine e_norm_block ?_
       refine e_next ?_
       refine c_region ?_
       refine r_val .none rfl (p_add rfl rfl (by omega)) ?_
       refine r_val .none rfl (p_move rfl) ?_
       refine r_nil ?_
       refine e_round ((j + 1, _)) ⟨by dsimp only; omega, by dsimp only; omega⟩ rfl ⟨rfl, rfl, rfl, rfl, rfl, rfl, trivial⟩ (.drop (.keep (fun _ _ h => by rw [selF, if_neg hQ, List.append_nil]; exact h) (.nil)))
       )
    )
 ·
  first
   | (exfalso; omega)
   | (
    refine c_cond_f rfl ?_
    refine c_exit ?_
    refine e_exit_then ?_
    refine e_exit_then ?_
    refine e_exit_block ?_
    refine e_next ?_
    refine c_seq ?_
    refine c_region ?_
    refine r_val .none rfl (p_move rfl) ?_
    refine r_val .none rfl (p_assign rfl) ?_
    refine r_nil ?_
    refine e_next ?_
    refine c_ret ?_
    refine e_ret1 Try.results86 (.tmp rfl .nil) (fun w hm => hm.made [rowA ov 3 1 (selF (isKid id) l l.length).length ((selF (isKid id) l l.length).flatMap cI)] (.keep (fun _ _ h => rowA_congr (by rw [show j = l.length by omega]) (by rw [show j = l.length by omega]) _ _ h) (.nil)) _ (fun F' h => starL_one1 h))
    )
theorem c_xat (b : Nat) (lv : Value) (l : List RTk) {G : Ghost} (a : ByteArray) (hR : RowAt G b 0 1 (at_ [lv])) (hL : SlL G lv 4 rC r0 l) (hn : l.length ≤ 1000) (w : World) (hG : Has G w) :
  Calls Try.prog 91 #[Value.pointer (some ⟨b, 0, none⟩), kS a] w (Ret fun r w' => Since nX w w' ∧ ∃ F', (rowA r 3 1 (selF (isAt a) l l.length).length ((selF (isAt a) l l.length).flatMap cI)).holds w' F' ∧ ∀ b, F' b → w.heap.size ≤ b) := by
 refine enter (args := [_, _]) (X := nX) (G := G) (l := [(0, Value.pointer (some ⟨b, 0, none⟩)), (1, kS a)]) Try.func91 rfl Try.ntmps91 hG ⟨rfl, rfl, trivial⟩ (Nat.le_of_ble_eq_true rfl) ?_
 refine c_seq ?_
 refine c_region ?_
 refine r_val .none rfl (p_assign rfl) ?_
 refine r_nil ?_
 refine e_next ?_
 refine c_seq ?_
 refine c_region ?_
 refine r_val .none rfl (p_assign rfl) ?_
 refine r_nil ?_
 refine e_next ?_
 refine c_seq ?_
 refine c_seq ?_
 refine c_region ?_
 refine r_val .none rfl (p_move rfl) ?_
 refine r_val .none rfl (p_nilcheck rfl) ?_
 refine r_val .none rfl (p_field Try.underlying111 rfl sz109 rfl) ?_
 refine r_val .none rfl (p_ldg (j := 0) Try.underlying109 rfl rfl hR (by first | exact of_decide_eq_true rfl | omega) rfl) ?_
 refine r_val .none rfl (p_leng Try.underlying109 rfl hL) ?_
 have bd_1 := (hL).bound
 refine r_val .none rfl (p_move rfl) ?_
 refine r_nil ?_
 refine e_next ?_
 refine c_block ?_
 refine c_nilrow 3 1 ?_
 refine c_name (d := 1) rfl (fun u_2 hu_2 => ?_)
 refine c_name (d := 4) rfl (fun u_3 hu_3 => ?_)
 refine c_name (d := 11) rfl (fun u_4 hu_4 => ?_)
 refine c_name (d := 12) rfl (fun u_5 hu_5 => ?_)
 refine c_loop (σ := Nat × Value) (fun s' => [(13, Value.int .i64 (s'.1 : Nat)), (5, s'.2), (1, u_2), (4, u_3), (11, u_4), (12, u_5)]) (fun s' => [rowA (s'.2) 3 1 ((selF (isAt a) l s'.1)).length (((selF (isAt a) l s'.1)).flatMap cI)]) (fun _ => _) (fun s' => s'.1 ≤ l.length) (fun s' => l.length - s'.1) ((0, _)) (Nat.zero_le _) rfl ⟨rfl, rfl, rfl, rfl, rfl, rfl, trivial⟩ (.keep (fun _ _ h => rowA_nil rfl _ _ h) (.nil)) (fun s' hphi => ?_)
 subst hu_2
 subst hu_3
 subst hu_4
 subst hu_5
 obtain ⟨j, ov⟩ := s'
 dsimp only at hphi ⊢
 have hsl := selF_len (isAt a) l j
 refine c_seq ?_
 refine c_region ?_
 refine r_val .none rfl (p_lt rfl rfl) ?_
 refine r_nil ?_
 refine e_next ?_
 refine c_seq ?_
 refine c_splitd (d := 14) rfl (fun h_6 => ?_) (fun h_6 => ?_)
 ·
  first
   | (exfalso; omega)
   | (
    refine c_cond_t rfl ?_
    refine c_skip ?_
    refine e_next ?_
    refine c_seq ?_
    refine c_block ?_
    refine c_seq ?_
    refine c_region ?_
    refine r_val .none rfl (p_move rfl) ?_
    refine r_iaddr_g .none rfl Try.underlying109 sz108 rfl hL rfl (by first | exact of_decide_eq_true rfl | omega) (fun p_8 o_9 R_7 => ?_)
    refine r_val .none rfl (p_ldga0 Try.underlying108 rfl sz108 rfl R_7 (by first | exact of_decide_eq_true rfl | omega) (rfl : _ = Value.agg #[_, _, _, _])) ?_
    refine r_alloc .none rfl zr108 (IsRow.lit _) (fun b_1 => ?_)
    refine r_val .none rfl (p_assign rfl) ?_
    refine r_stw (k := 0) .none sz108 rfl rfl (IsRow.lit _) (one_lit rfl rfl) rfl ?_
    refine r_nil ?_
    refine e_next ?_
    refine c_seq ?_
    refine c_region ?_
    refine r_val .none rfl (p_field Try.underlying108 rfl sz3 rfl) ?_
    refine r_val .none rfl (p_ld (k := 0) Try.underlying3 rfl rfl rfl (by first | exact of_decide_eq_true rfl | omega) (rfl : _ = Value.int _ _)) ?_
    refine r_val .none rfl (p_eq rfl rfl) ?_
    refine r_val .none rfl (p_move rfl) ?_
    refine' r_and (c := 21) (d := 26) [_, _, _, _, _] rfl (fun h_10 Q_11 hQ_12 => ?_) (fun h_10 Q_11 hQ_12 => ?_) ?_
    rotate_left 1
    ·
     replace h_10 := of_decide_eq_true h_10
     refine r_val (.some rfl rfl) rfl (p_field Try.underlying108 rfl sz9 rfl) ?_
     refine r_val (.some rfl rfl) rfl (p_ld (k := 0) Try.underlying9 rfl rfl rfl (by first | exact of_decide_eq_true rfl | omega) (rfl : _ = Value.string _)) ?_
     refine r_val (.some rfl rfl) rfl (p_move rfl) ?_
     refine r_val (.some rfl rfl) rfl (p_eqs rfl rfl) ?_
     refine r_val .none rfl (p_pick_t rfl rfl) ?_
     refine r_nil (e_fin (d := 26) hQ_12 rfl (by repeat (first | exact .refl | refine .put rfl ?_ | refine .say rfl ?_ | refine .say2 rfl (by first | assumption | simp_all) ?_)))
    ·
     repeat (first | refine r_skip rfl (.no rfl rfl) ?_ | refine r_skip rfl (.un rfl rfl) ?_)
     refine r_val (by first | exact .none | exact .some rfl rfl) rfl (p_pick_f rfl rfl) ?_
     refine r_nil (e_fin (d := 26) hQ_12 rfl (by repeat (first | exact .refl | refine .put rfl ?_ | refine .say rfl ?_ | refine .say2 rfl (by first | assumption | simp_all) ?_)))
    refine r_nil ?_
    refine e_next ?_
    refine c_split (d := 26) rfl (fun h_14 => ?_) (fun h_14 => ?_)
    ·
     try simp only [norms] at h_14
     have hQ0 := h_14
     have hQ : (isAt a) (l.getD j r0) = true := by (simp only [isAt, decide_eq_true_eq]; simp_all)
     first
      | (exfalso; omega)
      | (
       refine c_cond_t rfl ?_
       refine c_region ?_
       refine r_val .none rfl (p_move rfl) ?_
       refine r_val .none rfl (p_move rfl) ?_
       refine r_val .none rfl (p_add rfl rfl (by omega)) ?_
       refine r_bslice (vs := [(0, Value.int _ _)]) (c := #[_]) .none rfl Try.underlying42 el3 rfl rfl rfl (bs3_10i2 _ _) (IsRow.lit _) (fun b_2 => ?_)
       refine r_append (k := 2) (k2 := 0) .none rfl Try.underlying42 el3 rfl (by decide) rfl rfl rfl rfl rfl (one_lit rfl rfl) (by simp only [maxLen]; omega) (by omega) (fun v_15 => ?_)
       refine r_row1 (k := 2) rfl (fun o_16 => ?_)
       refine r_val .none rfl (p_assign rfl) ?_
       refine r_nil ?_
       refine e_norm_block ?_
       refine e_next ?_
       refine c_region ?_
       refine r_val .none rfl (p_add rfl rfl (by omega)) ?_
       refine r_val .none rfl (p_move rfl) ?_
       refine r_nil ?_
       refine e_round ((j + 1, _)) ⟨by dsimp only; omega, by dsimp only; omega⟩ rfl ⟨rfl, rfl, rfl, rfl, rfl, rfl, trivial⟩ (.drop (.drop (.keep (fun _ _ h => by rw [selF, if_pos hQ]; exact rowA_snoc rfl rfl rfl rfl _ _ h) (.nil))))
       )
    ·
     try simp only [norms] at h_14
     have hQ0 := h_14
     have hQ : ¬ (isAt a) (l.getD j r0) = true := by (intro h7; simp only [isAt, decide_eq_true_eq] at h7; first | (rcases hQ0 with (h8 | h8) | h8; exact h8 h7.1; exact h8 h7.2.1; first | exact h8 h7.2.2 | exact h7.2.2 h8) | (rcases hQ0 with h8 | h8; exact h8 h7.1; exact h8 h7.2))
     first
      | (exfalso; omega)
      | (
       refine c_cond_f rfl ?_
       refine c_skip ?_
       refine e_norm_block ?_
       refine e_next ?_
       refine c_region ?_
       refine r_val .none rfl (p_add rfl rfl (by omega)) ?_
       refine r_val .none rfl (p_move rfl) ?_
       refine r_nil ?_
       refine e_round ((j + 1, _)) ⟨by dsimp only; omega, by dsimp only; omega⟩ rfl ⟨rfl, rfl, rfl, rfl, rfl, rfl, trivial⟩ (.drop (.keep (fun _ _ h => by rw [selF, if_neg hQ, List.append_nil]; exact h) (.nil)))
       )
    )
 ·
  first
   | (exfalso; omega)
   | (
    refine c_cond_f rfl ?_
    refine c_exit ?_
    refine e_exit_then ?_
    refine e_exit_then ?_
    refine e_exit_block ?_
    refine e_next ?_
    refine c_seq ?_
    refine c_region ?_
    refine r_val .none rfl (p_move rfl) ?_
    refine r_val .none rfl (p_assign rfl) ?_
    refine r_nil ?_
    refine e_next ?_
    refine c_ret ?_
    refine e_ret1 Try.results91 (.tmp rfl .nil) (fun w hm => hm.made [rowA ov 3 1 (selF (isAt a) l l.length).length ((selF (isAt a) l l.length).flatMap cI)] (.keep (fun _ _ h => rowA_congr (by rw [show j = l.length by omega]) (by rw [show j = l.length by omega]) _ _ h) (.nil)) _ (fun F' h => starL_one1 h))
    )
theorem c_xwith (b : Nat) (lv : Value) (l : List RTk) {G : Ghost} (f : Int) (hR : RowAt G b 0 1 (at_ [lv])) (hL : SlL G lv 4 rC r0 l) (hn : l.length ≤ 1000) (w : World) (hG : Has G w) :
  Calls Try.prog 92 #[Value.pointer (some ⟨b, 0, none⟩), Value.int .i64 f] w (Ret fun r w' => Since nX w w' ∧ ∃ F', (rowA r 3 1 (selF (isWith f) l l.length).length ((selF (isWith f) l l.length).flatMap cI)).holds w' F' ∧ ∀ b, F' b → w.heap.size ≤ b) := by
 refine enter (args := [_, _]) (X := nX) (G := G) (l := [(0, Value.pointer (some ⟨b, 0, none⟩)), (1, Value.int .i64 f)]) Try.func92 rfl Try.ntmps92 hG ⟨rfl, rfl, trivial⟩ (Nat.le_of_ble_eq_true rfl) ?_
 refine c_seq ?_
 refine c_region ?_
 refine r_val .none rfl (p_assign rfl) ?_
 refine r_nil ?_
 refine e_next ?_
 refine c_seq ?_
 refine c_region ?_
 refine r_val .none rfl (p_assign rfl) ?_
 refine r_nil ?_
 refine e_next ?_
 refine c_seq ?_
 refine c_seq ?_
 refine c_region ?_
 refine r_val .none rfl (p_move rfl) ?_
 refine r_val .none rfl (p_nilcheck rfl) ?_
 refine r_val .none rfl (p_field Try.underlying111 rfl sz109 rfl) ?_
 refine r_val .none rfl (p_ldg (j := 0) Try.underlying109 rfl rfl hR (by first | exact of_decide_eq_true rfl | omega) rfl) ?_
 refine r_val .none rfl (p_leng Try.underlying109 rfl hL) ?_
 have bd_1 := (hL).bound
 refine r_val .none rfl (p_move rfl) ?_
 refine r_nil ?_
 refine e_next ?_
 refine c_block ?_
 refine c_nilrow 3 1 ?_
 refine c_name (d := 1) rfl (fun u_2 hu_2 => ?_)
 refine c_name (d := 4) rfl (fun u_3 hu_3 => ?_)
 refine c_name (d := 11) rfl (fun u_4 hu_4 => ?_)
 refine c_name (d := 12) rfl (fun u_5 hu_5 => ?_)
 refine c_loop (σ := Nat × Value) (fun s' => [(13, Value.int .i64 (s'.1 : Nat)), (5, s'.2), (1, u_2), (4, u_3), (11, u_4), (12, u_5)]) (fun s' => [rowA (s'.2) 3 1 ((selF (isWith f) l s'.1)).length (((selF (isWith f) l s'.1)).flatMap cI)]) (fun _ => _) (fun s' => s'.1 ≤ l.length) (fun s' => l.length - s'.1) ((0, _)) (Nat.zero_le _) rfl ⟨rfl, rfl, rfl, rfl, rfl, rfl, trivial⟩ (.keep (fun _ _ h => rowA_nil rfl _ _ h) (.nil)) (fun s' hphi => ?_)
 subst hu_2
 subst hu_3
 subst hu_4
 subst hu_5
 obtain ⟨j, ov⟩ := s'
 dsimp only at hphi ⊢
 have hsl := selF_len (isWith f) l j
 refine c_seq ?_
 refine c_region ?_
 refine r_val .none rfl (p_lt rfl rfl) ?_
 refine r_nil ?_
 refine e_next ?_
 refine c_seq ?_
 refine c_splitd (d := 14) rfl (fun h_6 => ?_) (fun h_6 => ?_)
 ·
  first
   | (exfalso; omega)
   | (
    refine c_cond_t rfl ?_
    refine c_skip ?_
    refine e_next ?_
    refine c_seq ?_
    refine c_block ?_
    refine c_seq ?_
    refine c_region ?_
    refine r_val .none rfl (p_move rfl) ?_
    refine r_iaddr_g .none rfl Try.underlying109 sz108 rfl hL rfl (by first | exact of_decide_eq_true rfl | omega) (fun p_8 o_9 R_7 => ?_)
    refine r_val .none rfl (p_ldga0 Try.underlying108 rfl sz108 rfl R_7 (by first | exact of_decide_eq_true rfl | omega) (rfl : _ = Value.agg #[_, _, _, _])) ?_
    refine r_alloc .none rfl zr108 (IsRow.lit _) (fun b_1 => ?_)
    refine r_val .none rfl (p_assign rfl) ?_
    refine r_stw (k := 0) .none sz108 rfl rfl (IsRow.lit _) (one_lit rfl rfl) rfl ?_
    refine r_nil ?_
    refine e_next ?_
    refine c_seq ?_
    refine c_region ?_
    refine r_val .none rfl (p_field Try.underlying108 rfl sz3 rfl) ?_
    refine r_val .none rfl (p_ld (k := 0) Try.underlying3 rfl rfl rfl (by first | exact of_decide_eq_true rfl | omega) (rfl : _ = Value.int _ _)) ?_
    refine r_val .none rfl (p_eq rfl rfl) ?_
    refine r_val .none rfl (p_move rfl) ?_
    refine' r_and (c := 21) (d := 26) [_, _, _, _, _] rfl (fun h_10 Q_11 hQ_12 => ?_) (fun h_10 Q_11 hQ_12 => ?_) ?_
    rotate_left 1
    ·
     replace h_10 := of_decide_eq_true h_10
     refine r_val (.some rfl rfl) rfl (p_field Try.underlying108 rfl sz3 rfl) ?_
     refine r_val (.some rfl rfl) rfl (p_ld (k := 0) Try.underlying3 rfl rfl rfl (by first | exact of_decide_eq_true rfl | omega) (rfl : _ = Value.int _ _)) ?_
     refine r_val (.some rfl rfl) rfl (p_move rfl) ?_
     refine r_val (.some rfl rfl) rfl (p_eq rfl rfl) ?_
     refine r_val .none rfl (p_pick_t rfl rfl) ?_
     refine r_nil (e_fin (d := 26) hQ_12 rfl (by repeat (first | exact .refl | refine .put rfl ?_ | refine .say rfl ?_ | refine .say2 rfl (by first | assumption | simp_all) ?_)))
    ·
     repeat (first | refine r_skip rfl (.no rfl rfl) ?_ | refine r_skip rfl (.un rfl rfl) ?_)
     refine r_val (by first | exact .none | exact .some rfl rfl) rfl (p_pick_f rfl rfl) ?_
     refine r_nil (e_fin (d := 26) hQ_12 rfl (by repeat (first | exact .refl | refine .put rfl ?_ | refine .say rfl ?_ | refine .say2 rfl (by first | assumption | simp_all) ?_)))
    refine r_val .none rfl (p_move rfl) ?_
    refine' r_and (c := 27) (d := 30) [_, _, _] rfl (fun h_14 Q_15 hQ_16 => ?_) (fun h_14 Q_15 hQ_16 => ?_) ?_
    rotate_left 1
    ·
     try simp only [norms] at h_14
     refine r_val (.some rfl rfl) rfl (p_move rfl) ?_
     refine r_val (.some rfl rfl) rfl (p_ne rfl rfl) ?_
     refine r_val .none rfl (p_pick_t rfl rfl) ?_
     refine r_nil (e_fin (d := 30) hQ_16 rfl (by repeat (first | exact .refl | refine .put rfl ?_ | refine .say rfl ?_ | refine .say2 rfl (by first | assumption | simp_all) ?_)))
    ·
     repeat (first | refine r_skip rfl (.no rfl rfl) ?_ | refine r_skip rfl (.un rfl rfl) ?_)
     refine r_val (by first | exact .none | exact .some rfl rfl) rfl (p_pick_f rfl rfl) ?_
     refine r_nil (e_fin (d := 30) hQ_16 rfl (by repeat (first | exact .refl | refine .put rfl ?_ | refine .say rfl ?_ | refine .say2 rfl (by first | assumption | simp_all) ?_)))
    refine r_nil ?_
    refine e_next ?_
    refine c_split (d := 30) rfl (fun h_18 => ?_) (fun h_18 => ?_)
    ·
     try simp only [norms] at h_18
     have hQ0 := h_18
     have hQ : (isWith f) (l.getD j r0) = true := by (simp only [isWith, decide_eq_true_eq]; simp_all)
     first
      | (exfalso; omega)
      | (
       refine c_cond_t rfl ?_
       refine c_region ?_
       refine r_val .none rfl (p_move rfl) ?_
       refine r_val .none rfl (p_move rfl) ?_
       refine r_val .none rfl (p_add rfl rfl (by omega)) ?_
       refine r_bslice (vs := [(0, Value.int _ _)]) (c := #[_]) .none rfl Try.underlying42 el3 rfl rfl rfl (bs3_10i2 _ _) (IsRow.lit _) (fun b_2 => ?_)
       refine r_append (k := 2) (k2 := 0) .none rfl Try.underlying42 el3 rfl (by decide) rfl rfl rfl rfl rfl (one_lit rfl rfl) (by simp only [maxLen]; omega) (by omega) (fun v_19 => ?_)
       refine r_row1 (k := 2) rfl (fun o_20 => ?_)
       refine r_val .none rfl (p_assign rfl) ?_
       refine r_nil ?_
       refine e_norm_block ?_
       refine e_next ?_
       refine c_region ?_
       refine r_val .none rfl (p_add rfl rfl (by omega)) ?_
       refine r_val .none rfl (p_move rfl) ?_
       refine r_nil ?_
       refine e_round ((j + 1, _)) ⟨by dsimp only; omega, by dsimp only; omega⟩ rfl ⟨rfl, rfl, rfl, rfl, rfl, rfl, trivial⟩ (.drop (.drop (.keep (fun _ _ h => by rw [selF, if_pos hQ]; exact rowA_snoc rfl rfl rfl rfl _ _ h) (.nil))))
       )
    ·
     try simp only [norms] at h_18
     have hQ0 := h_18
     have hQ : ¬ (isWith f) (l.getD j r0) = true := by (intro h7; simp only [isWith, decide_eq_true_eq] at h7; first | (rcases hQ0 with (h8 | h8) | h8; exact h8 h7.1; exact h8 h7.2.1; first | exact h8 h7.2.2 | exact h7.2.2 h8) | (rcases hQ0 with h8 | h8; exact h8 h7.1; exact h8 h7.2))
     first
      | (exfalso; omega)
      | (
       refine c_cond_f rfl ?_
       refine c_skip ?_
       refine e_norm_block ?_
       refine e_next ?_
       refine c_region ?_
       refine r_val .none rfl (p_add rfl rfl (by omega)) ?_
       refine r_val .none rfl (p_move rfl) ?_
       refine r_nil ?_
       refine e_round ((j + 1, _)) ⟨by dsimp only; omega, by dsimp only; omega⟩ rfl ⟨rfl, rfl, rfl, rfl, rfl, rfl, trivial⟩ (.drop (.keep (fun _ _ h => by rw [selF, if_neg hQ, List.append_nil]; exact h) (.nil)))
       )
    )
 ·
  first
   | (exfalso; omega)
   | (
    refine c_cond_f rfl ?_
    refine c_exit ?_
    refine e_exit_then ?_
    refine e_exit_then ?_
    refine e_exit_block ?_
    refine e_next ?_
    refine c_seq ?_
    refine c_region ?_
    refine r_val .none rfl (p_move rfl) ?_
    refine r_val .none rfl (p_assign rfl) ?_
    refine r_nil ?_
    refine e_next ?_
    refine c_ret ?_
    refine e_ret1 Try.results92 (.tmp rfl .nil) (fun w hm => hm.made [rowA ov 3 1 (selF (isWith f) l l.length).length ((selF (isWith f) l l.length).flatMap cI)] (.keep (fun _ _ h => rowA_congr (by rw [show j = l.length by omega]) (by rw [show j = l.length by omega]) _ _ h) (.nil)) _ (fun F' h => starL_one1 h))
    )
end Go.Proofs.Ytdcaehepmkhciaa

/- Walks: what Go functions of this chapter come to, each as a function on plain data; no condition but those that each theorem names. Printed by a program of this work (gen.py). -/
namespace Go.Proofs.Ytdcaehepmkhciaa
open Go.Gx Go.Gx Go.Gx.T10 Go.Gx.T12 Go.Gx.T10 Go.Gx.T11 Go.Gx.T15 Go.Gx.T12 Go.Gx.T6 Go.Gx.T4
theorem cl57 : Callable Try.prog 57 := callable Try.func57 (by kernel_rfl) rfl
theorem cl94 : Callable Try.prog 94 := callable Try.func94 (by kernel_rfl) rfl
def XUpIs (n : Nat) : Prop := ∀ (b : Nat) (lv : Value) (l : List RTk) (id : Int) (a : ByteArray) (G : Ghost) (w : World), RowAt G b 0 1 (at_ [lv]) → SlL G lv 4 rC r0 l → l.length ≤ 1000 → (∀ k, rThere l k = true → (rAt l k).1 < k) → id.toNat < n → Has G w → Calls Try.prog 94 #[.pointer (some ⟨b, 0, none⟩), .int .i64 id, kS a] w (Ret fun r w' => r = Value.int .i64 (rUp n l id a) ∧ Since nX w w')
theorem c_xlen (b : Nat) (lv : Value) (l : List RTk) {G : Ghost} (hR : RowAt G b 0 1 (at_ [lv])) (hL : SlL G lv 4 rC r0 l) (hn : l.length ≤ 1000) (w : World) (hG : Has G w) :
  Calls Try.prog 87 #[Value.pointer (some ⟨b, 0, none⟩)] w (Ret fun r w' => r = Value.int .i64 ((selF isIn l l.length).length : Nat) ∧ Since nX w w') := by
 refine enter (args := [_]) (X := nX) (G := G) (l := [(0, Value.pointer (some ⟨b, 0, none⟩))]) Try.func87 rfl Try.ntmps87 hG ⟨rfl, trivial⟩ (Nat.le_of_ble_eq_true rfl) ?_
 refine c_seq ?_
 refine c_region ?_
 refine r_val .none rfl (p_assign rfl) ?_
 refine r_nil ?_
 refine e_next ?_
 refine c_seq ?_
 refine c_region ?_
 refine r_val .none rfl (p_assign rfl) ?_
 refine r_nil ?_
 refine e_next ?_
 refine c_seq ?_
 refine c_seq ?_
 refine c_region ?_
 refine r_val .none rfl (p_move rfl) ?_
 refine r_val .none rfl (p_nilcheck rfl) ?_
 refine r_val .none rfl (p_field Try.underlying111 rfl sz109 rfl) ?_
 refine r_val .none rfl (p_ldg (j := 0) Try.underlying109 rfl rfl hR (by first | exact of_decide_eq_true rfl | omega) rfl) ?_
 refine r_val .none rfl (p_leng Try.underlying109 rfl hL) ?_
 have bd_1 := (hL).bound
 refine r_val .none rfl (p_move rfl) ?_
 refine r_nil ?_
 refine e_next ?_
 refine c_block ?_
 refine c_name (d := 2) rfl (fun u_2 hu_2 => ?_)
 refine c_name (d := 9) rfl (fun u_3 hu_3 => ?_)
 refine c_name (d := 10) rfl (fun u_4 hu_4 => ?_)
 refine c_loop (σ := Nat × Nat) (fun s' => [(11, Value.int .i64 (s'.1 : Nat)), (3, Value.int .i64 (s'.2 : Nat)), (2, u_2), (9, u_3), (10, u_4)]) (fun s' => []) (fun _ => _) (fun s' => s'.1 ≤ l.length ∧ s'.2 = (selF isIn l s'.1).length) (fun s' => l.length - s'.1) ((0, 0)) ⟨Nat.zero_le _, rfl⟩ rfl ⟨rfl, rfl, rfl, rfl, rfl, trivial⟩ (.nil) (fun s' hphi => ?_)
 subst hu_2
 subst hu_3
 subst hu_4
 obtain ⟨j, m⟩ := s'
 obtain ⟨hj, hm0⟩ := hphi
 dsimp only at hj hm0 ⊢
 have hsl := selF_len isIn l j
 refine c_seq ?_
 refine c_region ?_
 refine r_val .none rfl (p_lt rfl rfl) ?_
 refine r_nil ?_
 refine e_next ?_
 refine c_seq ?_
 refine c_splitd (d := 12) rfl (fun h_5 => ?_) (fun h_5 => ?_)
 ·
  first
   | (exfalso; omega)
   | (
    refine c_cond_t rfl ?_
    refine c_skip ?_
    refine e_next ?_
    refine c_seq ?_
    refine c_block ?_
    refine c_seq ?_
    refine c_region ?_
    refine r_iaddr_g .none rfl Try.underlying109 sz108 rfl hL rfl (by first | exact of_decide_eq_true rfl | omega) (fun p_7 o_8 R_6 => ?_)
    refine r_val .none rfl (p_ldga0 Try.underlying108 rfl sz108 rfl R_6 (by first | exact of_decide_eq_true rfl | omega) (rfl : _ = Value.agg #[_, _, _, _])) ?_
    refine r_alloc .none rfl zr108 (IsRow.lit _) (fun b_1 => ?_)
    refine r_stw (k := 0) .none sz108 rfl rfl (IsRow.lit _) (one_lit rfl rfl) rfl ?_
    refine r_nil ?_
    refine e_next ?_
    refine c_seq ?_
    refine c_region ?_
    refine r_val .none rfl (p_field Try.underlying108 rfl sz3 rfl) ?_
    refine r_val .none rfl (p_ld (k := 0) Try.underlying3 rfl rfl rfl (by first | exact of_decide_eq_true rfl | omega) (rfl : _ = Value.int _ _)) ?_
    refine r_val .none rfl (p_eq rfl rfl) ?_
    refine r_nil ?_
    refine e_next ?_
    refine c_splitd (d := 17) rfl (fun h_9 => ?_) (fun h_9 => ?_)
    ·
     have hQ : isIn (l.getD j r0) = true := decide_eq_true h_9
     first
      | (exfalso; omega)
      | (
       refine c_cond_t rfl ?_
       refine c_region ?_
       refine r_val .none rfl (p_move rfl) ?_
       refine r_val .none rfl (p_add rfl rfl (by omega)) ?_
       refine r_val .none rfl (p_assign rfl) ?_
       refine r_nil ?_
       refine e_norm_block ?_
       refine e_next ?_
       refine c_region ?_
       refine r_val .none rfl (p_add rfl rfl (by omega)) ?_
       refine r_val .none rfl (p_move rfl) ?_
       refine r_nil ?_
       refine e_round ((j + 1, m + 1)) ⟨⟨by dsimp only; omega, by dsimp only; rw [selF, if_pos hQ, hm0]; simp⟩, by dsimp only; omega⟩ rfl ⟨rfl, rfl, rfl, rfl, rfl, trivial⟩ (.drop (.nil))
       )
    ·
     have hQ : ¬ isIn (l.getD j r0) = true := fun h7 => h_9 (of_decide_eq_true h7)
     first
      | (exfalso; omega)
      | (
       refine c_cond_f rfl ?_
       refine c_skip ?_
       refine e_norm_block ?_
       refine e_next ?_
       refine c_region ?_
       refine r_val .none rfl (p_add rfl rfl (by omega)) ?_
       refine r_val .none rfl (p_move rfl) ?_
       refine r_nil ?_
       refine e_round ((j + 1, m)) ⟨⟨by dsimp only; omega, by dsimp only; rw [selF, if_neg hQ, hm0]; simp⟩, by dsimp only; omega⟩ rfl ⟨rfl, rfl, rfl, rfl, rfl, trivial⟩ (.drop (.nil))
       )
    )
 ·
  first
   | (exfalso; omega)
   | (
    refine c_cond_f rfl ?_
    refine c_exit ?_
    refine e_exit_then ?_
    refine e_exit_then ?_
    refine e_exit_block ?_
    refine e_next ?_
    refine c_seq ?_
    refine c_region ?_
    refine r_val .none rfl (p_move rfl) ?_
    refine r_val .none rfl (p_assign rfl) ?_
    refine r_nil ?_
    refine e_next ?_
    refine c_ret ?_
    refine e_ret1 Try.results87 (.tmp rfl .nil) (fun w hm => ⟨?_, hm.since⟩)
    (rw [hm0, show j = l.length by omega])
    )
theorem c_xup_s (n : Nat) (ih : XUpIs n) (b : Nat) (lv : Value) (l : List RTk) {G : Ghost} (id : Int) (a : ByteArray) (hR : RowAt G b 0 1 (at_ [lv])) (hL : SlL G lv 4 rC r0 l) (hn : l.length ≤ 1000) (hO : ∀ k, rThere l k = true → (rAt l k).1 < k) (hid : id.toNat < n + 1) (w : World) (hG : Has G w) :
  Calls Try.prog 94 #[Value.pointer (some ⟨b, 0, none⟩), Value.int .i64 id, kS a] w (Ret fun r w' => r = Value.int .i64 (rUp (n + 1) l id a) ∧ Since nX w w') := by
 refine enter (args := [_, _, _]) (X := nX) (G := G) (l := [(0, Value.pointer (some ⟨b, 0, none⟩)), (1, Value.int .i64 id), (2, kS a)]) Try.func94 rfl Try.ntmps94 hG ⟨rfl, rfl, rfl, trivial⟩ (Nat.le_of_ble_eq_true rfl) ?_
 refine c_seq ?_
 refine c_region ?_
 refine r_val .none rfl (p_assign rfl) ?_
 refine r_nil ?_
 refine e_next ?_
 refine c_seq ?_
 refine c_seq ?_
 refine c_region ?_
 refine r_val .none rfl (p_move rfl) ?_
 refine r_val .none rfl (p_move rfl) ?_
 refine r_call (vs := [_, _]) .none rfl cl57 rfl (fun w hw => c_xthere _ _ _ _ hR hL w hw) ?_
 refine r_val .none rfl (p_not rfl) ?_
 refine r_nil ?_
 refine e_next ?_
 refine c_splitn (d := 10) rfl (fun h_1 => ?_) (fun h_1 => ?_)
 ·
  have hT : ¬ rThere l id = true := by (have h9 := h_1; simpa using h9)
  first
   | (exfalso; omega)
   | (
    refine c_cond_t rfl ?_
    refine c_seq ?_
    refine c_region ?_
    refine r_val .none rfl (p_assign rfl) ?_
    refine r_nil ?_
    refine e_next ?_
    refine c_ret ?_
    refine e_ret_then ?_
    refine e_ret1 Try.results94 (.tmp rfl .nil) (fun w hm => ⟨?_, hm.since⟩)
    first
    | (rw [rUp, if_neg hT]; done)
    | (rw [rUp, if_pos hT, if_pos hE]; done)
    | (rw [rUp, if_pos hT, if_neg hE]; done)
    )
 ·
  have hT : rThere l id = true := by (have h9 := h_1; simpa using h9)
  have hT2 := there_of.1 hT
  first
   | (exfalso; omega)
   | (
    refine c_cond_f rfl ?_
    refine c_skip ?_
    refine e_next ?_
    refine c_seq ?_
    refine c_seq ?_
    refine c_region ?_
    refine r_val .none rfl (p_move rfl) ?_
    refine r_val .none rfl (p_nilcheck rfl) ?_
    refine r_val .none rfl (p_field Try.underlying111 rfl sz109 rfl) ?_
    refine r_val .none rfl (p_ldg (j := 0) Try.underlying109 rfl rfl hR (by first | exact of_decide_eq_true rfl | omega) rfl) ?_
    refine r_val .none rfl (p_move rfl) ?_
    refine r_val .none rfl (p_sub rfl rfl (by omega)) ?_
    rw [show id - 1 = (((id - 1).toNat : Nat) : Int) by omega]
    refine r_iaddr_g .none rfl Try.underlying109 sz108 rfl hL rfl (by first | exact of_decide_eq_true rfl | omega) (fun p_3 o_4 R_2 => ?_)
    refine r_val .none rfl (p_field Try.underlying108 rfl sz9 rfl) ?_
    refine r_val .none rfl (p_ldg (j := 1) Try.underlying9 rfl rfl R_2 (by first | exact of_decide_eq_true rfl | omega) (rfl : _ = Value.string _)) ?_
    refine r_val .none rfl (p_move rfl) ?_
    refine r_val .none rfl (p_eqs rfl rfl) ?_
    refine r_nil ?_
    refine e_next ?_
    refine c_splitd (d := 21) rfl (fun h_5 => ?_) (fun h_5 => ?_)
    ·
     have hE : (rAt l id).2.1 = a := h_5
     first
      | (exfalso; omega)
      | (
       refine c_cond_t rfl ?_
       refine c_seq ?_
       refine c_region ?_
       refine r_val .none rfl (p_move rfl) ?_
       refine r_val .none rfl (p_assign rfl) ?_
       refine r_nil ?_
       refine e_next ?_
       refine c_ret ?_
       refine e_ret_then ?_
       refine e_ret1 Try.results94 (.tmp rfl .nil) (fun w hm => ⟨?_, hm.since⟩)
       first
       | (rw [rUp, if_neg hT]; done)
       | (rw [rUp, if_pos hT, if_pos hE]; done)
       | (rw [rUp, if_pos hT, if_neg hE]; done)
       )
    ·
     have hE : ¬ (rAt l id).2.1 = a := h_5
     first
      | (exfalso; omega)
      | (
       refine c_cond_f rfl ?_
       refine c_skip ?_
       refine e_next ?_
       refine c_seq ?_
       refine c_region ?_
       refine r_val .none rfl (p_move rfl) ?_
       refine r_val .none rfl (p_move rfl) ?_
       refine r_val .none rfl (p_nilcheck rfl) ?_
       refine r_val .none rfl (p_field Try.underlying111 rfl sz109 rfl) ?_
       refine r_val .none rfl (p_ldg (j := 0) Try.underlying109 rfl rfl hR (by first | exact of_decide_eq_true rfl | omega) rfl) ?_
       refine r_val .none rfl (p_move rfl) ?_
       refine r_val .none rfl (p_sub rfl rfl (by omega)) ?_
       rw [show id - 1 = (((id - 1).toNat : Nat) : Int) by omega]
       refine r_iaddr_g .none rfl Try.underlying109 sz108 rfl hL rfl (by first | exact of_decide_eq_true rfl | omega) (fun p_7 o_8 R_6 => ?_)
       refine r_val .none rfl (p_field Try.underlying108 rfl sz3 rfl) ?_
       refine r_val .none rfl (p_ldg (j := 0) Try.underlying3 rfl rfl R_6 (by first | exact of_decide_eq_true rfl | omega) (rfl : _ = Value.int _ _)) ?_
       refine r_val .none rfl (p_move rfl) ?_
       refine r_call (vs := [_, _, _]) .none rfl cl94 rfl (fun w hw => ih b _ l (rAt l id).1 a _ w hR hL hn hO (by have h8 := hO id hT; omega) hw) ?_
       refine r_val .none rfl (p_assign rfl) ?_
       refine r_nil ?_
       refine e_next ?_
       refine c_ret ?_
       refine e_ret1 Try.results94 (.tmp rfl .nil) (fun w hm => ⟨?_, hm.since⟩)
       first
       | (rw [rUp, if_neg hT]; done)
       | (rw [rUp, if_pos hT, if_pos hE]; done)
       | (rw [rUp, if_pos hT, if_neg hE]; done)
       )
    )
theorem c_xup : ∀ n, XUpIs n
 | 0 => fun b lv l id a G w _ _ _ _ h => absurd h (Nat.not_lt_zero _)
 | n + 1 => fun b lv l id a G w hR hL hn hO hid hG => c_xup_s n (c_xup n) b lv l id a hR hL hn hO hid w hG
end Go.Proofs.Ytdcaehepmkhciaa

/- Walks: what Go functions of this chapter come to, each as a function on plain data; no condition but those that each theorem names. Printed by a program of this work (gen.py). -/
namespace Go.Proofs.Ytdcaehepmkhciaa
open Go.Gx Go.Gx Go.Gx.T10 Go.Gx.T12 Go.Gx.T10 Go.Gx.T11 Go.Gx.T15 Go.Gx.T12 Go.Gx.T6 Go.Gx.T4
theorem cl89 : Callable Try.prog 89 := callable Try.func89 (by kernel_rfl) rfl
theorem rFacts_len (l : List RTk) : ∀ (n : Nat) (id : Int), (rFacts n l id).length ≤ n
 | 0, _ => Nat.le_refl _
 | n + 1, id => by
  have := rFacts_len l n (rAt l id).1
  rw [rFacts]
  split
  · rw [List.length_append]; split <;> simp <;> omega
  · simp
def XFIs (n : Nat) : Prop := ∀ (b : Nat) (lv : Value) (l : List RTk) (id : Int) (G : Ghost) (w : World), RowAt G b 0 1 (at_ [lv]) → SlL G lv 4 rC r0 l → l.length ≤ 1000 → n ≤ 1100 → (∀ k, rThere l k = true → (rAt l k).1 < k) → id.toNat < n → Has G w → Calls Try.prog 89 #[.pointer (some ⟨b, 0, none⟩), .int .i64 id] w (Ret fun r w' => Since nX w w' ∧ ∃ F', (rowA r 3 1 (rFacts n l id).length ((rFacts n l id).flatMap cI)).holds w' F' ∧ ∀ b, F' b → w.heap.size ≤ b)
theorem c_xfacts_s (n : Nat) (ih : XFIs n) (b : Nat) (lv : Value) (l : List RTk) {G : Ghost} (id : Int) (hR : RowAt G b 0 1 (at_ [lv])) (hL : SlL G lv 4 rC r0 l) (hn : l.length ≤ 1000) (hO : ∀ k, rThere l k = true → (rAt l k).1 < k) (hid : id.toNat < n + 1) (hn1 : n + 1 ≤ 1100) (w : World) (hG : Has G w) :
  Calls Try.prog 89 #[Value.pointer (some ⟨b, 0, none⟩), Value.int .i64 id] w (Ret fun r w' => Since nX w w' ∧ ∃ F', (rowA r 3 1 (rFacts (n + 1) l id).length ((rFacts (n + 1) l id).flatMap cI)).holds w' F' ∧ ∀ b, F' b → w.heap.size ≤ b) := by
 refine enter (args := [_, _]) (X := nX) (G := G) (l := [(0, Value.pointer (some ⟨b, 0, none⟩)), (1, Value.int .i64 id)]) Try.func89 rfl Try.ntmps89 hG ⟨rfl, rfl, trivial⟩ (Nat.le_of_ble_eq_true rfl) ?_
 refine c_seq ?_
 refine c_region ?_
 refine r_val .none rfl (p_assign rfl) ?_
 refine r_nil ?_
 refine e_next ?_
 refine c_seq ?_
 refine c_seq ?_
 refine c_region ?_
 refine r_val .none rfl (p_move rfl) ?_
 refine r_val .none rfl (p_move rfl) ?_
 refine r_call (vs := [_, _]) .none rfl cl57 rfl (fun w hw => c_xthere _ _ _ _ hR hL w hw) ?_
 refine r_val .none rfl (p_not rfl) ?_
 refine r_nil ?_
 refine e_next ?_
 refine c_splitn (d := 9) rfl (fun h_1 => ?_) (fun h_1 => ?_)
 ·
  have hT : ¬ rThere l id = true := by (have h9 := h_1; simpa using h9)
  first
   | (exfalso; omega)
   | (
    refine c_cond_t rfl ?_
    refine c_seq ?_
    refine c_region ?_
    refine r_val .none rfl (p_assign rfl) ?_
    refine r_nil ?_
    refine e_next ?_
    refine c_ret ?_
    refine e_ret_then ?_
    refine e_nilrow 0 3 1 ?_
    refine e_ret1 Try.results89 (.tmp rfl .nil) (fun w hm => hm.made [rowA (.slice none 0 0) 3 1 (rFacts (n + 1) l id).length ((rFacts (n + 1) l id).flatMap cI)] (.keep (fun _ _ h => by rw [rFacts, if_neg hT]; exact h) (.nil)) _ (fun F' h => starL_one1 h))
    )
 ·
  have hT : rThere l id = true := by (have h9 := h_1; simpa using h9)
  have hT2 := there_of.1 hT
  first
   | (exfalso; omega)
   | (
    refine c_cond_f rfl ?_
    refine c_skip ?_
    refine e_next ?_
    refine c_seq ?_
    refine c_region ?_
    refine r_val .none rfl (p_move rfl) ?_
    refine r_val .none rfl (p_move rfl) ?_
    refine r_val .none rfl (p_nilcheck rfl) ?_
    refine r_val .none rfl (p_field Try.underlying111 rfl sz109 rfl) ?_
    refine r_val .none rfl (p_ldg (j := 0) Try.underlying109 rfl rfl hR (by first | exact of_decide_eq_true rfl | omega) rfl) ?_
    refine r_val .none rfl (p_move rfl) ?_
    refine r_val .none rfl (p_sub rfl rfl (by omega)) ?_
    rw [show id - 1 = (((id - 1).toNat : Nat) : Int) by omega]
    refine r_iaddr_g .none rfl Try.underlying109 sz108 rfl hL rfl (by first | exact of_decide_eq_true rfl | omega) (fun p_3 o_4 R_2 => ?_)
    refine r_val .none rfl (p_field Try.underlying108 rfl sz3 rfl) ?_
    refine r_val .none rfl (p_ldg (j := 0) Try.underlying3 rfl rfl R_2 (by first | exact of_decide_eq_true rfl | omega) (rfl : _ = Value.int _ _)) ?_
    refine r_callrow (vs := [_, _]) .none rfl cl89 rfl (fun w hw => ih b _ l (rAt l id).1 _ w hR hL hn (by omega) hO (by have h8 := hO id hT; omega) hw) (fun v_5 => ?_)
    have hfl := rFacts_len l n (rAt l id).1
    refine r_val .none rfl (p_assign rfl) ?_
    refine r_nil ?_
    refine e_next ?_
    refine c_seq ?_
    refine c_seq ?_
    refine c_region ?_
    refine r_val .none rfl (p_move rfl) ?_
    refine r_val .none rfl (p_nilcheck rfl) ?_
    refine r_val .none rfl (p_field Try.underlying111 rfl sz109 rfl) ?_
    refine r_val .none rfl (p_ldg (j := 0) Try.underlying109 rfl rfl hR (by first | exact of_decide_eq_true rfl | omega) rfl) ?_
    refine r_val .none rfl (p_move rfl) ?_
    refine r_val .none rfl (p_sub rfl rfl (by omega)) ?_
    rw [show id - 1 = (((id - 1).toNat : Nat) : Int) by omega]
    refine r_iaddr_g .none rfl Try.underlying109 sz108 rfl hL rfl (by first | exact of_decide_eq_true rfl | omega) (fun p_7 o_8 R_6 => ?_)
    refine r_val .none rfl (p_field Try.underlying108 rfl sz3 rfl) ?_
    refine r_val .none rfl (p_ldg (j := 2) Try.underlying3 rfl rfl R_6 (by first | exact of_decide_eq_true rfl | omega) (rfl : _ = Value.int _ _)) ?_
    refine r_val .none rfl (p_ne rfl rfl) ?_
    refine r_nil ?_
    refine e_next ?_
    refine c_splitd (d := 30) rfl (fun h_9 => ?_) (fun h_9 => ?_)
    ·
     have hE : ¬ (rAt l id).2.2.1 = 0 := h_9
     first
      | (exfalso; omega)
      | (
       refine c_cond_t rfl ?_
       refine c_region ?_
       refine r_val .none rfl (p_move rfl) ?_
       refine r_val .none rfl (p_move rfl) ?_
       refine r_val .none rfl (p_nilcheck rfl) ?_
       refine r_val .none rfl (p_field Try.underlying111 rfl sz109 rfl) ?_
       refine r_val .none rfl (p_ldg (j := 0) Try.underlying109 rfl rfl hR (by first | exact of_decide_eq_true rfl | omega) rfl) ?_
       refine r_val .none rfl (p_move rfl) ?_
       refine r_val .none rfl (p_sub rfl rfl (by omega)) ?_
       rw [show id - 1 = (((id - 1).toNat : Nat) : Int) by omega]
       refine r_iaddr_g .none rfl Try.underlying109 sz108 rfl hL rfl (by first | exact of_decide_eq_true rfl | omega) (fun p_11 o_12 R_10 => ?_)
       refine r_val .none rfl (p_field Try.underlying108 rfl sz3 rfl) ?_
       refine r_val .none rfl (p_ldg (j := 2) Try.underlying3 rfl rfl R_10 (by first | exact of_decide_eq_true rfl | omega) (rfl : _ = Value.int _ _)) ?_
       refine r_bslice (vs := [(0, Value.int _ _)]) (c := #[_]) .none rfl Try.underlying42 el3 rfl rfl rfl (bs3_10i2 _ _) (IsRow.lit _) (fun b_1 => ?_)
       refine r_append (k := 1) (k2 := 0) .none rfl Try.underlying42 el3 rfl (by decide) rfl rfl rfl rfl rfl (one_lit rfl rfl) (by simp only [maxLen]; omega) (by omega) (fun v_13 => ?_)
       refine r_row1 (k := 1) rfl (fun o_14 => ?_)
       refine r_val .none rfl (p_assign rfl) ?_
       refine r_nil ?_
       refine e_next ?_
       refine c_seq ?_
       refine c_region ?_
       refine r_val .none rfl (p_move rfl) ?_
       refine r_val .none rfl (p_assign rfl) ?_
       refine r_nil ?_
       refine e_next ?_
       refine c_ret ?_
       refine e_ret1 Try.results89 (.tmp rfl .nil) (fun w hm => hm.made [rowA v_13 3 1 (rFacts (n + 1) l id).length ((rFacts (n + 1) l id).flatMap cI)] (.drop (.keep (fun _ _ h => by rw [rFacts, if_pos hT, if_neg hE]; exact rowA_snoc rfl rfl rfl rfl _ _ h) (.nil))) _ (fun F' h => starL_one1 h))
       )
    ·
     have hE : (rAt l id).2.2.1 = 0 := Decidable.not_not.1 h_9
     first
      | (exfalso; omega)
      | (
       refine c_cond_f rfl ?_
       refine c_skip ?_
       refine e_next ?_
       refine c_seq ?_
       refine c_region ?_
       refine r_val .none rfl (p_move rfl) ?_
       refine r_val .none rfl (p_assign rfl) ?_
       refine r_nil ?_
       refine e_next ?_
       refine c_ret ?_
       refine e_ret1 Try.results89 (.tmp rfl .nil) (fun w hm => hm.made [rowA v_5 3 1 (rFacts (n + 1) l id).length ((rFacts (n + 1) l id).flatMap cI)] (.keep (fun _ _ h => by rw [rFacts, if_pos hT, if_pos hE, List.append_nil]; exact h) (.nil)) _ (fun F' h => starL_one1 h))
       )
    )
theorem c_xfacts : ∀ n, XFIs n
 | 0 => fun b lv l id G w _ _ _ _ _ h => absurd h (Nat.not_lt_zero _)
 | n + 1 => fun b lv l id G w hR hL hn hn1 hO hid hG => c_xfacts_s n (c_xfacts n) b lv l id hR hL hn hO hid hn1 w hG
end Go.Proofs.Ytdcaehepmkhciaa

/- Walks: what Go functions of this chapter come to, each as a function on plain data; no condition but those that each theorem names. Printed by a program of this work (gen.py). -/
namespace Go.Proofs.Ytdcaehepmkhciaa
open Go.Gx Go.Gx Go.Gx.T10 Go.Gx.T12 Go.Gx.T10 Go.Gx.T11 Go.Gx.T15 Go.Gx.T12 Go.Gx.T6 Go.Gx.T4
theorem cl58 : Callable Try.prog 58 := callable Try.func58 (by kernel_rfl) rfl
theorem cl86 : Callable Try.prog 86 := callable Try.func86 (by kernel_rfl) rfl
def XBIs (n : Nat) : Prop := ∀ (b : Nat) (lv : Value) (l : List RTk) (T : RT ByteArray) (G : Ghost) (w : World), SizeOf.sizeOf T ≤ n → RowAt G b 0 1 (at_ [lv]) → SlL G lv 4 rC r0 l → l.length ≤ 1000 → RFits l T → (post T).length ≤ 1000 → Has G w → Calls Try.prog 58 #[.pointer (some ⟨b, 0, none⟩), .int .i64 T.id] w (Ret fun r w' => Since nX w w' ∧ ∃ F', (rowA r 3 1 (((post T).map (·.1))).length ((((post T).map (·.1))).flatMap cI)).holds w' F' ∧ ∀ b, F' b → w.heap.size ≤ b)
theorem rfitsL_get {l : List RTk} : ∀ {ks : List (RT ByteArray)} {j : Nat} (d : RT ByteArray), RFitsL l ks → j < ks.length → RFits l (ks.getD j d)
 | t :: ts, 0, _, h, _ => h.1
 | t :: ts, j + 1, d, h, hj => by simpa using rfitsL_get (ks := ts) (j := j) d h.2 (by simpa using hj)
theorem c_xbelow_s (n : Nat) (ih : XBIs n) (b : Nat) (lv : Value) (l : List RTk) {G : Ghost} (id : Int) (a : ByteArray) (f : Int) (ks : List (RT ByteArray)) (hR : RowAt G b 0 1 (at_ [lv])) (hL : SlL G lv 4 rC r0 l) (hn : l.length ≤ 1000) (hz : SizeOf.sizeOf ks ≤ n) (hki : selF (isKid id) l l.length = ks.map RT.id) (hkl : RFitsL l ks) (hroom : (postL ks).length + 1 ≤ 1000) (w : World) (hG : Has G w) :
  Calls Try.prog 58 #[Value.pointer (some ⟨b, 0, none⟩), Value.int .i64 id] w (Ret fun r w' => Since nX w w' ∧ ∃ F', (rowA r 3 1 (((post (RT.mk id a f ks)).map (·.1))).length ((((post (RT.mk id a f ks)).map (·.1))).flatMap cI)).holds w' F' ∧ ∀ b, F' b → w.heap.size ≤ b) := by
 refine enter (args := [_, _]) (X := nX) (G := G) (l := [(0, Value.pointer (some ⟨b, 0, none⟩)), (1, Value.int .i64 id)]) Try.func58 rfl Try.ntmps58 hG ⟨rfl, rfl, trivial⟩ (Nat.le_of_ble_eq_true rfl) ?_
 have hlk : (ks.map RT.id).length = ks.length := List.length_map _
 refine c_seq ?_
 refine c_region ?_
 refine r_val .none rfl (p_assign rfl) ?_
 refine r_nil ?_
 refine e_next ?_
 refine c_seq ?_
 refine c_region ?_
 refine r_val .none rfl (p_assign rfl) ?_
 refine r_nil ?_
 refine e_next ?_
 refine c_seq ?_
 refine c_seq ?_
 refine c_region ?_
 refine r_val .none rfl (p_move rfl) ?_
 refine r_val .none rfl (p_move rfl) ?_
 refine r_callrow (vs := [_, _]) .none rfl cl86 rfl (fun w hw => c_xkids b _ l id hR hL hn w hw) (fun v_1 => ?_)
 refine r_freeze (k := 0) rfl (fun G_2 hn_3 hs_4 => ?_)
 replace hR := hR.mono hn_3.le
 replace hL := hL.mono hn_3.le
 have hks : SlL G_2 v_1 1 cI (0 : Int) (ks.map RT.id) := by (rw [← hki]; exact SlL.of (cells := cI) (0 : Int) (fun _ => rfl) rfl hs_4)
 refine r_val .none rfl (p_leng Try.underlying42 rfl hks) ?_
 have bd_5 := (hks).bound
 refine r_val .none rfl (p_move rfl) ?_
 refine r_nil ?_
 refine e_next ?_
 refine c_block ?_
 refine c_nilrow 3 1 ?_
 refine c_name (d := 0) rfl (fun u_6 hu_6 => ?_)
 refine c_name (d := 1) rfl (fun u_7 hu_7 => ?_)
 refine c_name (d := 4) rfl (fun u_8 hu_8 => ?_)
 refine c_name (d := 10) rfl (fun u_9 hu_9 => ?_)
 refine c_name (d := 11) rfl (fun u_10 hu_10 => ?_)
 refine c_loop (σ := Nat × Value × Ghost) (fun s' => [(12, Value.int .i64 (s'.1 : Nat)), (5, s'.2.1), (0, u_6), (1, u_7), (4, u_8), (10, u_9), (11, u_10)]) (fun s' => [rowA (s'.2.1) 3 1 (((postL (ks.take s'.1)).map (·.1))).length ((((postL (ks.take s'.1)).map (·.1))).flatMap cI)]) (fun s' => s'.2.2) (fun s' => s'.1 ≤ ks.length ∧ GNew w nX G_2 s'.2.2) (fun s' => ks.length - s'.1) ((0, _, _)) ⟨Nat.zero_le _, GNew.refl _ _ _⟩ rfl ⟨rfl, rfl, rfl, rfl, rfl, rfl, rfl, trivial⟩ (.keep (fun _ _ h => rowA_nil rfl _ _ h) (.nil)) (fun s' hphi => ?_)
 subst hu_6
 subst hu_7
 subst hu_8
 subst hu_9
 subst hu_10
 obtain ⟨j, ov, H⟩ := s'
 obtain ⟨hj, hgn⟩ := hphi
 dsimp only at hj hgn ⊢
 replace hR := hR.mono hgn.le
 replace hL := hL.mono hgn.le
 replace hks := hks.mono hgn.le
 refine c_seq ?_
 refine c_region ?_
 refine r_val .none rfl (p_lt rfl rfl) ?_
 refine r_nil ?_
 refine e_next ?_
 refine c_seq ?_
 refine c_splitd (d := 13) rfl (fun h_11 => ?_) (fun h_11 => ?_)
 ·
  have hjk : j < ks.length := by (have h9 := h_11; omega)
  have hzj : SizeOf.sizeOf (ks.getD j (RT.mk 0 ByteArray.empty 0 [])) ≤ n := Nat.le_of_lt (Nat.lt_of_lt_of_le (List.sizeOf_lt_of_mem (getD_mem (i := j) (d := (RT.mk 0 ByteArray.empty 0 [])) hjk)) hz)
  have hpl := post_len (RT.mk 0 ByteArray.empty 0 []) hjk
  have hml : ((postL (ks.take j)).map (·.1)).length = (postL (ks.take j)).length := List.length_map _
  have hml2 : ((post (ks.getD j (RT.mk 0 ByteArray.empty 0 []))).map (·.1)).length = (post (ks.getD j (RT.mk 0 ByteArray.empty 0 []))).length := List.length_map _
  first
   | (exfalso; omega)
   | (
    refine c_cond_t rfl ?_
    refine c_skip ?_
    refine e_next ?_
    refine c_seq ?_
    refine c_block ?_
    refine c_seq ?_
    refine c_region ?_
    refine r_iaddr_g .none rfl Try.underlying42 sz3 rfl hks rfl (by first | exact of_decide_eq_true rfl | omega) (fun p_13 o_14 R_12 => ?_)
    refine r_val .none rfl (p_ldg0 Try.underlying3 rfl rfl R_12 (by first | exact of_decide_eq_true rfl | omega) (rfl : _ = Value.int _ _)) ?_
    rw [show (ks.map RT.id).getD j 0 = (ks.getD j (RT.mk 0 ByteArray.empty 0 [])).id from map_id_getD (RT.mk 0 ByteArray.empty 0 []) hjk]
    refine r_val .none rfl (p_assign rfl) ?_
    refine r_nil ?_
    refine e_next ?_
    refine c_region ?_
    refine r_val .none rfl (p_move rfl) ?_
    refine r_val .none rfl (p_move rfl) ?_
    refine r_val .none rfl (p_move rfl) ?_
    refine r_callrow (vs := [_, _]) .none rfl cl58 rfl (fun w hw => ih b _ l (ks.getD j (RT.mk 0 ByteArray.empty 0 [])) _ w hzj hR hL hn (rfitsL_get (RT.mk 0 ByteArray.empty 0 []) hkl hjk) (by have h8 := post_len (RT.mk 0 ByteArray.empty 0 []) hjk; omega) hw) (fun v_15 => ?_)
    refine r_freeze (k := 0) rfl (fun G_17 hn_18 hs_19 => ?_)
    replace hR := hR.mono hn_18.le
    replace hL := hL.mono hn_18.le
    replace hks := hks.mono hn_18.le
    replace R_12 := R_12.mono hn_18.le
    have hs_20 := SlL.of (cells := cI) (0 : Int) (fun _ => rfl) rfl hs_19
    refine r_append_g (k := 0) .none rfl Try.underlying42 el3 rfl (by decide) rfl rfl rfl hs_20 (fun _ _ _ hj => one_lit rfl rfl _ hj) (by simp only [maxLen]; omega) (by omega) (fun v_16 => ?_)
    refine r_row1 (k := 0) rfl (fun o_21 => ?_)
    refine r_val .none rfl (p_assign rfl) ?_
    refine r_nil ?_
    refine e_norm_block ?_
    refine e_next ?_
    refine c_region ?_
    refine r_val .none rfl (p_add rfl rfl (by omega)) ?_
    refine r_val .none rfl (p_move rfl) ?_
    refine r_nil ?_
    refine e_round ((j + 1, _, _)) ⟨⟨by dsimp only; omega, (hgn.trans hn_18)⟩, by dsimp only; omega⟩ rfl ⟨rfl, rfl, rfl, rfl, rfl, rfl, rfl, trivial⟩ (.keep (fun _ _ h => rowA_congr (by rw [postL_next (RT.mk 0 ByteArray.empty 0 []) hjk]; simp) (by rw [postL_next (RT.mk 0 ByteArray.empty 0 []) hjk, List.map_append, List.flatMap_append, flat_all (cells := cI) (fun _ => rfl) (0 : Int)]) _ _ h) (.nil))
    )
 ·
  have hj9 : ks.take j = ks := List.take_of_length_le (by omega)
  have hml : ((postL (ks.take j)).map (·.1)).length = (postL ks).length := by rw [hj9]; exact List.length_map _
  first
   | (exfalso; omega)
   | (
    refine c_cond_f rfl ?_
    refine c_exit ?_
    refine e_exit_then ?_
    refine e_exit_then ?_
    refine e_exit_block ?_
    refine e_next ?_
    refine c_seq ?_
    refine c_region ?_
    refine r_val .none rfl (p_move rfl) ?_
    refine r_val .none rfl (p_move rfl) ?_
    refine r_bslice (vs := [(0, Value.int _ _)]) (c := #[_]) .none rfl Try.underlying42 el3 rfl rfl rfl (bs3_10i2 _ _) (IsRow.lit _) (fun b_1 => ?_)
    refine r_append (k := 1) (k2 := 0) .none rfl Try.underlying42 el3 rfl (by decide) rfl rfl rfl rfl rfl (one_lit rfl rfl) (by simp only [maxLen]; omega) (by omega) (fun v_22 => ?_)
    refine r_row1 (k := 1) rfl (fun o_23 => ?_)
    refine r_val .none rfl (p_assign rfl) ?_
    refine r_nil ?_
    refine e_next ?_
    refine c_ret ?_
    refine e_ret1 Try.results58 (.tmp rfl .nil) (fun w hm => hm.made [rowA v_22 3 1 (((post (RT.mk id a f ks)).map (·.1))).length ((((post (RT.mk id a f ks)).map (·.1))).flatMap cI)] (.drop (.keep (fun _ _ h => rowA_snoc (l := ((postL (ks.take j)).map (·.1))) (x := id) (by rw [hj9]; simp [post]) rfl rfl rfl _ _ h) (.nil))) _ (fun F' h => starL_one1 h))
    )
theorem c_xbelow : ∀ n, XBIs n
 | 0 => fun b lv l T G w hz => by cases T; simp at hz
 | n + 1 => fun b lv l T G w hz hR hL hn hf hlen hG => by
  obtain ⟨id, a, f, ks⟩ := T
  have hl : (post (RT.mk id a f ks)).length = (postL ks).length + 1 := by simp [post]
  exact c_xbelow_s n (c_xbelow n) b lv l id a f ks hR hL hn (by simp at hz; omega) hf.1 hf.2 (by omega) w hG
end Go.Proofs.Ytdcaehepmkhciaa

/- Plain laws of trees of tokens: who is at a place. -/
namespace Go.Gx.T15
open Go.Gx Go.Gx.T10 Go.Gx.T12
theorem PInv.new (a : ByteArray) : PInv (newS a) := by
  refine (Nst.put Nst.nil a 1).congr (fun b id => ?_)
  simp only [newS, lkp]
  constructor
  · rintro (⟨rfl, rfl⟩ | h)
    · exact ⟨_, by rw [if_pos rfl], rfl⟩
    · exact h.elim
  · rintro ⟨x, hx, hf⟩
    split at hx
    · rename_i h1
      simp only [Option.some.injEq] at hx; subst hx
      exact .inl ⟨hf.symm, h1.symm⟩
    · cases hx
theorem PInv.add {s : TS (Tk ByteArray) ByteArray} (hI : TInv s) (h : PInv s) {par : Int} {x : Tk ByteArray} (hx : lkp s.toks par = some x) (a : ByteArray) (f : Int) : PInv (addS s par a f) := by
  have hr := hI.rng par x hx
  have hlk := add_lkp (a := a) (f := f) hx
  have hfresh : lkp s.toks (s.last + 1) = none := by
    cases e : lkp s.toks (s.last + 1) with
    | none => rfl
    | some y => have := hI.rng _ y e; omega
  have epl : (addS s par a f).pl = nput s.pl a (s.last + 1) := by unfold addS; rw [hx]
  unfold PInv
  rw [epl]
  refine (Nst.put h a (s.last + 1)).congr (fun b id => ?_)
  rw [hlk]
  by_cases h1 : par = id
  · subst h1
    rw [if_pos rfl, hx]
    constructor
    · rintro (⟨_, h2⟩ | ⟨y, hy, hg⟩)
      · omega
      · simp only [Option.some.injEq] at hy; subst hy; exact ⟨_, rfl, hg⟩
    · rintro ⟨y, hy, hg⟩
      simp only [Option.some.injEq] at hy; subst hy
      exact .inr ⟨x, rfl, hg⟩
  · rw [if_neg h1]
    by_cases h2 : s.last + 1 = id
    · subst h2
      rw [if_pos rfl, hfresh]
      constructor
      · rintro (⟨h3, _⟩ | ⟨y, hy, _⟩)
        · exact ⟨_, rfl, h3.symm⟩
        · cases hy
      · rintro ⟨y, hy, hg⟩
        simp only [Option.some.injEq] at hy; subst hy
        exact .inl ⟨hg.symm, rfl⟩
    · rw [if_neg h2]
      exact ⟨fun h3 => by rcases h3 with h3 | h3; exact absurd h3.2.symm h2; exact h3, .inr⟩
theorem outs_pl : ∀ (gs : List (Gn ByteArray)) (s : TS (Tk ByteArray) ByteArray) (S : ByteArray → Int → Prop), Nst s.pl S → Nst (outs s gs).pl (fun a id => S a id ∧ ∀ g ∈ gs, ¬ (g.1 = id ∧ g.2.1 = a))
  | [], s, S, h => h.congr (fun f id => by simp)
  | g :: t, s, S, h => by
    have h1 : Nst (out1 s g).pl (fun a id => S a id ∧ ¬ (g.1 = id ∧ g.2.1 = a)) := (h.drop g.2.1 g.1).congr (fun a id => ⟨fun ⟨h2, h3⟩ => ⟨h3, fun ⟨h4, h5⟩ => h2 ⟨h5.symm, h4.symm⟩⟩, fun ⟨h2, h3⟩ => ⟨fun ⟨h4, h5⟩ => h3 ⟨h5.symm, h4.symm⟩, h2⟩⟩)
    refine (outs_pl t (out1 s g) _ h1).congr (fun f id => ?_)
    simp only [List.forall_mem_cons]
    exact and_assoc
theorem PInv.del {s : TS (Tk ByteArray) ByteArray} {id : Int} {x xp : Tk ByteArray} {T : RT ByteArray} (hI : TInv s) (h : PInv s) (hp : lkp s.toks x.par = some xp) (g : Goes s id T) : PInv (delS s x xp id T) := by
  have h1 := outs_pl (post T) (lessS s x.par (less xp id)) _ (show Nst (lessS s x.par (less xp id)).pl _ from h)
  refine Nst.congr h1 (fun a k => ?_)
  rw [del_lkp hI]
  constructor
  · rintro ⟨⟨y, hy, hf⟩, h3⟩
    have hk : ¬ k ∈ (post T).map (·.1) := fun hm => by
      obtain ⟨q, hq, rfl⟩ := List.mem_map.1 hm
      obtain ⟨z, hz, hz2, _⟩ := fitsG_fac g.fit q hq
      rw [hy] at hz; simp only [Option.some.injEq] at hz; subst hz
      exact h3 q hq ⟨rfl, hz2.symm.trans hf⟩
    rw [if_neg hk]
    by_cases h4 : x.par = k
    · rw [if_pos h4]; subst h4
      rw [hp] at hy; simp only [Option.some.injEq] at hy; subst hy
      exact ⟨_, rfl, hf⟩
    · rw [if_neg h4]; exact ⟨y, hy, hf⟩
  · rintro ⟨y, hy, hf⟩
    split at hy
    · cases hy
    · rename_i hk
      refine ⟨?_, fun q hq ⟨h4, _⟩ => hk (by rw [← h4]; exact List.mem_map.2 ⟨q, hq, rfl⟩)⟩
      split at hy
      · rename_i h4; subst h4
        simp only [Option.some.injEq] at hy; subst hy
        exact ⟨xp, hp, hf⟩
      · exact ⟨y, hy, hf⟩
end Go.Gx.T15

/- The document's tree in memory: a box with a row of tokens. -/
namespace Go.Gx.T15
open Go.Gx Go.Gx.T10 Go.Gx.T12
def refA (T E : TypeId) (b : Nat) (l : List RTk) : Asrt := exA fun v : Value => starL [box b 1 T (at_ [v]), rowA v E 4 l.length (l.flatMap rC)]
section
variable {P : Program} {f : FuncId} {vs : Array Value} {T E : TypeId} {b : Nat} {l : List RTk} {G : Ghost} {w : World} {F : Nat → Prop}
theorem ref_freeze {F1 : Nat → Prop} (hM : Mem F1 w G w [refA T E b l]) : ∃ G', GNew w F1 G G' ∧ (∃ lv, RowAt G' b 0 1 (at_ [lv]) ∧ SlL G' lv 4 rC r0 l) ∧ Has G' w := by
  obtain ⟨v, hv⟩ := hM.unex
  obtain ⟨G1, n1, r1, h1⟩ := hv.unpack.freezeX (k := 0) rfl
  obtain ⟨G2, n2, r2, h2⟩ := h1.freeze (k := 0) rfl
  exact ⟨G2, n1.trans n2, ⟨v, r1.mono n2.le, SlL.of (cells := rC) r0 (fun _ => rfl) rfl r2⟩, h2.has⟩
theorem pure_in {A : Asrt} {w : World} {F : Nat → Prop} (h : A.holds w F) : (starL [A, pureA True]).holds w F := (starL_two w F).2 ((star_tt A w F).2 h)
/-- A call that reads it. -/
theorem ref_see {R : Value → Prop} (hc : ∀ (G' : Ghost) (lv : Value), GLe G G' → RowAt G' b 0 1 (at_ [lv]) → SlL G' lv 4 rC r0 l → Has G' w → Calls P f vs w (Ret fun r w' => R r ∧ Since nX w w'))
    (hG : Has G w) (hA : (refA T E b l).holds w F) (hF : ∀ b, F b → G b = none) : Calls P f vs w (Ret fun r w' => R r ∧ Kept (refA T E b l) F w w') := by
  refine (with_seen (H := refA T E b l) (A := pureA True) (B := fun _ => pureA True) (R := R) (S := fun G' => ∃ lv, RowAt G' b 0 1 (at_ [lv]) ∧ SlL G' lv 4 rC r0 l) (fun F1 hM => ref_freeze hM) (fun G' F' hle hS hG' hA' _ => ?_) hG (pure_in hA) hF).mono (fun e w' hR => ?_)
  · obtain ⟨lv, h1, h2⟩ := hS
    refine (hc G' lv hle h1 h2 hG').mono (fun e w' hR => ?_)
    cases e with
    | returned r => exact ⟨hR.1, ⟨hR.2.os, hR.2.tape, hR.2.output, hR.2.size, fun k hk _ => hR.2.block k hk id⟩, fun _ => False, ⟨trivial, fun _ h => h⟩, fun _ h => h.elim⟩
    | panicked c => exact hR.elim
    | outgrown => exact hR.elim
  · cases e with
    | returned r => exact ⟨hR.1, hR.2.imp (fun w F h => (star_tt _ w F).1 ((starL_two w F).1 h))⟩
    | panicked c => exact hR.elim
    | outgrown => exact hR.elim
/-- A call that reads it, and hands back a row of its own. -/
theorem ref_seeR {Z : Value → Asrt} (hc : ∀ (G' : Ghost) (lv : Value), GLe G G' → RowAt G' b 0 1 (at_ [lv]) → SlL G' lv 4 rC r0 l → Has G' w → Calls P f vs w (Ret fun r w' => Since nX w w' ∧ ∃ F', (Z r).holds w' F' ∧ ∀ b, F' b → w.heap.size ≤ b))
    (hG : Has G w) (hA : (refA T E b l).holds w F) (hF : ∀ b, F b → G b = none) : Calls P f vs w (Ret fun r w' => Kept (starL [Z r, refA T E b l]) F w w') := by
  refine (with_seen (H := refA T E b l) (A := pureA True) (B := Z) (R := fun _ => True) (S := fun G' => ∃ lv, RowAt G' b 0 1 (at_ [lv]) ∧ SlL G' lv 4 rC r0 l) (fun F1 hM => ref_freeze hM) (fun G' F' hle hS hG' hA' _ => ?_) hG (pure_in hA) hF).mono (fun e w' hR => ?_)
  · obtain ⟨lv, h1, h2⟩ := hS
    refine (hc G' lv hle h1 h2 hG').mono (fun e w' hR => ?_)
    cases e with
    | returned r => exact ⟨trivial, ⟨hR.1.os, hR.1.tape, hR.1.output, hR.1.size, fun k hk _ => hR.1.block k hk id⟩, hR.2.choose, hR.2.choose_spec.1, fun b hb => .inr (hR.2.choose_spec.2 b hb)⟩
    | panicked c => exact hR.elim
    | outgrown => exact hR.elim
  · cases e with
    | returned r => exact hR.2.imp (fun w F h => (star_flip w F).1 h)
    | panicked c => exact hR.elim
    | outgrown => exact hR.elim
end
theorem put_out : ∀ {l : List RTk} {i : Nat}, i < l.length → putL (l.flatMap rC) (i * 4 + 3) [.int .i64 1] = (l.set i ((l.getD i r0).1, (l.getD i r0).2.1, (l.getD i r0).2.2.1, 1)).flatMap rC
  | [], _, h => absurd h (Nat.not_lt_zero _)
  | x :: t, 0, _ => by simp [putL, rC]
  | x :: t, i + 1, h => by
    have ih := put_out (l := t) (i := i) (by simpa using h)
    have e : (i + 1) * 4 + 3 = i * 4 + 3 + 1 + 1 + 1 + 1 := by omega
    rw [e]
    simp only [List.set_cons_succ, List.getD_cons_succ, List.flatMap_cons]
    rw [← ih]
    simp [putL, rC]
theorem outL_next {l : List RTk} {ks : List Int} {j : Nat} (h : j < ks.length) : outL l (ks.take (j + 1)) = out1L (outL l (ks.take j)) (ks.getD j 0) := by
  rw [take_next 0 h]; unfold outL; rw [List.foldl_append]; rfl
theorem put_out1 {l : List RTk} {k : Int} (h1 : 1 ≤ k) (h2 : k ≤ (l.length : Int)) : putL (l.flatMap rC) ((k - 1).toNat * 4 + 3) [.int .i64 1] = (out1L l k).flatMap rC := put_out (by omega)
end Go.Gx.T15

/- Walks: what Go functions of this chapter come to, each as a function on plain data; no condition but those that each theorem names. Printed by a program of this work (gen.py). -/
namespace Go.Proofs.Ytdcaehepmkhciaa
open Go.Gx Go.Gx Go.Gx.T10 Go.Gx.T12 Go.Gx.T10 Go.Gx.T11 Go.Gx.T15 Go.Gx.T12 Go.Gx.T6 Go.Gx.T4
theorem bl108_0i1_1s1_2i1_3i1 (x0 : Int) (x1 : ByteArray) (x2 : Int) (x3 : Int) : Program.built Try.prog 108 [(0, Value.int .i64 x0), (1, Value.string x1), (2, Value.int .i64 x2), (3, Value.int .i64 x3)] = some #[Value.int .i64 x0, Value.string x1, Value.int .i64 x2, Value.int .i64 x3] := by
 kernel_rfl
theorem bl111_0s3 (x0 : Option Addr) (x1 : Nat) (x2 : Nat) : Program.built Try.prog 111 [(0, Value.slice x0 x1 x2)] = some #[Value.slice x0 x1 x2] := by
 kernel_rfl
theorem bs108_10a4 (a0 a1 a2 a3 : Value) : Instr.fill (fun i => some (i * 4, 4)) ((Array.range (1 * 4)).map ((Value.agg #[Value.int .i64 0, Value.string ⟨#[]⟩, Value.int .i64 0, Value.int .i64 0]).cells[· % (Value.agg #[Value.int .i64 0, Value.string ⟨#[]⟩, Value.int .i64 0, Value.int .i64 0]).cells.size]!)) [(0, Value.agg #[a0, a1, a2, a3])] = some #[a0, a1, a2, a3] := by
 kernel_rfl
theorem el108 : ElemIs Try.prog 108 4 40 (Value.agg #[Value.int .i64 0, Value.string ⟨#[]⟩, Value.int .i64 0, Value.int .i64 0]) := by
 unfold ElemIs
 kernel_rfl
def rAdd (l : List RTk) (par : Int) (a : ByteArray) (f : Int) : List RTk := if rThere l par = true then l ++ [(par, a, f, 0)] else l
def rAddN (l : List RTk) (par : Int) : Int := if rThere l par = true then (l.length : Int) + 1 else 0
theorem radd_no {l : List RTk} {par : Int} {a : ByteArray} {f : Int} (h : ¬ rThere l par = true) : rAdd l par a f = l := if_neg h
theorem radd_yes {l : List RTk} {par : Int} {a : ByteArray} {f : Int} (h : rThere l par = true) : rAdd l par a f = l ++ [(par, a, f, 0)] := if_pos h
theorem c_xadd {F : Nat → Prop} {G : Ghost} (b : Nat) (par : Int) (a : ByteArray) (f : Int) (l : List RTk) (hn : l.length ≤ 1000) (w : World) (hG : Has G w) (hA : (refA 111 108 b (l)).holds w F) (hFG : ∀ b, F b → G b = none) :
  Calls Try.prog 56 #[Value.pointer (some ⟨b, 0, none⟩), Value.int .i64 par, kS a, Value.int .i64 f] w (Ret fun r w' => r = Value.int .i64 (rAddN l par) ∧ Kept (refA 111 108 b (rAdd l par a f)) F w w') := by
 refine enterO (args := [_, _, _, _]) (G := G) (A := refA 111 108 b (l)) (l := [(0, Value.pointer (some ⟨b, 0, none⟩)), (1, Value.int .i64 par), (2, kS a), (3, Value.int .i64 f)]) Try.func56 rfl Try.ntmps56 hG hA hFG ⟨rfl, rfl, rfl, rfl, trivial⟩ (Nat.le_of_ble_eq_true rfl) ?_
 refine c_seq ?_
 refine c_region ?_
 refine r_val .none rfl (p_assign rfl) ?_
 refine r_nil ?_
 refine e_next ?_
 refine c_seq ?_
 refine c_seq ?_
 refine c_region ?_
 refine r_val .none rfl (p_move rfl) ?_
 refine r_val .none rfl (p_move rfl) ?_
 refine r_callo (k := 0) (vs := [_, _]) .none rfl cl57 rfl rfl (fun w F hw hA hFG => ref_see (R := fun r => r = _) (fun G' lv hle h1 h2 hG => c_xthere _ lv _ _ h1 h2 w hG) hw hA hFG) ?_
 refine r_val .none rfl (p_not rfl) ?_
 refine r_nil ?_
 refine e_next ?_
 refine c_splitn (d := 12) rfl (fun h_1 => ?_) (fun h_1 => ?_)
 ·
  have hT : ¬ rThere l par = true := by (have h9 := h_1; simpa using h9)
  first
   | (exfalso; omega)
   | (
    refine c_cond_t rfl ?_
    refine c_seq ?_
    refine c_region ?_
    refine r_val .none rfl (p_assign rfl) ?_
    refine r_nil ?_
    refine e_next ?_
    refine c_ret ?_
    refine e_ret_then ?_
    refine e_ret1 Try.results56 (.tmp rfl .nil) (fun w hm => ⟨?_, by rw [radd_no hT]; exact hm.kept [_] (.keep (fun _ _ h => h) (.nil)) (refA 111 108 b (l)) (fun F' h => starL_one1 h)⟩)
    first
    | (rw [rAddN, if_neg hT]; done)
    | (rw [rAddN, if_pos hT]; rfl)
    )
 ·
  have hT : rThere l par = true := by (have h9 := h_1; simpa using h9)
  first
   | (exfalso; omega)
   | (
    refine c_cond_f rfl ?_
    refine c_skip ?_
    refine e_next ?_
    refine c_seq ?_
    refine c_region ?_
    refine r_unex (fun lv => ?_)
    refine r_unpack ?_
    refine r_row1 (k := 1) rfl (fun o1 => ?_)
    refine r_val .none rfl (p_move rfl) ?_
    refine r_val .none rfl (p_move rfl) ?_
    refine r_val .none rfl (p_nilcheck rfl) ?_
    refine r_val .none rfl (p_field Try.underlying111 rfl sz109 rfl) ?_
    refine r_val .none rfl (p_ld (k := 0) Try.underlying109 rfl rfl rfl (by first | exact of_decide_eq_true rfl | omega) rfl) ?_
    refine r_val .none rfl (p_move rfl) ?_
    refine r_val .none rfl (p_move rfl) ?_
    refine r_val .none rfl (p_move rfl) ?_
    refine r_val .none rfl (p_build (vs := [(0, Value.int _ _), (1, Value.string _), (2, Value.int _ _), (3, Value.int _ _)]) rfl (bl108_0i1_1s1_2i1_3i1 _ _ _ _)) ?_
    refine r_bslice (vs := [(0, Value.agg #[_, _, _, _])]) (c := #[_, _, _, _]) .none rfl Try.underlying109 el108 rfl rfl rfl (bs108_10a4 _ _ _ _) (IsRow.lit _) (fun b_1 => ?_)
    refine r_append (k := 2) (k2 := 0) .none rfl Try.underlying109 el108 rfl (by decide) rfl rfl rfl rfl rfl (one_lit rfl rfl) (by simp only [maxLen]; omega) (by omega) (fun v_2 => ?_)
    refine r_row1 (k := 2) rfl (fun o_3 => ?_)
    refine r_val .none rfl (p_nilcheck rfl) ?_
    refine r_val .none rfl (p_field Try.underlying111 rfl sz109 rfl) ?_
    refine r_st (k := 1) .none sz109 rfl rfl o_3 rfl (by first | exact of_decide_eq_true rfl | omega) ?_
    refine r_nil ?_
    refine e_next ?_
    refine c_seq ?_
    refine c_region ?_
    refine r_val .none rfl (p_move rfl) ?_
    refine r_val .none rfl (p_nilcheck rfl) ?_
    refine r_val .none rfl (p_field Try.underlying111 rfl sz109 rfl) ?_
    refine r_val .none rfl (p_ld (k := 1) Try.underlying109 rfl rfl rfl (by first | exact of_decide_eq_true rfl | omega) rfl) ?_
    refine r_val .none rfl (p_leno (k := 2) Try.underlying109 rfl rfl) ?_
    refine r_val .none rfl (p_assign rfl) ?_
    refine r_nil ?_
    refine e_next ?_
    refine c_ret ?_
    refine e_ret1 Try.results56 (.tmp rfl .nil) (fun w hm => ⟨?_, by rw [radd_yes hT]; exact hm.kept [box b 1 111 (at_ [v_2]), rowA v_2 108 4 (l ++ [(par, a, f, (0 : Int))]).length ((l ++ [(par, a, f, (0 : Int))]).flatMap rC)] (.drop (.keep (fun _ _ h => box_congr (fun i hi => by match i, hi with | 0, _ => rfl) _ _ h) (.keep (fun _ _ h => rowA_snoc (x := ((par, a, f, (0 : Int)) : RTk)) rfl rfl rfl rfl _ _ h) (.nil)))) (refA 111 108 b (l ++ [(par, a, f, (0 : Int))])) (fun F' h => ⟨_, h⟩)⟩)
    first
    | (rw [rAddN, if_neg hT]; done)
    | (rw [rAddN, if_pos hT]; rfl)
    )
theorem c_xdel {F : Nat → Prop} {G : Ghost} (b : Nat) (vk : Value) (ks : List Int) (l : List RTk) (hk : SlL G vk 1 cI (0 : Int) ks) (hb : ∀ k ∈ ks, 1 ≤ k ∧ k ≤ (l.length : Int)) (hn : l.length ≤ 1000) (w : World) (hG : Has G w) (hA : (refA 111 108 b (l)).holds w F) (hFG : ∀ b, F b → G b = none) :
  Calls Try.prog 59 #[Value.pointer (some ⟨b, 0, none⟩), vk] w (Ret fun r w' => r = Value.tuple #[] ∧ Kept (refA 111 108 b (outL l ks)) F w w') := by
 refine enterO (args := [_, _]) (G := G) (A := refA 111 108 b (l)) (l := [(0, Value.pointer (some ⟨b, 0, none⟩)), (1, vk)]) Try.func59 rfl Try.ntmps59 hG hA hFG ⟨rfl, rfl, trivial⟩ (Nat.le_of_ble_eq_true rfl) ?_
 refine c_unex (fun lv => ?_)
 refine c_unpack ?_
 refine c_row1 (k := 1) rfl (fun o1 => ?_)
 refine c_seq ?_
 refine c_region ?_
 refine r_val .none rfl (p_move rfl) ?_
 refine r_val .none rfl (p_leng Try.underlying42 rfl hk) ?_
 have bd_1 := (hk).bound
 refine r_val .none rfl (p_move rfl) ?_
 refine r_nil ?_
 refine e_next ?_
 refine c_block ?_
 refine c_name (d := 0) rfl (fun u_2 hu_2 => ?_)
 refine c_name (d := 6) rfl (fun u_3 hu_3 => ?_)
 refine c_name (d := 7) rfl (fun u_4 hu_4 => ?_)
 refine c_nameL (k := 0) rfl (fun A_5 hA_5 => ?_)
 refine c_loop (σ := Nat) (fun j => [(8, Value.int .i64 (j : Nat)), (0, u_2), (6, u_3), (7, u_4)]) (fun j => [A_5, rowA (lv) 108 4 ((outL l (ks.take j))).length (((outL l (ks.take j))).flatMap rC)]) (fun _ => _) (fun j => j ≤ ks.length) (fun j => ks.length - j) (0) (Nat.zero_le _) rfl ⟨rfl, rfl, rfl, rfl, trivial⟩ (.keep (fun _ _ h => h) (.keep (fun _ _ h => by rw [List.take_zero]; exact h) (.nil))) (fun j hphi => ?_)
 subst hu_2
 subst hu_3
 subst hu_4
 subst hA_5
 refine c_seq ?_
 refine c_region ?_
 refine r_val .none rfl (p_lt rfl rfl) ?_
 refine r_nil ?_
 refine e_next ?_
 refine c_seq ?_
 refine c_splitd (d := 9) rfl (fun h_6 => ?_) (fun h_6 => ?_)
 ·
  have hjk : j < ks.length := by (have h9 := h_6; omega)
  first
   | (exfalso; omega)
   | (
    refine c_cond_t rfl ?_
    refine c_skip ?_
    refine e_next ?_
    refine c_seq ?_
    refine c_block ?_
    refine c_seq ?_
    refine c_region ?_
    refine r_iaddr_g .none rfl Try.underlying42 sz3 rfl hk rfl (by first | exact of_decide_eq_true rfl | omega) (fun p_8 o_9 R_7 => ?_)
    refine r_val .none rfl (p_ldg0 Try.underlying3 rfl rfl R_7 (by first | exact of_decide_eq_true rfl | omega) (rfl : _ = Value.int _ _)) ?_
    have hbj := hb (ks.getD j 0) (getD_mem (i := j) (d := (0 : Int)) hjk)
    have hol := outL_len (ks.take j) l
    refine r_val .none rfl (p_assign rfl) ?_
    refine r_nil ?_
    refine e_next ?_
    refine c_region ?_
    refine r_val .none rfl (p_move rfl) ?_
    refine r_val .none rfl (p_nilcheck rfl) ?_
    refine r_val .none rfl (p_field Try.underlying111 rfl sz109 rfl) ?_
    refine r_val .none rfl (p_ld (k := 0) Try.underlying109 rfl rfl rfl (by first | exact of_decide_eq_true rfl | omega) rfl) ?_
    refine r_val .none rfl (p_move rfl) ?_
    refine r_val .none rfl (p_sub rfl rfl (by omega)) ?_
    rw [show (ks.getD j 0) - 1 = ((((ks.getD j 0) - 1).toNat : Nat) : Int) by omega]
    refine r_iaddr_o (k := 1) .none rfl Try.underlying109 sz108 rfl rfl rfl (by first | exact of_decide_eq_true rfl | omega) (fun p_10 c_11 hv_12 => ?_)
    refine r_val .none rfl (p_field Try.underlying108 rfl sz3 rfl) ?_
    refine r_sto (k := 1) (i := ((ks.getD j 0) - 1).toNat * 4 + 3) (vs := [.int .i64 1]) .none sz3 rfl rfl rfl (fun z hz => by rw [List.mem_singleton.1 hz]; rfl) rfl hv_12 (by simp only [List.length_singleton]; omega) ?_
    refine r_conv (B := rowA lv 108 4 (outL l (ks.take (j + 1))).length ((outL l (ks.take (j + 1))).flatMap rC)) (k := 1) rfl (fun _ _ h => rowA_congr (by rw [outL_len, outL_len]) (by rw [outL_next hjk]; exact put_out1 hbj.1 (by rw [outL_len]; exact hbj.2)) _ _ h) ?_
    dsimp only [List.set_cons_zero, List.set_cons_succ]
    refine r_nil ?_
    refine e_norm_block ?_
    refine e_next ?_
    refine c_region ?_
    refine r_val .none rfl (p_add rfl rfl (by omega)) ?_
    refine r_val .none rfl (p_move rfl) ?_
    refine r_nil ?_
    refine e_round (j + 1) ⟨by omega, by omega⟩ rfl ⟨rfl, rfl, rfl, rfl, trivial⟩ (.keep (fun _ _ h => h) (.keep (fun _ _ h => h) (.nil)))
    )
 ·
  have hj9 : ks.take j = ks := List.take_of_length_le (by omega)
  first
   | (exfalso; omega)
   | (
    refine c_cond_f rfl ?_
    refine c_exit ?_
    refine e_exit_then ?_
    refine e_exit_then ?_
    refine e_exit_block ?_
    refine e_end0 Try.results59 (fun w hm => ⟨rfl, hm.kept [box b 1 111 (at_ [lv]), rowA lv 108 4 (outL l ks).length ((outL l ks).flatMap rC)] (.keep (fun _ _ h => h) (.keep (fun _ _ h => rowA_congr (by rw [hj9]) (by rw [hj9]) _ _ h) (.nil))) (refA 111 108 b (outL l ks)) (fun F' h => ⟨_, h⟩)⟩)
    )
theorem c_xnew (a : ByteArray) {G : Ghost}  (w : World) (hG : Has G w) :
  Calls Try.prog 55 #[kS a] w (Ret fun r w' => ∃ p, r = Value.pointer (some ⟨p, 0, none⟩) ∧ Since nX w w' ∧ ∃ F', (refA 111 108 p [((0, a, 0, 0) : RTk)]).holds w' F' ∧ ∀ b, F' b → w.heap.size ≤ b) := by
 refine enter (args := [_]) (X := nX) (G := G) (l := [(0, kS a)]) Try.func55 rfl Try.ntmps55 hG ⟨rfl, trivial⟩ (Nat.le_of_ble_eq_true rfl) ?_
 refine c_seq ?_
 refine c_region ?_
 refine r_val .none rfl (p_assign rfl) ?_
 refine r_nil ?_
 refine e_next ?_
 refine c_seq ?_
 refine c_region ?_
 refine r_val .none rfl (p_move rfl) ?_
 refine r_val .none rfl (p_build (vs := [(0, Value.int _ _), (1, Value.string _), (2, Value.int _ _), (3, Value.int _ _)]) rfl (bl108_0i1_1s1_2i1_3i1 _ _ _ _)) ?_
 refine r_bslice (vs := [(0, Value.agg #[_, _, _, _])]) (c := #[_, _, _, _]) .none rfl Try.underlying109 el108 rfl rfl rfl (bs108_10a4 _ _ _ _) (IsRow.lit _) (fun b_1 => ?_)
 refine r_val .none rfl (p_build (vs := [(0, Value.slice _ _ _)]) rfl (bl111_0s3 _ _ _)) ?_
 refine r_box .none rfl rfl (IsRow.lit _) (fun b_2 => ?_)
 refine r_val .none rfl (p_assign rfl) ?_
 refine r_nil ?_
 refine e_next ?_
 refine c_ret ?_
 refine e_ret1 Try.results55 (.tmp rfl .nil) (fun w hm => ⟨_, rfl, hm.made [box b_2 1 111 (at_ [(.slice (some ⟨b_1, 0, none⟩) 1 1)]), rowA (.slice (some ⟨b_1, 0, none⟩) 1 1) 108 4 [((0, a, 0, 0) : RTk)].length ([((0, a, 0, 0) : RTk)].flatMap rC)] (.keep (fun _ _ h => box_congr (fun i hi => by match i, hi with | 0, _ => rfl) _ _ h) (.keep (fun _ _ h => rowA_congr rfl (by rfl) _ _ (box_rowA (n := 1) (sz := 4) rfl (by decide) h)) (.nil))) (refA 111 108 _ [((0, a, 0, 0) : RTk)]) (fun F' h => ⟨_, h⟩)⟩)
end Go.Proofs.Ytdcaehepmkhciaa

/- Walks: what Go functions of this chapter come to, each as a function on plain data; no condition but those that each theorem names. Printed by a program of this work (gen.py). -/
namespace Go.Proofs.Ytdcaehepmkhciaa
open Go.Gx Go.Gx Go.Gx.T10 Go.Gx.T12 Go.Gx.T10 Go.Gx.T11 Go.Gx.T15 Go.Gx.T12 Go.Gx.T6 Go.Gx.T4
theorem sz4 : SzIs Try.prog 4 1 := by
 unfold SzIs
 kernel_rfl
theorem sz27 : SzIs Try.prog 27 4 := by
 unfold SzIs
 kernel_rfl
theorem zr27 : ZeroIs Try.prog 27 (Value.agg #[Value.bool false, Value.int .i64 0, Value.string ⟨#[]⟩, Value.int .i64 0]) := by
 unfold ZeroIs
 kernel_rfl
theorem cl11 : Callable Try.prog 11 := callable Try.func11 (by kernel_rfl) rfl
theorem cl14 : Callable Try.prog 14 := callable Try.func14 (by kernel_rfl) rfl
theorem cl15 : Callable Try.prog 15 := callable Try.func15 (by kernel_rfl) rfl
theorem cl51 : Callable Try.prog 51 := callable Try.func51 (by kernel_rfl) rfl
theorem cl52 : Callable Try.prog 52 := callable Try.func52 (by kernel_rfl) rfl
theorem cl53 : Callable Try.prog 53 := callable Try.func53 (by kernel_rfl) rfl
theorem cl54 : Callable Try.prog 54 := callable Try.func54 (by kernel_rfl) rfl
end Go.Proofs.Ytdcaehepmkhciaa

/- Walks: what Go functions of this chapter come to, each as a function on plain data; no condition but those that each theorem names. Printed by a program of this work (gen.py). -/
namespace Go.Proofs.Ytdcaehepmkhciaa
open Go.Gx Go.Gx Go.Gx.T10 Go.Gx.T12 Go.Gx.T10 Go.Gx.T11 Go.Gx.T15 Go.Gx.T12 Go.Gx.T6 Go.Gx.T4
theorem cl16 : Callable Try.prog 16 := callable Try.func16 (by kernel_rfl) rfl
end Go.Proofs.Ytdcaehepmkhciaa

/- Walks: what Go functions of this chapter come to, each as a function on plain data; no condition but those that each theorem names. Printed by a program of this work (gen.py). -/
namespace Go.Proofs.Ytdcaehepmkhciaa
open Go.Gx Go.Gx Go.Gx.T10 Go.Gx.T12 Go.Gx.T10 Go.Gx.T11 Go.Gx.T15 Go.Gx.T12 Go.Gx.T6 Go.Gx.T4
theorem cl87 : Callable Try.prog 87 := callable Try.func87 (by kernel_rfl) rfl
theorem cl88 : Callable Try.prog 88 := callable Try.func88 (by kernel_rfl) rfl
theorem cl90 : Callable Try.prog 90 := callable Try.func90 (by kernel_rfl) rfl
theorem cl91 : Callable Try.prog 91 := callable Try.func91 (by kernel_rfl) rfl
theorem cl92 : Callable Try.prog 92 := callable Try.func92 (by kernel_rfl) rfl
theorem cl93 : Callable Try.prog 93 := callable Try.func93 (by kernel_rfl) rfl
theorem gT_no {α : Type} {s : TS (Tk α) α} {l : List (Int × TB α)} {id : Int} (hl : s.toks = eraT l) (h : lkp s.toks id = none) : lkp l id = none := by
 cases e : lkp l id with
 | none => rfl
 | some v => rw [hl, eraT_lkp, e] at h; cases h
theorem c_tfacts0S {F : Nat → Prop} {G : Ghost} (p : Nat) (id : Int) (s : TS (TB ByteArray) ByteArray) (hT : ∀ q ∈ s.toks, TokAt G kS q.2) (hno : lkp s.toks id = none) (w : World) (hG : Has G w) (hA : (treeR 119 kS p s).holds w F) (hFG : ∀ b, F b → G b = none) :
  Calls Try.prog 51 #[Value.pointer (some ⟨p, 0, none⟩), Value.int .i64 id] w (Ret fun r w' => Kept (starL [rowA r 3 1 (([] : List Int)).length ((([] : List Int)).flatMap cI), treeR 119 kS p s]) F w w') := by
 refine enterO (args := [_, _]) (G := G) (A := treeR 119 kS p s) (l := [(0, Value.pointer (some ⟨p, 0, none⟩)), (1, Value.int .i64 id)]) Try.func51 rfl Try.ntmps51 hG hA hFG ⟨rfl, rfl, trivial⟩ (Nat.le_of_ble_eq_true rfl) ?_
 refine c_openT (fun z => ?_)
 obtain ⟨q, m2, m3⟩ := z
 dsimp only [treeC]
 refine c_seq ?_
 refine c_region ?_
 refine r_val .none rfl (p_assign rfl) ?_
 refine r_nil ?_
 refine e_next ?_
 refine c_seq ?_
 refine c_region ?_
 refine r_val .none rfl (p_assign rfl) ?_
 refine r_nil ?_
 refine e_next ?_
 refine c_seq ?_
 refine c_seq ?_
 refine c_region ?_
 refine r_val .none rfl (p_move rfl) ?_
 refine r_val .none rfl (p_nilcheck rfl) ?_
 refine r_val .none rfl (p_field Try.underlying119 rfl sz115 rfl) ?_
 refine r_val .none rfl (p_ld (k := 0) Try.underlying115 rfl rfl rfl (by first | exact of_decide_eq_true rfl | omega) (rfl : _ = Value.map _)) ?_
 refine r_val .none rfl (p_move rfl) ?_
 refine r_val .none rfl (p_lookup_no (i := 1) Try.underlying115 (KeyT.int Try.underlying3) zr120 rfl rfl rfl hno) ?_
 refine r_val .none rfl (p_assign rfl) ?_
 refine r_nil ?_
 refine e_next ?_
 refine c_block ?_
 refine c_name (d := 0) rfl (fun u_1 hu_1 => ?_)
 refine c_name (d := 4) rfl (fun u_2 hu_2 => ?_)
 refine c_name (d := 5) rfl (fun u_3 hu_3 => ?_)
 refine c_name (d := 6) rfl (fun u_4 hu_4 => ?_)
 refine c_nameL (k := 0) rfl (fun A_5 hA_5 => ?_)
 refine c_nameL (k := 1) rfl (fun A_6 hA_6 => ?_)
 refine c_nameL (k := 2) rfl (fun A_7 hA_7 => ?_)
 refine c_nameL (k := 3) rfl (fun A_8 hA_8 => ?_)
 refine c_loop (σ := Nat) (fun n => [(0, u_1), (4, u_2), (5, u_3), (6, u_4)]) (fun n => [A_5, A_6, A_7, A_8]) (fun _ => _) (fun n => True) (fun n => 0) (0) trivial rfl ⟨rfl, rfl, rfl, rfl, trivial⟩ (.keep (fun _ _ h => h) (.keep (fun _ _ h => h) (.keep (fun _ _ h => h) (.keep (fun _ _ h => h) (.nil))))) (fun n hphi => ?_)
 subst hu_1
 subst hu_2
 subst hu_3
 subst hu_4
 subst hA_5
 subst hA_6
 subst hA_7
 subst hA_8
 refine c_seq ?_
 refine c_seq ?_
 refine c_region ?_
 refine r_val .none rfl (p_move rfl) ?_
 refine r_val .none rfl (p_ne_ptr Try.underlying120 (by first | exact .inr rfl | exact .inl rfl) rfl rfl) ?_
 refine r_say (d := 14) (v := Value.bool false) rfl ?_
 refine r_nil ?_
 refine e_next ?_
 refine c_cond_f rfl ?_
 refine c_exit ?_
 refine e_exit_then ?_
 refine e_exit_then ?_
 refine e_exit_block ?_
 refine e_next ?_
 refine c_seq ?_
 refine c_region ?_
 refine r_val .none rfl (p_move rfl) ?_
 refine r_nilrow 3 1 ?_
 refine r_rev1 (k := 0) (zs := ([] : List Int)) (enc := kI) .none rfl cl85 rfl rfl revI revI0 (by decide) ?_
 refine r_nil ?_
 refine e_next ?_
 refine c_seq ?_
 refine c_region ?_
 refine r_val .none rfl (p_move rfl) ?_
 refine r_val .none rfl (p_assign rfl) ?_
 refine r_nil ?_
 refine e_next ?_
 refine c_ret ?_
 refine e_front (k := 4) rfl ?_
 refine e_front (k := 4) rfl ?_
 refine e_front (k := 4) rfl ?_
 refine e_front (k := 4) rfl ?_
 refine e_front (k := 4) rfl ?_
 refine e_ret1 Try.results51 (.tmp rfl .nil) (fun w hm => hm.kept ([rowA (.slice none 0 0) 3 1 (([] : List Int)).length ((([] : List Int)).flatMap cI)] ++ [box p 4 119 (at_ (treeC (s) (q, m2, m3))), mapA q kI veB (s).toks, nestA kS m2 (s).pl, nestA kI m3 (s).fc]) (.keep (fun _ _ h => h) (.keep (fun _ _ h => h) (.keep (fun _ _ h => h) (.keep (fun _ _ h => h) (.keep (fun _ _ h => h) (.nil)))))) (starL [rowA (.slice none 0 0) 3 1 (([] : List Int)).length ((([] : List Int)).flatMap cI), treeR 119 kS p s]) (fun F' h => shut_row (q, m2, m3) h))
theorem c_Efacts0S {F : Nat → Prop} {G : Ghost} (p : Nat) (id : Int) (s : TS (Tk ByteArray) ByteArray) (hno : lkp s.toks id = none) (w : World) (hG : Has G w) (hA : (treeE 119 122 3 kS p s).holds w F) (hFG : ∀ b, F b → G b = none) :
  Calls Try.prog 51 #[Value.pointer (some ⟨p, 0, none⟩), Value.int .i64 id] w (Ret fun r w' => Kept (starL [rowA r 3 1 (([] : List Int)).length ((([] : List Int)).flatMap cI), treeE 119 122 3 kS p s]) F w w') :=
 ret_and (tree_see (R := fun _ => True) (Z := fun r => rowA r 3 1 (([] : List Int)).length ((([] : List Int)).flatMap cI)) (fun l G' F' hl hle hT hG hA hF => by
  have h9 := c_tfacts0S p id ⟨l, s.pl, s.fc, s.last⟩ hT (gT_no hl hno) w hG hA hF
  try dsimp only at h9
  try rw [gT_era] at h9
  try unfold factsR
  try rw [hl]
  exact and_true_ret h9) hG hA hFG)
set_option maxHeartbeats 1000000 in
set_option maxRecDepth 100000 in
theorem c_same {F : Nat → Prop} (p b : Nat) (lv : Value) (s : TS (Tk ByteArray) ByteArray) (l : List RTk) {G : Ghost} (hR : RowAt G b 0 1 (at_ [lv])) (hL : SlL G lv 4 rC r0 l) (hI : TInv s) (hP : PInv s) (hF : FInv s) (ha : Agr s l) (hn : l.length ≤ 100) (w : World) (hG : Has G w) (hA : (treeE 119 122 3 kS p s).holds w F) (hFG : ∀ b, F b → G b = none) :
  Calls Try.prog 60 #[Value.pointer (some ⟨p, 0, none⟩), Value.pointer (some ⟨b, 0, none⟩)] w (Ret fun r w' => r = Value.bool true ∧ Kept (treeE 119 122 3 kS p s) F w w') := by
 refine enterO (args := [_, _]) (G := G) (A := treeE 119 122 3 kS p s) (l := [(0, Value.pointer (some ⟨p, 0, none⟩)), (1, Value.pointer (some ⟨b, 0, none⟩))]) Try.func60 rfl Try.ntmps60 hG hA hFG ⟨rfl, rfl, trivial⟩ (Nat.le_of_ble_eq_true rfl) ?_
 have hlen := ha.len
 have hlo := hI.lo
 have hO : ∀ k, rThere l k = true → (rAt l k).1 < k := fun k hk => (by (obtain ⟨y, hy⟩ := ha.back k hk; rw [(ha.tok k y hy).2]; exact (hI.ord k y hy).2))
 have hwI : ∀ k, (∃ y, lkp s.toks k = some y) → 1 ≤ k ∧ k ≤ ((s.last.toNat : Nat) : Int) := fun k hk => (by (obtain ⟨y, hy⟩ := hk; have h8 := hI.rng k y hy; omega))
 refine c_seq ?_
 refine c_region ?_
 refine r_val .none rfl (p_assign rfl) ?_
 refine r_nil ?_
 refine e_next ?_
 refine c_seq ?_
 refine c_seq ?_
 refine c_region ?_
 refine r_val .none rfl (p_move rfl) ?_
 refine r_callo (k := 0) (vs := [_]) .none rfl cl16 rfl rfl (fun w F hw hA hFG => c_ElenS _ s w hw hA hFG) ?_
 refine r_val .none rfl (p_move rfl) ?_
 refine r_call (vs := [_]) .none rfl cl87 rfl (fun w hw => c_xlen _ _ _ hR hL (by omega) w hw) ?_
 refine r_val .none rfl (p_ne rfl rfl) ?_
 refine r_say (d := 19) (v := Value.bool false) (congrArg (fun z => some (Value.bool z)) (decide_eq_false (fun h9 => h9 (by rw [ha.lenEq])))) ?_
 refine r_nil ?_
 refine e_next ?_
 refine c_cond_f rfl ?_
 refine c_skip ?_
 refine e_next ?_
 refine c_seq ?_
 refine c_seq ?_
 refine c_region ?_
 refine r_val .none rfl (p_assign rfl) ?_
 refine r_nil ?_
 refine e_next ?_
 refine c_block ?_
 refine c_name (d := 0) rfl (fun u_1 hu_1 => ?_)
 refine c_name (d := 1) rfl (fun u_2 hu_2 => ?_)
 refine c_nameL (k := 0) rfl (fun A_3 hA_3 => ?_)
 refine c_loop (σ := Int × Ghost) (fun s' => [(5, Value.int .i64 s'.1), (0, u_1), (1, u_2)]) (fun s' => [A_3]) (fun s' => s'.2) (fun s' => (-1 ≤ s'.1 ∧ s'.1 ≤ (l.length : Int) + 2) ∧ GNew w F G s'.2) (fun s' => ((l.length : Int) + 2 - s'.1).toNat) ((-1, _)) ⟨⟨Int.le_refl _, by dsimp only; omega⟩, GNew.refl _ _ _⟩ rfl ⟨rfl, rfl, rfl, trivial⟩ (.keep (fun _ _ h => h) (.nil)) (fun s' hphi => ?_)
 subst hu_1
 subst hu_2
 subst hA_3
 obtain ⟨i, H⟩ := s'
 obtain ⟨hi, hgn⟩ := hphi
 dsimp only at hi hgn ⊢
 replace hR := hR.mono hgn.le
 replace hL := hL.mono hgn.le
 refine c_seq ?_
 refine c_seq ?_
 refine c_region ?_
 refine r_val .none rfl (p_move rfl) ?_
 refine r_val .none rfl (p_move rfl) ?_
 refine r_val .none rfl (p_nilcheck rfl) ?_
 refine r_val .none rfl (p_field Try.underlying111 rfl sz109 rfl) ?_
 refine r_val .none rfl (p_ldg (j := 0) Try.underlying109 rfl rfl hR (by first | exact of_decide_eq_true rfl | omega) rfl) ?_
 refine r_val .none rfl (p_leng Try.underlying109 rfl hL) ?_
 have bd_4 := (hL).bound
 refine r_val .none rfl (p_add rfl rfl (by omega)) ?_
 refine r_val .none rfl (p_le rfl rfl) ?_
 refine r_nil ?_
 refine e_next ?_
 refine c_splitd (d := 27) rfl (fun h_5 => ?_) (fun h_5 => ?_)
 ·
  first
   | (exfalso; first | omega | assumption)
   | (
    refine c_cond_t rfl ?_
    refine c_skip ?_
    refine e_next ?_
    refine c_seq ?_
    refine c_block ?_
    refine c_seq ?_
    refine c_region ?_
    refine r_val .none rfl (p_move rfl) ?_
    refine r_val .none rfl (p_move rfl) ?_
    rcases hx : lkp s.toks i with _ | x
    ·
     refine r_callo (k := 0) (vs := [_, _]) .none rfl cl14 rfl rfl (fun w F hw hA hFG => c_EplaceS _ i s w hw hA hFG) ?_
     rw [hx]
     refine r_say (d := 33) (v := Value.tuple #[kS ByteArray.empty, Value.bool false]) rfl ?_
     refine r_val .none rfl (p_move rfl) ?_
     refine r_val .none rfl (p_extract rfl rfl) ?_
     refine r_val .none rfl (p_extract rfl rfl) ?_
     refine r_val .none rfl (p_assign rfl) ?_
     refine r_val .none rfl (p_assign rfl) ?_
     refine r_nil ?_
     refine e_next ?_
     refine c_seq ?_
     refine c_region ?_
     refine r_val .none rfl (p_move rfl) ?_
     refine r_val .none rfl (p_move rfl) ?_
     refine r_call (vs := [_, _]) .none rfl cl57 rfl (fun w hw => c_xthere _ _ _ i hR hL w hw) ?_
     rw [ha.there, hx]
     refine r_say (d := 38) (v := Value.bool false) (congrArg (fun z => some (Value.bool z)) (rfl)) ?_
     refine r_val .none rfl (p_assign rfl) ?_
     refine r_nil ?_
     refine e_next ?_
     refine c_seq ?_
     refine c_seq ?_
     refine c_region ?_
     refine r_val .none rfl (p_move rfl) ?_
     refine r_val .none rfl (p_move rfl) ?_
     refine r_val .none rfl (p_neb Try.underlying4 rfl rfl) ?_
     refine r_say (d := 41) (v := Value.bool false) (congrArg (fun z => some (Value.bool z)) (rfl)) ?_
     refine r_val .none rfl (p_move rfl) ?_
     refine r_val (.some rfl rfl) rfl (p_move rfl) ?_
     refine r_val (.some rfl rfl) rfl (p_not rfl) ?_
     refine r_say (d := 44) (v := Value.bool true) rfl ?_
     refine r_val (.some rfl rfl) rfl (p_move rfl) ?_
     refine r_val (.some rfl rfl) rfl (p_move rfl) ?_
     refine r_val (.some rfl rfl) rfl (p_nes rfl rfl) ?_
     refine r_say (d := 47) (v := Value.bool false) (congrArg (fun z => some (Value.bool z)) (by decide)) ?_
     refine r_val (.some rfl rfl) rfl (p_move rfl) ?_
     refine r_val (.some rfl rfl) rfl (p_move rfl) ?_
     refine r_val (.some rfl rfl) rfl (p_move rfl) ?_
     refine r_callo (k := 0) (vs := [_, _]) (.some rfl rfl) rfl cl15 rfl rfl (fun w F hw hA hFG => c_EparS _ i s w hw hA hFG) ?_
     rw [hx]
     refine r_say (d := 51) (v := Value.int .i64 0) rfl ?_
     refine r_val (.some rfl rfl) rfl (p_ne rfl rfl) ?_
     refine r_say (d := 52) (v := Value.bool false) rfl ?_
     refine r_val (.some rfl rfl) rfl (p_pick_f rfl rfl) ?_
     refine r_val (.some rfl rfl) rfl (p_move rfl) ?_
     refine r_val (.some rfl rfl) rfl (p_move rfl) ?_
     refine r_val (.some rfl rfl) rfl (p_move rfl) ?_
     refine r_callo (k := 0) (vs := [_, _]) (.some rfl rfl) rfl cl52 rfl rfl (fun w F hw hA hFG => c_EfactS _ i s w hw hA hFG) ?_
     rw [hx]
     refine r_say (d := 57) (v := Value.int .i64 0) rfl ?_
     refine r_val (.some rfl rfl) rfl (p_ne rfl rfl) ?_
     refine r_say (d := 58) (v := Value.bool false) rfl ?_
     refine r_val (.some rfl rfl) rfl (p_pick_f rfl rfl) ?_
     refine r_val (.some rfl rfl) rfl (p_move rfl) ?_
     refine r_val (.some rfl rfl) rfl (p_move rfl) ?_
     refine r_val (.some rfl rfl) rfl (p_move rfl) ?_
     refine r_callor (k := 0) (vs := [_, _]) (.some rfl rfl) rfl cl88 rfl rfl (fun w F hw hA hFG => c_EkidsS _ i s (fun y hy => by have h8 := hI.klen hy; omega) w hw hA hFG) (fun r_6 => ?_)
     refine r_unpack ?_
     rw [hx]
     refine r_val (.some rfl rfl) rfl (p_leno (k := 0) Try.underlying42 rfl rfl) ?_
     refine r_say (d := 64) (v := Value.int .i64 0) rfl ?_
     refine r_val (.some rfl rfl) rfl (p_ne rfl rfl) ?_
     refine r_say (d := 65) (v := Value.bool false) rfl ?_
     refine r_val (.some rfl rfl) rfl (p_pick_f rfl rfl) ?_
     refine r_val (.some rfl rfl) rfl (p_move rfl) ?_
     refine r_val (.some rfl rfl) rfl (p_move rfl) ?_
     refine r_val (.some rfl rfl) rfl (p_move rfl) ?_
     refine r_front (k := 1) rfl ?_
     refine r_callor (k := 0) (vs := [_, _]) (.some rfl rfl) rfl cl51 rfl rfl (fun w F hw hA hFG => c_Efacts0S _ i s hx w hw hA hFG) (fun r_7 => ?_)
     refine r_unpack ?_
     refine r_val (.some rfl rfl) rfl (p_leno (k := 0) Try.underlying42 rfl rfl) ?_
     refine r_say (d := 71) (v := Value.int .i64 0) rfl ?_
     refine r_val (.some rfl rfl) rfl (p_ne rfl rfl) ?_
     refine r_say (d := 72) (v := Value.bool false) rfl ?_
     refine r_val (.some rfl rfl) rfl (p_pick_f rfl rfl) ?_
     refine r_val (.some rfl rfl) rfl (p_pick_t rfl rfl) ?_
     refine r_val .none rfl (p_pick_f rfl rfl) ?_
     refine r_nil ?_
     refine e_next ?_
     refine c_cond_f rfl ?_
     refine c_skip ?_
     refine e_next ?_
     refine c_seq ?_
     refine c_seq ?_
     refine c_region ?_
     refine r_val .none rfl (p_move rfl) ?_
     refine r_val .none rfl (p_not rfl) ?_
     refine r_say (d := 77) (v := Value.bool true) rfl ?_
     refine r_nil ?_
     refine e_next ?_
     refine c_cond_t rfl ?_
     refine c_exit ?_
     refine e_exit_then ?_
     refine e_exit_block ?_
     refine e_next ?_
     refine c_region ?_
     refine r_val .none rfl (p_move rfl) ?_
     refine r_val .none rfl (p_add rfl rfl (by omega)) ?_
     refine r_val .none rfl (p_assign rfl) ?_
     refine r_nil ?_
     refine e_round ((i + 1, _)) ⟨⟨by dsimp only; omega, hgn⟩, by dsimp only; omega⟩ rfl ⟨rfl, rfl, rfl, trivial⟩ (.drop (.keep (fun _ _ h => h) (.drop (.nil))))
    ·
     have hr := hI.rng i x hx
     obtain ⟨hth, hat⟩ := ha.tok i x hx
     refine r_callo (k := 0) (vs := [_, _]) .none rfl cl14 rfl rfl (fun w F hw hA hFG => c_EplaceS _ i s w hw hA hFG) ?_
     rw [hx]
     refine r_say (d := 33) (v := Value.tuple #[kS x.pla, Value.bool true]) rfl ?_
     refine r_val .none rfl (p_move rfl) ?_
     refine r_val .none rfl (p_extract rfl rfl) ?_
     refine r_val .none rfl (p_extract rfl rfl) ?_
     refine r_val .none rfl (p_assign rfl) ?_
     refine r_val .none rfl (p_assign rfl) ?_
     refine r_nil ?_
     refine e_next ?_
     refine c_seq ?_
     refine c_region ?_
     refine r_val .none rfl (p_move rfl) ?_
     refine r_val .none rfl (p_move rfl) ?_
     refine r_call (vs := [_, _]) .none rfl cl57 rfl (fun w hw => c_xthere _ _ _ i hR hL w hw) ?_
     rw [ha.there, hx]
     refine r_say (d := 38) (v := Value.bool true) (congrArg (fun z => some (Value.bool z)) (rfl)) ?_
     refine r_val .none rfl (p_assign rfl) ?_
     refine r_nil ?_
     refine e_next ?_
     refine c_seq ?_
     refine c_seq ?_
     refine c_region ?_
     refine r_val .none rfl (p_move rfl) ?_
     refine r_val .none rfl (p_move rfl) ?_
     refine r_val .none rfl (p_neb Try.underlying4 rfl rfl) ?_
     refine r_say (d := 41) (v := Value.bool false) (congrArg (fun z => some (Value.bool z)) (rfl)) ?_
     refine r_val .none rfl (p_move rfl) ?_
     refine r_val (.some rfl rfl) rfl (p_move rfl) ?_
     refine r_val (.some rfl rfl) rfl (p_not rfl) ?_
     refine r_say (d := 44) (v := Value.bool false) rfl ?_
     refine r_val (.some rfl rfl) rfl (p_move rfl) ?_
     refine r_skip rfl (.no rfl rfl) ?_
     refine r_skip rfl (.no rfl rfl) ?_
     refine r_skip rfl (.no rfl rfl) ?_
     refine r_skip rfl (.un rfl rfl) ?_
     refine r_skip rfl (.un rfl rfl) ?_
     refine r_skip rfl (.un rfl rfl) ?_
     refine r_skip rfl (.un rfl rfl) ?_
     refine r_skip rfl (.no rfl rfl) ?_
     refine r_skip rfl (.no rfl rfl) ?_
     refine r_skip rfl (.un rfl rfl) ?_
     refine r_skip rfl (.un rfl rfl) ?_
     refine r_skip rfl (.un rfl rfl) ?_
     refine r_skip rfl (.un rfl rfl) ?_
     refine r_skip rfl (.no rfl rfl) ?_
     refine r_skip rfl (.no rfl rfl) ?_
     refine r_skip rfl (.un rfl rfl) ?_
     refine r_skip rfl (.un rfl rfl) ?_
     refine r_skip rfl (.un rfl rfl) ?_
     refine r_skip rfl (.un rfl rfl) ?_
     refine r_skip rfl (.un rfl rfl) ?_
     refine r_skip rfl (.no rfl rfl) ?_
     refine r_skip rfl (.no rfl rfl) ?_
     refine r_skip rfl (.un rfl rfl) ?_
     refine r_skip rfl (.un rfl rfl) ?_
     refine r_skip rfl (.un rfl rfl) ?_
     refine r_skip rfl (.un rfl rfl) ?_
     refine r_skip rfl (.un rfl rfl) ?_
     refine r_skip rfl (.no rfl rfl) ?_
     refine r_val (.some rfl rfl) rfl (p_pick_f rfl rfl) ?_
     refine r_val .none rfl (p_pick_f rfl rfl) ?_
     refine r_nil ?_
     refine e_next ?_
     refine c_cond_f rfl ?_
     refine c_skip ?_
     refine e_next ?_
     refine c_seq ?_
     refine c_seq ?_
     refine c_region ?_
     refine r_val .none rfl (p_move rfl) ?_
     refine r_val .none rfl (p_not rfl) ?_
     refine r_say (d := 77) (v := Value.bool false) rfl ?_
     refine r_nil ?_
     refine e_next ?_
     refine c_cond_f rfl ?_
     refine c_skip ?_
     refine e_next ?_
     refine c_seq ?_
     refine c_region ?_
     refine r_val .none rfl (p_move rfl) ?_
     refine r_val .none rfl (p_nilcheck rfl) ?_
     refine r_val .none rfl (p_field Try.underlying111 rfl sz109 rfl) ?_
     refine r_val .none rfl (p_ldg (j := 0) Try.underlying109 rfl rfl hR (by first | exact of_decide_eq_true rfl | omega) rfl) ?_
     refine r_val .none rfl (p_move rfl) ?_
     refine r_val .none rfl (p_sub rfl rfl (by omega)) ?_
     rw [show i - 1 = (((i - 1).toNat : Nat) : Int) by omega]
     refine r_iaddr_g .none rfl Try.underlying109 sz108 rfl hL rfl (by first | exact of_decide_eq_true rfl | omega) (fun p_9 o_10 R_8 => ?_)
     refine r_val .none rfl (p_ldga0 Try.underlying108 rfl sz108 rfl R_8 (by first | exact of_decide_eq_true rfl | omega) (rfl : _ = Value.agg #[_, _, _, _])) ?_
     rw [show l.getD (i - 1).toNat r0 = (x.par, x.pla, x.fac, (0 : Int)) from hat]
     refine r_alloc .none rfl zr108 (IsRow.lit _) (fun b_1 => ?_)
     refine r_stw (k := 0) .none sz108 rfl rfl (IsRow.lit _) (one_lit rfl rfl) rfl ?_
     refine r_nil ?_
     refine e_next ?_
     refine c_seq ?_
     refine c_seq ?_
     refine c_region_d (fun _ => false) _ mixed (.keep (fun _ _ h => h) (.keep (fun _ _ h => h) (.nil))) ?_
     refine d_val1 0 rfl rfl (by kernel_rfl) (fun _ _ => rfl) .none rfl (p_move rfl) ?_
     refine d_val1 1 rfl rfl (by kernel_rfl) (fun _ _ => rfl) .none rfl (p_field Try.underlying108 rfl sz9 rfl) ?_
     refine d_val1 2 rfl rfl (by kernel_rfl) (fun _ _ => rfl) .none rfl (p_ld (k := 0) Try.underlying9 rfl rfl rfl (by first | exact of_decide_eq_true rfl | omega) (rfl : _ = Value.string _)) ?_
     refine d_val1 3 rfl rfl (by kernel_rfl) (fun _ _ => rfl) .none rfl (p_nes rfl rfl) ?_
     refine d_say (d := 89) (v := Value.bool false) (congrArg (fun z => some (Value.bool z)) (by simp)) ?_
     refine d_val1 4 rfl rfl (by kernel_rfl) (fun _ _ => rfl) .none rfl (p_move rfl) ?_
     refine d_val1 5 rfl rfl (by kernel_rfl) (fun _ _ => rfl) (.some rfl rfl) rfl (p_move rfl) ?_
     refine d_val1 6 rfl rfl (by kernel_rfl) (fun _ _ => rfl) (.some rfl rfl) rfl (p_move rfl) ?_
     refine d_val1 8 rfl rfl (by kernel_rfl) (fun _ _ => rfl) (.some rfl rfl) rfl (p_field Try.underlying108 rfl sz3 rfl) ?_
     refine d_val1 9 rfl rfl (by kernel_rfl) (fun _ _ => rfl) (.some rfl rfl) rfl (p_ld (k := 0) Try.underlying3 rfl rfl rfl (by first | exact of_decide_eq_true rfl | omega) (rfl : _ = Value.int _ _)) ?_
     refine d_eff 7 rfl (by kernel_rfl) (fun K_11 hKK_11 hcK_11 => ?_)
     refine r_callo (k := 1) (vs := [_, _]) (.some rfl rfl) rfl cl15 rfl rfl (fun w F hw hA hFG => c_EparS _ i s w hw hA hFG) ?_
     refine r_nil (e_d (i := 7) (brk := (fun _ => false)) (ph' := true) hKK_11 hcK_11 rfl (fun _ => GLe.refl _) (fun _ => .keep (fun _ _ h => h) (.keep (fun _ _ h => h) (.nil))) ?_)
     clear hKK_11 hcK_11 K_11
     rw [hx]
     refine d_val1 10 rfl rfl (by kernel_rfl) (fun _ _ => rfl) (.some rfl rfl) rfl (p_ne rfl rfl) ?_
     refine d_say (d := 96) (v := Value.bool false) (congrArg (fun z => some (Value.bool z)) (decide_eq_false (fun h9 => h9 rfl))) ?_
     refine d_val1 11 rfl rfl (by kernel_rfl) (fun _ _ => rfl) .none rfl (p_pick_f rfl rfl) ?_
     refine d_val1 12 rfl rfl (by kernel_rfl) (fun _ _ => rfl) .none rfl (p_move rfl) ?_
     refine d_val1 13 rfl rfl (by kernel_rfl) (fun _ _ => rfl) (.some rfl rfl) rfl (p_move rfl) ?_
     refine d_val1 14 rfl rfl (by kernel_rfl) (fun _ _ => rfl) (.some rfl rfl) rfl (p_move rfl) ?_
     refine d_val1 16 rfl rfl (by kernel_rfl) (fun _ _ => rfl) (.some rfl rfl) rfl (p_field Try.underlying108 rfl sz3 rfl) ?_
     refine d_val1 17 rfl rfl (by kernel_rfl) (fun _ _ => rfl) (.some rfl rfl) rfl (p_ld (k := 0) Try.underlying3 rfl rfl rfl (by first | exact of_decide_eq_true rfl | omega) (rfl : _ = Value.int _ _)) ?_
     refine d_eff 15 rfl (by kernel_rfl) (fun K_12 hKK_12 hcK_12 => ?_)
     refine r_callo (k := 1) (vs := [_, _]) (.some rfl rfl) rfl cl52 rfl rfl (fun w F hw hA hFG => c_EfactS _ i s w hw hA hFG) ?_
     refine r_nil (e_d (i := 15) (brk := (fun _ => false)) (ph' := true) hKK_12 hcK_12 rfl (fun _ => GLe.refl _) (fun _ => .keep (fun _ _ h => h) (.keep (fun _ _ h => h) (.nil))) ?_)
     clear hKK_12 hcK_12 K_12
     rw [hx]
     refine d_val1 18 rfl rfl (by kernel_rfl) (fun _ _ => rfl) (.some rfl rfl) rfl (p_ne rfl rfl) ?_
     refine d_say (d := 104) (v := Value.bool false) (congrArg (fun z => some (Value.bool z)) (decide_eq_false (fun h9 => h9 rfl))) ?_
     refine d_val1 19 rfl rfl (by kernel_rfl) (fun _ _ => rfl) .none rfl (p_pick_f rfl rfl) ?_
     refine d_val1 20 rfl rfl (by kernel_rfl) (fun _ _ => rfl) .none rfl (p_move rfl) ?_
     refine d_val1 21 rfl rfl (by kernel_rfl) (fun _ _ => rfl) (.some rfl rfl) rfl (p_move rfl) ?_
     refine d_val1 22 rfl rfl (by kernel_rfl) (fun _ _ => rfl) (.some rfl rfl) rfl (p_move rfl) ?_
     refine d_val1 24 rfl rfl (by kernel_rfl) (fun _ _ => rfl) (.some rfl rfl) rfl (p_move rfl) ?_
     refine d_val1 25 rfl rfl (by kernel_rfl) (fun _ _ => rfl) (.some rfl rfl) rfl (p_move rfl) ?_
     refine d_eff 23 rfl (by kernel_rfl) (fun K_14 hKK_14 hcK_14 => ?_)
     refine r_front (k := 1) rfl ?_
     refine r_callor (k := 0) (vs := [_, _]) (.some rfl rfl) rfl cl88 rfl rfl (fun w F hw hA hFG => c_EkidsS _ i s (fun y hy => by have h8 := hI.klen hy; omega) w hw hA hFG) (fun r_13 => ?_)
     refine r_unpack ?_
     refine r_freeze (k := 0) rfl (fun G_15 hn_16 hs_17 => ?_)
     replace hR := hR.mono hn_16.le
     replace hL := hL.mono hn_16.le
     replace R_8 := R_8.mono hn_16.le
     have hk1 : SlL G_15 r_13 1 cI (0 : Int) (((lkp s.toks i).map Tk.kids).getD []) := SlL.of (cells := cI) (0 : Int) (fun _ => rfl) rfl hs_17
     refine r_front (k := 1) rfl ?_
     refine r_nil (e_d (i := 23) (brk := (fun _ => false)) (ph' := true) hKK_14 hcK_14 rfl (fun _ => hn_16.le) (fun _ => .keep (fun _ _ h => h) (.keep (fun _ _ h => h) (.nil))) ?_)
     clear hKK_14 hcK_14 K_14
     refine d_eff 26 rfl (by kernel_rfl) (fun K_19 hKK_19 hcK_19 => ?_)
     refine r_callrow (vs := [_, _]) (.some rfl rfl) rfl cl86 rfl (fun w hw => c_xkids b _ l i hR hL (by omega) w hw) (fun r_18 => ?_)
     refine r_freeze (k := 0) rfl (fun G_20 hn_21 hs_22 => ?_)
     replace hR := hR.mono hn_21.le
     replace hL := hL.mono hn_21.le
     replace R_8 := R_8.mono hn_21.le
     replace hk1 := hk1.mono hn_21.le
     have hk2 : SlL G_20 r_18 1 cI (0 : Int) (selF (isKid i) l l.length) := SlL.of (cells := cI) (0 : Int) (fun _ => rfl) rfl hs_22
     refine r_front (k := 1) rfl ?_
     refine r_front (k := 1) rfl ?_
     refine r_nil (e_d (i := 26) (brk := (fun _ => false)) (ph' := true) hKK_19 hcK_19 rfl (fun _ => (hn_16.trans hn_21).le) (fun _ => .keep (fun _ _ h => h) (.keep (fun _ _ h => h) (.nil))) ?_)
     clear hKK_19 hcK_19 K_19
     refine d_eff 27 rfl (by kernel_rfl) (fun K_23 hKK_23 hcK_23 => ?_)
     refine r_call (vs := [_, _]) (.some rfl rfl) rfl cl54 rfl (fun w hw => c_ints15 _ _ _ _ hk1 hk2 w hw) ?_
     refine r_nil (e_d (i := 27) (brk := (fun _ => false)) (ph' := true) hKK_23 hcK_23 rfl (fun _ => (hn_16.trans hn_21).le) (fun _ => .keep (fun _ _ h => h) (.keep (fun _ _ h => h) (.nil))) ?_)
     clear hKK_23 hcK_23 K_23
     refine d_say (d := 113) (v := Value.bool true) (congrArg (fun z => some (Value.bool z)) (decide_eq_true (by rw [ha.kids hx, hx]; rfl))) ?_
     refine d_val1 28 rfl rfl (by kernel_rfl) (fun _ _ => rfl) (.some rfl rfl) rfl (p_not rfl) ?_
     refine d_say (d := 114) (v := Value.bool false) rfl ?_
     refine d_val1 29 rfl rfl (by kernel_rfl) (fun _ _ => rfl) .none rfl (p_pick_f rfl rfl) ?_
     refine d_val1 30 rfl rfl (by kernel_rfl) (fun _ _ => rfl) .none rfl (p_move rfl) ?_
     refine d_val1 31 rfl rfl (by kernel_rfl) (fun _ _ => rfl) (.some rfl rfl) rfl (p_move rfl) ?_
     refine d_val1 32 rfl rfl (by kernel_rfl) (fun _ _ => rfl) (.some rfl rfl) rfl (p_move rfl) ?_
     refine d_val1 34 rfl rfl (by kernel_rfl) (fun _ _ => rfl) (.some rfl rfl) rfl (p_move rfl) ?_
     refine d_val1 35 rfl rfl (by kernel_rfl) (fun _ _ => rfl) (.some rfl rfl) rfl (p_move rfl) ?_
     refine d_eff 33 rfl (by kernel_rfl) (fun K_25 hKK_25 hcK_25 => ?_)
     refine r_front (k := 1) rfl ?_
     refine r_callor (k := 0) (vs := [_, _]) (.some rfl rfl) rfl cl51 rfl rfl (fun w F hw hA hFG => c_EfactsS _ i s hI (by omega) (by omega) w hw hA hFG) (fun r_24 => ?_)
     refine r_unpack ?_
     refine r_freeze (k := 0) rfl (fun G_26 hn_27 hs_28 => ?_)
     replace hR := hR.mono hn_27.le
     replace hL := hL.mono hn_27.le
     replace R_8 := R_8.mono hn_27.le
     replace hk1 := hk1.mono hn_27.le
     replace hk2 := hk2.mono hn_27.le
     have hf1 : SlL G_26 r_24 1 cI (0 : Int) (factsR s i) := SlL.of (cells := cI) (0 : Int) (fun _ => rfl) rfl hs_28
     refine r_front (k := 1) rfl ?_
     refine r_nil (e_d (i := 33) (brk := (fun _ => false)) (ph' := true) hKK_25 hcK_25 rfl (fun _ => ((hn_16.trans hn_21).trans hn_27).le) (fun _ => .keep (fun _ _ h => h) (.keep (fun _ _ h => h) (.nil))) ?_)
     clear hKK_25 hcK_25 K_25
     refine d_eff 36 rfl (by kernel_rfl) (fun K_30 hKK_30 hcK_30 => ?_)
     refine r_callrow (vs := [_, _]) (.some rfl rfl) rfl cl89 rfl (fun w hw => c_xfacts (s.last.toNat + 1) b _ l i _ w hR hL (by omega) (by omega) hO (by omega) hw) (fun r_29 => ?_)
     refine r_freeze (k := 0) rfl (fun G_31 hn_32 hs_33 => ?_)
     replace hR := hR.mono hn_32.le
     replace hL := hL.mono hn_32.le
     replace R_8 := R_8.mono hn_32.le
     replace hk1 := hk1.mono hn_32.le
     replace hk2 := hk2.mono hn_32.le
     replace hf1 := hf1.mono hn_32.le
     have hf2 : SlL G_31 r_29 1 cI (0 : Int) (rFacts (s.last.toNat + 1) l i) := SlL.of (cells := cI) (0 : Int) (fun _ => rfl) rfl hs_33
     refine r_front (k := 1) rfl ?_
     refine r_front (k := 1) rfl ?_
     refine r_nil (e_d (i := 36) (brk := (fun _ => false)) (ph' := true) hKK_30 hcK_30 rfl (fun _ => (((hn_16.trans hn_21).trans hn_27).trans hn_32).le) (fun _ => .keep (fun _ _ h => h) (.keep (fun _ _ h => h) (.nil))) ?_)
     clear hKK_30 hcK_30 K_30
     refine d_eff 37 rfl (by kernel_rfl) (fun K_34 hKK_34 hcK_34 => ?_)
     refine r_call (vs := [_, _]) (.some rfl rfl) rfl cl54 rfl (fun w hw => c_ints15 _ _ _ _ hf1 hf2 w hw) ?_
     refine r_nil (e_d (i := 37) (brk := (fun _ => false)) (ph' := true) hKK_34 hcK_34 rfl (fun _ => (((hn_16.trans hn_21).trans hn_27).trans hn_32).le) (fun _ => .keep (fun _ _ h => h) (.keep (fun _ _ h => h) (.nil))) ?_)
     clear hKK_34 hcK_34 K_34
     refine d_say (d := 123) (v := Value.bool true) (congrArg (fun z => some (Value.bool z)) (decide_eq_true (ha.facts _ _).symm)) ?_
     refine d_val1 38 rfl rfl (by kernel_rfl) (fun _ _ => rfl) (.some rfl rfl) rfl (p_not rfl) ?_
     refine d_say (d := 124) (v := Value.bool false) rfl ?_
     refine d_val1 39 rfl rfl (by kernel_rfl) (fun _ _ => rfl) .none rfl (p_pick_f rfl rfl) ?_
     refine d_val1 40 rfl rfl (by kernel_rfl) (fun _ _ => rfl) .none rfl (p_move rfl) ?_
     refine d_val1 41 rfl rfl (by kernel_rfl) (fun _ _ => rfl) (.some rfl rfl) rfl (p_move rfl) ?_
     refine d_val1 42 rfl rfl (by kernel_rfl) (fun _ _ => rfl) (.some rfl rfl) rfl (p_move rfl) ?_
     refine d_val1 44 rfl rfl (by kernel_rfl) (fun _ _ => rfl) (.some rfl rfl) rfl (p_move rfl) ?_
     refine d_val1 45 rfl rfl (by kernel_rfl) (fun _ _ => rfl) (.some rfl rfl) rfl (p_move rfl) ?_
     refine d_eff 43 rfl (by kernel_rfl) (fun K_36 hKK_36 hcK_36 => ?_)
     refine r_front (k := 1) rfl ?_
     refine r_callor (k := 0) (vs := [_, _]) (.some rfl rfl) rfl cl90 rfl rfl (fun w F hw hA hFG => c_EatS _ x.pla s (fun h hh => ⟨((Nst.wf hP x.pla (n := s.last.toNat) (by omega) (fun k hk => hwI k (by obtain ⟨y, hy, _⟩ := hk; exact ⟨y, hy⟩))) h hh).1, by have h7 := ((Nst.wf hP x.pla (n := s.last.toNat) (by omega) (fun k hk => hwI k (by obtain ⟨y, hy, _⟩ := hk; exact ⟨y, hy⟩))) h hh).2; omega⟩) w hw hA hFG) (fun r_35 => ?_)
     refine r_unpack ?_
     refine r_freeze (k := 0) rfl (fun G_37 hn_38 hs_39 => ?_)
     replace hR := hR.mono hn_38.le
     replace hL := hL.mono hn_38.le
     replace R_8 := R_8.mono hn_38.le
     replace hk1 := hk1.mono hn_38.le
     replace hk2 := hk2.mono hn_38.le
     replace hf1 := hf1.mono hn_38.le
     replace hf2 := hf2.mono hn_38.le
     have ha1 : SlL G_37 r_35 1 cI (0 : Int) (itemsN s.pl x.pla) := SlL.of (cells := cI) (0 : Int) (fun _ => rfl) rfl hs_39
     refine r_front (k := 1) rfl ?_
     refine r_nil (e_d (i := 43) (brk := (fun _ => false)) (ph' := true) hKK_36 hcK_36 rfl (fun _ => ((((hn_16.trans hn_21).trans hn_27).trans hn_32).trans hn_38).le) (fun _ => .keep (fun _ _ h => h) (.keep (fun _ _ h => h) (.nil))) ?_)
     clear hKK_36 hcK_36 K_36
     refine d_eff 46 rfl (by kernel_rfl) (fun K_41 hKK_41 hcK_41 => ?_)
     refine r_callrow (vs := [_, _]) (.some rfl rfl) rfl cl91 rfl (fun w hw => c_xat b _ l x.pla hR hL (by omega) w hw) (fun r_40 => ?_)
     refine r_freeze (k := 0) rfl (fun G_42 hn_43 hs_44 => ?_)
     replace hR := hR.mono hn_43.le
     replace hL := hL.mono hn_43.le
     replace R_8 := R_8.mono hn_43.le
     replace hk1 := hk1.mono hn_43.le
     replace hk2 := hk2.mono hn_43.le
     replace hf1 := hf1.mono hn_43.le
     replace hf2 := hf2.mono hn_43.le
     replace ha1 := ha1.mono hn_43.le
     have ha2 : SlL G_42 r_40 1 cI (0 : Int) (selF (isAt x.pla) l l.length) := SlL.of (cells := cI) (0 : Int) (fun _ => rfl) rfl hs_44
     refine r_front (k := 1) rfl ?_
     refine r_front (k := 1) rfl ?_
     refine r_nil (e_d (i := 46) (brk := (fun _ => false)) (ph' := true) hKK_41 hcK_41 rfl (fun _ => (((((hn_16.trans hn_21).trans hn_27).trans hn_32).trans hn_38).trans hn_43).le) (fun _ => .keep (fun _ _ h => h) (.keep (fun _ _ h => h) (.nil))) ?_)
     clear hKK_41 hcK_41 K_41
     refine d_eff 47 rfl (by kernel_rfl) (fun K_45 hKK_45 hcK_45 => ?_)
     refine r_call (vs := [_, _]) (.some rfl rfl) rfl cl54 rfl (fun w hw => c_ints15 _ _ _ _ ha1 ha2 w hw) ?_
     refine r_nil (e_d (i := 47) (brk := (fun _ => false)) (ph' := true) hKK_45 hcK_45 rfl (fun _ => (((((hn_16.trans hn_21).trans hn_27).trans hn_32).trans hn_38).trans hn_43).le) (fun _ => .keep (fun _ _ h => h) (.keep (fun _ _ h => h) (.nil))) ?_)
     clear hKK_45 hcK_45 K_45
     refine d_say (d := 133) (v := Value.bool true) (congrArg (fun z => some (Value.bool z)) (decide_eq_true (ha.at hP _))) ?_
     refine d_val1 48 rfl rfl (by kernel_rfl) (fun _ _ => rfl) (.some rfl rfl) rfl (p_not rfl) ?_
     refine d_say (d := 134) (v := Value.bool false) rfl ?_
     refine d_val1 49 rfl rfl (by kernel_rfl) (fun _ _ => rfl) .none rfl (p_pick_f rfl rfl) ?_
     refine d_val1 50 rfl rfl (by kernel_rfl) (fun _ _ => rfl) .none rfl (p_move rfl) ?_
     refine d_val1 51 rfl rfl (by kernel_rfl) (fun _ _ => rfl) (.some rfl rfl) rfl (p_move rfl) ?_
     refine d_val1 52 rfl rfl (by kernel_rfl) (fun _ _ => rfl) (.some rfl rfl) rfl (p_field Try.underlying108 rfl sz3 rfl) ?_
     refine d_val1 53 rfl rfl (by kernel_rfl) (fun _ _ => rfl) (.some rfl rfl) rfl (p_ld (k := 0) Try.underlying3 rfl rfl rfl (by first | exact of_decide_eq_true rfl | omega) (rfl : _ = Value.int _ _)) ?_
     refine d_val1 55 rfl rfl (by kernel_rfl) (fun _ _ => rfl) (.some rfl rfl) rfl (p_move rfl) ?_
     refine d_val1 56 rfl rfl (by kernel_rfl) (fun _ _ => rfl) (.some rfl rfl) rfl (p_field Try.underlying108 rfl sz3 rfl) ?_
     refine d_val1 57 rfl rfl (by kernel_rfl) (fun _ _ => rfl) (.some rfl rfl) rfl (p_ld (k := 0) Try.underlying3 rfl rfl rfl (by first | exact of_decide_eq_true rfl | omega) (rfl : _ = Value.int _ _)) ?_
     refine d_eff 54 rfl (by kernel_rfl) (fun K_47 hKK_47 hcK_47 => ?_)
     refine r_front (k := 1) rfl ?_
     refine r_callor (k := 0) (vs := [_, _]) (.some rfl rfl) rfl cl53 rfl rfl (fun w F hw hA hFG => c_EwithS _ x.fac s (fun h hh => ⟨((Nst.wf hF x.fac (n := s.last.toNat) (by omega) (fun k hk => hwI k (by obtain ⟨_, y, hy, _⟩ := hk; exact ⟨y, hy⟩))) h hh).1, by have h7 := ((Nst.wf hF x.fac (n := s.last.toNat) (by omega) (fun k hk => hwI k (by obtain ⟨_, y, hy, _⟩ := hk; exact ⟨y, hy⟩))) h hh).2; omega⟩) w hw hA hFG) (fun r_46 => ?_)
     refine r_unpack ?_
     refine r_freeze (k := 0) rfl (fun G_48 hn_49 hs_50 => ?_)
     replace hR := hR.mono hn_49.le
     replace hL := hL.mono hn_49.le
     replace R_8 := R_8.mono hn_49.le
     replace hk1 := hk1.mono hn_49.le
     replace hk2 := hk2.mono hn_49.le
     replace hf1 := hf1.mono hn_49.le
     replace hf2 := hf2.mono hn_49.le
     replace ha1 := ha1.mono hn_49.le
     replace ha2 := ha2.mono hn_49.le
     have hw1 : SlL G_48 r_46 1 cI (0 : Int) (itemsN s.fc x.fac) := SlL.of (cells := cI) (0 : Int) (fun _ => rfl) rfl hs_50
     refine r_front (k := 1) rfl ?_
     refine r_nil (e_d (i := 54) (brk := (fun _ => false)) (ph' := true) hKK_47 hcK_47 rfl (fun _ => ((((((hn_16.trans hn_21).trans hn_27).trans hn_32).trans hn_38).trans hn_43).trans hn_49).le) (fun _ => .keep (fun _ _ h => h) (.keep (fun _ _ h => h) (.nil))) ?_)
     clear hKK_47 hcK_47 K_47
     refine d_eff 58 rfl (by kernel_rfl) (fun K_52 hKK_52 hcK_52 => ?_)
     refine r_callrow (vs := [_, _]) (.some rfl rfl) rfl cl92 rfl (fun w hw => c_xwith b _ l x.fac hR hL (by omega) w hw) (fun r_51 => ?_)
     refine r_freeze (k := 0) rfl (fun G_53 hn_54 hs_55 => ?_)
     replace hR := hR.mono hn_54.le
     replace hL := hL.mono hn_54.le
     replace R_8 := R_8.mono hn_54.le
     replace hk1 := hk1.mono hn_54.le
     replace hk2 := hk2.mono hn_54.le
     replace hf1 := hf1.mono hn_54.le
     replace hf2 := hf2.mono hn_54.le
     replace ha1 := ha1.mono hn_54.le
     replace ha2 := ha2.mono hn_54.le
     replace hw1 := hw1.mono hn_54.le
     have hw2 : SlL G_53 r_51 1 cI (0 : Int) (selF (isWith x.fac) l l.length) := SlL.of (cells := cI) (0 : Int) (fun _ => rfl) rfl hs_55
     refine r_front (k := 1) rfl ?_
     refine r_front (k := 1) rfl ?_
     refine r_nil (e_d (i := 58) (brk := (fun _ => false)) (ph' := true) hKK_52 hcK_52 rfl (fun _ => (((((((hn_16.trans hn_21).trans hn_27).trans hn_32).trans hn_38).trans hn_43).trans hn_49).trans hn_54).le) (fun _ => .keep (fun _ _ h => h) (.keep (fun _ _ h => h) (.nil))) ?_)
     clear hKK_52 hcK_52 K_52
     refine d_eff 59 rfl (by kernel_rfl) (fun K_56 hKK_56 hcK_56 => ?_)
     refine r_call (vs := [_, _]) (.some rfl rfl) rfl cl54 rfl (fun w hw => c_ints15 _ _ _ _ hw1 hw2 w hw) ?_
     refine r_nil (e_d (i := 59) (brk := (fun _ => false)) (ph' := true) hKK_56 hcK_56 rfl (fun _ => (((((((hn_16.trans hn_21).trans hn_27).trans hn_32).trans hn_38).trans hn_43).trans hn_49).trans hn_54).le) (fun _ => .keep (fun _ _ h => h) (.keep (fun _ _ h => h) (.nil))) ?_)
     clear hKK_56 hcK_56 K_56
     refine d_say (d := 145) (v := Value.bool true) (congrArg (fun z => some (Value.bool z)) (decide_eq_true (ha.with hF _))) ?_
     refine d_val1 60 rfl rfl (by kernel_rfl) (fun _ _ => rfl) (.some rfl rfl) rfl (p_not rfl) ?_
     refine d_say (d := 146) (v := Value.bool false) rfl ?_
     refine d_val1 61 rfl rfl (by kernel_rfl) (fun _ _ => rfl) .none rfl (p_pick_f rfl rfl) ?_
     refine d_nil (by kernel_rfl) ?_
     refine e_next ?_
     refine c_cond_f rfl ?_
     refine c_skip ?_
     refine e_next ?_
     refine c_seq ?_
     refine c_region ?_
     refine r_val .none rfl (p_move rfl) ?_
     refine r_val .none rfl (p_nilcheck rfl) ?_
     refine r_val .none rfl (p_field Try.underlying111 rfl sz109 rfl) ?_
     refine r_val .none rfl (p_ldg (j := 0) Try.underlying109 rfl rfl hR (by first | exact of_decide_eq_true rfl | omega) rfl) ?_
     refine r_val .none rfl (p_leng Try.underlying109 rfl hL) ?_
     have bd_57 := (hL).bound
     refine r_val .none rfl (p_move rfl) ?_
     refine r_nil ?_
     refine e_next ?_
     refine c_block ?_
     refine c_name (d := 0) rfl (fun u_58 hu_58 => ?_)
     refine c_name (d := 1) rfl (fun u_59 hu_59 => ?_)
     refine c_name (d := 5) rfl (fun u_60 hu_60 => ?_)
     refine c_name (d := 151) rfl (fun u_61 hu_61 => ?_)
     refine c_name (d := 152) rfl (fun u_62 hu_62 => ?_)
     refine c_nameL (k := 0) rfl (fun A_63 hA_63 => ?_)
     refine c_nameL (k := 1) rfl (fun A_64 hA_64 => ?_)
     refine c_loop (σ := Nat) (fun j => [(153, Value.int .i64 (j : Nat)), (0, u_58), (1, u_59), (5, u_60), (151, u_61), (152, u_62)]) (fun j => [A_63, A_64]) (fun _ => _) (fun j => j ≤ l.length) (fun j => l.length - j) (0) (Nat.zero_le _) rfl ⟨rfl, rfl, rfl, rfl, rfl, rfl, trivial⟩ (.keep (fun _ _ h => h) (.keep (fun _ _ h => h) (.nil))) (fun j hphi => ?_)
     subst hu_58
     subst hu_59
     subst hu_60
     subst hu_61
     subst hu_62
     subst hA_63
     subst hA_64
     refine c_seq ?_
     refine c_region ?_
     refine r_val .none rfl (p_lt rfl rfl) ?_
     refine r_nil ?_
     refine e_next ?_
     refine c_seq ?_
     refine c_splitd (d := 154) rfl (fun h_65 => ?_) (fun h_65 => ?_)
     ·
      first
       | (exfalso; first | omega | assumption)
       | (
        refine c_cond_t rfl ?_
        refine c_skip ?_
        refine e_next ?_
        refine c_seq ?_
        refine c_block ?_
        refine c_seq ?_
        refine c_region ?_
        refine r_iaddr_g .none rfl Try.underlying109 sz108 rfl hL rfl (by first | exact of_decide_eq_true rfl | omega) (fun p_67 o_68 R_66 => ?_)
        refine r_val .none rfl (p_ldga0 Try.underlying108 rfl sz108 rfl R_66 (by first | exact of_decide_eq_true rfl | omega) (rfl : _ = Value.agg #[_, _, _, _])) ?_
        refine r_alloc .none rfl zr108 (IsRow.lit _) (fun b_2 => ?_)
        refine r_stw (k := 0) .none sz108 rfl rfl (IsRow.lit _) (one_lit rfl rfl) rfl ?_
        refine r_nil ?_
        refine e_next ?_
        refine c_seq ?_
        refine c_region ?_
        refine r_val .none rfl (p_move rfl) ?_
        refine r_val .none rfl (p_move rfl) ?_
        refine r_val .none rfl (p_field Try.underlying108 rfl sz9 rfl) ?_
        refine r_val .none rfl (p_ld (k := 0) Try.underlying9 rfl rfl rfl (by first | exact of_decide_eq_true rfl | omega) (rfl : _ = Value.string _)) ?_
        refine r_callo (k := 2) (vs := [_, _, _]) .none rfl cl93 rfl rfl (fun w F hw hA hFG => c_EupS _ i (l.getD j r0).2.1 s hI (by omega) w hw hA hFG) ?_
        refine r_val .none rfl (p_move rfl) ?_
        refine r_val .none rfl (p_extract rfl rfl) ?_
        refine r_val .none rfl (p_extract rfl rfl) ?_
        refine r_val .none rfl (p_assign rfl) ?_
        refine r_val .none rfl (p_assign rfl) ?_
        refine r_nil ?_
        refine e_next ?_
        refine c_seq ?_
        refine c_region ?_
        refine r_val .none rfl (p_move rfl) ?_
        refine r_val .none rfl (p_move rfl) ?_
        refine r_val .none rfl (p_field Try.underlying108 rfl sz9 rfl) ?_
        refine r_val .none rfl (p_ld (k := 0) Try.underlying9 rfl rfl rfl (by first | exact of_decide_eq_true rfl | omega) (rfl : _ = Value.string _)) ?_
        refine r_call (vs := [_, _, _]) .none rfl cl94 rfl (fun w hw => c_xup (s.last.toNat + 1) b _ l i (l.getD j r0).2.1 _ w hR hL (by omega) hO (by omega) hw) ?_
        rw [ha.up]
        refine r_val .none rfl (p_assign rfl) ?_
        refine r_nil ?_
        refine e_next ?_
        refine c_seq ?_
        refine c_region ?_
        refine r_val .none rfl (p_move rfl) ?_
        refine r_val .none rfl (p_move rfl) ?_
        refine r_val .none rfl (p_ne rfl rfl) ?_
        refine r_say (d := 172) (v := Value.bool false) (congrArg (fun z => some (Value.bool z)) (decide_eq_false (fun h9 => h9 rfl))) ?_
        refine r_val .none rfl (p_move rfl) ?_
        refine r_val (.some rfl rfl) rfl (p_move rfl) ?_
        refine r_val (.some rfl rfl) rfl (p_move rfl) ?_
        refine r_val (.some rfl rfl) rfl (p_gt rfl rfl) ?_
        refine r_val (.some rfl rfl) rfl (p_neb Try.underlying4 rfl rfl) ?_
        refine r_say (d := 177) (v := Value.bool false) (congrArg (fun z => some (Value.bool z)) (by simp)) ?_
        refine r_val .none rfl (p_pick_f rfl rfl) ?_
        refine r_nil ?_
        refine e_next ?_
        refine c_cond_f rfl ?_
        refine c_skip ?_
        refine e_norm_block ?_
        refine e_next ?_
        refine c_region ?_
        refine r_val .none rfl (p_add rfl rfl (by omega)) ?_
        refine r_val .none rfl (p_move rfl) ?_
        refine r_nil ?_
        refine e_round (j + 1) ⟨by omega, by omega⟩ rfl ⟨rfl, rfl, rfl, rfl, rfl, rfl, trivial⟩ (.drop (.keep (fun _ _ h => h) (.keep (fun _ _ h => h) (.nil))))
        )
     ·
      first
       | (exfalso; first | omega | assumption)
       | (
        refine c_cond_f rfl ?_
        refine c_exit ?_
        refine e_exit_then ?_
        refine e_exit_then ?_
        refine e_exit_block ?_
        refine e_norm_block ?_
        refine e_next ?_
        refine c_region ?_
        refine r_val .none rfl (p_move rfl) ?_
        refine r_val .none rfl (p_add rfl rfl (by omega)) ?_
        refine r_val .none rfl (p_assign rfl) ?_
        refine r_nil ?_
        refine e_round ((i + 1, _)) ⟨⟨by dsimp only; omega, ((((((((hgn.trans hn_16).trans hn_21).trans hn_27).trans hn_32).trans hn_38).trans hn_43).trans hn_49).trans hn_54)⟩, by dsimp only; omega⟩ rfl ⟨rfl, rfl, rfl, trivial⟩ (.drop (.keep (fun _ _ h => h) (.nil)))
        )
    )
 ·
  first
   | (exfalso; first | omega | assumption)
   | (
    refine c_cond_f rfl ?_
    refine c_exit ?_
    refine e_exit_then ?_
    refine e_exit_then ?_
    refine e_exit_block ?_
    refine e_next ?_
    refine c_seq ?_
    refine c_region ?_
    refine r_val .none rfl (p_assign rfl) ?_
    refine r_nil ?_
    refine e_next ?_
    refine c_ret ?_
    refine e_ret1 Try.results60 (.tmp rfl .nil) (fun w hm => ⟨?_, hm.kept [_] (.keep (fun _ _ h => h) (.nil)) (treeE 119 122 3 kS p s) (fun F' h => starL_one1 h)⟩)
    rfl
    )
end Go.Proofs.Ytdcaehepmkhciaa

/- Walks: what Go functions of this chapter come to, each as a function on plain data; no condition but those that each theorem names. Printed by a program of this work (gen.py). -/
namespace Go.Proofs.Ytdcaehepmkhciaa
open Go.Gx Go.Gx Go.Gx.T10 Go.Gx.T12 Go.Gx.T10 Go.Gx.T11 Go.Gx.T15 Go.Gx.T12 Go.Gx.T6 Go.Gx.T4
theorem cl55 : Callable Try.prog 55 := callable Try.func55 (by kernel_rfl) rfl
theorem cl56 : Callable Try.prog 56 := callable Try.func56 (by kernel_rfl) rfl
theorem cl59 : Callable Try.prog 59 := callable Try.func59 (by kernel_rfl) rfl
theorem cl60 : Callable Try.prog 60 := callable Try.func60 (by kernel_rfl) rfl
theorem map_getD3 {α : Type} {ps : List (Int × α)} {m : Nat} {d : Int × α} (h : m < (ps.map (·.1)).length) : (ps.map (·.1)).getD m 0 = (ps.getD m d).1 := by
 rw [List.length_map] at h
 simp [List.getD, h]
set_option maxHeartbeats 1000000 in
set_option maxRecDepth 100000 in
theorem c_TreePlays (a : ByteArray) (v : Value) (os : List (Bool × Int × ByteArray × Int)) {G : Ghost} (hs : SlL G v 4 opC (false, 0, ByteArray.empty, 0) os) (w : World) (hG : Has G w) :
  Calls Try.prog 9 #[kS a, v] w (Ret fun r w' => r = Value.bool true ∧ Since nX w w') := by
 refine enter (args := [_, _]) (X := nX) (G := G) (l := [(0, kS a), (1, v)]) Try.func9 rfl Try.ntmps9 hG ⟨rfl, rfl, trivial⟩ (Nat.le_of_ble_eq_true rfl) ?_
 refine c_seq ?_
 refine c_region ?_
 refine r_val .none rfl (p_assign rfl) ?_
 refine r_nil ?_
 refine e_next ?_
 refine c_seq ?_
 refine c_region ?_
 refine r_val .none rfl (p_move rfl) ?_
 refine r_callnew (vs := [_]) .none rfl cl10 rfl (fun w hw => c_tnewS a w hw) (fun p_1 => ?_)
 refine r_val .none rfl (p_assign rfl) ?_
 refine r_nil ?_
 refine e_next ?_
 refine c_seq ?_
 refine c_seq ?_
 refine c_region ?_
 refine r_val .none rfl (p_move rfl) ?_
 refine r_val .none rfl (p_leng Try.underlying22 rfl hs) ?_
 have bd_2 := (hs).bound
 refine r_val .none rfl (p_gt rfl rfl) ?_
 refine r_val .none rfl (p_move rfl) ?_
 refine r_splitd (d := 22) rfl (fun h_3 => ?_) (fun h_3 => ?_)
 ·
  first
   | (exfalso; first | omega | assumption)
   | (
    refine r_skip rfl (.no rfl rfl) ?_
    refine r_skip rfl (.no rfl rfl) ?_
    refine r_val .none rfl (p_pick_t rfl rfl) ?_
    refine r_nil ?_
    refine e_next ?_
    refine c_cond_t rfl ?_
    refine c_seq ?_
    refine c_region ?_
    refine r_val .none rfl (p_move rfl) ?_
    refine r_val .none rfl (p_ne_ptr Try.underlying23 (by first | exact .inr rfl | exact .inl rfl) rfl rfl) ?_
    refine r_say (d := 27) (v := Value.bool true) rfl ?_
    refine r_val .none rfl (p_move rfl) ?_
    refine r_call (vs := []) (.some rfl rfl) rfl cl11 rfl (fun w hw => c_awake15 w) ?_
    refine r_val .none rfl (p_pick_t rfl rfl) ?_
    refine r_val .none rfl (p_assign rfl) ?_
    refine r_nil ?_
    refine e_next ?_
    refine c_ret ?_
    refine e_ret_then ?_
    refine e_ret1 Try.results9 (.tmp rfl .nil) (fun w hm => ⟨?_, hm.since⟩)
    first
    | rfl
    | (simp; done)
    )
 ·
  first
   | (exfalso; first | omega | assumption)
   | (
    refine r_val (.some rfl rfl) rfl (p_move rfl) ?_
    refine r_val (.some rfl rfl) rfl (p_eq_ptr Try.underlying23 (by first | exact .inr rfl | exact .inl rfl) rfl rfl) ?_
    refine r_say (d := 24) (v := Value.bool false) rfl ?_
    refine r_val .none rfl (p_pick_f rfl rfl) ?_
    refine r_nil ?_
    refine e_next ?_
    refine c_cond_f rfl ?_
    refine c_skip ?_
    refine e_next ?_
    refine c_seq ?_
    refine c_region ?_
    refine r_val .none rfl (p_move rfl) ?_
    refine r_callnew (vs := [_]) .none rfl cl55 rfl (fun w hw => c_xnew a w hw) (fun p_4 => ?_)
    refine r_val .none rfl (p_assign rfl) ?_
    refine r_nil ?_
    refine e_next ?_
    refine c_seq ?_
    refine c_seq ?_
    refine c_region ?_
    refine r_val .none rfl (p_move rfl) ?_
    refine r_val .none rfl (p_leng Try.underlying22 rfl hs) ?_
    have bd_5 := (hs).bound
    refine r_val .none rfl (p_move rfl) ?_
    refine r_nil ?_
    refine e_next ?_
    refine c_block ?_
    refine c_name (d := 5) rfl (fun u_6 hu_6 => ?_)
    refine c_name (d := 6) rfl (fun u_7 hu_7 => ?_)
    refine c_name (d := 33) rfl (fun u_8 hu_8 => ?_)
    refine c_name (d := 34) rfl (fun u_9 hu_9 => ?_)
    refine c_loop (σ := Nat × TS (Tk ByteArray) ByteArray × List RTk × Ghost) (fun s' => [(35, Value.int .i64 (s'.1 : Nat)), (5, u_6), (6, u_7), (33, u_8), (34, u_9)]) (fun s' => [refA 111 108 p_4 (s'.2.2.1), treeE 119 122 3 kS p_1 s'.2.1]) (fun s' => s'.2.2.2) (fun s' => (s'.1 ≤ os.length ∧ Agr s'.2.1 s'.2.2.1 ∧ PInv s'.2.1 ∧ FInv s'.2.1 ∧ s'.2.2.1.length ≤ s'.1 + 1) ∧ GNew w nX G s'.2.2.2) (fun s' => os.length - s'.1) ((0, newS a, [(0, a, 0, 0)], _)) ⟨⟨Nat.zero_le _, Agr.new _, PInv.new _, FInv.new _, Nat.le_refl _⟩, GNew.refl _ _ _⟩ rfl ⟨rfl, rfl, rfl, rfl, rfl, trivial⟩ (.keep (fun _ _ h => h) (.keep (fun _ _ h => h) (.nil))) (fun s' hphi => ?_)
    subst hu_6
    subst hu_7
    subst hu_8
    subst hu_9
    obtain ⟨j, t, t2, H⟩ := s'
    obtain ⟨⟨hj, ha, hPl, hF, hla⟩, hgn⟩ := hphi
    dsimp only at hj ha hPl hF hla hgn ⊢
    have hI := ha.inv
    have hlo := hI.lo
    have hlen := ha.len
    replace hs := hs.mono hgn.le
    refine c_seq ?_
    refine c_region ?_
    refine r_val .none rfl (p_lt rfl rfl) ?_
    refine r_nil ?_
    refine e_next ?_
    refine c_seq ?_
    refine c_splitd (d := 36) rfl (fun h_10 => ?_) (fun h_10 => ?_)
    ·
     first
      | (exfalso; first | omega | assumption)
      | (
       refine c_cond_t rfl ?_
       refine c_skip ?_
       refine e_next ?_
       refine c_seq ?_
       refine c_block ?_
       refine c_seq ?_
       refine c_region ?_
       refine r_iaddr_g .none rfl Try.underlying22 sz27 rfl hs rfl (by first | exact of_decide_eq_true rfl | omega) (fun p_12 o_13 R_11 => ?_)
       refine r_val .none rfl (p_ldga0 Try.underlying27 rfl sz27 rfl R_11 (by first | exact of_decide_eq_true rfl | omega) (rfl : _ = Value.agg #[_, _, _, _])) ?_
       refine r_alloc .none rfl zr27 (IsRow.lit _) (fun b_1 => ?_)
       refine r_stw (k := 0) .none sz27 rfl rfl (IsRow.lit _) (one_lit rfl rfl) rfl ?_
       refine r_nil ?_
       refine e_next ?_
       refine c_seq ?_
       refine c_seq ?_
       refine c_region ?_
       refine r_val .none rfl (p_field Try.underlying27 rfl sz4 rfl) ?_
       refine r_val .none rfl (p_ld (k := 0) Try.underlying4 rfl rfl rfl (by first | exact of_decide_eq_true rfl | omega) (rfl : _ = Value.bool _)) ?_
       refine r_val .none rfl (p_not rfl) ?_
       refine r_nil ?_
       refine e_next ?_
       refine c_splitn (d := 41) rfl (fun h_14 => ?_) (fun h_14 => ?_)
       ·
        first
         | (exfalso; first | omega | assumption)
         | (
          refine c_cond_t rfl ?_
          refine c_seq ?_
          refine c_region ?_
          refine r_val .none rfl (p_move rfl) ?_
          refine r_val .none rfl (p_field Try.underlying27 rfl sz3 rfl) ?_
          refine r_val .none rfl (p_ld (k := 0) Try.underlying3 rfl rfl rfl (by first | exact of_decide_eq_true rfl | omega) (rfl : _ = Value.int _ _)) ?_
          refine r_val .none rfl (p_field Try.underlying27 rfl sz9 rfl) ?_
          refine r_val .none rfl (p_ld (k := 0) Try.underlying9 rfl rfl rfl (by first | exact of_decide_eq_true rfl | omega) (rfl : _ = Value.string _)) ?_
          refine r_val .none rfl (p_field Try.underlying27 rfl sz3 rfl) ?_
          refine r_val .none rfl (p_ld (k := 0) Try.underlying3 rfl rfl rfl (by first | exact of_decide_eq_true rfl | omega) (rfl : _ = Value.int _ _)) ?_
          rcases hP : lkp t.toks (os.getD j (false, 0, ByteArray.empty, 0)).2.1 with _ | xq
          ·
           refine r_callo (k := 2) (vs := [_, _, _, _]) .none rfl cl13 rfl rfl (fun w F hw hA hFG => c_EaddS _ (os.getD j (false, 0, ByteArray.empty, 0)).2.1 (os.getD j (false, 0, ByteArray.empty, 0)).2.2.1 (os.getD j (false, 0, ByteArray.empty, 0)).2.2.2 t hI (by omega) w hw hA hFG) ?_
           rw [addN_none hP, addX_none hP]
           rw [add_no hP]
           have hT : ¬ rThere t2 (os.getD j (false, 0, ByteArray.empty, 0)).2.1 = true := by rw [ha.there, hP]; simp
           refine r_val .none rfl (p_move rfl) ?_
           refine r_val .none rfl (p_extract rfl rfl) ?_
           refine r_val .none rfl (p_extract rfl rfl) ?_
           refine r_val .none rfl (p_assign rfl) ?_
           refine r_val .none rfl (p_assign rfl) ?_
           refine r_nil ?_
           refine e_next ?_
           refine c_seq ?_
           refine c_region ?_
           refine r_val .none rfl (p_move rfl) ?_
           refine r_val .none rfl (p_field Try.underlying27 rfl sz3 rfl) ?_
           refine r_val .none rfl (p_ld (k := 0) Try.underlying3 rfl rfl rfl (by first | exact of_decide_eq_true rfl | omega) (rfl : _ = Value.int _ _)) ?_
           refine r_val .none rfl (p_field Try.underlying27 rfl sz9 rfl) ?_
           refine r_val .none rfl (p_ld (k := 0) Try.underlying9 rfl rfl rfl (by first | exact of_decide_eq_true rfl | omega) (rfl : _ = Value.string _)) ?_
           refine r_val .none rfl (p_field Try.underlying27 rfl sz3 rfl) ?_
           refine r_val .none rfl (p_ld (k := 0) Try.underlying3 rfl rfl rfl (by first | exact of_decide_eq_true rfl | omega) (rfl : _ = Value.int _ _)) ?_
           refine r_callo (k := 1) (vs := [_, _, _, _]) .none rfl cl56 rfl rfl (fun w F hw hA hFG => c_xadd _ (os.getD j (false, 0, ByteArray.empty, 0)).2.1 (os.getD j (false, 0, ByteArray.empty, 0)).2.2.1 (os.getD j (false, 0, ByteArray.empty, 0)).2.2.2 t2 (by omega) w hw hA hFG) ?_
           rw [radd_no hT]
           rw [show rAddN t2 (os.getD j (false, 0, ByteArray.empty, 0)).2.1 = 0 from if_neg hT]
           refine r_say (d := 60) (v := Value.int .i64 0) rfl ?_
           refine r_val .none rfl (p_assign rfl) ?_
           refine r_nil ?_
           refine e_next ?_
           refine c_seq ?_
           refine c_seq ?_
           refine c_region ?_
           refine r_val .none rfl (p_move rfl) ?_
           refine r_val .none rfl (p_move rfl) ?_
           refine r_val .none rfl (p_ne rfl rfl) ?_
           refine r_say (d := 63) (v := Value.bool false) rfl ?_
           refine r_val .none rfl (p_move rfl) ?_
           refine r_val (.some rfl rfl) rfl (p_move rfl) ?_
           refine r_val (.some rfl rfl) rfl (p_eq rfl rfl) ?_
           refine r_say (d := 66) (v := Value.bool false) rfl ?_
           refine r_val (.some rfl rfl) rfl (p_move rfl) ?_
           refine r_val (.some rfl rfl) rfl (p_gt rfl rfl) ?_
           refine r_say (d := 68) (v := Value.bool false) rfl ?_
           refine r_val (.some rfl rfl) rfl (p_neb Try.underlying4 rfl rfl) ?_
           refine r_say (d := 69) (v := Value.bool false) (congrArg (fun z => some (Value.bool z)) (rfl)) ?_
           refine r_val .none rfl (p_pick_f rfl rfl) ?_
           refine r_val .none rfl (p_move rfl) ?_
           refine r_val (.some rfl rfl) rfl (p_move rfl) ?_
           refine r_val (.some rfl rfl) rfl (p_eq rfl rfl) ?_
           refine r_say (d := 73) (v := Value.bool true) rfl ?_
           refine r_val (.some rfl rfl) rfl (p_move rfl) ?_
           refine r_val (.some rfl rfl) rfl (p_move rfl) ?_
           refine r_val (.some rfl rfl) rfl (p_ne rfl rfl) ?_
           refine r_say (d := 76) (v := Value.bool false) rfl ?_
           refine r_val (.some rfl rfl) rfl (p_pick_t rfl rfl) ?_
           refine r_val .none rfl (p_pick_f rfl rfl) ?_
           refine r_nil ?_
           refine e_next ?_
           refine c_cond_f rfl ?_
           refine c_skip ?_
           refine e_next ?_
           refine c_exit ?_
           refine e_exit_then ?_
           refine e_exit_block ?_
           refine e_next ?_
           refine c_region ?_
           refine r_val .none rfl (p_add rfl rfl (by omega)) ?_
           refine r_val .none rfl (p_move rfl) ?_
           refine r_nil ?_
           refine e_front (k := 2) rfl ?_
           refine e_front (k := 2) rfl ?_
           refine e_round ((j + 1, t, t2, _)) ⟨⟨⟨by dsimp only; omega, ha, hPl, hF, by dsimp only; omega⟩, hgn⟩, by dsimp only; omega⟩ rfl ⟨rfl, rfl, rfl, rfl, rfl, trivial⟩ (.keep (fun _ _ h => h) (.keep (fun _ _ h => h) (.drop (.nil))))
          ·
           refine r_callo (k := 2) (vs := [_, _, _, _]) .none rfl cl13 rfl rfl (fun w F hw hA hFG => c_EaddS _ (os.getD j (false, 0, ByteArray.empty, 0)).2.1 (os.getD j (false, 0, ByteArray.empty, 0)).2.2.1 (os.getD j (false, 0, ByteArray.empty, 0)).2.2.2 t hI (by omega) w hw hA hFG) ?_
           rw [addN_some hP, addX_some hP]
           have hT : rThere t2 (os.getD j (false, 0, ByteArray.empty, 0)).2.1 = true := by rw [ha.there, hP]; rfl
           refine r_val .none rfl (p_move rfl) ?_
           refine r_val .none rfl (p_extract rfl rfl) ?_
           refine r_val .none rfl (p_extract rfl rfl) ?_
           refine r_val .none rfl (p_assign rfl) ?_
           refine r_val .none rfl (p_assign rfl) ?_
           refine r_nil ?_
           refine e_next ?_
           refine c_seq ?_
           refine c_region ?_
           refine r_val .none rfl (p_move rfl) ?_
           refine r_val .none rfl (p_field Try.underlying27 rfl sz3 rfl) ?_
           refine r_val .none rfl (p_ld (k := 0) Try.underlying3 rfl rfl rfl (by first | exact of_decide_eq_true rfl | omega) (rfl : _ = Value.int _ _)) ?_
           refine r_val .none rfl (p_field Try.underlying27 rfl sz9 rfl) ?_
           refine r_val .none rfl (p_ld (k := 0) Try.underlying9 rfl rfl rfl (by first | exact of_decide_eq_true rfl | omega) (rfl : _ = Value.string _)) ?_
           refine r_val .none rfl (p_field Try.underlying27 rfl sz3 rfl) ?_
           refine r_val .none rfl (p_ld (k := 0) Try.underlying3 rfl rfl rfl (by first | exact of_decide_eq_true rfl | omega) (rfl : _ = Value.int _ _)) ?_
           refine r_callo (k := 1) (vs := [_, _, _, _]) .none rfl cl56 rfl rfl (fun w F hw hA hFG => c_xadd _ (os.getD j (false, 0, ByteArray.empty, 0)).2.1 (os.getD j (false, 0, ByteArray.empty, 0)).2.2.1 (os.getD j (false, 0, ByteArray.empty, 0)).2.2.2 t2 (by omega) w hw hA hFG) ?_
           rw [radd_yes hT]
           rw [show rAddN t2 (os.getD j (false, 0, ByteArray.empty, 0)).2.1 = (t2.length : Int) + 1 from if_pos hT]
           refine r_val .none rfl (p_assign rfl) ?_
           refine r_nil ?_
           refine e_next ?_
           refine c_seq ?_
           refine c_seq ?_
           refine c_region ?_
           refine r_val .none rfl (p_move rfl) ?_
           refine r_val .none rfl (p_move rfl) ?_
           refine r_val .none rfl (p_ne rfl rfl) ?_
           refine r_val .none rfl (p_move rfl) ?_
           refine r_splitd (d := 64) rfl (fun h_15 => ?_) (fun h_15 => ?_)
           ·
            first
             | (exfalso; first | omega | assumption)
             | (
              refine r_skip rfl (.no rfl rfl) ?_
              refine r_skip rfl (.no rfl rfl) ?_
              refine r_skip rfl (.no rfl rfl) ?_
              refine r_skip rfl (.no rfl rfl) ?_
              refine r_skip rfl (.no rfl rfl) ?_
              refine r_val .none rfl (p_pick_t rfl rfl) ?_
              refine r_val .none rfl (p_move rfl) ?_
              refine r_skip rfl (.no rfl rfl) ?_
              refine r_skip rfl (.no rfl rfl) ?_
              refine r_skip rfl (.no rfl rfl) ?_
              refine r_skip rfl (.un rfl rfl) ?_
              refine r_skip rfl (.un rfl rfl) ?_
              refine r_skip rfl (.no rfl rfl) ?_
              refine r_val .none rfl (p_pick_t rfl rfl) ?_
              refine r_nil ?_
              refine e_next ?_
              refine c_cond_t rfl ?_
              refine c_seq ?_
              refine c_region ?_
              refine r_val .none rfl (p_assign rfl) ?_
              refine r_nil ?_
              refine e_next ?_
              refine c_ret ?_
              refine e_ret_then ?_
              refine e_ret_then ?_
              refine e_ret_block ?_
              refine e_ret_then ?_
              refine e_ret_then ?_
              refine e_ret_block ?_
              refine e_ret_then ?_
              refine e_ret1 Try.results9 (.tmp rfl .nil) (fun w hm => ⟨?_, hm.since⟩)
              first
              | rfl
              | (simp; done)
              )
           ·
            first
             | (exfalso; first | omega | assumption)
             | (
              refine r_val (.some rfl rfl) rfl (p_move rfl) ?_
              refine r_val (.some rfl rfl) rfl (p_eq rfl rfl) ?_
              refine r_say (d := 66) (v := Value.bool true) rfl ?_
              refine r_val (.some rfl rfl) rfl (p_move rfl) ?_
              refine r_val (.some rfl rfl) rfl (p_gt rfl rfl) ?_
              refine r_say (d := 68) (v := Value.bool true) (congrArg (fun z => some (Value.bool z)) (decide_eq_true (by omega))) ?_
              refine r_val (.some rfl rfl) rfl (p_neb Try.underlying4 rfl rfl) ?_
              refine r_say (d := 69) (v := Value.bool false) (congrArg (fun z => some (Value.bool z)) (rfl)) ?_
              refine r_val .none rfl (p_pick_f rfl rfl) ?_
              refine r_val .none rfl (p_move rfl) ?_
              refine r_val (.some rfl rfl) rfl (p_move rfl) ?_
              refine r_val (.some rfl rfl) rfl (p_eq rfl rfl) ?_
              refine r_val (.some rfl rfl) rfl (p_move rfl) ?_
              refine r_splitd (d := 74) rfl (fun h_16 => ?_) (fun h_16 => ?_)
              ·
               first
                | (exfalso; first | omega | assumption)
                | (
                 refine r_val (.some rfl rfl) rfl (p_move rfl) ?_
                 refine r_val (.some rfl rfl) rfl (p_ne rfl rfl) ?_
                 refine r_say (d := 76) (v := Value.bool true) rfl ?_
                 refine r_val (.some rfl rfl) rfl (p_pick_t rfl rfl) ?_
                 refine r_val .none rfl (p_pick_f rfl rfl) ?_
                 refine r_nil ?_
                 refine e_next ?_
                 refine c_cond_t rfl ?_
                 refine c_seq ?_
                 refine c_region ?_
                 refine r_val .none rfl (p_assign rfl) ?_
                 refine r_nil ?_
                 refine e_next ?_
                 refine c_ret ?_
                 refine e_ret_then ?_
                 refine e_ret_then ?_
                 refine e_ret_block ?_
                 refine e_ret_then ?_
                 refine e_ret_then ?_
                 refine e_ret_block ?_
                 refine e_ret_then ?_
                 refine e_ret1 Try.results9 (.tmp rfl .nil) (fun w hm => ⟨?_, hm.since⟩)
                 first
                 | rfl
                 | (simp; done)
                 )
              ·
               first
                | (exfalso; first | omega | assumption)
                | (
                 refine r_skip rfl (.no rfl rfl) ?_
                 refine r_skip rfl (.no rfl rfl) ?_
                 refine r_val (.some rfl rfl) rfl (p_pick_f rfl rfl) ?_
                 refine r_val .none rfl (p_pick_f rfl rfl) ?_
                 refine r_nil ?_
                 refine e_next ?_
                 refine c_cond_f rfl ?_
                 refine c_skip ?_
                 refine e_next ?_
                 refine c_exit ?_
                 refine e_exit_then ?_
                 refine e_exit_block ?_
                 refine e_next ?_
                 refine c_region ?_
                 refine r_val .none rfl (p_add rfl rfl (by omega)) ?_
                 refine r_val .none rfl (p_move rfl) ?_
                 refine r_nil ?_
                 refine e_front (k := 2) rfl ?_
                 refine e_front (k := 2) rfl ?_
                 refine e_round ((j + 1, addS t (os.getD j (false, 0, ByteArray.empty, 0)).2.1 (os.getD j (false, 0, ByteArray.empty, 0)).2.2.1 (os.getD j (false, 0, ByteArray.empty, 0)).2.2.2, t2 ++ [((os.getD j (false, 0, ByteArray.empty, 0)).2.1, (os.getD j (false, 0, ByteArray.empty, 0)).2.2.1, (os.getD j (false, 0, ByteArray.empty, 0)).2.2.2, (0 : Int))], _)) ⟨⟨⟨by dsimp only; omega, ha.add hP _ _, PInv.add hI hPl hP _ _, FInv.add hI hF _ _ _, by dsimp only; rw [List.length_append, List.length_singleton]; omega⟩, hgn⟩, by dsimp only; omega⟩ rfl ⟨rfl, rfl, rfl, rfl, rfl, trivial⟩ (.keep (fun _ _ h => h) (.keep (fun _ _ h => h) (.drop (.nil))))
                 )
              )
          )
       ·
        first
         | (exfalso; first | omega | assumption)
         | (
          refine c_cond_f rfl ?_
          refine c_skip ?_
          refine e_next ?_
          refine c_seq ?_
          refine c_region ?_
          refine r_val .none rfl (p_move rfl) ?_
          refine r_val .none rfl (p_field Try.underlying27 rfl sz3 rfl) ?_
          refine r_val .none rfl (p_ld (k := 0) Try.underlying3 rfl rfl rfl (by first | exact of_decide_eq_true rfl | omega) (rfl : _ = Value.int _ _)) ?_
          rcases hI.cases (os.getD j (false, 0, ByteArray.empty, 0)).2.1 with hno | ⟨hd1, x, xp, T, hx0, hp, hg⟩
          ·
           refine r_front (k := 2) rfl ?_
           refine r_callov (k := 0) (vs := [_, _]) (u := fun v => .tuple #[v, Value.int .i64 (if (os.getD j (false, 0, ByteArray.empty, 0)).2.1 = 1 then (13 : Int) else 16)]) .none rfl cl12 rfl rfl (fun w F hw hA hFG => c_tdelnoS _ (os.getD j (false, 0, ByteArray.empty, 0)).2.1 t hno w hw hA hFG) (fun dv_17 => ?_)
           refine r_unpack ?_
           refine r_val .none rfl (p_move rfl) ?_
           refine r_val .none rfl (p_extract rfl rfl) ?_
           refine r_val .none rfl (p_extract rfl rfl) ?_
           refine r_val .none rfl (p_assign rfl) ?_
           refine r_val .none rfl (p_assign rfl) ?_
           refine r_nil ?_
           refine e_next ?_
           refine c_seq ?_
           refine c_seq ?_
           refine c_region ?_
           refine r_val .none rfl (p_field Try.underlying27 rfl sz3 rfl) ?_
           refine r_val .none rfl (p_ld (k := 2) Try.underlying3 rfl rfl rfl (by first | exact of_decide_eq_true rfl | omega) (rfl : _ = Value.int _ _)) ?_
           refine r_val .none rfl (p_eq rfl rfl) ?_
           refine r_val .none rfl (p_move rfl) ?_
           refine r_splitd (d := 89) rfl (fun h_18 => ?_) (fun h_18 => ?_)
           ·
            have h1 := h_18
            first
             | (exfalso; first | omega | assumption)
             | (
              refine r_skip rfl (.no rfl rfl) ?_
              refine r_skip rfl (.no rfl rfl) ?_
              refine r_skip rfl (.no rfl rfl) ?_
              refine r_skip rfl (.no rfl rfl) ?_
              refine r_skip rfl (.no rfl rfl) ?_
              refine r_val .none rfl (p_pick_t rfl rfl) ?_
              refine r_nil ?_
              refine e_next ?_
              refine c_cond_t rfl ?_
              refine c_seq ?_
              refine c_seq ?_
              refine c_region ?_
              refine r_val .none rfl (p_move rfl) ?_
              refine r_val .none rfl (p_leno (k := 0) Try.underlying28 rfl rfl) ?_
              refine r_say (d := 97) (v := Value.int .i64 0) rfl ?_
              refine r_val .none rfl (p_gt rfl rfl) ?_
              refine r_say (d := 98) (v := Value.bool false) rfl ?_
              refine r_val .none rfl (p_move rfl) ?_
              refine r_val (.some rfl rfl) rfl (p_field Try.underlying27 rfl sz3 rfl) ?_
              refine r_val (.some rfl rfl) rfl (p_ld (k := 2) Try.underlying3 rfl rfl rfl (by first | exact of_decide_eq_true rfl | omega) (rfl : _ = Value.int _ _)) ?_
              refine r_val (.some rfl rfl) rfl (p_eq rfl rfl) ?_
              refine r_val (.some rfl rfl) rfl (p_move rfl) ?_
              refine r_splitd (d := 103) rfl (fun h_19 => ?_) (fun h_19 => ?_)
              ·
               first
                | (exfalso; first | omega | assumption)
                | (
                 refine r_val (.some rfl rfl) rfl (p_move rfl) ?_
                 refine r_val (.some rfl rfl) rfl (p_ne rfl rfl) ?_
                 refine r_say (d := 105) (v := Value.bool false) (congrArg (fun z => some (Value.bool z)) (by rw [if_pos h1]; rfl)) ?_
                 refine r_val (.some rfl rfl) rfl (p_pick_t rfl rfl) ?_
                 refine r_val .none rfl (p_pick_f rfl rfl) ?_
                 refine r_val .none rfl (p_move rfl) ?_
                 refine r_val (.some rfl rfl) rfl (p_field Try.underlying27 rfl sz3 rfl) ?_
                 refine r_val (.some rfl rfl) rfl (p_ld (k := 2) Try.underlying3 rfl rfl rfl (by first | exact of_decide_eq_true rfl | omega) (rfl : _ = Value.int _ _)) ?_
                 refine r_val (.some rfl rfl) rfl (p_ne rfl rfl) ?_
                 refine r_val (.some rfl rfl) rfl (p_move rfl) ?_
                 refine r_splitd (d := 112) rfl (fun h_20 => ?_) (fun h_20 => ?_)
                 ·
                  first
                   | (exfalso; first | omega | assumption)
                   | (
                    refine r_val (.some rfl rfl) rfl (p_move rfl) ?_
                    refine r_val (.some rfl rfl) rfl (p_ne rfl rfl) ?_
                    refine r_say (d := 114) (v := Value.bool false) (congrArg (fun z => some (Value.bool z)) (by rw [if_neg hd1]; rfl)) ?_
                    refine r_val (.some rfl rfl) rfl (p_pick_t rfl rfl) ?_
                    refine r_val .none rfl (p_pick_f rfl rfl) ?_
                    refine r_nil ?_
                    refine e_next ?_
                    refine c_cond_f rfl ?_
                    refine c_skip ?_
                    refine e_next ?_
                    refine c_exit ?_
                    refine e_exit_then ?_
                    refine e_exit_block ?_
                    refine e_next ?_
                    refine c_region ?_
                    refine r_val .none rfl (p_add rfl rfl (by omega)) ?_
                    refine r_val .none rfl (p_move rfl) ?_
                    refine r_nil ?_
                    refine e_front (k := 1) rfl ?_
                    refine e_front (k := 3) rfl ?_
                    refine e_round ((j + 1, t, t2, _)) ⟨⟨⟨by dsimp only; omega, ha, hPl, hF, by dsimp only; omega⟩, hgn⟩, by dsimp only; omega⟩ rfl ⟨rfl, rfl, rfl, rfl, rfl, trivial⟩ (.keep (fun _ _ h => h) (.keep (fun _ _ h => h) (.drop (.drop (.nil)))))
                    )
                 ·
                  first
                   | (exfalso; first | omega | assumption)
                   | (
                    refine r_skip rfl (.no rfl rfl) ?_
                    refine r_skip rfl (.no rfl rfl) ?_
                    refine r_val (.some rfl rfl) rfl (p_pick_f rfl rfl) ?_
                    refine r_val .none rfl (p_pick_f rfl rfl) ?_
                    refine r_nil ?_
                    refine e_next ?_
                    refine c_cond_f rfl ?_
                    refine c_skip ?_
                    refine e_next ?_
                    refine c_exit ?_
                    refine e_exit_then ?_
                    refine e_exit_block ?_
                    refine e_next ?_
                    refine c_region ?_
                    refine r_val .none rfl (p_add rfl rfl (by omega)) ?_
                    refine r_val .none rfl (p_move rfl) ?_
                    refine r_nil ?_
                    refine e_front (k := 1) rfl ?_
                    refine e_front (k := 3) rfl ?_
                    refine e_round ((j + 1, t, t2, _)) ⟨⟨⟨by dsimp only; omega, ha, hPl, hF, by dsimp only; omega⟩, hgn⟩, by dsimp only; omega⟩ rfl ⟨rfl, rfl, rfl, rfl, rfl, trivial⟩ (.keep (fun _ _ h => h) (.keep (fun _ _ h => h) (.drop (.drop (.nil)))))
                    )
                 )
              ·
               first
                | (exfalso; first | omega | assumption)
                | (
                 refine r_skip rfl (.no rfl rfl) ?_
                 refine r_skip rfl (.no rfl rfl) ?_
                 refine r_val (.some rfl rfl) rfl (p_pick_f rfl rfl) ?_
                 refine r_val .none rfl (p_pick_f rfl rfl) ?_
                 refine r_val .none rfl (p_move rfl) ?_
                 refine r_val (.some rfl rfl) rfl (p_field Try.underlying27 rfl sz3 rfl) ?_
                 refine r_val (.some rfl rfl) rfl (p_ld (k := 2) Try.underlying3 rfl rfl rfl (by first | exact of_decide_eq_true rfl | omega) (rfl : _ = Value.int _ _)) ?_
                 refine r_val (.some rfl rfl) rfl (p_ne rfl rfl) ?_
                 refine r_val (.some rfl rfl) rfl (p_move rfl) ?_
                 refine r_splitd (d := 112) rfl (fun h_21 => ?_) (fun h_21 => ?_)
                 ·
                  first
                   | (exfalso; first | omega | assumption)
                   | (
                    refine r_val (.some rfl rfl) rfl (p_move rfl) ?_
                    refine r_val (.some rfl rfl) rfl (p_ne rfl rfl) ?_
                    refine r_say (d := 114) (v := Value.bool false) (congrArg (fun z => some (Value.bool z)) (by rw [if_neg hd1]; rfl)) ?_
                    refine r_val (.some rfl rfl) rfl (p_pick_t rfl rfl) ?_
                    refine r_val .none rfl (p_pick_f rfl rfl) ?_
                    refine r_nil ?_
                    refine e_next ?_
                    refine c_cond_f rfl ?_
                    refine c_skip ?_
                    refine e_next ?_
                    refine c_exit ?_
                    refine e_exit_then ?_
                    refine e_exit_block ?_
                    refine e_next ?_
                    refine c_region ?_
                    refine r_val .none rfl (p_add rfl rfl (by omega)) ?_
                    refine r_val .none rfl (p_move rfl) ?_
                    refine r_nil ?_
                    refine e_front (k := 1) rfl ?_
                    refine e_front (k := 3) rfl ?_
                    refine e_round ((j + 1, t, t2, _)) ⟨⟨⟨by dsimp only; omega, ha, hPl, hF, by dsimp only; omega⟩, hgn⟩, by dsimp only; omega⟩ rfl ⟨rfl, rfl, rfl, rfl, rfl, trivial⟩ (.keep (fun _ _ h => h) (.keep (fun _ _ h => h) (.drop (.drop (.nil)))))
                    )
                 ·
                  first
                   | (exfalso; first | omega | assumption)
                   | (
                    refine r_skip rfl (.no rfl rfl) ?_
                    refine r_skip rfl (.no rfl rfl) ?_
                    refine r_val (.some rfl rfl) rfl (p_pick_f rfl rfl) ?_
                    refine r_val .none rfl (p_pick_f rfl rfl) ?_
                    refine r_nil ?_
                    refine e_next ?_
                    refine c_cond_f rfl ?_
                    refine c_skip ?_
                    refine e_next ?_
                    refine c_exit ?_
                    refine e_exit_then ?_
                    refine e_exit_block ?_
                    refine e_next ?_
                    refine c_region ?_
                    refine r_val .none rfl (p_add rfl rfl (by omega)) ?_
                    refine r_val .none rfl (p_move rfl) ?_
                    refine r_nil ?_
                    refine e_front (k := 1) rfl ?_
                    refine e_front (k := 3) rfl ?_
                    refine e_round ((j + 1, t, t2, _)) ⟨⟨⟨by dsimp only; omega, ha, hPl, hF, by dsimp only; omega⟩, hgn⟩, by dsimp only; omega⟩ rfl ⟨rfl, rfl, rfl, rfl, rfl, trivial⟩ (.keep (fun _ _ h => h) (.keep (fun _ _ h => h) (.drop (.drop (.nil)))))
                    )
                 )
              )
           ·
            have hd1 := h_18
            first
             | (exfalso; first | omega | assumption)
             | (
              refine r_val (.some rfl rfl) rfl (p_move rfl) ?_
              refine r_val (.some rfl rfl) rfl (p_field Try.underlying27 rfl sz3 rfl) ?_
              refine r_val (.some rfl rfl) rfl (p_ld (k := 2) Try.underlying3 rfl rfl rfl (by first | exact of_decide_eq_true rfl | omega) (rfl : _ = Value.int _ _)) ?_
              refine r_callo (k := 3) (vs := [_, _]) (.some rfl rfl) rfl cl57 rfl rfl (fun w F hw hA hFG => ref_see (R := fun r => r = Value.bool (rThere t2 (os.getD j (false, 0, ByteArray.empty, 0)).2.1)) (fun G' lv hle h1 h2 hG => c_xthere _ lv _ _ h1 h2 w hG) hw hA hFG) ?_
              rw [show rThere t2 (os.getD j (false, 0, ByteArray.empty, 0)).2.1 = false by rw [ha.there, hno.resolve_left hd1]; rfl]
              refine r_say (d := 93) (v := Value.bool false) rfl ?_
              refine r_val (.some rfl rfl) rfl (p_not rfl) ?_
              refine r_say (d := 94) (v := Value.bool true) rfl ?_
              refine r_val .none rfl (p_pick_f rfl rfl) ?_
              refine r_nil ?_
              refine e_next ?_
              refine c_cond_t rfl ?_
              refine c_seq ?_
              refine c_seq ?_
              refine c_region ?_
              refine r_val .none rfl (p_move rfl) ?_
              refine r_val .none rfl (p_leno (k := 0) Try.underlying28 rfl rfl) ?_
              refine r_say (d := 97) (v := Value.int .i64 0) rfl ?_
              refine r_val .none rfl (p_gt rfl rfl) ?_
              refine r_say (d := 98) (v := Value.bool false) rfl ?_
              refine r_val .none rfl (p_move rfl) ?_
              refine r_val (.some rfl rfl) rfl (p_field Try.underlying27 rfl sz3 rfl) ?_
              refine r_val (.some rfl rfl) rfl (p_ld (k := 2) Try.underlying3 rfl rfl rfl (by first | exact of_decide_eq_true rfl | omega) (rfl : _ = Value.int _ _)) ?_
              refine r_val (.some rfl rfl) rfl (p_eq rfl rfl) ?_
              refine r_val (.some rfl rfl) rfl (p_move rfl) ?_
              refine r_splitd (d := 103) rfl (fun h_22 => ?_) (fun h_22 => ?_)
              ·
               first
                | (exfalso; first | omega | assumption)
                | (
                 refine r_val (.some rfl rfl) rfl (p_move rfl) ?_
                 refine r_val (.some rfl rfl) rfl (p_ne rfl rfl) ?_
                 refine r_say (d := 105) (v := Value.bool false) (congrArg (fun z => some (Value.bool z)) (by rw [if_pos h1]; rfl)) ?_
                 refine r_val (.some rfl rfl) rfl (p_pick_t rfl rfl) ?_
                 refine r_val .none rfl (p_pick_f rfl rfl) ?_
                 refine r_val .none rfl (p_move rfl) ?_
                 refine r_val (.some rfl rfl) rfl (p_field Try.underlying27 rfl sz3 rfl) ?_
                 refine r_val (.some rfl rfl) rfl (p_ld (k := 2) Try.underlying3 rfl rfl rfl (by first | exact of_decide_eq_true rfl | omega) (rfl : _ = Value.int _ _)) ?_
                 refine r_val (.some rfl rfl) rfl (p_ne rfl rfl) ?_
                 refine r_val (.some rfl rfl) rfl (p_move rfl) ?_
                 refine r_splitd (d := 112) rfl (fun h_23 => ?_) (fun h_23 => ?_)
                 ·
                  first
                   | (exfalso; first | omega | assumption)
                   | (
                    refine r_val (.some rfl rfl) rfl (p_move rfl) ?_
                    refine r_val (.some rfl rfl) rfl (p_ne rfl rfl) ?_
                    refine r_say (d := 114) (v := Value.bool false) (congrArg (fun z => some (Value.bool z)) (by rw [if_neg hd1]; rfl)) ?_
                    refine r_val (.some rfl rfl) rfl (p_pick_t rfl rfl) ?_
                    refine r_val .none rfl (p_pick_f rfl rfl) ?_
                    refine r_nil ?_
                    refine e_next ?_
                    refine c_cond_f rfl ?_
                    refine c_skip ?_
                    refine e_next ?_
                    refine c_exit ?_
                    refine e_exit_then ?_
                    refine e_exit_block ?_
                    refine e_next ?_
                    refine c_region ?_
                    refine r_val .none rfl (p_add rfl rfl (by omega)) ?_
                    refine r_val .none rfl (p_move rfl) ?_
                    refine r_nil ?_
                    refine e_front (k := 1) rfl ?_
                    refine e_front (k := 3) rfl ?_
                    refine e_round ((j + 1, t, t2, _)) ⟨⟨⟨by dsimp only; omega, ha, hPl, hF, by dsimp only; omega⟩, hgn⟩, by dsimp only; omega⟩ rfl ⟨rfl, rfl, rfl, rfl, rfl, trivial⟩ (.keep (fun _ _ h => h) (.keep (fun _ _ h => h) (.drop (.drop (.nil)))))
                    )
                 ·
                  first
                   | (exfalso; first | omega | assumption)
                   | (
                    refine r_skip rfl (.no rfl rfl) ?_
                    refine r_skip rfl (.no rfl rfl) ?_
                    refine r_val (.some rfl rfl) rfl (p_pick_f rfl rfl) ?_
                    refine r_val .none rfl (p_pick_f rfl rfl) ?_
                    refine r_nil ?_
                    refine e_next ?_
                    refine c_cond_f rfl ?_
                    refine c_skip ?_
                    refine e_next ?_
                    refine c_exit ?_
                    refine e_exit_then ?_
                    refine e_exit_block ?_
                    refine e_next ?_
                    refine c_region ?_
                    refine r_val .none rfl (p_add rfl rfl (by omega)) ?_
                    refine r_val .none rfl (p_move rfl) ?_
                    refine r_nil ?_
                    refine e_front (k := 1) rfl ?_
                    refine e_front (k := 3) rfl ?_
                    refine e_round ((j + 1, t, t2, _)) ⟨⟨⟨by dsimp only; omega, ha, hPl, hF, by dsimp only; omega⟩, hgn⟩, by dsimp only; omega⟩ rfl ⟨rfl, rfl, rfl, rfl, rfl, trivial⟩ (.keep (fun _ _ h => h) (.keep (fun _ _ h => h) (.drop (.drop (.nil)))))
                    )
                 )
              ·
               first
                | (exfalso; first | omega | assumption)
                | (
                 refine r_skip rfl (.no rfl rfl) ?_
                 refine r_skip rfl (.no rfl rfl) ?_
                 refine r_val (.some rfl rfl) rfl (p_pick_f rfl rfl) ?_
                 refine r_val .none rfl (p_pick_f rfl rfl) ?_
                 refine r_val .none rfl (p_move rfl) ?_
                 refine r_val (.some rfl rfl) rfl (p_field Try.underlying27 rfl sz3 rfl) ?_
                 refine r_val (.some rfl rfl) rfl (p_ld (k := 2) Try.underlying3 rfl rfl rfl (by first | exact of_decide_eq_true rfl | omega) (rfl : _ = Value.int _ _)) ?_
                 refine r_val (.some rfl rfl) rfl (p_ne rfl rfl) ?_
                 refine r_val (.some rfl rfl) rfl (p_move rfl) ?_
                 refine r_splitd (d := 112) rfl (fun h_24 => ?_) (fun h_24 => ?_)
                 ·
                  first
                   | (exfalso; first | omega | assumption)
                   | (
                    refine r_val (.some rfl rfl) rfl (p_move rfl) ?_
                    refine r_val (.some rfl rfl) rfl (p_ne rfl rfl) ?_
                    refine r_say (d := 114) (v := Value.bool false) (congrArg (fun z => some (Value.bool z)) (by rw [if_neg hd1]; rfl)) ?_
                    refine r_val (.some rfl rfl) rfl (p_pick_t rfl rfl) ?_
                    refine r_val .none rfl (p_pick_f rfl rfl) ?_
                    refine r_nil ?_
                    refine e_next ?_
                    refine c_cond_f rfl ?_
                    refine c_skip ?_
                    refine e_next ?_
                    refine c_exit ?_
                    refine e_exit_then ?_
                    refine e_exit_block ?_
                    refine e_next ?_
                    refine c_region ?_
                    refine r_val .none rfl (p_add rfl rfl (by omega)) ?_
                    refine r_val .none rfl (p_move rfl) ?_
                    refine r_nil ?_
                    refine e_front (k := 1) rfl ?_
                    refine e_front (k := 3) rfl ?_
                    refine e_round ((j + 1, t, t2, _)) ⟨⟨⟨by dsimp only; omega, ha, hPl, hF, by dsimp only; omega⟩, hgn⟩, by dsimp only; omega⟩ rfl ⟨rfl, rfl, rfl, rfl, rfl, trivial⟩ (.keep (fun _ _ h => h) (.keep (fun _ _ h => h) (.drop (.drop (.nil)))))
                    )
                 ·
                  first
                   | (exfalso; first | omega | assumption)
                   | (
                    refine r_skip rfl (.no rfl rfl) ?_
                    refine r_skip rfl (.no rfl rfl) ?_
                    refine r_val (.some rfl rfl) rfl (p_pick_f rfl rfl) ?_
                    refine r_val .none rfl (p_pick_f rfl rfl) ?_
                    refine r_nil ?_
                    refine e_next ?_
                    refine c_cond_f rfl ?_
                    refine c_skip ?_
                    refine e_next ?_
                    refine c_exit ?_
                    refine e_exit_then ?_
                    refine e_exit_block ?_
                    refine e_next ?_
                    refine c_region ?_
                    refine r_val .none rfl (p_add rfl rfl (by omega)) ?_
                    refine r_val .none rfl (p_move rfl) ?_
                    refine r_nil ?_
                    refine e_front (k := 1) rfl ?_
                    refine e_front (k := 3) rfl ?_
                    refine e_round ((j + 1, t, t2, _)) ⟨⟨⟨by dsimp only; omega, ha, hPl, hF, by dsimp only; omega⟩, hgn⟩, by dsimp only; omega⟩ rfl ⟨rfl, rfl, rfl, rfl, rfl, trivial⟩ (.keep (fun _ _ h => h) (.keep (fun _ _ h => h) (.drop (.drop (.nil)))))
                    )
                 )
              )
          ·
           refine r_front (k := 2) rfl ?_
           refine r_callov (k := 0) (vs := [_, _]) (u := fun v => .tuple #[v, Value.int .i64 0]) .none rfl cl12 rfl rfl (fun w F hw hA hFG => c_EdelS _ (os.getD j (false, 0, ByteArray.empty, 0)).2.1 t T x xp hI (by omega) hd1 hx0 hp hg w hw hA hFG) (fun dv_25 => ?_)
           refine r_unpack ?_
           refine r_val .none rfl (p_move rfl) ?_
           refine r_val .none rfl (p_extract rfl rfl) ?_
           refine r_val .none rfl (p_extract rfl rfl) ?_
           refine r_val .none rfl (p_assign rfl) ?_
           refine r_val .none rfl (p_assign rfl) ?_
           refine r_nil ?_
           refine e_next ?_
           refine c_seq ?_
           refine c_seq ?_
           refine c_region ?_
           refine r_val .none rfl (p_field Try.underlying27 rfl sz3 rfl) ?_
           refine r_val .none rfl (p_ld (k := 2) Try.underlying3 rfl rfl rfl (by first | exact of_decide_eq_true rfl | omega) (rfl : _ = Value.int _ _)) ?_
           refine r_val .none rfl (p_eq rfl rfl) ?_
           refine r_val .none rfl (p_move rfl) ?_
           refine r_splitd (d := 89) rfl (fun h_26 => ?_) (fun h_26 => ?_)
           ·
            have h1 := h_26
            first
             | (exfalso; first | omega | assumption)
             | (
              refine r_skip rfl (.no rfl rfl) ?_
              refine r_skip rfl (.no rfl rfl) ?_
              refine r_skip rfl (.no rfl rfl) ?_
              refine r_skip rfl (.no rfl rfl) ?_
              refine r_skip rfl (.no rfl rfl) ?_
              refine r_val .none rfl (p_pick_t rfl rfl) ?_
              refine r_nil ?_
              refine e_next ?_
              refine c_cond_t rfl ?_
              refine c_seq ?_
              refine c_seq ?_
              refine c_region ?_
              refine r_val .none rfl (p_move rfl) ?_
              refine r_val .none rfl (p_leno (k := 0) Try.underlying28 rfl rfl) ?_
              refine r_say (d := 97) (v := Value.int .i64 0) rfl ?_
              refine r_val .none rfl (p_gt rfl rfl) ?_
              refine r_say (d := 98) (v := Value.bool false) rfl ?_
              refine r_val .none rfl (p_move rfl) ?_
              refine r_val (.some rfl rfl) rfl (p_field Try.underlying27 rfl sz3 rfl) ?_
              refine r_val (.some rfl rfl) rfl (p_ld (k := 2) Try.underlying3 rfl rfl rfl (by first | exact of_decide_eq_true rfl | omega) (rfl : _ = Value.int _ _)) ?_
              refine r_val (.some rfl rfl) rfl (p_eq rfl rfl) ?_
              refine r_val (.some rfl rfl) rfl (p_move rfl) ?_
              refine r_splitd (d := 103) rfl (fun h_27 => ?_) (fun h_27 => ?_)
              ·
               first
                | (exfalso; first | omega | assumption)
                | (
                 refine r_val (.some rfl rfl) rfl (p_move rfl) ?_
                 refine r_val (.some rfl rfl) rfl (p_ne rfl rfl) ?_
                 refine r_say (d := 105) (v := Value.bool true) rfl ?_
                 refine r_say (d := 105) (v := Value.bool false) (congrArg (fun z => some (Value.bool z)) (by rw [if_pos h1]; rfl)) ?_
                 refine r_val (.some rfl rfl) rfl (p_pick_t rfl rfl) ?_
                 refine r_val .none rfl (p_pick_f rfl rfl) ?_
                 refine r_val .none rfl (p_move rfl) ?_
                 refine r_val (.some rfl rfl) rfl (p_field Try.underlying27 rfl sz3 rfl) ?_
                 refine r_val (.some rfl rfl) rfl (p_ld (k := 2) Try.underlying3 rfl rfl rfl (by first | exact of_decide_eq_true rfl | omega) (rfl : _ = Value.int _ _)) ?_
                 refine r_val (.some rfl rfl) rfl (p_ne rfl rfl) ?_
                 refine r_val (.some rfl rfl) rfl (p_move rfl) ?_
                 refine r_splitd (d := 112) rfl (fun h_28 => ?_) (fun h_28 => ?_)
                 ·
                  first
                   | (exfalso; first | omega | assumption)
                   | (
                    refine r_val (.some rfl rfl) rfl (p_move rfl) ?_
                    refine r_val (.some rfl rfl) rfl (p_ne rfl rfl) ?_
                    refine r_say (d := 114) (v := Value.bool true) rfl ?_
                    refine r_say (d := 114) (v := Value.bool false) (congrArg (fun z => some (Value.bool z)) (by rw [if_neg hd1]; rfl)) ?_
                    refine r_val (.some rfl rfl) rfl (p_pick_t rfl rfl) ?_
                    refine r_val .none rfl (p_pick_f rfl rfl) ?_
                    refine r_nil ?_
                    refine e_next ?_
                    refine c_cond_f rfl ?_
                    refine c_skip ?_
                    refine e_next ?_
                    refine c_exit ?_
                    refine e_exit_then ?_
                    refine e_exit_block ?_
                    refine e_next ?_
                    refine c_region ?_
                    refine r_val .none rfl (p_add rfl rfl (by omega)) ?_
                    refine r_val .none rfl (p_move rfl) ?_
                    refine r_nil ?_
                    refine e_front (k := 1) rfl ?_
                    refine e_front (k := 3) rfl ?_
                    refine e_round ((j + 1, delS t x xp (os.getD j (false, 0, ByteArray.empty, 0)).2.1 T, outL t2 ((post T).map (·.1)), _)) ⟨⟨⟨by dsimp only; omega, ha.del hd1 hx0 hp hg, PInv.del hI hPl hp hg, FInv.del hI hF hp hg, by dsimp only; rw [outL_len]; omega⟩, hgn⟩, by dsimp only; omega⟩ rfl ⟨rfl, rfl, rfl, rfl, rfl, trivial⟩ (.keep (fun _ _ h => h) (.keep (fun _ _ h => h) (.drop (.drop (.nil)))))
                    )
                 ·
                  first
                   | (exfalso; first | omega | assumption)
                   | (
                    refine r_skip rfl (.no rfl rfl) ?_
                    refine r_skip rfl (.no rfl rfl) ?_
                    refine r_val (.some rfl rfl) rfl (p_pick_f rfl rfl) ?_
                    refine r_val .none rfl (p_pick_f rfl rfl) ?_
                    refine r_nil ?_
                    refine e_next ?_
                    refine c_cond_f rfl ?_
                    refine c_skip ?_
                    refine e_next ?_
                    refine c_exit ?_
                    refine e_exit_then ?_
                    refine e_exit_block ?_
                    refine e_next ?_
                    refine c_region ?_
                    refine r_val .none rfl (p_add rfl rfl (by omega)) ?_
                    refine r_val .none rfl (p_move rfl) ?_
                    refine r_nil ?_
                    refine e_front (k := 1) rfl ?_
                    refine e_front (k := 3) rfl ?_
                    refine e_round ((j + 1, delS t x xp (os.getD j (false, 0, ByteArray.empty, 0)).2.1 T, outL t2 ((post T).map (·.1)), _)) ⟨⟨⟨by dsimp only; omega, ha.del hd1 hx0 hp hg, PInv.del hI hPl hp hg, FInv.del hI hF hp hg, by dsimp only; rw [outL_len]; omega⟩, hgn⟩, by dsimp only; omega⟩ rfl ⟨rfl, rfl, rfl, rfl, rfl, trivial⟩ (.keep (fun _ _ h => h) (.keep (fun _ _ h => h) (.drop (.drop (.nil)))))
                    )
                 )
              ·
               first
                | (exfalso; first | omega | assumption)
                | (
                 refine r_skip rfl (.no rfl rfl) ?_
                 refine r_skip rfl (.no rfl rfl) ?_
                 refine r_val (.some rfl rfl) rfl (p_pick_f rfl rfl) ?_
                 refine r_val .none rfl (p_pick_f rfl rfl) ?_
                 refine r_val .none rfl (p_move rfl) ?_
                 refine r_val (.some rfl rfl) rfl (p_field Try.underlying27 rfl sz3 rfl) ?_
                 refine r_val (.some rfl rfl) rfl (p_ld (k := 2) Try.underlying3 rfl rfl rfl (by first | exact of_decide_eq_true rfl | omega) (rfl : _ = Value.int _ _)) ?_
                 refine r_val (.some rfl rfl) rfl (p_ne rfl rfl) ?_
                 refine r_val (.some rfl rfl) rfl (p_move rfl) ?_
                 refine r_splitd (d := 112) rfl (fun h_29 => ?_) (fun h_29 => ?_)
                 ·
                  first
                   | (exfalso; first | omega | assumption)
                   | (
                    refine r_val (.some rfl rfl) rfl (p_move rfl) ?_
                    refine r_val (.some rfl rfl) rfl (p_ne rfl rfl) ?_
                    refine r_say (d := 114) (v := Value.bool true) rfl ?_
                    refine r_say (d := 114) (v := Value.bool false) (congrArg (fun z => some (Value.bool z)) (by rw [if_neg hd1]; rfl)) ?_
                    refine r_val (.some rfl rfl) rfl (p_pick_t rfl rfl) ?_
                    refine r_val .none rfl (p_pick_f rfl rfl) ?_
                    refine r_nil ?_
                    refine e_next ?_
                    refine c_cond_f rfl ?_
                    refine c_skip ?_
                    refine e_next ?_
                    refine c_exit ?_
                    refine e_exit_then ?_
                    refine e_exit_block ?_
                    refine e_next ?_
                    refine c_region ?_
                    refine r_val .none rfl (p_add rfl rfl (by omega)) ?_
                    refine r_val .none rfl (p_move rfl) ?_
                    refine r_nil ?_
                    refine e_front (k := 1) rfl ?_
                    refine e_front (k := 3) rfl ?_
                    refine e_round ((j + 1, delS t x xp (os.getD j (false, 0, ByteArray.empty, 0)).2.1 T, outL t2 ((post T).map (·.1)), _)) ⟨⟨⟨by dsimp only; omega, ha.del hd1 hx0 hp hg, PInv.del hI hPl hp hg, FInv.del hI hF hp hg, by dsimp only; rw [outL_len]; omega⟩, hgn⟩, by dsimp only; omega⟩ rfl ⟨rfl, rfl, rfl, rfl, rfl, trivial⟩ (.keep (fun _ _ h => h) (.keep (fun _ _ h => h) (.drop (.drop (.nil)))))
                    )
                 ·
                  first
                   | (exfalso; first | omega | assumption)
                   | (
                    refine r_skip rfl (.no rfl rfl) ?_
                    refine r_skip rfl (.no rfl rfl) ?_
                    refine r_val (.some rfl rfl) rfl (p_pick_f rfl rfl) ?_
                    refine r_val .none rfl (p_pick_f rfl rfl) ?_
                    refine r_nil ?_
                    refine e_next ?_
                    refine c_cond_f rfl ?_
                    refine c_skip ?_
                    refine e_next ?_
                    refine c_exit ?_
                    refine e_exit_then ?_
                    refine e_exit_block ?_
                    refine e_next ?_
                    refine c_region ?_
                    refine r_val .none rfl (p_add rfl rfl (by omega)) ?_
                    refine r_val .none rfl (p_move rfl) ?_
                    refine r_nil ?_
                    refine e_front (k := 1) rfl ?_
                    refine e_front (k := 3) rfl ?_
                    refine e_round ((j + 1, delS t x xp (os.getD j (false, 0, ByteArray.empty, 0)).2.1 T, outL t2 ((post T).map (·.1)), _)) ⟨⟨⟨by dsimp only; omega, ha.del hd1 hx0 hp hg, PInv.del hI hPl hp hg, FInv.del hI hF hp hg, by dsimp only; rw [outL_len]; omega⟩, hgn⟩, by dsimp only; omega⟩ rfl ⟨rfl, rfl, rfl, rfl, rfl, trivial⟩ (.keep (fun _ _ h => h) (.keep (fun _ _ h => h) (.drop (.drop (.nil)))))
                    )
                 )
              )
           ·
            have hd1 := h_26
            first
             | (exfalso; first | omega | assumption)
             | (
              refine r_val (.some rfl rfl) rfl (p_move rfl) ?_
              refine r_val (.some rfl rfl) rfl (p_field Try.underlying27 rfl sz3 rfl) ?_
              refine r_val (.some rfl rfl) rfl (p_ld (k := 2) Try.underlying3 rfl rfl rfl (by first | exact of_decide_eq_true rfl | omega) (rfl : _ = Value.int _ _)) ?_
              refine r_callo (k := 3) (vs := [_, _]) (.some rfl rfl) rfl cl57 rfl rfl (fun w F hw hA hFG => ref_see (R := fun r => r = Value.bool (rThere t2 (os.getD j (false, 0, ByteArray.empty, 0)).2.1)) (fun G' lv hle h1 h2 hG => c_xthere _ lv _ _ h1 h2 w hG) hw hA hFG) ?_
              rw [show rThere t2 (os.getD j (false, 0, ByteArray.empty, 0)).2.1 = true by rw [ha.there, hx0]; rfl]
              refine r_say (d := 93) (v := Value.bool true) rfl ?_
              refine r_val (.some rfl rfl) rfl (p_not rfl) ?_
              refine r_say (d := 94) (v := Value.bool false) rfl ?_
              refine r_val .none rfl (p_pick_f rfl rfl) ?_
              refine r_nil ?_
              refine e_next ?_
              refine c_cond_f rfl ?_
              refine c_skip ?_
              refine e_next ?_
              refine c_seq ?_
              refine c_region ?_
              refine r_val .none rfl (p_move rfl) ?_
              refine r_val .none rfl (p_field Try.underlying27 rfl sz3 rfl) ?_
              refine r_val .none rfl (p_ld (k := 2) Try.underlying3 rfl rfl rfl (by first | exact of_decide_eq_true rfl | omega) (rfl : _ = Value.int _ _)) ?_
              refine r_front (k := 3) rfl ?_
              refine r_callor (k := 0) (vs := [_, _]) .none rfl cl58 rfl rfl (fun w F hw hA hFG => ref_seeR (Z := fun r => rowA r 3 1 ((post T).map (·.1)).length (((post T).map (·.1)).flatMap cI)) (fun G' lv hle h1 h2 hG' => by (have h9 := c_xbelow (SizeOf.sizeOf T) _ lv t2 T G' w (Nat.le_refl _) h1 h2 (by omega) (ha.rfits hg.fit) (by have h8 := hg.len hI; omega) hG'; rw [hg.top] at h9; exact h9)) hw hA hFG) (fun r_30 => ?_)
              refine r_unpack ?_
              refine r_freeze (k := 0) rfl (fun G_31 hn_32 hs_33 => ?_)
              replace hs := hs.mono hn_32.le
              replace R_11 := R_11.mono hn_32.le
              have hbw : SlL G_31 r_30 1 cI (0 : Int) ((post T).map (·.1)) := SlL.of (cells := cI) (0 : Int) (fun _ => rfl) rfl hs_33
              have hpl := hg.len hI
              have hkl : ((post T).map (·.1)).length = (post T).length := List.length_map _
              have hb : ∀ k ∈ ((post T).map (·.1)), 1 ≤ k ∧ k ≤ (t2.length : Int) := fun k hk => (by (obtain ⟨y, hy⟩ := hg.here k hk; have h8 := there_of.1 (ha.tok k y hy).1; exact ⟨h8.1, h8.2.1⟩))
              refine r_val .none rfl (p_assign rfl) ?_
              refine r_nil ?_
              refine e_next ?_
              refine c_seq ?_
              refine c_seq ?_
              refine c_region ?_
              refine r_val .none rfl (p_move rfl) ?_
              refine r_val .none rfl (p_ne rfl rfl) ?_
              refine r_say (d := 122) (v := Value.bool false) rfl ?_
              refine r_val .none rfl (p_move rfl) ?_
              refine r_val (.some rfl rfl) rfl (p_move rfl) ?_
              refine r_val (.some rfl rfl) rfl (p_leno (k := 1) Try.underlying28 rfl rfl) ?_
              refine r_val (.some rfl rfl) rfl (p_move rfl) ?_
              refine r_val (.some rfl rfl) rfl (p_leng Try.underlying42 rfl hbw) ?_
              have bd_34 := (hbw).bound
              refine r_val (.some rfl rfl) rfl (p_ne rfl rfl) ?_
              refine r_say (d := 128) (v := Value.bool false) (congrArg (fun z => some (Value.bool z)) (decide_eq_false (fun h9 => h9 (by rw [hkl])))) ?_
              refine r_val .none rfl (p_pick_f rfl rfl) ?_
              refine r_nil ?_
              refine e_next ?_
              refine c_cond_f rfl ?_
              refine c_skip ?_
              refine e_next ?_
              refine c_seq ?_
              refine c_seq ?_
              refine c_region ?_
              refine r_unex (fun lv => ?_)
              refine r_unpack ?_
              refine r_row1 (k := 1) rfl (fun o1 => ?_)
              refine r_val .none rfl (p_move rfl) ?_
              refine r_val .none rfl (p_leng Try.underlying42 rfl hbw) ?_
              have bd_35 := (hbw).bound
              refine r_val .none rfl (p_move rfl) ?_
              refine r_nil ?_
              refine e_next ?_
              refine c_block ?_
              refine c_name (d := 5) rfl (fun u_36 hu_36 => ?_)
              refine c_name (d := 6) rfl (fun u_37 hu_37 => ?_)
              refine c_name (d := 12) rfl (fun u_38 hu_38 => ?_)
              refine c_name (d := 14) rfl (fun u_39 hu_39 => ?_)
              refine c_name (d := 33) rfl (fun u_40 hu_40 => ?_)
              refine c_name (d := 34) rfl (fun u_41 hu_41 => ?_)
              refine c_name (d := 35) rfl (fun u_42 hu_42 => ?_)
              refine c_name (d := 130) rfl (fun u_43 hu_43 => ?_)
              refine c_name (d := 131) rfl (fun u_44 hu_44 => ?_)
              refine c_nameL (k := 0) rfl (fun A_45 hA_45 => ?_)
              refine c_nameL (k := 1) rfl (fun A_46 hA_46 => ?_)
              refine c_nameL (k := 2) rfl (fun A_47 hA_47 => ?_)
              refine c_nameL (k := 3) rfl (fun A_48 hA_48 => ?_)
              refine c_nameL (k := 4) rfl (fun A_49 hA_49 => ?_)
              refine c_loop (σ := Nat) (fun m => [(132, Value.int .i64 (m : Nat)), (5, u_36), (6, u_37), (12, u_38), (14, u_39), (33, u_40), (34, u_41), (35, u_42), (130, u_43), (131, u_44)]) (fun m => [A_45, A_46, A_47, A_48, A_49]) (fun _ => _) (fun m => m ≤ ((post T).map (·.1)).length) (fun m => ((post T).map (·.1)).length - m) (0) (Nat.zero_le _) rfl ⟨rfl, rfl, rfl, rfl, rfl, rfl, rfl, rfl, rfl, rfl, trivial⟩ (.keep (fun _ _ h => h) (.keep (fun _ _ h => h) (.keep (fun _ _ h => h) (.keep (fun _ _ h => h) (.keep (fun _ _ h => h) (.nil)))))) (fun m hphi => ?_)
              subst hu_36
              subst hu_37
              subst hu_38
              subst hu_39
              subst hu_40
              subst hu_41
              subst hu_42
              subst hu_43
              subst hu_44
              subst hA_45
              subst hA_46
              subst hA_47
              subst hA_48
              subst hA_49
              refine c_seq ?_
              refine c_region ?_
              refine r_val .none rfl (p_lt rfl rfl) ?_
              refine r_nil ?_
              refine e_next ?_
              refine c_seq ?_
              refine c_splitd (d := 133) rfl (fun h_50 => ?_) (fun h_50 => ?_)
              ·
               have hm : m < ((post T).map (·.1)).length := by (have h9 := h_50; omega)
               have hqm : ((post T).getD m (0, ByteArray.empty, 0)) ∈ post T := getD_mem (i := m) (d := (0, ByteArray.empty, 0)) (by omega)
               have hbm := hb ((post T).getD m (0, ByteArray.empty, 0)).1 (List.mem_map.2 ⟨_, hqm, rfl⟩)
               obtain ⟨y, hy, hy1, hy2⟩ := fitsG_fac hg.fit _ hqm
               have hqt := (ha.tok _ y hy).2
               have hqa : (rAt t2 ((post T).getD m (0, ByteArray.empty, 0)).1).2.1 = ((post T).getD m (0, ByteArray.empty, 0)).2.1 := by rw [hqt]; exact hy1
               have hqf : (rAt t2 ((post T).getD m (0, ByteArray.empty, 0)).1).2.2.1 = ((post T).getD m (0, ByteArray.empty, 0)).2.2 := by rw [hqt]; exact hy2
               first
                | (exfalso; first | omega | assumption)
                | (
                 refine c_cond_t rfl ?_
                 refine c_skip ?_
                 refine e_next ?_
                 refine c_seq ?_
                 refine c_block ?_
                 refine c_seq ?_
                 refine c_region ?_
                 refine r_val .none rfl (p_move rfl) ?_
                 refine r_iaddr_g .none rfl Try.underlying42 sz3 rfl hbw rfl (by first | exact of_decide_eq_true rfl | omega) (fun p_52 o_53 R_51 => ?_)
                 refine r_val .none rfl (p_ldg0 Try.underlying3 rfl rfl R_51 (by first | exact of_decide_eq_true rfl | omega) (rfl : _ = Value.int _ _)) ?_
                 rw [show ((post T).map (·.1)).getD m 0 = ((post T).getD m (0, ByteArray.empty, 0)).1 from map_getD3 hm]
                 refine r_val .none rfl (p_assign rfl) ?_
                 refine r_val .none rfl (p_assign rfl) ?_
                 refine r_nil ?_
                 refine e_next ?_
                 refine c_seq ?_
                 refine c_region_q mixed (by kernel_rfl) ?_
                 refine q_val .none rfl (p_move rfl) ?_
                 refine q_val .none rfl (p_move rfl) ?_
                 refine q_iaddr_o (k := 2) .none rfl Try.underlying28 sz40 rfl rfl rfl (by first | exact of_decide_eq_true rfl | omega) (fun p_54 c_55 hv_56 => ?_)
                 refine q_val .none rfl (p_ldoa0 (k := 2) Try.underlying40 rfl sz40 rfl hv_56 rfl (by first | exact of_decide_eq_true rfl | omega) (by first | exact of_decide_eq_true rfl | omega) (fun c hc => flatMap_get (cells := (gnC kS)) (fun _ => rfl) (0, ByteArray.empty, 0) _ _ _ (by first | exact of_decide_eq_true rfl | omega) (by first | exact of_decide_eq_true rfl | omega)) (rfl : _ = Value.agg #[_, _, _])) ?_
                 refine q_val .none rfl (p_move rfl) ?_
                 refine q_val .none rfl (p_move rfl) ?_
                 refine q_val .none rfl (p_nilcheck rfl) ?_
                 refine q_val .none rfl (p_field Try.underlying111 rfl sz109 rfl) ?_
                 refine q_val .none rfl (p_ld (k := 0) Try.underlying109 rfl rfl rfl (by first | exact of_decide_eq_true rfl | omega) rfl) ?_
                 refine q_val .none rfl (p_move rfl) ?_
                 refine q_val .none rfl (p_sub rfl rfl (by omega)) ?_
                 rw [show ((post T).getD m (0, ByteArray.empty, 0)).1 - 1 = (((((post T).getD m (0, ByteArray.empty, 0)).1 - 1).toNat : Nat) : Int) by omega]
                 refine q_iaddr_o (k := 1) .none rfl Try.underlying109 sz108 rfl rfl rfl (by first | exact of_decide_eq_true rfl | omega) (fun p_57 c_58 hv_59 => ?_)
                 refine q_val .none rfl (p_field Try.underlying108 rfl sz9 rfl) ?_
                 refine q_val .none rfl (p_ldo (k := 1) (j := 1) Try.underlying9 rfl rfl hv_59 rfl (by first | exact of_decide_eq_true rfl | omega) (by first | exact of_decide_eq_true rfl | omega) ((flatMap_get (cells := rC) (fun _ => rfl) r0 _ _ _ (by first | exact of_decide_eq_true rfl | omega) (by first | exact of_decide_eq_true rfl | omega)).trans (rfl : _ = Value.string _))) ?_
                 rw [show (t2.getD (((post T).getD m (0, ByteArray.empty, 0)).1 - 1).toNat r0).2.1 = ((post T).getD m (0, ByteArray.empty, 0)).2.1 from hqa]
                 refine q_val .none rfl (p_move rfl) ?_
                 refine q_val .none rfl (p_nilcheck rfl) ?_
                 refine q_val .none rfl (p_field Try.underlying111 rfl sz109 rfl) ?_
                 refine q_val .none rfl (p_ld (k := 0) Try.underlying109 rfl rfl rfl (by first | exact of_decide_eq_true rfl | omega) rfl) ?_
                 refine q_val .none rfl (p_move rfl) ?_
                 refine q_val .none rfl (p_sub rfl rfl (by omega)) ?_
                 rw [show ((post T).getD m (0, ByteArray.empty, 0)).1 - 1 = (((((post T).getD m (0, ByteArray.empty, 0)).1 - 1).toNat : Nat) : Int) by omega]
                 refine q_iaddr_o (k := 1) .none rfl Try.underlying109 sz108 rfl rfl rfl (by first | exact of_decide_eq_true rfl | omega) (fun p_60 c_61 hv_62 => ?_)
                 refine q_val .none rfl (p_field Try.underlying108 rfl sz3 rfl) ?_
                 refine q_val .none rfl (p_ldo (k := 1) (j := 2) Try.underlying3 rfl rfl hv_62 rfl (by first | exact of_decide_eq_true rfl | omega) (by first | exact of_decide_eq_true rfl | omega) ((flatMap_get (cells := rC) (fun _ => rfl) r0 _ _ _ (by first | exact of_decide_eq_true rfl | omega) (by first | exact of_decide_eq_true rfl | omega)).trans (rfl : _ = Value.int _ _))) ?_
                 rw [show (t2.getD (((post T).getD m (0, ByteArray.empty, 0)).1 - 1).toNat r0).2.2.1 = ((post T).getD m (0, ByteArray.empty, 0)).2.2 from hqf]
                 refine q_val .none rfl (p_build (vs := [(0, Value.int _ _), (1, Value.string _), (2, Value.int _ _)]) rfl (bl40_0i1_1s1_2i1 _ _ _)) ?_
                 refine q_val .none rfl (p_nea rfl rfl (eq_flat Try.underlying40 rfl lf40 ef40 eg40 (.cons (.int Try.underlying3) (.cons (.string Try.underlying9) (.cons (.int Try.underlying3) (.nil)))) (.cons (.int Try.underlying3) (.cons (.string Try.underlying9) (.cons (.int Try.underlying3) (.nil)))))) ?_
                 refine q_say (d := 161) (v := Value.bool false) (congrArg (fun z => some (Value.bool z)) (by simp [csEq, cEq, gnC, at_])) ?_
                 refine q_nil ?_
                 refine e_next ?_
                 refine c_cond_f rfl ?_
                 refine c_skip ?_
                 refine e_norm_block ?_
                 refine e_next ?_
                 refine c_region ?_
                 refine r_val .none rfl (p_add rfl rfl (by omega)) ?_
                 refine r_val .none rfl (p_move rfl) ?_
                 refine r_nil ?_
                 refine e_round (m + 1) ⟨by omega, by omega⟩ rfl ⟨rfl, rfl, rfl, rfl, rfl, rfl, rfl, rfl, rfl, rfl, trivial⟩ (.keep (fun _ _ h => h) (.keep (fun _ _ h => h) (.keep (fun _ _ h => h) (.keep (fun _ _ h => h) (.keep (fun _ _ h => h) (.nil))))))
                 )
              ·
               first
                | (exfalso; first | omega | assumption)
                | (
                 refine c_cond_f rfl ?_
                 refine c_exit ?_
                 refine e_exit_then ?_
                 refine e_exit_then ?_
                 refine e_exit_block ?_
                 refine e_next ?_
                 refine c_region ?_
                 refine r_front (k := 1) rfl ?_
                 refine r_front (k := 1) rfl ?_
                 refine r_pack [_, _] ?_
                 refine r_conv (B := refA 111 108 p_4 (t2)) (k := 0) rfl (fun _ _ h => ⟨lv, h⟩) ?_
                 dsimp only [List.set_cons_zero, List.set_cons_succ]
                 refine r_val .none rfl (p_move rfl) ?_
                 refine r_val .none rfl (p_move rfl) ?_
                 refine r_callo (k := 0) (vs := [_, _]) .none rfl cl59 rfl rfl (fun w F hw hA hFG => c_xdel _ _ ((post T).map (·.1)) t2 hbw hb (by omega) w hw hA hFG) ?_
                 refine r_nil ?_
                 refine e_norm_block ?_
                 refine e_next ?_
                 refine c_region ?_
                 refine r_val .none rfl (p_add rfl rfl (by omega)) ?_
                 refine r_val .none rfl (p_move rfl) ?_
                 refine r_nil ?_
                 refine e_front (k := 2) rfl ?_
                 refine e_front (k := 1) rfl ?_
                 refine e_round ((j + 1, delS t x xp (os.getD j (false, 0, ByteArray.empty, 0)).2.1 T, outL t2 ((post T).map (·.1)), _)) ⟨⟨⟨by dsimp only; omega, ha.del hd1 hx0 hp hg, PInv.del hI hPl hp hg, FInv.del hI hF hp hg, by dsimp only; rw [outL_len]; omega⟩, (hgn.trans hn_32)⟩, by dsimp only; omega⟩ rfl ⟨rfl, rfl, rfl, rfl, rfl, trivial⟩ (.keep (fun _ _ h => h) (.keep (fun _ _ h => h) (.drop (.drop (.nil)))))
                 )
              )
          )
       )
    ·
     first
      | (exfalso; first | omega | assumption)
      | (
       refine c_cond_f rfl ?_
       refine c_exit ?_
       refine e_exit_then ?_
       refine e_exit_then ?_
       refine e_exit_block ?_
       refine e_next ?_
       refine c_seq ?_
       refine c_region ?_
       refine r_unex (fun lv => ?_)
       refine r_unpack ?_
       refine r_row1 (k := 1) rfl (fun o1 => ?_)
       refine r_front (k := 1) rfl ?_
       refine r_freeze (k := 0) rfl (fun G_63 hn_64 hs_65 => ?_)
       replace hs := hs.mono hn_64.le
       have hL : SlL G_63 lv 4 rC r0 t2 := SlL.of (cells := rC) r0 (fun _ => rfl) rfl hs_65
       refine r_freezeX (k := 0) rfl (fun G_66 hn_67 hR => ?_)
       replace hs := hs.mono hn_67.le
       replace hL := hL.mono hn_67.le
       refine r_val .none rfl (p_move rfl) ?_
       refine r_val .none rfl (p_move rfl) ?_
       refine r_callo (k := 0) (vs := [_, _]) .none rfl cl60 rfl rfl (fun w F hw hA hFG => c_same _ _ lv t t2 hR hL ha.inv hPl hF ha (by omega) w hw hA hFG) ?_
       refine r_val .none rfl (p_move rfl) ?_
       refine r_call (vs := []) (.some rfl rfl) rfl cl11 rfl (fun w hw => c_awake15 w) ?_
       refine r_val .none rfl (p_pick_t rfl rfl) ?_
       refine r_val .none rfl (p_assign rfl) ?_
       refine r_nil ?_
       refine e_next ?_
       refine c_ret ?_
       refine e_ret1 Try.results9 (.tmp rfl .nil) (fun w hm => ⟨?_, hm.since⟩)
       first
       | rfl
       | (simp; done)
       )
    )
end Go.Proofs.Ytdcaehepmkhciaa
