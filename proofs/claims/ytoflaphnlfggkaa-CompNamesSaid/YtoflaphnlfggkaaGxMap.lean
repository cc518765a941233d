/-
  GX: maps of the call's own. Generic in the program.
-/
import Derived.Test.YtoflaphnlfggkaaGxJoin
import Derived.MapKept
import Derived.StringKeys
namespace Go.Gx
open Go.RowKit Go.MapKept

/-! ### lists as maps -/

section
variable {κ ν : Type} [DecidableEq κ]

def lkp : List (κ × ν) → κ → Option ν
  | [], _ => none
  | p :: t, k => if p.1 = k then some p.2 else lkp t k

def mput : List (κ × ν) → κ → ν → List (κ × ν)
  | [], k, v => [(k, v)]
  | p :: t, k, v => if p.1 = k then (k, v) :: t else p :: mput t k v

def mdel : List (κ × ν) → κ → List (κ × ν)
  | [], _ => []
  | p :: t, k => if p.1 = k then t else p :: mdel t k

theorem lkp_none {l : List (κ × ν)} {k : κ} : lkp l k = none ↔ ∀ p ∈ l, p.1 ≠ k := by
  induction l with
  | nil => simp [lkp]
  | cons p t ih =>
    rw [lkp]
    by_cases h : p.1 = k
    · simp [h]
    · simp only [h, if_false, ih, List.mem_cons, forall_eq_or_imp]
      exact ⟨fun hh => ⟨h, hh⟩, fun hh => hh.2⟩

theorem lkp_some {l : List (κ × ν)} {k : κ} {v : ν} (h : lkp l k = some v) : (k, v) ∈ l := by
  induction l with
  | nil => simp [lkp] at h
  | cons p t ih =>
    rw [lkp] at h
    by_cases hp : p.1 = k
    · rw [if_pos hp] at h; cases h; subst hp; simp
    · rw [if_neg hp] at h; simp [ih h]

theorem lkp_mem {l : List (κ × ν)} (hn : (l.map (·.1)).Nodup) {k : κ} {v : ν} (h : (k, v) ∈ l) : lkp l k = some v := by
  induction l with
  | nil => simp at h
  | cons p t ih =>
    simp only [List.map_cons, List.nodup_cons] at hn
    rw [lkp]
    rcases List.mem_cons.1 h with rfl | h
    · simp
    · rw [if_neg, ih hn.2 h]
      rintro rfl
      exact hn.1 (List.mem_map.2 ⟨_, h, rfl⟩)

theorem lkp_mput (l : List (κ × ν)) (k k' : κ) (v : ν) : lkp (mput l k v) k' = if k = k' then some v else lkp l k' := by
  induction l with
  | nil => simp [mput, lkp]
  | cons p t ih =>
    simp only [mput]
    by_cases h : p.1 = k
    · simp only [h, if_true, lkp]
      by_cases h2 : k = k'
      · simp [h2]
      · simp [h2]
    · simp only [h, if_false, lkp, ih]
      by_cases h2 : p.1 = k'
      · rw [if_pos h2, if_neg (by rintro rfl; exact h h2)]; simp [h2]
      · simp [h2]

theorem mput_none {l : List (κ × ν)} {k : κ} (h : lkp l k = none) (v : ν) : mput l k v = l ++ [(k, v)] := by
  induction l with
  | nil => rfl
  | cons p t ih =>
    rw [lkp] at h
    by_cases hp : p.1 = k
    · rw [if_pos hp] at h; cases h
    · rw [if_neg hp] at h
      rw [mput, if_neg hp, ih h]; rfl

theorem mput_keys {l : List (κ × ν)} {k : κ} {u v : ν} (h : lkp l k = some u) : (mput l k v).map (·.1) = l.map (·.1) := by
  induction l with
  | nil => simp [lkp] at h
  | cons p t ih =>
    rw [lkp] at h
    rw [mput]
    by_cases hp : p.1 = k
    · simp [hp]
    · rw [if_neg hp] at h; rw [if_neg hp]; simp [ih h]

theorem mput_len (l : List (κ × ν)) (k : κ) (v : ν) : (mput l k v).length = if (lkp l k).isSome then l.length else l.length + 1 := by
  cases h : lkp l k with
  | none => rw [mput_none h]; simp
  | some u =>
    have := congrArg List.length (mput_keys (v := v) h)
    simpa using this

theorem mput_same {l : List (κ × ν)} {k : κ} {u : ν} (h : lkp l k = some u) : mput l k u = l := by
  induction l with
  | nil => simp [lkp] at h
  | cons p t ih =>
    rw [lkp] at h
    rw [mput]
    by_cases hp : p.1 = k
    · rw [if_pos hp] at h; cases h; subst hp; rw [if_pos rfl]
    · rw [if_neg hp] at h; rw [if_neg hp, ih h]

theorem mdel_none {l : List (κ × ν)} {k : κ} (h : lkp l k = none) : mdel l k = l := by
  induction l with
  | nil => rfl
  | cons p t ih =>
    rw [lkp] at h
    by_cases hp : p.1 = k
    · rw [if_pos hp] at h; cases h
    · rw [if_neg hp] at h
      rw [mdel, if_neg hp, ih h]

theorem mdel_len {l : List (κ × ν)} {k : κ} {u : ν} (h : lkp l k = some u) : (mdel l k).length + 1 = l.length := by
  induction l with
  | nil => simp [lkp] at h
  | cons p t ih =>
    rw [lkp] at h
    rw [mdel]
    by_cases hp : p.1 = k
    · simp [hp]
    · rw [if_neg hp] at h; rw [if_neg hp]; simp [ih h]

theorem mdel_sub (l : List (κ × ν)) (k : κ) : (mdel l k).Sublist l := by
  induction l with
  | nil => exact List.Sublist.refl _
  | cons p t ih =>
    rw [mdel]
    split
    · exact List.sublist_cons_self _ _
    · exact ih.cons_cons _

theorem lkp_mdel {l : List (κ × ν)} (hn : (l.map (·.1)).Nodup) (k k' : κ) : lkp (mdel l k) k' = if k = k' then none else lkp l k' := by
  induction l with
  | nil => simp [mdel, lkp]
  | cons p t ih =>
    simp only [List.map_cons, List.nodup_cons] at hn
    simp only [mdel]
    by_cases h : p.1 = k
    · simp only [h, if_true, lkp]
      by_cases h2 : k = k'
      · subst h2
        simp only [if_true]
        refine lkp_none.2 (fun q hq e => hn.1 ?_)
        rw [h, ← e]; exact List.mem_map.2 ⟨q, hq, rfl⟩
      · simp [h2]
    · simp only [h, if_false, lkp, ih hn.2]
      by_cases h2 : p.1 = k'
      · rw [if_pos h2, if_neg (by rintro rfl; exact h h2)]; simp [h2]
      · simp [h2]

theorem mput_nodup {l : List (κ × ν)} (hn : (l.map (·.1)).Nodup) (k : κ) (v : ν) : ((mput l k v).map (·.1)).Nodup := by
  cases h : lkp l k with
  | none =>
    rw [mput_none h, List.map_append, List.nodup_append]
    refine ⟨hn, by simp, ?_⟩
    intro a ha b hb
    simp at hb; subst hb
    obtain ⟨p, hp, rfl⟩ := List.mem_map.1 ha
    exact lkp_none.1 h p hp
  | some u => rw [mput_keys h]; exact hn

theorem mdel_nodup {l : List (κ × ν)} (hn : (l.map (·.1)).Nodup) (k : κ) : ((mdel l k).map (·.1)).Nodup := ((mdel_sub l k).map _).nodup hn
end

/-! ### the machine's maps -/

structure KeyT (P : Program) (K : TypeId) {κ : Type} (ke : κ → Value) : Prop where
  inj : ∀ a b, ke a = ke b → a = b
  check : ∀ (w : World) (em : Bool) (k : κ), (Instr.checkKey em 10000 K (ke k)).run P w = .ok () w
  find : ∀ (w : World) (k : κ) (es : List MapEntry), (∀ e ∈ es, ∃ k', e.key = ke k') →
    ((Instr.findKey K (ke k) es).run P w = .ok none w ∧ ∀ e ∈ es, e.key ≠ ke k) ∨ ∃ j e, (Instr.findKey K (ke k) es).run P w = .ok (some (j, e.val)) w ∧ es[j]? = some e ∧ e.key = ke k
  stays : ∀ (w : World) (k : κ), (Instr.keyThatStays (ke k) (ke k)).run P w = .ok (ke k) w

theorem KeyT.plain {P : Program} {K : TypeId} {κ : Type} {ke : κ → Value} {d : TypeDesc} (hd : P.underlying K = some d) (hk : ∀ k, IsKey d (ke k)) (hi : ∀ a b, ke a = ke b → a = b) : KeyT P K ke where
  inj := hi
  check := fun w em k => run_checkKey hd (hk k) em 9999
  find := fun w k es hes => by
    rcases findNow_spec (hk k) es 0 (fun e he => by obtain ⟨k', h⟩ := hes e he; rw [h]; exact hk k') with ⟨h1, h2⟩ | ⟨j, e, h1, h2, h3⟩
    · exact .inl ⟨run_findKey hd h1, h2⟩
    · exact .inr ⟨j, e, by simpa using run_findKey hd h1, h2, h3⟩
  stays := fun w k => run_keyThatStays (hk k)

theorem KeyT.int {P : Program} {K : TypeId} {q : IntKind} (hd : P.underlying K = some (.int q)) : KeyT P K (fun n : Int => Value.int q n) :=
  .plain hd (fun _ => by simp [IsKey]) (fun a b h => by simpa using h)
theorem KeyT.string {P : Program} {K : TypeId} (hd : P.underlying K = some .string) : KeyT P K (fun s : ByteArray => Value.string s) :=
  .plain hd (fun _ => by simp [IsKey]) (fun a b h => by simpa using h)

section
variable {P : Program} {K : TypeId} {κ ν : Type} [DecidableEq κ] {ke : κ → Value} {ve : ν → Value}

def kv (e : MapEntry) : Value × Value := (e.key, e.val)
def enc (ke : κ → Value) (ve : ν → Value) (p : κ × ν) : Value × Value := (ke p.1, ve p.2)

omit [DecidableEq κ] in
theorem ents_keys {L : List MapEntry} {l : List (κ × ν)} (h : L.map kv = l.map (enc ke ve)) : ∀ e ∈ L, ∃ k, e.key = ke k := by
  intro e he
  have : kv e ∈ l.map (enc ke ve) := by rw [← h]; exact List.mem_map.2 ⟨e, he, rfl⟩
  obtain ⟨p, _, hp⟩ := List.mem_map.1 this
  exact ⟨p.1, (congrArg Prod.fst hp).symm⟩

omit [DecidableEq κ] in
theorem ents_keys_eq {L : List MapEntry} {l : List (κ × ν)} (h : L.map kv = l.map (enc ke ve)) : L.map (·.key) = l.map (fun p => ke p.1) := by
  have := congrArg (List.map Prod.fst) h
  simpa [kv, enc, Function.comp_def] using this

omit [DecidableEq κ] in
theorem ents_nodup (hi : ∀ a b, ke a = ke b → a = b) {L : List MapEntry} {l : List (κ × ν)} (h : L.map kv = l.map (enc ke ve)) (hn : (L.map (·.key)).Nodup) : (l.map (·.1)).Nodup := by
  rw [ents_keys_eq h] at hn
  have : l.map (fun p => ke p.1) = (l.map (·.1)).map ke := by simp [Function.comp_def]
  rw [this, List.Nodup, List.pairwise_map] at hn
  exact hn.imp (fun h e => h (by rw [e]))

omit [DecidableEq κ] in
theorem ents_len {L : List MapEntry} {l : List (κ × ν)} (h : L.map kv = l.map (enc ke ve)) : L.length = l.length := by
  have := congrArg List.length h
  simpa using this

/-- The key isn't there. -/
theorem ents_none {L : List MapEntry} {l : List (κ × ν)} (h : L.map kv = l.map (enc ke ve)) {k : κ} (hk : ∀ e ∈ L, e.key ≠ ke k) : lkp l k = none := by
  refine lkp_none.2 (fun p hp e => ?_)
  have : enc ke ve p ∈ L.map kv := by rw [h]; exact List.mem_map.2 ⟨p, hp, rfl⟩
  obtain ⟨x, hx, hxe⟩ := List.mem_map.1 this
  have h1 : x.key = ke p.1 := congrArg Prod.fst hxe
  rw [e] at h1
  exact hk x hx h1

/-- The key is there, at place j. -/
theorem ents_some (hi : ∀ a b, ke a = ke b → a = b) : ∀ {L : List MapEntry} {l : List (κ × ν)} {j : Nat} {e : MapEntry} {k : κ}, L.map kv = l.map (enc ke ve) → (L.map (·.key)).Nodup → L[j]? = some e → e.key = ke k →
    ∃ u, lkp l k = some u ∧ e.val = ve u ∧ (∀ (f : MapEntry → MapEntry) (v : ν), (∀ x, x.key = ke k → kv (f x) = (ke k, ve v)) → (L.modify j f).map kv = (mput l k v).map (enc ke ve)) ∧ (L.eraseIdx j).map kv = (mdel l k).map (enc ke ve)
  | [], _, _, _, _, _, _, hj, _ => by simp at hj
  | x :: L, [], _, _, _, h, _, _, _ => by simp at h
  | x :: L, p :: l, 0, e, k, h, hn, hj, hk => by
    simp only [List.map_cons, List.cons.injEq] at h
    simp at hj
    subst hj
    have h1 : x.key = ke p.1 := congrArg Prod.fst h.1
    have h2 : p.1 = k := hi _ _ (by rw [← h1, hk])
    refine ⟨p.2, by simp [lkp, h2], congrArg Prod.snd h.1, fun f v hf => ?_, ?_⟩
    · rw [mput, if_pos h2]
      simp [hf x hk, h.2, enc]
    · rw [mdel, if_pos h2]
      simpa using h.2
  | x :: L, p :: l, j + 1, e, k, h, hn, hj, hk => by
    simp only [List.map_cons, List.cons.injEq] at h
    simp only [List.map_cons, List.nodup_cons] at hn
    simp at hj
    have h1 : x.key = ke p.1 := congrArg Prod.fst h.1
    have hne : ¬ p.1 = k := fun e2 => hn.1 (by rw [h1, e2, ← hk]; exact List.mem_map.2 ⟨e, List.mem_of_getElem? hj, rfl⟩)
    obtain ⟨u, h3, h4, h5, h6⟩ := ents_some hi h.2 hn.2 hj hk
    refine ⟨u, by rw [lkp, if_neg hne]; exact h3, h4, fun f v hf => ?_, ?_⟩
    · rw [mput, if_neg hne]
      simp only [List.modify_succ_cons, List.map_cons, h5 f v hf, h.1]
    · rw [mdel, if_neg hne]
      simp only [List.eraseIdx_cons_succ, List.map_cons, h6, h.1]

structure MapIs (w : World) (m : Nat) (ke : κ → Value) (ve : ν → Value) (l : List (κ × ν)) (es : Array MapEntry) (clock : Nat) : Prop where
  heap : w.heap[m]? = some (.map es clock)
  st : Stamped es clock
  eq : es.toList.map kv = l.map (enc ke ve)

def mapA (m : Nat) (ke : κ → Value) (ve : ν → Value) (l : List (κ × ν)) : Asrt where
  holds w F := (∃ es clock, MapIs w m ke ve l es clock) ∧ ∀ b, F b ↔ b = m
  frame := by
    rintro w w' F ⟨⟨es, c, h⟩, hF⟩ hk
    exact ⟨⟨es, c, by rw [hk m ((hF m).2 rfl)]; exact h.heap, h.st, h.eq⟩, hF⟩
  dom := by
    rintro w F b ⟨⟨es, c, h⟩, hF⟩ hb
    have := (hF b).1 hb
    subst this
    exact lt_of_heap h.heap

/-- The same, with the stamp of key k's entry. -/
def mapE (m : Nat) (ke : κ → Value) (ve : ν → Value) (l : List (κ × ν)) (k : κ) (s : Nat) : Asrt where
  holds w F := (∃ es clock, MapIs w m ke ve l es clock ∧ ∃ e ∈ es.toList, e.key = ke k ∧ e.born = s) ∧ ∀ b, F b ↔ b = m
  frame := by
    rintro w w' F ⟨⟨es, c, h, h2⟩, hF⟩ hk
    exact ⟨⟨es, c, ⟨by rw [hk m ((hF m).2 rfl)]; exact h.heap, h.st, h.eq⟩, h2⟩, hF⟩
  dom := by
    rintro w F b ⟨⟨es, c, h, _⟩, hF⟩ hb
    have := (hF b).1 hb
    subst this
    exact lt_of_heap h.heap

theorem run_getObj_map' {P : Program} {w : World} {r : Nat} {es : Array MapEntry} {clock : Nat} (hb : w.heap[r]? = some (.map es clock)) : (getObj r).run P w = .ok (.map es clock) w := MapKept.run_getObj_map hb

theorem since_set {w : World} {m : Nat} {o : Obj} (F : Nat → Prop) (hF : F m) : Since F w { w with heap := w.heap.setIfInBounds m o } :=
  ⟨rfl, rfl, rfl, by simp, fun k _ hk => by
    have : m ≠ k := fun e => hk (e ▸ hF)
    simp [this]⟩

section
variable {ops : Array Oper} {Q : Exit → Act → World → Prop} {N : Nat} {X : Nat → Prop} {w0 : World} {G : Ghost} {l : List (Nat × Value)} {L : List Asrt}
variable {rest : List Oper} {d i m : Nat} {ty : TypeId} {pos : String} {after : Array Edge} {gd : Option (Nat × Bool)} {x y z : Operand} {v u : Value} {T E : TypeId} {mv : List (κ × ν)} {k : κ} {a : ν}

theorem run_lookup {w : World} (hT : P.underlying T = some (.map K E)) (hk : KeyT P K ke) (z0 : ν) (hz : ZeroIs P E (ve z0)) {es : Array MapEntry} {clock : Nat} (h : MapIs w m ke ve mv es clock) (c : Bool) :
    (Instr.lookup T (.map (some m)) (ke k) c).run P w = .ok (if c then .tuple #[ve ((lkp mv k).getD z0), .bool (lkp mv k).isSome] else ve ((lkp mv k).getD z0)) w := by
  rcases hk.find w k es.toList (ents_keys h.eq) with ⟨h1, h2⟩ | ⟨j, e, h1, h2, h3⟩
  · have h4 := ents_none h.eq h2
    simp [Instr.lookup, run_underlying hT, run_getObj_map' h.heap, hk.check, h1, hz.run, h4]
  · obtain ⟨u, h4, h5, _⟩ := ents_some hk.inj h.eq h.st.2.2 h2 h3
    simp [Instr.lookup, run_underlying hT, run_getObj_map' h.heap, hk.check, h1, h4, h5]

theorem p_lookup {z0 : ν} (hT : P.underlying T = some (.map K E)) (hk : KeyT P K ke) (hz : ZeroIs P E (ve z0)) (hx : ev l x = some (.map (some m))) (hL : L[i]? = some (mapA m ke ve mv)) (hy : ev l y = some (ke k)) :
    PV P N X w0 G l L ⟨some d, .lookup T x y false, ty, pos, after, gd⟩ (ve ((lkp mv k).getD z0)) := by
  intro ac w hS
  obtain ⟨F, ⟨⟨es, c, h⟩, _⟩, _⟩ := hS.mem.take hL
  simp only [execOp, hS.fr.eval hx, hS.fr.eval hy]
  simp [run_lookup hT hk z0 hz h]

theorem p_lookup2 {z0 : ν} (hT : P.underlying T = some (.map K E)) (hk : KeyT P K ke) (hz : ZeroIs P E (ve z0)) (hx : ev l x = some (.map (some m))) (hL : L[i]? = some (mapA m ke ve mv)) (hy : ev l y = some (ke k)) :
    PV P N X w0 G l L ⟨some d, .lookup T x y true, ty, pos, after, gd⟩ (.tuple #[ve ((lkp mv k).getD z0), .bool (lkp mv k).isSome]) := by
  intro ac w hS
  obtain ⟨F, ⟨⟨es, c, h⟩, _⟩, _⟩ := hS.mem.take hL
  simp only [execOp, hS.fr.eval hx, hS.fr.eval hy]
  simp [run_lookup hT hk z0 hz h]

omit [DecidableEq κ] in
theorem p_len_map (hT : P.underlying T = some (.map K E)) (hx : ev l x = some (.map (some m))) (hL : L[i]? = some (mapA m ke ve mv)) :
    PV P N X w0 G l L ⟨some d, .call ⟨.builtin .len, #[x], #[T]⟩, ty, pos, after, gd⟩ (.int .i64 (mv.length : Nat)) := by
  intro ac w hS
  obtain ⟨F, ⟨⟨es, c, h⟩, _⟩, _⟩ := hS.mem.take hL
  have h1 : es.size = mv.length := by simpa using ents_len h.eq
  simp [execOp, resolve, invoke, builtin, Builtin.len_, hS.fr.eval hx, run_underlying hT, goInt, run_getObj_map' h.heap, h1]

omit [DecidableEq κ] in
theorem r_makemap (hw : Wt ops l gd) (hd : Nat.blt d N = true) (ke : κ → Value) (ve : ν → Value)
    (h : ∀ m, Runs P ops Q N X w0 G rest ((d, .map (some m)) :: l) (mapA m ke ve [] :: L)) : Runs P ops Q N X w0 G (⟨some d, .makeMap T none, ty, pos, after, gd⟩ :: rest) l L := by
  refine Runs.step hw (fun a w hS => ?_)
  show Oper.upon P _ a _ Q _
  have hr : (execOp a.eval ⟨some d, .makeMap T none, ty, pos, after, gd⟩).run P w = .ok (.value (.map (some w.heap.size))) (w.alloc (.map #[] 0)) := by
    simp [execOp, Instr.makeMap]
  rw [hr, Oper.upon_value]
  refine h _ _ _ ⟨hS.fr.put (by simpa using hd) _, hS.mem.alloc _ _ ⟨⟨#[], 0, ⟨(heap_alloc w _).1, stamped_empty 0, rfl⟩⟩, fun b => Iff.rfl⟩⟩

theorem run_update {w : World} (hT : P.underlying T = some (.map K E)) (hk : KeyT P K ke) {es : Array MapEntry} {clock : Nat} (h : MapIs w m ke ve mv es clock) (k : κ) (a : ν) :
    ∃ es' clock', (Instr.mapUpdate T (.map (some m)) (ke k) (ve a)).run P w = .ok () { w with heap := w.heap.setIfInBounds m (.map es' clock') } ∧ MapIs { w with heap := w.heap.setIfInBounds m (.map es' clock') } m ke ve (mput mv k a) es' clock' := by
  rcases hk.find w k es.toList (ents_keys h.eq) with ⟨h1, h2⟩ | ⟨j, e, h1, h2, h3⟩
  · have h4 := ents_none h.eq h2
    refine ⟨es.push ⟨ke k, ve a, clock⟩, clock + 1, ?_, (heap_set h.heap).1, stamped_push h.st h2, ?_⟩
    · simp [Instr.mapUpdate, run_underlying hT, run_getObj_map' h.heap, hk.check, h1, run_setObj_map _ h.heap]
    · rw [mput_none h4, Array.toList_push, List.map_append, List.map_append, h.eq]; rfl
  · obtain ⟨u, h4, h5, h6, _⟩ := ents_some hk.inj h.eq h.st.2.2 h2 h3
    have hj : es[j]? = some e := by simpa using h2
    have hkey : ∀ e' ∈ es.toList, es[j]? = some e' → ({ e' with key := ke k, val := ve a } : MapEntry).key = e'.key := fun e' _ he' => by rw [hj] at he'; cases he'; exact h3.symm
    refine ⟨es.modify j (fun e => { e with key := ke k, val := ve a }), clock, ?_, (heap_set h.heap).1, stamped_modify h.st _ _ (fun _ _ => rfl) hkey, ?_⟩
    · simp [Instr.mapUpdate, run_underlying hT, run_getObj_map' h.heap, hk.check, h1, hj, h3, hk.stays, run_setObj_map _ h.heap]
    · rw [Array.toList_modify]
      exact h6 _ a (fun x hx => rfl)

theorem run_delete {w : World} {ty : TypeId} (hT : P.underlying T = some (.map K E)) (hk : KeyT P K ke) {es : Array MapEntry} {clock : Nat} (h : MapIs w m ke ve mv es clock) (k : κ) {K' : TypeId} :
    ∃ es', (Builtin.delete_ #[T, K'] ty #[.map (some m), ke k]).run P w = .ok (.tuple #[]) { w with heap := w.heap.setIfInBounds m (.map es' clock) } ∧ MapIs { w with heap := w.heap.setIfInBounds m (.map es' clock) } m ke ve (mdel mv k) es' clock := by
  rcases hk.find w k es.toList (ents_keys h.eq) with ⟨h1, h2⟩ | ⟨j, e, h1, h2, h3⟩
  · have h4 := ents_none h.eq h2
    refine ⟨es, ?_, (heap_set h.heap).1, h.st, ?_⟩
    · simp [Builtin.delete_, run_underlying hT, run_getObj_map' h.heap, hk.check, h1, run_setObj_map _ h.heap]
    · rw [mdel_none h4]; exact h.eq
  · obtain ⟨u, h4, h5, _, h6⟩ := ents_some hk.inj h.eq h.st.2.2 h2 h3
    refine ⟨es.eraseIdxIfInBounds j, ?_, (heap_set h.heap).1, stamped_erase h.st j, ?_⟩
    · simp [Builtin.delete_, run_underlying hT, run_getObj_map' h.heap, hk.check, h1, run_setObj_map _ h.heap]
    · rw [← h6]
      unfold Array.eraseIdxIfInBounds
      split
      · rw [Array.toList_eraseIdx]
      · rename_i hlt
        rw [List.eraseIdx_of_length_le (by simpa using hlt)]

theorem Mem.setMap {w : World} (hM : Mem X w0 G w L) {A B : Asrt} (hL : L[i]? = some A) (hA : ∀ F, A.holds w F → F m) {o : Obj} (hB : B.holds { w with heap := w.heap.setIfInBounds m o } (fun b => b = m)) :
    Mem X w0 G { w with heap := w.heap.setIfInBounds m o } (L.set i B) := by
  obtain ⟨F, hF, _, hput⟩ := hM.take hL
  exact hput _ _ (fun b => b = m) (since_set F (hA F hF)) hB (fun b hb => .inl (hb ▸ hA F hF))

theorem r_mapup (hw : Wt ops l gd) (hT : P.underlying T = some (.map K E)) (hk : KeyT P K ke) (hx : ev l x = some (.map (some m))) (hL : L[i]? = some (mapA m ke ve mv)) (hy : ev l y = some (ke k)) (hz : ev l z = some (ve a))
    (h : Runs P ops Q N X w0 G rest l (L.set i (mapA m ke ve (mput mv k a)))) : Runs P ops Q N X w0 G (⟨none, .mapUpdate T x y z, ty, pos, after, gd⟩ :: rest) l L := by
  refine Runs.step hw (fun ac w hS => ?_)
  show Oper.upon P _ ac _ Q _
  obtain ⟨F, ⟨⟨es, c, hm⟩, _⟩, _⟩ := hS.mem.take hL
  obtain ⟨es', c', hr, hm'⟩ := run_update hT hk hm k a
  have hr' : (execOp ac.eval ⟨none, .mapUpdate T x y z, ty, pos, after, gd⟩).run P w = .ok .skip { w with heap := w.heap.setIfInBounds m (.map es' c') } := by
    simp only [execOp, hS.fr.eval hx, hS.fr.eval hy, hS.fr.eval hz]
    simp [hr]
  rw [hr']
  exact h _ _ ⟨hS.fr, hS.mem.setMap hL (fun F hF => (hF.2 m).2 rfl) ⟨⟨es', c', hm'⟩, fun b => Iff.rfl⟩⟩

theorem r_delete {K' : TypeId} {dd : Option Nat} (hw : Wt ops l gd) (hT : P.underlying T = some (.map K E)) (hk : KeyT P K ke) (hx : ev l x = some (.map (some m))) (hL : L[i]? = some (mapA m ke ve mv)) (hy : ev l y = some (ke k)) (hd : dd = none)
    (h : Runs P ops Q N X w0 G rest l (L.set i (mapA m ke ve (mdel mv k)))) : Runs P ops Q N X w0 G (⟨dd, .call ⟨.builtin .delete, #[x, y], #[T, K']⟩, ty, pos, after, gd⟩ :: rest) l L := by
  subst hd
  refine Runs.step hw (fun ac w hS => ?_)
  show Oper.upon P _ ac _ Q _
  obtain ⟨F, ⟨⟨es, c, hm⟩, _⟩, _⟩ := hS.mem.take hL
  obtain ⟨es', hr, hm'⟩ := run_delete (ty := ty) (K' := K') hT hk hm k
  have hr' : (execOp ac.eval ⟨none, .call ⟨.builtin .delete, #[x, y], #[T, K']⟩, ty, pos, after, gd⟩).run P w = .ok (.value (.tuple #[])) { w with heap := w.heap.setIfInBounds m (.map es' c) } := by
    simp only [execOp, resolve, invoke, builtin, Sem.run_bind, Sem.run_pure, Result.andThen_ok, List.map_toArray, List.map_cons, List.map_nil, hS.fr.eval hx, hS.fr.eval hy, hr]
  rw [hr']
  exact h _ _ ⟨hS.fr, hS.mem.setMap hL (fun F hF => (hF.2 m).2 rfl) ⟨⟨es', c, hm'⟩, fun b => Iff.rfl⟩⟩

theorem run_entry {w : World} {z0 : ν} (hT : P.underlying T = some (.map K E)) (hk : KeyT P K ke) (hz : ZeroIs P E (ve z0)) {es : Array MapEntry} {clock : Nat} (h : MapIs w m ke ve mv es clock) (k : κ) :
    ∃ es' clock', ∃ s : Nat, (Instr.mapEntry T (.map (some m)) (ke k)).run P w = .ok (.tuple #[ve ((lkp mv k).getD z0), goInt s]) { w with heap := w.heap.setIfInBounds m (.map es' clock') } ∧
      MapIs { w with heap := w.heap.setIfInBounds m (.map es' clock') } m ke ve (mput mv k ((lkp mv k).getD z0)) es' clock' ∧ ∃ e ∈ es'.toList, e.key = ke k ∧ e.born = s := by
  rcases hk.find w k es.toList (ents_keys h.eq) with ⟨h1, h2⟩ | ⟨j, e, h1, h2, h3⟩
  · have h4 := ents_none h.eq h2
    refine ⟨es.push ⟨ke k, ve z0, clock⟩, clock + 1, clock, ?_, ⟨(heap_set h.heap).1, stamped_push h.st h2, ?_⟩, ⟨ke k, ve z0, clock⟩, by simp, rfl, rfl⟩
    · simp [Instr.mapEntry, run_underlying hT, run_getObj_map' h.heap, hk.check, h1, run_setObj_map _ h.heap, hz.run, h4]
    · rw [h4, Option.getD_none, mput_none h4, Array.toList_push, List.map_append, List.map_append, h.eq]; rfl
  · obtain ⟨u, h4, h5, h6, _⟩ := ents_some hk.inj h.eq h.st.2.2 h2 h3
    have hj : es[j]? = some e := by simpa using h2
    have hkey : ∀ e' ∈ es.toList, es[j]? = some e' → ({ e' with key := ke k } : MapEntry).key = e'.key := fun e' _ he' => by rw [hj] at he'; cases he'; exact h3.symm
    have e1 : es.modify j (fun e => { e with key := ke k }) = es := by
      apply Array.ext'
      rw [Array.toList_modify]
      apply List.ext_getElem?
      intro n
      by_cases hn : j = n
      · subst hn
        simp [h2, ← h3]
      · simp [hn]
    refine ⟨es, clock, e.born, ?_, ⟨(heap_set h.heap).1, h.st, ?_⟩, e, List.mem_of_getElem? h2, h3, rfl⟩
    · simp [Instr.mapEntry, run_underlying hT, run_getObj_map' h.heap, hk.check, h1, hj, h3, hk.stays, run_setObj_map _ h.heap, e1, h4, h5]
    · rw [h4, Option.getD_some, mput_same h4]
      exact h.eq

theorem r_mapentry {z0 : ν} (hw : Wt ops l gd) (hd : Nat.blt d N = true) (hT : P.underlying T = some (.map K E)) (hk : KeyT P K ke) (hz : ZeroIs P E (ve z0)) (hx : ev l x = some (.map (some m))) (hL : L[i]? = some (mapA m ke ve mv)) (hy : ev l y = some (ke k))
    (h : ∀ s : Nat, Runs P ops Q N X w0 G rest ((d, .tuple #[ve ((lkp mv k).getD z0), .int .i64 (s : Int)]) :: l) (L.set i (mapE m ke ve (mput mv k ((lkp mv k).getD z0)) k s))) : Runs P ops Q N X w0 G (⟨some d, .mapEntry T x y, ty, pos, after, gd⟩ :: rest) l L := by
  refine Runs.step hw (fun ac w hS => ?_)
  show Oper.upon P _ ac _ Q _
  obtain ⟨F, ⟨⟨es, c, hm⟩, _⟩, _⟩ := hS.mem.take hL
  obtain ⟨es', c', s, hr, hm', he⟩ := run_entry hT hk hz hm k
  have hr' : (execOp ac.eval ⟨some d, .mapEntry T x y, ty, pos, after, gd⟩).run P w = .ok (.value (.tuple #[ve ((lkp mv k).getD z0), .int .i64 (s : Int)])) { w with heap := w.heap.setIfInBounds m (.map es' c') } := by
    simp only [execOp, hS.fr.eval hx, hS.fr.eval hy]
    simp [hr, goInt]
  rw [hr', Oper.upon_value]
  exact h s _ _ ⟨hS.fr.put (by simpa using hd) _, hS.mem.setMap hL (fun F hF => (hF.2 m).2 rfl) ⟨⟨es', c', hm', he⟩, fun b => Iff.rfl⟩⟩

theorem findIdx_born {es : Array MapEntry} {e : MapEntry} (hn : (es.toList.map (·.born)).Nodup) (he : e ∈ es.toList) : ∃ j : Nat, es.findIdx? (fun x => (x.born : Int) == (e.born : Int)) = some j ∧ es.toList[j]? = some e := by
  obtain ⟨j, hj⟩ := List.getElem?_of_mem he
  refine ⟨j, ?_, hj⟩
  rw [Array.findIdx?_eq_some_iff_getElem]
  obtain ⟨hlt, hje⟩ := List.getElem?_eq_some_iff.1 hj
  refine ⟨by simpa using hlt, by simp at hje; simp [hje], fun n hnj => ?_⟩
  have hlt2 : n < es.toList.length := by omega
  intro hc
  have hc' : es.toList[n].born = e.born := by
    have h4 : ((es[n]).born : Int) = (e.born : Int) := by simpa using hc
    have h5 := Int.ofNat.inj h4
    simpa using h5
  have h3 : (es.toList.map (·.born))[n]'(by simpa using hlt2) = (es.toList.map (·.born))[j]'(by simpa using hlt) := by simp only [List.getElem_map, hc', hje]
  have := (List.getElem_inj hn).1 h3
  omega

theorem r_entrystore {s : Nat} (hw : Wt ops l gd) (hi : ∀ a b, ke a = ke b → a = b) (hx : ev l x = some (.map (some m))) (hL : L[i]? = some (mapE m ke ve mv k s)) (hy : ev l y = some (.int .i64 (s : Int))) (hz : ev l z = some (ve a))
    (h : Runs P ops Q N X w0 G rest l (L.set i (mapA m ke ve (mput mv k a)))) : Runs P ops Q N X w0 G (⟨none, .entryStore T x y z, ty, pos, after, gd⟩ :: rest) l L := by
  refine Runs.step hw (fun ac w hS => ?_)
  show Oper.upon P _ ac _ Q _
  obtain ⟨F, ⟨⟨es, c, hm, e, he, hek, heb⟩, _⟩, _⟩ := hS.mem.take hL
  subst heb
  obtain ⟨j, hj, hje⟩ := findIdx_born hm.st.2.1 he
  obtain ⟨u, h4, h5, h6, _⟩ := ents_some hi hm.eq hm.st.2.2 hje hek
  have hr : (Instr.entryStore T (.map (some m)) (.int .i64 (e.born : Int)) (ve a)).run P w = .ok () { w with heap := w.heap.setIfInBounds m (.map (es.modify j fun e => { e with val := ve a }) c) } := by
    simp only [Instr.entryStore, Sem.run_bind, run_getObj_map' hm.heap, Result.andThen_ok, asInt, asIntOf, Sem.run_pure, hj]
    simp [run_setObj_map _ hm.heap]
  have hr' : (execOp ac.eval ⟨none, .entryStore T x y z, ty, pos, after, gd⟩).run P w = .ok .skip { w with heap := w.heap.setIfInBounds m (.map (es.modify j fun e => { e with val := ve a }) c) } := by
    simp only [execOp, hS.fr.eval hx, hS.fr.eval hy, hS.fr.eval hz]
    simp [hr]
  rw [hr', Oper.upon_skip]
  refine h _ _ ⟨hS.fr, hS.mem.setMap hL (fun F hF => (hF.2 m).2 rfl) ⟨⟨_, c, ⟨(heap_set hm.heap).1, stamped_modify hm.st _ _ (fun _ _ => rfl) (fun _ _ _ => rfl), ?_⟩⟩, fun b => Iff.rfl⟩⟩
  rw [Array.toList_modify]
  exact h6 _ a (fun x hx => by simp [kv, hx])

end
end

/-! ### values that are slices lie in one cell -/

theorem SlG.one {G : Ghost} {v : Value} {n sz : Nat} {f : Nat → Nat → Value} (h : SlG G v n sz f) : v.oneCell' = true := by
  obtain ⟨_, _, rfl, _⟩ := h; rfl
theorem SlL.one {α : Type} {G : Ghost} {v : Value} {sz : Nat} {cells : α → List Value} {e : α} {l : List α} (h : SlL G v sz cells e l) : v.oneCell' = true := SlG.one h
theorem rowA_one {w : World} {F : Nat → Prop} {v : Value} {E : TypeId} {sz n : Nat} {xs : List Value} (h : (rowA v E sz n xs).holds w F) : v.oneCell' = true := by
  rcases h.1.2 with ⟨rfl, _⟩ | ⟨_, _, _, rfl, _⟩ <;> rfl

section
variable {P : Program} {ops : Array Oper} {Q : Exit → Act → World → Prop} {N : Nat} {X : Nat → Prop} {w0 : World} {G : Ghost} {l : List (Nat × Value)} {L : List Asrt} {rest : List Oper} {k n sz : Nat} {E : TypeId} {xs : List Value} {v : Value}
theorem r_row1 (hL : L[k]? = some (rowA v E sz n xs)) (h : v.oneCell' = true → Runs P ops Q N X w0 G rest l L) : Runs P ops Q N X w0 G rest l L := fun a w hS => by
  obtain ⟨F, hF, _⟩ := hS.mem.take hL
  exact h (rowA_one hF) a w hS
theorem c_row1 {c : Code} (hL : L[k]? = some (rowA v E sz n xs)) (h : v.oneCell' = true → CRuns P c Q N X w0 G l L) : CRuns P c Q N X w0 G l L := fun a w hS => by
  obtain ⟨F, hF, _⟩ := hS.mem.take hL
  exact h (rowA_one hF) a w hS
theorem r_rowlen (hL : L[k]? = some (rowA v E sz n xs)) (h : n ≤ 9223372036854775807 → Runs P ops Q N X w0 G rest l L) : Runs P ops Q N X w0 G rest l L := fun a w hS => by
  obtain ⟨F, hF, _⟩ := hS.mem.take hL
  exact h (by have := hF.2.2; simpa only [maxLen] using this) a w hS
theorem c_rowlen {c : Code} (hL : L[k]? = some (rowA v E sz n xs)) (h : n ≤ 9223372036854775807 → CRuns P c Q N X w0 G l L) : CRuns P c Q N X w0 G l L := fun a w hS => by
  obtain ⟨F, hF, _⟩ := hS.mem.take hL
  exact h (by have := hF.2.2; simpa only [maxLen] using this) a w hS
end

/-! ### objects: several assertions, their hidden values -/

/-- Two assertions about blocks that lie apart. -/
def star (A B : Asrt) : Asrt where
  holds w F := ∃ F1 F2, A.holds w F1 ∧ B.holds w F2 ∧ (∀ b, F1 b → ¬ F2 b) ∧ ∀ b, F b ↔ F1 b ∨ F2 b
  frame := by
    rintro w w' F ⟨F1, F2, h1, h2, h3, h4⟩ hk
    exact ⟨F1, F2, A.frame h1 (fun b hb => hk b ((h4 b).2 (.inl hb))), B.frame h2 (fun b hb => hk b ((h4 b).2 (.inr hb))), h3, h4⟩
  dom := by
    rintro w F b ⟨F1, F2, h1, h2, h3, h4⟩ hb
    rcases (h4 b).1 hb with h | h
    · exact A.dom h1 h
    · exact B.dom h2 h

/-- Nothing but a fact. -/
def pureA (p : Prop) : Asrt where
  holds _ F := p ∧ ∀ b, ¬ F b
  frame := fun h _ => h
  dom := fun h hb => (h.2 _ hb).elim

def starL : List Asrt → Asrt
  | [] => pureA True
  | A :: L => star A (starL L)

def exA {α : Type} (A : α → Asrt) : Asrt where
  holds w F := ∃ x, (A x).holds w F
  frame := by rintro w w' F ⟨x, h⟩ hk; exact ⟨x, (A x).frame h hk⟩
  dom := by rintro w F b ⟨x, h⟩ hb; exact (A x).dom h hb

/-- A fact beside an assertion. -/
def andA (p : Prop) (A : Asrt) : Asrt where
  holds w F := p ∧ A.holds w F
  frame := fun h hk => ⟨h.1, A.frame h.2 hk⟩
  dom := fun h hb => A.dom h.2 hb

theorem Sep.starL {w : World} : ∀ {Ls : List Asrt} {F : Nat → Prop}, (starL Ls).holds w F → ∀ {L : List Asrt} {U : Nat → Prop}, (∀ b, F b → U b) → Sep w L (fun b => U b ∧ ¬ F b) → Sep w (Ls ++ L) U
  | [], F, h, L, U, _, hL => by
    rw [List.nil_append]
    exact hL.mono (fun b _ hb => hb.1)
  | A :: Ls, F, ⟨F1, F2, h1, h2, h3, h4⟩, L, U, hU, hL => by
    refine ⟨F1, h1, fun b hb => hU b ((h4 b).2 (.inl hb)), ?_⟩
    refine Sep.starL h2 (fun b hb => ⟨hU b ((h4 b).2 (.inr hb)), fun hf => h3 b hf hb⟩) (hL.mono (fun b _ hb => ⟨⟨hb.1, fun hf => hb.2 ((h4 b).2 (.inl hf))⟩, fun hf => hb.2 ((h4 b).2 (.inr hf))⟩))

theorem Sep.packL {w : World} : ∀ (Ls : List Asrt) {L : List Asrt} {U : Nat → Prop}, Sep w (Ls ++ L) U → ∃ F, (Gx.starL Ls).holds w F ∧ (∀ b, F b → U b) ∧ Sep w L (fun b => U b ∧ ¬ F b)
  | [], L, U, h => ⟨fun _ => False, ⟨trivial, fun _ h => h⟩, fun _ h => h.elim, h.mono (fun b _ hb => ⟨hb, fun h => h⟩)⟩
  | A :: Ls, L, U, ⟨F1, h1, hU, h⟩ => by
    obtain ⟨F2, h2, hU2, h3⟩ := Sep.packL Ls h
    exact ⟨fun b => F1 b ∨ F2 b, ⟨F1, F2, h1, h2, fun b hb hb2 => (hU2 b hb2).2 hb, fun b => Iff.rfl⟩, fun b hb => hb.elim (hU b) (fun hb => (hU2 b hb).1), h3.mono (fun b _ hb => ⟨hb.1.1, fun hf => hf.elim hb.1.2 hb.2⟩)⟩

/-- The object at the head comes apart. -/
theorem Mem.unpack {X : Nat → Prop} {w0 w : World} {G : Ghost} {Ls L : List Asrt} (h : Mem X w0 G w (starL Ls :: L)) : Mem X w0 G w (Ls ++ L) := by
  obtain ⟨F, hA, hU, hL⟩ := h.sep
  exact ⟨h.since, h.has, Sep.starL hA hU hL⟩
theorem Mem.unex {X : Nat → Prop} {w0 w : World} {G : Ghost} {α : Type} {A : α → Asrt} {L : List Asrt} (h : Mem X w0 G w (exA A :: L)) : ∃ x, Mem X w0 G w (A x :: L) := by
  obtain ⟨F, ⟨x, hA⟩, hU, hL⟩ := h.sep
  exact ⟨x, h.since, h.has, F, hA, hU, hL⟩
theorem Mem.unand {X : Nat → Prop} {w0 w : World} {G : Ghost} {p : Prop} {A : Asrt} {L : List Asrt} (h : Mem X w0 G w (andA p A :: L)) : p ∧ Mem X w0 G w (A :: L) := by
  obtain ⟨F, ⟨hp, hA⟩, hU, hL⟩ := h.sep
  exact ⟨hp, h.since, h.has, F, hA, hU, hL⟩

section
variable {P : Program} {Q : Exit → Act → World → Prop} {N : Nat} {X : Nat → Prop} {w0 : World} {G : Ghost} {l : List (Nat × Value)} {L : List Asrt}

theorem c_unpack {c : Code} {Ls : List Asrt} (h : CRuns P c Q N X w0 G l (Ls ++ L)) : CRuns P c Q N X w0 G l (starL Ls :: L) := fun a w hS => h a w ⟨hS.fr, hS.mem.unpack⟩
theorem c_unex {c : Code} {α : Type} {A : α → Asrt} (h : ∀ x, CRuns P c Q N X w0 G l (A x :: L)) : CRuns P c Q N X w0 G l (exA A :: L) := fun a w hS => by
  obtain ⟨x, hM⟩ := hS.mem.unex
  exact h x a w ⟨hS.fr, hM⟩
theorem c_unand {c : Code} {p : Prop} {A : Asrt} (h : p → CRuns P c Q N X w0 G l (A :: L)) : CRuns P c Q N X w0 G l (andA p A :: L) := fun a w hS => h hS.mem.unand.1 a w ⟨hS.fr, hS.mem.unand.2⟩

/-! ### calls that change objects of the caller's -/

/-- What a call leaves of an object that held blocks F. -/
def Kept (A : Asrt) (F : Nat → Prop) (w w' : World) : Prop := Since F w w' ∧ ∃ F', A.holds w' F' ∧ ∀ b, F' b → F b ∨ w.heap.size ≤ b

variable {ops : Array Oper} {rest : List Oper} {d k : Nat} {ty : TypeId} {pos : String} {after : Array Edge} {gd : Option (Nat × Bool)} {v : Value}

/-- A call that changes one object. -/
theorem r_callo {f : FuncId} {xs : List Operand} {vs : List Value} {ats : Array TypeId} {A B : Asrt} (hw : Wt ops l gd) (hd : Nat.blt d N = true) (hf : Callable P f) (hv : evs l xs = some vs) (hL : L[k]? = some A)
    (hc : ∀ w F, Has G w → A.holds w F → (∀ b, F b → G b = none) → Calls P f vs.toArray w (Ret fun r w' => r = v ∧ Kept B F w w'))
    (h : Runs P ops Q N X w0 G rest ((d, v) :: l) (L.set k B)) : Runs P ops Q N X w0 G (⟨some d, .call ⟨.value (.func f), xs.toArray, ats⟩, ty, pos, after, gd⟩ :: rest) l L := by
  refine Runs.step hw (fun a w hS => ?_)
  show Oper.upon P _ a _ Q _
  rw [run_call hS.fr hv hf, Oper.upon_enter]
  obtain ⟨F, hA, hFG, hput⟩ := hS.mem.take hL
  refine (hc w F hS.mem.has hA hFG).mono (fun e w' hR => ?_)
  cases e with
  | returned r =>
    obtain ⟨rfl, hs, F', hB, hF'⟩ := hR
    exact h _ _ ⟨hS.fr.put (by simpa using hd) _, hput w' B F' hs hB hF'⟩
  | panicked c => exact hR.elim
  | outgrown => exact hR.elim

theorem r_callo0 {f : FuncId} {xs : List Operand} {vs : List Value} {ats : Array TypeId} {A B : Asrt} (hw : Wt ops l gd) (hf : Callable P f) (hv : evs l xs = some vs) (hL : L[k]? = some A)
    (hc : ∀ w F, Has G w → A.holds w F → (∀ b, F b → G b = none) → Calls P f vs.toArray w (Ret fun r w' => Kept B F w w'))
    (h : Runs P ops Q N X w0 G rest l (L.set k B)) : Runs P ops Q N X w0 G (⟨none, .call ⟨.value (.func f), xs.toArray, ats⟩, ty, pos, after, gd⟩ :: rest) l L := by
  refine Runs.step hw (fun a w hS => ?_)
  show Oper.upon P _ a _ Q _
  rw [run_call hS.fr hv hf, Oper.upon_enter]
  obtain ⟨F, hA, hFG, hput⟩ := hS.mem.take hL
  refine (hc w F hS.mem.has hA hFG).mono (fun e w' hR => ?_)
  cases e with
  | returned r =>
    obtain ⟨hs, F', hB, hF'⟩ := hR
    exact h _ _ ⟨hS.fr, hput w' B F' hs hB hF'⟩
  | panicked c => exact hR.elim
  | outgrown => exact hR.elim

/-- A call that makes an object. -/
theorem r_callnew {f : FuncId} {xs : List Operand} {vs : List Value} {ats : Array TypeId} {S : Nat → Asrt} {vr : Nat → Value} (hw : Wt ops l gd) (hd : Nat.blt d N = true) (hf : Callable P f) (hv : evs l xs = some vs)
    (hc : ∀ w, Has G w → Calls P f vs.toArray w (Ret fun r w' => ∃ p, r = vr p ∧ Since nX w w' ∧ ∃ F', (S p).holds w' F' ∧ ∀ b, F' b → w.heap.size ≤ b))
    (h : ∀ p, Runs P ops Q N X w0 G rest ((d, vr p) :: l) (S p :: L)) : Runs P ops Q N X w0 G (⟨some d, .call ⟨.value (.func f), xs.toArray, ats⟩, ty, pos, after, gd⟩ :: rest) l L := by
  refine Runs.step hw (fun a w hS => ?_)
  show Oper.upon P _ a _ Q _
  rw [run_call hS.fr hv hf, Oper.upon_enter]
  refine (hc w hS.mem.has).mono (fun e w' hR => ?_)
  cases e with
  | returned r =>
    obtain ⟨p, rfl, hs, F', hB, hF'⟩ := hR
    have h1 := hS.mem.call hs
    refine h p _ _ ⟨hS.fr.put (by simpa using hd) _, h1.since, h1.has, F', hB, fun b hb => ⟨.inl (Nat.le_trans hS.mem.since.size (hF' b hb)), hS.mem.has.fresh (hF' b hb)⟩, ?_⟩
    refine Sep.keep (hS.mem.sep.mono (fun b hb hu => ⟨hu, fun hf => ?_⟩)) (fun b hb _ => hs.block b hb id)
    have := hF' b hf
    omega
  | panicked c => exact hR.elim
  | outgrown => exact hR.elim

theorem args_frame {fn : Func} {args : List Value} {n : Nat} (hn : fn.ntmps = n) (hl : sub (args.zipIdx.map fun p => (p.2, p.1)) l) (hle : args.length ≤ n) :
    Fr n { tmps := args.toArray ++ Array.replicate (fn.ntmps - args.toArray.size) undef, defers := [] } l := by
  subst hn
  refine Fr.weaken (l := args.zipIdx.map fun p => (p.2, p.1)) ⟨by simp; omega, rfl, ?_⟩ hl
  intro i v hi
  have key : ∀ (as : List Value) (k : Nat), lk ((as.zipIdx k).map fun p => (p.2, p.1)) i = some v → k ≤ i ∧ as[i - k]? = some v := by
    intro as
    induction as with
    | nil => intro k h; simp [lk] at h
    | cons u as ih =>
      intro k h
      simp only [List.zipIdx_cons, List.map_cons] at h
      rw [lk_cons] at h
      by_cases e : k = i
      · rw [if_pos e] at h
        subst e
        simpa using h
      · rw [if_neg e] at h
        obtain ⟨h1, h2⟩ := ih (k + 1) h
        refine ⟨by omega, ?_⟩
        obtain ⟨m, hm⟩ : ∃ m, i - k = m + 1 := ⟨i - k - 1, by omega⟩
        rw [hm]
        have : i - (k + 1) = m := by omega
        rw [this] at h2
        simpa using h2
  have := (key args 0 hi).2
  simp only [Nat.sub_zero] at this
  have hlt : i < args.length := by
    rcases Nat.lt_or_ge i args.length with h | h
    · exact h
    · rw [List.getElem?_eq_none h] at this; cases this
  simp [Array.getElem?_append, hlt]
  have h3 := List.getElem?_eq_getElem hlt
  rw [this] at h3
  exact (Option.some.inj h3).symm

/-- Into a method: the object is all that it may change. -/
theorem enterO {f : FuncId} {fn : Func} {c : Code} {args : List Value} {w : World} {R : Ending → World → Prop} {n : Nat} {A : Asrt} {F : Nat → Prop} (hf : P.funcs[f]? = some fn) (hb : fn.body = some c) (hn : fn.ntmps = n) (hG : Has G w) (hA : A.holds w F) (hFG : ∀ b, F b → G b = none)
    (hl : sub (args.zipIdx.map fun p => (p.2, p.1)) l) (hle : args.length ≤ n)
    (h : CRuns P c (bodyPost P fn R) n F w G l [A]) : Calls P f args.toArray w R := by
  refine calls_of_wp hf hb (h _ w ⟨?_, Since.refl _ _, hG, F, hA, fun b hb => ⟨.inr hb, hFG b hb⟩, trivial⟩)
  exact args_frame hn hl hle

theorem mapA_congr {κ ν : Type} {m : Nat} {ke : κ → Value} {ve : ν → Value} {l l' : List (κ × ν)} (h : l = l') (w : World) (F : Nat → Prop) (hb : (mapA m ke ve l).holds w F) : (mapA m ke ve l').holds w F := h ▸ hb

abbrev kS : ByteArray → Value := fun s => .string s
abbrev kI : Int → Value := fun n => .int .i64 n

theorem Mem.kept {w : World} {F : Nat → Prop} {Ls : List Asrt} (h : Mem F w0 G w Ls) (Ls' : List Asrt) (hI : Imp Ls Ls') (B : Asrt) (hB : ∀ F', (starL Ls').holds w F' → B.holds w F') : Kept B F w0 w := by
  refine ⟨h.since, ?_⟩
  have h1 := (h.imp hI).sep
  rw [show Ls' = Ls' ++ [] by simp] at h1
  obtain ⟨F', h2, h3, _⟩ := Sep.packL Ls' h1
  exact ⟨F', hB F' h2, fun b hb => (h3 b hb).1.symm⟩

/-- What was made goes out. -/
theorem Mem.made {w : World} {Ls : List Asrt} (h : Mem nX w0 G w Ls) (Ls' : List Asrt) (hI : Imp Ls Ls') (B : Asrt) (hB : ∀ F', (starL Ls').holds w F' → B.holds w F') : Since nX w0 w ∧ ∃ F', B.holds w F' ∧ ∀ b, F' b → w0.heap.size ≤ b := by
  refine ⟨h.since, ?_⟩
  have h1 := (h.imp hI).sep
  rw [show Ls' = Ls' ++ [] by simp] at h1
  obtain ⟨F', h2, h3, _⟩ := Sep.packL Ls' h1
  exact ⟨F', hB F' h2, fun b hb => (h3 b hb).1.elim id (fun h => h.elim)⟩

end

/-! ### what is known of one key alone -/

section
variable {κ ν : Type} [DecidableEq κ]

/-- Some map, where key k has c. -/
def mapW (m : Nat) (ke : κ → Value) (ve : ν → Value) (k : κ) (c z0 : ν) : Asrt := exA fun l => andA ((lkp l k).getD z0 = c) (mapA m ke ve l)

theorem mapA_W {m : Nat} {ke : κ → Value} {ve : ν → Value} {l : List (κ × ν)} {k : κ} {z0 : ν} {w : World} {F : Nat → Prop} (h : (mapA m ke ve l).holds w F) : (mapW m ke ve k ((lkp l k).getD z0) z0).holds w F := ⟨l, rfl, h⟩
theorem mapE_W {m s : Nat} {ke : κ → Value} {ve : ν → Value} {l : List (κ × ν)} {k : κ} {c z0 : ν} {w : World} {F : Nat → Prop} (h : (mapE m ke ve (mput l k c) k s).holds w F) : (mapW m ke ve k c z0).holds w F := by
  obtain ⟨⟨es, cl, h1, _⟩, h2⟩ := h
  exact ⟨mput l k c, by rw [lkp_mput, if_pos rfl]; rfl, ⟨es, cl, h1⟩, h2⟩

variable {P : Program} {K : TypeId} {ke : κ → Value} {ve : ν → Value} {N : Nat} {X : Nat → Prop} {w0 : World} {G : Ghost} {l : List (Nat × Value)} {L : List Asrt}
variable {d i m : Nat} {ty : TypeId} {pos : String} {after : Array Edge} {gd : Option (Nat × Bool)} {x y : Operand} {T E : TypeId} {k : κ} {c z0 : ν}
theorem p_lookupw (hT : P.underlying T = some (.map K E)) (hk : KeyT P K ke) (hz : ZeroIs P E (ve z0)) (hx : ev l x = some (.map (some m))) (hL : L[i]? = some (mapW m ke ve k c z0)) (hy : ev l y = some (ke k)) :
    PV P N X w0 G l L ⟨some d, .lookup T x y false, ty, pos, after, gd⟩ (ve c) := by
  intro ac w hS
  obtain ⟨F, ⟨mv, hc, ⟨es, cl, h⟩, _⟩, _⟩ := hS.mem.take hL
  simp only [execOp, hS.fr.eval hx, hS.fr.eval hy]
  simp [run_lookup hT hk z0 hz h, hc]
end
end Go.Gx
