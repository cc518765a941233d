/-
  GX: a range over a map of the call's own that stays as it is meanwhile. Generic in the program.
-/
import Derived.Test.YtoflaphnlfggkaaGxNum
import Derived.Maps.RangeRun
namespace Go.Gx
open Go.RowKit Go.MapKept

section
variable {κ ν : Type} {ke : κ → Value} {ve : ν → Value}

def ranA (m r : Nat) (ke : κ → Value) (ve : ν → Value) (l lft : List (κ × ν)) : Asrt where
  holds w F := (∃ es clock since c0 seen, MapIs w m ke ve l es clock ∧ w.heap[r]? = some (.mapIter (some m) since seen c0) ∧ (∀ x ∈ es.toList, x.born < since) ∧ since ≤ c0 ∧ since ≤ clock ∧
    (es.toList.filter fun e => !seen.contains e.born).map kv = lft.map (enc ke ve)) ∧ ∀ b, F b ↔ b = m ∨ b = r
  frame := by
    rintro w w' F ⟨⟨es, c, s, c0, se, h1, h2, h3⟩, hF⟩ hk
    exact ⟨⟨es, c, s, c0, se, ⟨by rw [hk m ((hF m).2 (.inl rfl))]; exact h1.heap, h1.st, h1.eq⟩, by rw [hk r ((hF r).2 (.inr rfl))]; exact h2, h3⟩, hF⟩
  dom := by
    rintro w F b ⟨⟨es, c, s, c0, se, h1, h2, _⟩, hF⟩ hb
    rcases (hF b).1 hb with rfl | rfl
    · exact lt_of_heap h1.heap
    · exact lt_of_heap h2

/-- The same, just behind a step that yielded p. -/
def ranE (m r : Nat) (ke : κ → Value) (ve : ν → Value) (l lft : List (κ × ν)) (p : κ × ν) : Asrt where
  holds w F := (∃ es clock since seen, MapIs w m ke ve l es clock ∧ w.heap[r]? = some (.mapIter (some m) since seen clock) ∧ (∀ x ∈ es.toList, x.born < since) ∧ since ≤ clock ∧
    (es.toList.filter fun e => !seen.contains e.born).map kv = lft.map (enc ke ve) ∧ ∃ e ∈ es.toList, ∃ s0 : Array Nat, seen = s0.push e.born ∧ kv e = enc ke ve p) ∧ ∀ b, F b ↔ b = m ∨ b = r
  frame := by
    rintro w w' F ⟨⟨es, c, s, se, h1, h2, h3⟩, hF⟩ hk
    exact ⟨⟨es, c, s, se, ⟨by rw [hk m ((hF m).2 (.inl rfl))]; exact h1.heap, h1.st, h1.eq⟩, by rw [hk r ((hF r).2 (.inr rfl))]; exact h2, h3⟩, hF⟩
  dom := by
    rintro w F b ⟨⟨es, c, s, se, h1, h2, _⟩, hF⟩ hb
    rcases (hF b).1 hb with rfl | rfl
    · exact lt_of_heap h1.heap
    · exact lt_of_heap h2

theorem ranE_A {m r : Nat} {l lft : List (κ × ν)} {p : κ × ν} {w : World} {F : Nat → Prop} (h : (ranE m r ke ve l lft p).holds w F) : (ranA m r ke ve l lft).holds w F := by
  obtain ⟨⟨es, c, s, se, h1, h2, h3, h4, h5, _⟩, hF⟩ := h
  exact ⟨⟨es, c, s, c, se, h1, h2, h3, h4, h4, h5⟩, hF⟩

variable {P : Program} {ops : Array Oper} {Q : Exit → Act → World → Prop} {N : Nat} {X : Nat → Prop} {w0 : World} {G : Ghost} {l : List (Nat × Value)} {L : List Asrt}
variable {rest : List Oper} {d i m r : Nat} {ty : TypeId} {pos : String} {after : Array Edge} {gd : Option (Nat × Bool)} {x : Operand} {T K E : TypeId} {mv lft : List (κ × ν)}

theorem r_range_map (hw : Wt ops l gd) (hd : Nat.blt d N = true) (hT : P.underlying T = some (.map K E)) (hx : ev l x = some (.map (some m))) (hL : L[i]? = some (mapA m ke ve mv))
    (h : ∀ r, Runs P ops Q N X w0 G rest ((d, .pointer (some ⟨r, 0, none⟩)) :: l) (L.set i (ranA m r ke ve mv mv))) : Runs P ops Q N X w0 G (⟨some d, .range T x, ty, pos, after, gd⟩ :: rest) l L := by
  refine Runs.step hw (fun a w hS => ?_)
  show Oper.upon P _ a _ Q _
  obtain ⟨F, ⟨⟨es, c, hm⟩, hF⟩, _, hput⟩ := hS.mem.take hL
  have hr : (execOp a.eval ⟨some d, .range T x, ty, pos, after, gd⟩).run P w = .ok (.value (.pointer (some ⟨w.heap.size, 0, none⟩))) (w.alloc (.mapIter (some m) c #[] c)) := by
    simp only [execOp, hS.fr.eval hx]
    simp [Instr.range, run_underlying hT, run_getObj_map' hm.heap]
  rw [hr, Oper.upon_value]
  have hlt := lt_of_heap hm.heap
  refine h _ _ _ ⟨hS.fr.put (by simpa using hd) _, hput _ _ (fun b => b = m ∨ b = w.heap.size) ?_ ⟨⟨es, c, c, c, #[], ⟨((heap_alloc w _).2 m hlt).trans hm.heap, hm.st, hm.eq⟩, (heap_alloc w _).1, hm.st.1, Nat.le_refl _, Nat.le_refl _, ?_⟩, fun b => Iff.rfl⟩ (fun b hb => ?_)⟩
  · exact ⟨rfl, rfl, rfl, by simp, fun k hk _ => (heap_alloc w _).2 k hk⟩
  · rw [← hm.eq]
    congr 1
    exact List.filter_eq_self.2 (fun e _ => by simp)
  · rcases hb with rfl | rfl
    · exact .inl ((hF _).2 rfl)
    · exact .inr (Nat.le_refl _)

theorem split_at {α β γ : Type} {f : α → γ} {g : β → γ} : ∀ {A : List α} {B : List β} {e : α}, A.map f = B.map g → e ∈ A → ∃ a1 a2 b1 p b2, A = a1 ++ e :: a2 ∧ B = b1 ++ p :: b2 ∧ a1.map f = b1.map g ∧ f e = g p ∧ a2.map f = b2.map g
  | [], _, _, _, h => by simp at h
  | x :: A, [], _, h, _ => by simp at h
  | x :: A, y :: B, e, h, he => by
    simp only [List.map_cons, List.cons.injEq] at h
    rcases List.mem_cons.1 he with rfl | he
    · exact ⟨[], A, [], y, B, rfl, rfl, rfl, h.1, h.2⟩
    · obtain ⟨a1, a2, b1, p, b2, h1, h2, h3, h4, h5⟩ := split_at h.2 he
      exact ⟨x :: a1, a2, y :: b1, p, b2, by rw [h1]; rfl, by rw [h2]; rfl, by simp [h.1, h3], h4, h5⟩

theorem r_next_map {ity : TypeId} (hw : Wt ops l gd) (hd : Nat.blt d N = true) (hx : ev l x = some (.pointer (some ⟨r, 0, none⟩))) (hL : L[i]? = some (ranA m r ke ve mv lft))
    (h1 : ∀ a p b, lft = a ++ p :: b → Runs P ops Q N X w0 G rest ((d, .tuple #[.bool true, ke p.1, ve p.2]) :: l) (L.set i (ranE m r ke ve mv (a ++ b) p)))
    (h0 : lft = [] → Runs P ops Q N X w0 G rest ((d, .tuple #[.bool false]) :: l) L) : Runs P ops Q N X w0 G (⟨some d, .next x false, ity, pos, after, gd⟩ :: rest) l L := by
  refine Runs.step hw (fun a w hS => ?_)
  show Oper.upon P _ a _ Q _
  obtain ⟨F, ⟨⟨es, c, since, c0, seen, hm, hr, hold, hsc, hsk, hl⟩, hF⟩, _, hput⟩ := hS.mem.take hL
  have hne : r ≠ m := fun e => by rw [e, hm.heap] at hr; cases hr
  rcases Go.run_next_at (P := P) w ity r m since c0 seen es c hr hm.heap hold hsc with ⟨hz, hrun⟩ | ⟨e, he, w1, hw1, hrun⟩
  · have hr' : (execOp a.eval ⟨some d, .next x false, ity, pos, after, gd⟩).run P w = .ok (.value (.tuple #[.bool false])) w := by
      simp only [execOp, hS.fr.eval hx]
      simp [hrun]
    rw [hr', Oper.upon_value]
    have hnil : lft = [] := by
      have : (es.toList.filter fun e => !seen.contains e.born).length = 0 := by
        rw [← Array.toList_filter, Array.length_toList]; exact hz
      have h2 := congrArg List.length hl
      rw [List.length_map, List.length_map, this] at h2
      exact List.eq_nil_of_length_eq_zero h2.symm
    exact h0 hnil _ _ ⟨hS.fr.put (by simpa using hd) _, hS.mem⟩
  · have hr' : (execOp a.eval ⟨some d, .next x false, ity, pos, after, gd⟩).run P w = .ok (.value (.tuple #[.bool true, e.key, e.val])) (ChangeMaps.setBlock w1 r (.mapIter (some m) since (seen.push e.born) c)) := by
      simp only [execOp, hS.fr.eval hx]
      simp [hrun]
    rw [hr', Oper.upon_value]
    have he' : e ∈ es.toList.filter fun e => !seen.contains e.born := by rw [← Array.toList_filter]; exact he
    obtain ⟨a1, a2, b1, p, b2, e1, e2, e3, e4, e5⟩ := split_at hl he'
    have hkv : ke p.1 = e.key ∧ ve p.2 = e.val := ⟨(congrArg Prod.fst e4).symm, (congrArg Prod.snd e4).symm⟩
    rw [← hkv.1, ← hkv.2]
    have hheap : w1.heap = w.heap := by rcases hw1 with rfl | rfl <;> rfl
    have hnd : ((es.toList.filter fun e => !seen.contains e.born).map (·.born)).Nodup := (List.filter_sublist.map _).nodup hm.st.2.1
    refine h1 b1 p b2 e2 _ _ ⟨hS.fr.put (by simpa using hd) _, hput _ _ (fun b => b = m ∨ b = r) ?_ ⟨⟨es, c, since, seen.push e.born, ⟨?_, hm.st, hm.eq⟩, ?_, hold, hsk, ?_, e, (List.mem_filter.1 he').1, seen, rfl, e4⟩, fun b => Iff.rfl⟩ (fun b hb => .inl ((hF b).2 hb))⟩
    · refine ⟨?_, ?_, ?_, ?_, fun k _ hk => ?_⟩
      · rcases hw1 with rfl | rfl <;> rfl
      · rcases hw1 with rfl | rfl <;> rfl
      · rcases hw1 with rfl | rfl <;> rfl
      · simp [ChangeMaps.setBlock, hheap]
      · have : r ≠ k := fun e => hk ((hF k).2 (.inr e.symm))
        simp [ChangeMaps.setBlock, hheap, this]
    · simp [ChangeMaps.setBlock, hheap, hne, hm.heap]
    · have := lt_of_heap hr
      simp [ChangeMaps.setBlock, hheap, this]
    · have e6 : (es.toList.filter fun x => !(seen.push e.born).contains x.born) = a1 ++ a2 := by
        have e7 : (es.toList.filter fun x => !(seen.push e.born).contains x.born) = (es.toList.filter fun x => !seen.contains x.born).filter (fun x => !(x.born == e.born)) := by
          rw [List.filter_filter]
          refine congrArg (fun f => es.toList.filter f) ?_
          funext x
          rw [show (seen.push e.born).contains x.born = (seen.contains x.born || x.born == e.born) from by rw [Array.contains_push] <;> simp [Bool.or_comm]]
          cases seen.contains x.born <;> cases (x.born == e.born) <;> rfl
        rw [e7, e1] at *
        rw [e1, List.map_append, List.map_cons] at hnd
        rw [List.filter_append, List.filter_cons]
        simp only [beq_self_eq_true, Bool.not_true, Bool.false_eq_true, if_false]
        have h2 := List.nodup_append.1 hnd
        have h3 := List.nodup_cons.1 h2.2.1
        congr 1
        · refine List.filter_eq_self.2 (fun x hx => ?_)
          have : x.born ≠ e.born := h2.2.2 _ (List.mem_map.2 ⟨x, hx, rfl⟩) _ (by simp)
          simpa using this
        · refine List.filter_eq_self.2 (fun x hx => ?_)
          have : x.born ≠ e.born := fun e8 => h3.1 (by rw [← e8]; exact List.mem_map.2 ⟨x, hx, rfl⟩)
          simpa using this
      rw [e6, List.map_append, List.map_append, e3, e5]

theorem p_entry {p : κ × ν} (hx : ev l x = some (.pointer (some ⟨r, 0, none⟩))) (hL : L[i]? = some (ranE m r ke ve mv lft p)) :
    PV P N X w0 G l L ⟨some d, .entry x, ty, pos, after, gd⟩ (.tuple #[ke p.1, ve p.2]) := by
  intro ac w hS
  obtain ⟨F, ⟨⟨es, c, s, se, h1, h2, h3, h4, h5, e, he, s0, rfl, hkv⟩, hF⟩, _⟩ := hS.mem.take hL
  have hrun := Go.run_entry_at (P := P) w r m s s0 es c e h2 h1.heap he h1.st.2.1
  have hk : e.key = ke p.1 ∧ e.val = ve p.2 := ⟨congrArg Prod.fst hkv, congrArg Prod.snd hkv⟩
  simp only [execOp, hS.fr.eval hx]
  simp [hrun, hk]

theorem Mem.unrange {w : World} (hM : Mem X w0 G w L) (hL : L[i]? = some (ranA m r ke ve mv lft)) : Mem X w0 G w (L.set i (mapA m ke ve mv)) := by
  obtain ⟨F, ⟨⟨es, c, _, _, _, hm, _⟩, hF⟩, _, hput⟩ := hM.take hL
  exact hput w _ (fun b => b = m) ⟨rfl, rfl, rfl, Nat.le_refl _, fun _ _ _ => rfl⟩ ⟨⟨es, c, hm⟩, fun b => Iff.rfl⟩ (fun b hb => .inl (hb ▸ (hF m).2 (.inl rfl)))

/-- The range is over: the map is what it was. -/
theorem c_unrange {c : Code} (hL : L[i]? = some (ranA m r ke ve mv lft)) (h : CRuns P c Q N X w0 G l (L.set i (mapA m ke ve mv))) : CRuns P c Q N X w0 G l L := fun a w hS => h a w ⟨hS.fr, hS.mem.unrange hL⟩
theorem r_unrangeE {p : κ × ν} (hL : L[i]? = some (ranE m r ke ve mv lft p)) (h : Runs P ops Q N X w0 G rest l (L.set i (ranA m r ke ve mv lft))) : Runs P ops Q N X w0 G rest l L := fun a w hS => by
  obtain ⟨F, hE, _, hput⟩ := hS.mem.take hL
  exact h a w ⟨hS.fr, hput w _ F ⟨rfl, rfl, rfl, Nat.le_refl _, fun _ _ _ => rfl⟩ (ranE_A hE) (fun b hb => .inl hb)⟩
theorem r_unrange (hL : L[i]? = some (ranA m r ke ve mv lft)) (h : Runs P ops Q N X w0 G rest l (L.set i (mapA m ke ve mv))) : Runs P ops Q N X w0 G rest l L := fun a w hS => h a w ⟨hS.fr, hS.mem.unrange hL⟩
theorem e_unrange {e : Exit} (hL : L[i]? = some (ranA m r ke ve mv lft)) (h : ERuns Q e N X w0 G l (L.set i (mapA m ke ve mv))) : ERuns Q e N X w0 G l L := fun a w hS => h a w ⟨hS.fr, hS.mem.unrange hL⟩
end
end Go.Gx
