/- Texts of this work, laid together: a logic of steps, plain laws, and walks of Go functions, each without a condition but those that its theorems name. -/
import Derived.Test.YtpcpbfajadgmpaaKRulePlaces1
import Derived.Sort.Row
import Derived.Sort.Grow
import Derived.Shelf.Slices.CompactI
import Derived.Shelf.SlIterI.Nil
import Derived.Shelf.SlSortCmp.WholeK
/-
  GX: a row of the call's own is sorted, or its runs are made one, by the library (whose contracts come in as premises). Generic in the program.
-/
namespace Go.Gx
open Go.RowKit Go.Sort

section
variable {α : Type} [Inhabited α]

theorem putRow_heap {enc : α → Value} {w : World} {g n : Nat} {d : Array α} {cur : Array Value} {E : TypeId} {fr : Nat × Nat} (hg : w.heap[g]? = some (.cells cur E fr)) : (putRow enc w g 0 d).heap[g]? = some (.cells (putCells enc 0 d cur) E fr) := by
  show (w.heap.modify g (onCells (putCells enc 0 d)))[g]? = _
  rw [Array.getElem?_modify, if_pos rfl, hg]
  rfl
theorem putRow_other {enc : α → Value} {w : World} {g k : Nat} {d : Array α} (h : k ≠ g) : (putRow enc w g 0 d).heap[k]? = w.heap[k]? := by
  simp [putRow, mapBlock, Array.getElem?_modify, Ne.symm h]

theorem putCells_take {enc : α → Value} {d : Array α} {cur : Array Value} {m : Nat} (hm : m ≤ d.size) (hc : d.size ≤ cur.size) : (putCells enc 0 d cur).toList.take m = ((d.toList.take m).map enc) := by
  apply List.ext_getElem?
  intro i
  by_cases hi : i < m
  · have h1 : i < cur.size := by omega
    have h2 : i < d.size := by omega
    simp [List.getElem?_take, hi, putCells, h1, h2]
  · simp [List.getElem?_take, hi]
end

theorem compact_le (zs : List Int) : (Lib.compact zs).length ≤ zs.length := by
  unfold Lib.compact Lib.compactUpTo
  rw [List.length_map]
  exact Nat.le_trans (List.length_filter_le _ _) (by simp)
abbrev sortI (zs : List Int) : List Int := zs.mergeSort fun x y => decide (x ≤ y)
abbrev cI (z : Int) : List Value := [.int .i64 z]

/-- The library's contract of slices.Sort at []int. -/
def SortC (P : Program) (f : FuncId) : Prop := ∀ (blk off cap : Nat) (zs : List Int) (w : World), Holds (Value.int .i64) w blk off zs.toArray → blk < w.heap.size → zs.length < 4611686018427387904 →
  Calls P f #[.slice (some ⟨blk, off, none⟩) zs.length cap] w fun e w' => e = .returned (.tuple #[]) ∧ ∃ n os, w' = grow (putRow (Value.int .i64) (Sort.ahead w n) blk off (sortI zs).toArray) os
def SortN (P : Program) (f : FuncId) : Prop := ∀ (p : Option Addr) (cap : Nat) (w : World), Calls P f #[.slice p 0 cap] w fun e w' => e = .returned (.tuple #[]) ∧ w' = w
/-- .. and of slices.Compact. -/
def CompC (P : Program) (f : FuncId) : Prop := ∀ (blk off cap : Nat) (zs : List Int) (w : World), Holds (Value.int .i64) w blk off zs.toArray → zs.length ≤ 9223372036854775807 → zs.length ≤ cap →
  Calls P f #[.slice (some ⟨blk, off, none⟩) zs.length cap] w fun e w' => e = .returned (.slice (some ⟨blk, off, none⟩) (Lib.compact zs).length cap) ∧ ∃ q, w' = putRow (Value.int .i64) (Sort.ahead w q) blk off (Lib.compact zs ++ List.replicate (zs.length - (Lib.compact zs).length) 0).toArray
def CompN (P : Program) (f : FuncId) : Prop := ∀ (a : Option Addr) (cap : Nat) (w : World), Calls P f #[.slice a 0 cap] w fun e w' => e = .returned (.slice a 0 cap) ∧ w' = w

theorem cells_ints (zs : List Int) : zs.flatMap cI = zs.map (Value.int .i64) := by
  induction zs with
  | nil => rfl
  | cons z t ih => simp [List.flatMap_cons, ih]

section
variable {P : Program} {ops : Array Oper} {Q : Exit → Act → World → Prop} {N : Nat} {X : Nat → Prop} {w0 : World} {G : Ghost} {l : List (Nat × Value)} {L : List Asrt}
variable {rest : List Oper} {d k n : Nat} {ty : TypeId} {pos : String} {after : Array Edge} {gd : Option (Nat × Bool)} {v : Value} {E : TypeId} {zs : List Int} {f : FuncId} {xs : List Operand} {ats : Array TypeId}

theorem own_holds {w : World} {g cap : Nat} {cur : Array Value} (hg : w.heap[g]? = some (.cells cur E (0, 0))) (hc : cur.size = cap) (hn : zs.length ≤ cap) (ht : cur.toList.take zs.length = zs.map (Value.int .i64)) : Holds (Value.int .i64) w g 0 zs.toArray := by
  intro j hj
  have hj' : j < zs.length := by simpa using hj
  constructor
  · rw [cell_of_row w g (0 + j) cur E (0, 0) hg, Nat.zero_add]
    have h1 := congrArg (fun l => l[j]?) ht
    simp [List.getElem?_take, hj'] at h1
    simp [h1, hj']
  · simp [World.frozen?, hg]

theorem own_after {w : World} {g cap q : Nat} {cur : Array Value} {os : Array Obj} {zs' : List Int} {m : Nat} (hg : w.heap[g]? = some (.cells cur E (0, 0))) (hc : cur.size = cap) (hcm : cap ≤ maxLen) (hz : zs'.length ≤ cap) (hm : m ≤ zs'.length) (hmm : m ≤ maxLen) :
    (rowA (.slice (some ⟨g, 0, none⟩) m cap) E 1 m ((zs'.take m).flatMap cI)).holds (grow (putRow (Value.int .i64) (Sort.ahead w q) g 0 zs'.toArray) os) (fun b => b = g) := by
  have hg' : (Sort.ahead w q).heap[g]? = some (.cells cur E (0, 0)) := hg
  have h1 := putRow_heap (enc := Value.int .i64) (n := 0) (d := zs'.toArray) hg'
  have hlt : g < (putRow (Value.int .i64) (Sort.ahead w q) g 0 zs'.toArray).heap.size := lt_of_heap h1
  refine ⟨⟨?_, .inr ⟨g, cap, putCells (Value.int .i64) 0 zs'.toArray cur, rfl, Nat.zero_le _, ?_, by omega, hcm, ?_, ?_⟩⟩, fun b => ⟨fun h => by subst h; rfl, fun h => by simp [Value.ownBlock] at h; exact h.symm⟩, hmm⟩
  · rw [cells_ints]; simp; omega
  · show ((putRow (Value.int .i64) (Sort.ahead w q) g 0 zs'.toArray).heap ++ os)[g]? = _
    rw [Array.getElem?_append_left hlt]; exact h1
  · simp [putCells, hc]
  · rw [Nat.mul_one, putCells_take (by simpa using hm) (by simp; omega), cells_ints]

theorem since_sort {w : World} {g q : Nat} {os : Array Obj} {zs' : List Int} {F : Nat → Prop} (hF : F g) : Since F w (grow (putRow (Value.int .i64) (Sort.ahead w q) g 0 zs'.toArray) os) := by
  refine ⟨rfl, rfl, rfl, ?_, fun b hb hx => ?_⟩
  · show w.heap.size ≤ (((putRow (Value.int .i64) (Sort.ahead w q) g 0 zs'.toArray).heap ++ os)).size
    have : (putRow (Value.int .i64) (Sort.ahead w q) g 0 zs'.toArray).heap.size = w.heap.size := by
      show (w.heap.modify g _).size = _
      simp
    rw [Array.size_append]; omega
  · have hne : b ≠ g := fun e => hx (e ▸ hF)
    show ((putRow (Value.int .i64) (Sort.ahead w q) g 0 zs'.toArray).heap ++ os)[b]? = _
    have hsz : (putRow (Value.int .i64) (Sort.ahead w q) g 0 zs'.toArray).heap.size = w.heap.size := by
      show (w.heap.modify g _).size = _
      simp
    rw [Array.getElem?_append_left (by omega), putRow_other hne]
    rfl

theorem r_sort (hw : Wt ops l gd) (hd : Nat.blt d N = true) (hf : Callable P f) (hv : evs l xs = some [v]) (hL : L[k]? = some (rowA v E 1 zs.length (zs.flatMap cI))) (hs : SortC P f) (hn : SortN P f) (hlen : zs.length < 4611686018427387904)
    (h : Runs P ops Q N X w0 G rest ((d, .tuple #[]) :: l) (L.set k (rowA v E 1 (sortI zs).length ((sortI zs).flatMap cI)))) : Runs P ops Q N X w0 G (⟨some d, .call ⟨.value (.func f), xs.toArray, ats⟩, ty, pos, after, gd⟩ :: rest) l L := by
  refine Runs.step hw (fun a w hS => ?_)
  show Oper.upon P _ a _ Q _
  rw [run_call hS.fr hv hf, Oper.upon_enter]
  obtain ⟨F, ⟨⟨hlen1, hown⟩, hF, hmax⟩, _, hput⟩ := hS.mem.take hL
  have hsl : (sortI zs).length = zs.length := List.length_mergeSort zs
  by_cases hz : zs.length = 0
  · have hz' : zs = [] := List.eq_nil_of_length_eq_zero hz
    subst hz'
    have e1 : (rowA v E 1 (sortI []).length ((sortI []).flatMap cI)) = rowA v E 1 ([] : List Int).length (([] : List Int).flatMap cI) := by simp [sortI]
    rw [e1, set_same hL] at h
    have hv2 : ∃ p c, v = .slice p 0 c := by
      rcases hown with ⟨rfl, _⟩ | ⟨g, cap, cur, rfl, _⟩
      · exact ⟨_, _, rfl⟩
      · exact ⟨_, _, rfl⟩
    obtain ⟨p, c, rfl⟩ := hv2
    refine (hn p c w).mono (fun e w' hR => ?_)
    obtain ⟨rfl, rfl⟩ := hR
    exact h _ _ ⟨hS.fr.put (by simpa using hd) _, hS.mem⟩
  · rcases hown with ⟨_, h0⟩ | ⟨g, cap, cur, rfl, _, hg, hnc, hcm, hcs, htk⟩
    · exact absurd h0 hz
    · have hcs' : cur.size = cap := by simpa using hcs
      have htk' : cur.toList.take zs.length = zs.map (Value.int .i64) := by rw [← cells_ints]; simpa using htk
      refine (hs g 0 cap zs w (own_holds hg hcs' hnc htk') (lt_of_heap hg) hlen).mono (fun e w' hR => ?_)
      obtain ⟨rfl, q, os, rfl⟩ := hR
      have hFg : F g := (hF g).2 rfl
      refine h _ _ ⟨hS.fr.put (by simpa using hd) _, hput _ _ (fun b => b = g) (since_sort hFg) ?_ (fun b hb => .inl (hb ▸ hFg))⟩
      have h2 := own_after (q := q) (os := os) (zs' := sortI zs) (m := zs.length) hg hcs' hcm (by omega) (by omega) (by omega)
      rw [List.take_of_length_le (by omega)] at h2
      rw [hsl]
      exact h2

theorem r_compact (hw : Wt ops l gd) (hd : Nat.blt d N = true) (hf : Callable P f) (hv : evs l xs = some [v]) (hL : L[k]? = some (rowA v E 1 zs.length (zs.flatMap cI))) (hs : CompC P f) (hn : CompN P f) (hle : (Lib.compact zs).length ≤ zs.length)
    (h : ∀ v', Runs P ops Q N X w0 G rest ((d, v') :: l) (L.set k (rowA v' E 1 (Lib.compact zs).length ((Lib.compact zs).flatMap cI)))) : Runs P ops Q N X w0 G (⟨some d, .call ⟨.value (.func f), xs.toArray, ats⟩, ty, pos, after, gd⟩ :: rest) l L := by
  refine Runs.step hw (fun a w hS => ?_)
  show Oper.upon P _ a _ Q _
  rw [run_call hS.fr hv hf, Oper.upon_enter]
  obtain ⟨F, ⟨⟨hlen1, hown⟩, hF, hmax⟩, _, hput⟩ := hS.mem.take hL
  by_cases hz : zs.length = 0
  · have hz' : zs = [] := List.eq_nil_of_length_eq_zero hz
    subst hz'
    have hc0 : Lib.compact ([] : List Int) = [] := List.eq_nil_of_length_eq_zero (by simpa using hle)
    have h' := h v
    rw [hc0, set_same hL] at h'
    have hv2 : ∃ p c, v = .slice p 0 c := by
      rcases hown with ⟨rfl, _⟩ | ⟨g, cap, cur, rfl, _⟩
      · exact ⟨_, _, rfl⟩
      · exact ⟨_, _, rfl⟩
    obtain ⟨p, c, rfl⟩ := hv2
    refine (hn p c w).mono (fun e w' hR => ?_)
    obtain ⟨rfl, rfl⟩ := hR
    exact h' _ _ ⟨hS.fr.put (by simpa using hd) _, hS.mem⟩
  · rcases hown with ⟨_, h0⟩ | ⟨g, cap, cur, rfl, _, hg, hnc, hcm, hcs, htk⟩
    · exact absurd h0 hz
    · have hcs' : cur.size = cap := by simpa using hcs
      have htk' : cur.toList.take zs.length = zs.map (Value.int .i64) := by rw [← cells_ints]; simpa using htk
      refine (hs g 0 cap zs w (own_holds hg hcs' hnc htk') (by simpa only [maxLen] using hmax) hnc).mono (fun e w' hR => ?_)
      obtain ⟨rfl, q, rfl⟩ := hR
      have hFg : F g := (hF g).2 rfl
      have e0 : ∀ W : World, W = grow W #[] := fun W => (grow_empty W).symm
      rw [e0 (putRow _ _ _ _ _)]
      refine h _ _ _ ⟨hS.fr.put (by simpa using hd) _, hput _ _ (fun b => b = g) (since_sort hFg) ?_ (fun b hb => .inl (hb ▸ hFg))⟩
      have h2 := own_after (q := q) (os := #[]) (zs' := Lib.compact zs ++ List.replicate (zs.length - (Lib.compact zs).length) 0) (m := (Lib.compact zs).length) hg hcs' hcm (by simp; omega) (by simp) (by simp only [maxLen] at *; omega)
      rw [List.take_left' rfl] at h2
      exact h2
end
end Go.Gx

/-
  GX: the keys of a map of the call's own, sorted by the library (its contracts come in as premises). Generic in the program.
-/
namespace Go.Gx
open Go.RowKit Go.Sort Go.Maps
open Go.WideElems (Fit rd rg)

theorem sortI_perm {l l' : List Int} (h : l.Perm l') : sortI l = sortI l' := by
  unfold sortI
  refine List.Perm.eq_of_pairwise (le := fun a b : Int => decide (a ≤ b) = true) (fun a b _ _ h1 h2 => ?_) (List.pairwise_mergeSort (by intro a b c; simp; omega) (by intro a b; simp; omega) l) (List.pairwise_mergeSort (by intro a b c; simp; omega) (by intro a b; simp; omega) l') (((List.mergeSort_perm l _).trans h).trans (List.mergeSort_perm l' _).symm)
  simp at h1 h2; omega

/-- How an element reads, where nothing is asked of it. -/
def R0 : Value → Option (DataW Unit × List MemPlace) := fun _ => some (.nil, [])

section
variable {ν : Type} {P : Program} {K : TypeId}
theorem ownsMap_of {w : World} {m : Nat} {ve : ν → Value} {l : List (Int × ν)} {es : Array MapEntry} {clock : Nat} (hM : MapIs w m kI ve l es clock) (hK : P.underlying K = some (.int .i64)) (hwf : ∀ p ∈ l, (Lit.int .i64 p.1).wf = true) (hsz : l.length ≤ maxLen) :
    ∃ D0 : DataW Unit, w.ownsMap P K R0 m l.length D0 ∧ (intKeys D0).Perm (l.map Prod.fst) ∧ Maps.size D0 = l.length := by
  have hlen : es.size = l.length := by have := congrArg List.length hM.eq; simpa using this
  have hmem : ∀ x ∈ es.toList, ∃ p ∈ l, x.key = .int .i64 p.1 := by
    intro x hx
    have h1 : kv x ∈ es.toList.map kv := List.mem_map.2 ⟨x, hx, rfl⟩
    rw [hM.eq] at h1
    obtain ⟨p, hp, e⟩ := List.mem_map.1 h1
    exact ⟨p, hp, by have := congrArg Prod.fst e; exact this.symm⟩
  have hrd : ∀ x ∈ es.toList, ∃ n : Int, x.key = .int .i64 n ∧ WideElems.rd (H := Unit) P K R0 x = some (.int .i64 n, .nil) := by
    intro x hx
    obtain ⟨p, hp, e⟩ := hmem x hx
    refine ⟨p.1, e, ?_⟩
    unfold WideElems.rd
    rw [e, keyOf_int_mk hK (hwf p hp)]
    rfl
  refine ⟨_, ⟨es, clock, hM.heap, ⟨by rw [hlen]; exact hsz, hM.st, fun x hx => by obtain ⟨n, _, h⟩ := hrd x hx; exact ⟨_, h⟩⟩, by omega, rfl⟩, ?_, ?_⟩
  · show (List.map (fun p : Lit × DataW Unit => intOf p.1) _).Perm _
    refine ((Go.WideShapes.sorted_perm _).map _).trans ?_
    rw [List.map_map]
    have e1 : es.toList.map ((fun p : Lit × DataW Unit => intOf p.1) ∘ rg P K R0) = (es.toList.map kv).map (fun q : Value × Value => match q.1 with | .int _ n => n | _ => 0) := by
      rw [List.map_map]
      refine List.map_congr_left fun x hx => ?_
      obtain ⟨n, h1, h2⟩ := hrd x hx
      simp only [Function.comp, rg, h2, Option.getD_some, kv, h1]
      rfl
    rw [e1, hM.eq, List.map_map]
    exact List.Perm.refl _
  · show (List.foldr DataW.insert [] _).length = _
    rw [(Go.WideShapes.sorted_perm _).length_eq]
    simpa using hlen
end

/-- slices.Sorted(maps.Keys(m)): the second call, of what the first one made. -/
def KeysC (P : Program) (f g : FuncId) (K : TypeId) : Prop := ∀ (Bm b nn : Nat) (D0 : DataW Unit) (w : World), w.cell? ⟨Bm, 0, none⟩ = some (.map (some b)) → Bm < w.heap.size → w.ownsMap P K R0 b nn D0 → Maps.size D0 ≤ maxLen → Maps.size D0 * 8 ≤ 140737488355328 →
  Calls P f #[.func (.func g) #[] #[.pointer (some ⟨Bm, 0, none⟩)]] w fun e w' => ∃ (v : Value) (ss : List Int), e = .returned v ∧ ss.Perm (intKeys D0) ∧ w'.ownsRow w.heap.size K 1 v ss.length ((ss.mergeSort fun x y => decide (x ≤ y)).map (Value.int .i64)) ∧ Below w.heap.size w w'

section
variable {P : Program} {ops : Array Oper} {Q : Exit → Act → World → Prop} {N : Nat} {X : Nat → Prop} {w0 : World} {G : Ghost} {l : List (Nat × Value)} {L : List Asrt} {ν : Type}
variable {rest : List Oper} {d i j m Bm : Nat} {ty : TypeId} {pos : String} {after : Array Edge} {gd : Option (Nat × Bool)} {K T : TypeId} {f g : FuncId} {x : Operand} {ats : Array TypeId} {ve : ν → Value} {mv : List (Int × ν)}

theorem Mem.add {w w' : World} {A : Asrt} {F' : Nat → Prop} (h : Mem X w0 G w L) (hs : Since nX w w') (hA : A.holds w' F') (hF : ∀ b, F' b → w.heap.size ≤ b) : Mem X w0 G w' (A :: L) := by
  have h1 := h.call hs
  refine ⟨h1.since, h1.has, F', hA, fun b hb => ⟨.inl (Nat.le_trans h.since.size (hF b hb)), h.has.fresh (hF b hb)⟩, ?_⟩
  refine Sep.keep (h.sep.mono (fun b hb hu => ⟨hu, fun hf => ?_⟩)) (fun b hb _ => hs.block b hb id)
  have := hF b hf
  omega

theorem r_sorted (hw : Wt ops l gd) (hd : Nat.blt d N = true) (hf : Callable P f) (hv : evs l [x] = some [.func (.func g) #[] #[.pointer (some ⟨Bm, 0, none⟩)]]) (hL1 : L[i]? = some (mapA m kI ve mv)) (hL2 : L[j]? = some (box Bm 1 T (at_ [.map (some m)])))
    (hc : KeysC P f g K) (hK : P.underlying K = some (.int .i64)) (hwf : ∀ p ∈ mv, (Lit.int .i64 p.1).wf = true) (hlen : mv.length * 8 ≤ 140737488355328)
    (h : ∀ v, Runs P ops Q N X w0 G rest ((d, v) :: l) (rowA v K 1 (sortI (mv.map Prod.fst)).length ((sortI (mv.map Prod.fst)).flatMap cI) :: L)) : Runs P ops Q N X w0 G (⟨some d, .call ⟨.value (.func f), #[x], ats⟩, ty, pos, after, gd⟩ :: rest) l L := by
  refine Runs.step hw (fun a w hS => ?_)
  show Oper.upon P _ a _ Q _
  have hm : mv.length ≤ maxLen := by simp only [maxLen]; omega
  rw [show (#[x] : Array Operand) = [x].toArray from rfl, run_call hS.fr hv hf, Oper.upon_enter]
  obtain ⟨F1, ⟨⟨es, clock, hM⟩, _⟩, _, _⟩ := hS.mem.take hL1
  obtain ⟨F2, ⟨⟨c, hc1, hc2⟩, _⟩, _, _⟩ := hS.mem.take hL2
  obtain ⟨D0, hown, hperm, hsize⟩ := ownsMap_of (P := P) (K := K) hM hK hwf hm
  have hcell : w.cell? ⟨Bm, 0, none⟩ = some (.map (some m)) := by
    rw [cell_of_row w Bm 0 c T (0, 0) hc1]; exact hc2.get 0 (by decide)
  refine (hc Bm m _ D0 w hcell (lt_of_heap hc1) hown (by omega) (by omega)).mono (fun e w' hR => ?_)
  obtain ⟨v, ss, rfl, hss, hrow, hb⟩ := hR
  have hs : Since nX w w' := ⟨hb.os, hb.tape, hb.output, hb.size, fun k hk _ => hb.block k hk⟩
  have e1 : (ss.mergeSort fun x y => decide (x ≤ y)) = sortI (mv.map Prod.fst) := sortI_perm (hss.trans hperm)
  have e2 : ss.length = (sortI (mv.map Prod.fst)).length := by rw [← e1]; exact (List.length_mergeSort ss).symm
  rw [e1, e2, ← cells_ints] at hrow
  have hl1 : (sortI (mv.map Prod.fst)).length ≤ maxLen := by
    have : (sortI (mv.map Prod.fst)).length = mv.length := by unfold sortI; rw [List.length_mergeSort]; simp
    omega
  obtain ⟨h1, h2⟩ := hrow
  refine h v _ _ ⟨hS.fr.put (by simpa using hd) _, hS.mem.add (F' := fun b => v.ownBlock = some b) hs ⟨⟨h1, ?_⟩, fun _ => Iff.rfl, hl1⟩ ?_⟩
  · rcases h2 with h2 | ⟨g', cap, cur, e, hb', r⟩
    · exact .inl h2
    · exact .inr ⟨g', cap, cur, e, Nat.zero_le _, r⟩
  · intro b hb'
    rcases h2 with ⟨rfl, _⟩ | ⟨g', cap, cur, rfl, hb2, _⟩
    · cases hb'
    · simp [Value.ownBlock] at hb'; omega
end
end Go.Gx

/-
  GX: a method that keeps (or changes) its object and hands back memory that stays. Generic in the program.
-/
namespace Go.Gx
open Go.RowKit

theorem Sep.takeU {w : World} : ∀ {L : List Asrt} {U : Nat → Prop} {k : Nat} {A : Asrt}, Sep w L U → L[k]? = some A →
    ∃ F, A.holds w F ∧ (∀ b, F b → U b) ∧
      ∀ (U' : Nat → Prop) (w' : World) (A' : Asrt) (F' : Nat → Prop), (∀ b, b < w.heap.size → U b → ¬ F b → U' b) → A'.holds w' F' → (∀ b, F' b → U' b ∧ (F b ∨ w.heap.size ≤ b)) →
        (∀ b, b < w.heap.size → U b → ¬ F b → w'.heap[b]? = w.heap[b]?) → Sep w' (L.set k A') U'
  | [], _, _, _, _, h => by simp at h
  | A :: L, U, 0, A', ⟨F, h, hs, hL⟩, e => by
    simp at e; subst e
    refine ⟨F, h, hs, fun U' w' A'' F' hu h' hF' hk => ⟨F', h', fun b hb => (hF' b hb).1, ?_⟩⟩
    have hL1 : Sep w L (fun b => (U b ∧ ¬ F b) ∧ (U' b ∧ ¬ F' b)) := Sep.mono hL (fun b hb hub => ⟨hub, hu b hb hub.1 hub.2, fun hf => by
      rcases (hF' b hf).2 with h1 | h1
      · exact hub.2 h1
      · omega⟩)
    have hL3 := Sep.keep (w' := w') hL1 (fun b hb hu => hk b hb hu.1.1 hu.1.2)
    exact Sep.mono hL3 (fun b _ hu => hu.2)
  | A :: L, U, k + 1, A', ⟨F, h, hs, hL⟩, e => by
    simp at e
    obtain ⟨G, hg, hgs, hput⟩ := Sep.takeU hL e
    refine ⟨G, hg, fun b hb => (hgs b hb).1, fun U' w' A'' F' hu h' hF' hk => ?_⟩
    refine ⟨F, A.frame h (fun b hb => hk b (A.dom h hb) (hs b hb) (fun hg' => (hgs b hg').2 hb)), fun b hb => hu b (A.dom h hb) (hs b hb) (fun hg' => (hgs b hg').2 hb), ?_⟩
    exact hput (fun b => U' b ∧ ¬ F b) w' A'' F' (fun b hb hub hng => ⟨hu b hb hub.1 hng, hub.2⟩) h' (fun b hb => by
      obtain ⟨h0, h1⟩ := hF' b hb
      refine ⟨⟨h0, fun hf => ?_⟩, h1⟩
      rcases h1 with h1 | h1
      · exact (hgs b h1).2 hf
      · have := A.dom h hf; omega) (fun b hb hu hg' => hk b hb hu.1 hg')

def KeptG (A : Asrt) (F : Nat → Prop) (G' : Ghost) (w w' : World) : Prop := Since F w w' ∧ ∃ F', A.holds w' F' ∧ (∀ b, F' b → F b ∨ w.heap.size ≤ b) ∧ ∀ b, F' b → G' b = none

section
variable {P : Program} {ops : Array Oper} {Q : Exit → Act → World → Prop} {N : Nat} {X : Nat → Prop} {w0 : World} {G : Ghost} {l : List (Nat × Value)} {L : List Asrt}
variable {rest : List Oper} {d k : Nat} {ty : TypeId} {pos : String} {after : Array Edge} {gd : Option (Nat × Bool)}

theorem Mem.keptG {w : World} {F : Nat → Prop} {Ls : List Asrt} (h : Mem F w0 G w Ls) (Ls' : List Asrt) (hI : Imp Ls Ls') (B : Asrt) (hB : ∀ F', (starL Ls').holds w F' → B.holds w F') : KeptG B F G w0 w := by
  refine ⟨h.since, ?_⟩
  have h1 := (h.imp hI).sep
  rw [show Ls' = Ls' ++ [] by simp] at h1
  obtain ⟨F', h2, h3, _⟩ := Sep.packL Ls' h1
  exact ⟨F', hB F' h2, fun b hb => (h3 b hb).1.symm, fun b hb => (h3 b hb).2⟩

/-- A call that changes one object and hands back memory that stays. -/
theorem r_callom {f : FuncId} {xs : List Operand} {vs : List Value} {ats : Array TypeId} {A B : Asrt} {S : Ghost → Value → Prop} (hw : Wt ops l gd) (hd : Nat.blt d N = true) (hf : Callable P f) (hv : evs l xs = some vs) (hL : L[k]? = some A)
    (hc : ∀ w F, Has G w → A.holds w F → (∀ b, F b → G b = none) → Calls P f vs.toArray w (Ret fun r w' => ∃ G', GNew w F G G' ∧ Has G' w' ∧ S G' r ∧ KeptG B F G' w w'))
    (h : ∀ G' r, GNew w0 X G G' → S G' r → Runs P ops Q N X w0 G' rest ((d, r) :: l) (L.set k B)) : Runs P ops Q N X w0 G (⟨some d, .call ⟨.value (.func f), xs.toArray, ats⟩, ty, pos, after, gd⟩ :: rest) l L := by
  refine Runs.step hw (fun a w hS => ?_)
  show Oper.upon P _ a _ Q _
  rw [run_call hS.fr hv hf, Oper.upon_enter]
  obtain ⟨F, hA, hsub, hput⟩ := hS.mem.sep.takeU hL
  refine (hc w F hS.mem.has hA (fun b hb => (hsub b hb).2)).mono (fun e w' hR => ?_)
  cases e with
  | returned r =>
    obtain ⟨G', hn, hh, hr, hs, F', hB, hF', hFG'⟩ := hR
    have hn' : GNew w0 X G G' := ⟨hn.le, fun b h1 h2 => by
      rcases hn.new b h1 h2 with h3 | h3
      · exact .inl (Nat.le_trans hS.mem.since.size h3)
      · exact (hsub b h3).1⟩
    refine h G' r hn' hr _ _ ⟨hS.fr.put (by simpa using hd) _, ?_, hh, ?_⟩
    · refine ⟨hs.os.trans hS.mem.since.os, hs.tape.trans hS.mem.since.tape, hs.output.trans hS.mem.since.output, Nat.le_trans hS.mem.since.size hs.size, fun i hi hx => ?_⟩
      rw [hs.block i (Nat.lt_of_lt_of_le hi hS.mem.since.size) (fun hf => Or.elim (hsub i hf).1 (fun h1 => by omega) (fun h1 => hx h1))]
      exact hS.mem.since.block i hi hx
    · refine hput (fun b => (w0.heap.size ≤ b ∨ X b) ∧ G' b = none) w' B F' (fun b hb hu hf => ⟨hu.1, ?_⟩) hB (fun b hb => ⟨⟨?_, hFG' b hb⟩, hF' b hb⟩) (fun b hb _ hf => hs.block b hb hf)
      · cases e : G' b with
        | none => rfl
        | some o => rcases hn.new b hu.2 (by rw [e]; simp) with h3 | h3
                    · omega
                    · exact (hf h3).elim
      · rcases hF' b hb with h1 | h1
        · exact (hsub b h1).1
        · exact .inl (Nat.le_trans hS.mem.since.size h1)
  | panicked c => exact hR.elim
  | outgrown => exact hR.elim
end
end Go.Gx

/-
  GX: function values: they are made, and called. Generic in the program.
-/
namespace Go.Gx
open Go.RowKit

section
variable {P : Program} {ops : Array Oper} {Q : Exit → Act → World → Prop} {N : Nat} {X : Nat → Prop} {w0 : World} {G : Ghost} {l : List (Nat × Value)} {L : List Asrt}
variable {rest : List Oper} {ty : TypeId} {pos : String} {after : Array Edge} {gd : Option (Nat × Bool)}

theorem p_mkfunc {f : FuncId} {d : Nat} {xs : List Operand} {vs : List Value} (hv : evs l xs = some vs) : PV P N X w0 G l L ⟨some d, .makeFunc (.func f) #[] xs.toArray, ty, pos, after, gd⟩ (.func (.func f) #[] vs.toArray) := by
  intro a w hS
  have e := evs_eq hS.fr hv
  have h1 : xs.toArray.map a.eval = vs.toArray := by rw [← e]; simp
  simp only [execOp]
  rw [h1]
  simp [Go.Instr.makeFunc]

theorem fun_same {f : FuncId} {dst : Option Nat} {y : Operand} {xs : List Operand} {cs : List Value} {ats : Array TypeId} {a : Act} (hF : Fr N a l) (hy : ev l y = some (.func (.func f) #[] cs.toArray)) :
    execOp a.eval ⟨dst, .call ⟨.value y, xs.toArray, ats⟩, ty, pos, after, gd⟩ = execOp a.eval ⟨dst, .call ⟨.value (.func f), (xs ++ cs.map Operand.const).toArray, ats⟩, ty, pos, after, gd⟩ := by
  have h2 : execOp a.eval ⟨dst, .call ⟨.value (.func f), (xs ++ cs.map Operand.const).toArray, ats⟩, ty, pos, after, gd⟩ = callFunc f (#[] ++ (xs ++ cs.map Operand.const).toArray.map a.eval ++ #[]) := rfl
  have h3 : (Deferred.ofValue (.func (.func f) #[] cs.toArray) (xs.toArray.map a.eval) >>= fun t => invoke t.target t.args) = callFunc f ((#[] ++ xs.toArray.map a.eval) ++ cs.toArray) := rfl
  have h4 : execOp a.eval ⟨dst, .call ⟨.value y, xs.toArray, ats⟩, ty, pos, after, gd⟩ = (Deferred.ofValue (a.eval y) (xs.toArray.map a.eval) >>= fun t => invoke t.target t.args) := rfl
  rw [h2, h4, hF.eval hy, h3]
  have h5 : (List.map a.eval (cs.map Operand.const)) = cs := by
    rw [List.map_map]
    exact (List.map_congr_left (fun x _ => rfl)).trans (List.map_id cs)
  congr 1
  apply Array.toList_inj.1
  simp only [Array.toList_append, List.append_toArray, Array.toList_map, List.map_append, h5]
  simp

/-- A call of a function value is a call of its function with what it has caught behind the arguments. -/
theorem r_fun {f : FuncId} {dst : Option Nat} {y : Operand} {xs : List Operand} {cs : List Value} {ats : Array TypeId} (hw : Wt ops l gd) (hy : ev l y = some (.func (.func f) #[] cs.toArray))
    (h : Runs P ops Q N X w0 G (⟨dst, .call ⟨.value (.func f), (xs ++ cs.map Operand.const).toArray, ats⟩, ty, pos, after, gd⟩ :: rest) l L) :
    Runs P ops Q N X w0 G (⟨dst, .call ⟨.value y, xs.toArray, ats⟩, ty, pos, after, gd⟩ :: rest) l L := by
  intro a w hS
  have h1 := h a w hS
  unfold wpList at h1 ⊢
  rw [if_pos (hw.wanted hS.fr)] at h1 ⊢
  have e := fun_same (ty := ty) (pos := pos) (after := after) (gd := gd) (dst := dst) (xs := xs) (ats := ats) hS.fr hy
  rcases h1 with h1 | ⟨h1, h2⟩
  · left
    show Oper.upon P _ a _ Q _
    rw [e]
    exact h1
  · right
    refine ⟨?_, h2⟩
    simp only [Oper.asks] at h1 ⊢
    rw [e]
    exact h1
end
end Go.Gx

/-
  GX: trees: slices whose elements hold slices of the like: what is known of one, and one that came in, opened. Generic in the program.
-/
namespace Go.Gx
open Go.RowKit Go.ChangeShapes Go.WideShapes Go.ChangeAt

/-- The value v is a slice of trees: each element's cells bear a slice of its own below it. -/
inductive Tr {α : Type} (subs : α → List α) (cf : α × Value → List Value) (sz : Nat) (d : α × Value) (G : Ghost) : Value → List α → Prop
  | mk {v : Value} (rs : List (α × Value)) (h : SlL G v sz cf d rs) (hs : ∀ p ∈ rs, Tr subs cf sz d G p.2 (subs p.1)) : Tr subs cf sz d G v (rs.map Prod.fst)

section
variable {α : Type} {subs : α → List α} {cf : α × Value → List Value} {sz : Nat} {d : α × Value} {G G' : Ghost} {v : Value} {l : List α}
theorem Tr.inv (h : Tr subs cf sz d G v l) : ∃ rs : List (α × Value), SlL G v sz cf d rs ∧ (∀ p ∈ rs, Tr subs cf sz d G p.2 (subs p.1)) ∧ l = rs.map Prod.fst := by
  cases h with
  | mk rs h hs => exact ⟨rs, h, hs, rfl⟩
theorem Tr.mono (h : Tr subs cf sz d G v l) (hle : GLe G G') : Tr subs cf sz d G' v l := by
  induction h with
  | mk rs h _ ih => exact .mk rs (h.mono hle) ih
theorem Tr.one (h : Tr subs cf sz d G v l) : v.oneCell' = true := by
  cases h with
  | mk rs h _ => exact h.one
theorem Tr.nil : Tr subs cf sz d G (.slice none 0 0) [] := Tr.mk [] (SlG.nil _ _ _) (by simp)
theorem all_cons {β : Type} {p : β → Bool} {a : β} {l : List β} (h : p a = true) (t : l.all p = true) : (a :: l).all p = true := by rw [List.all_cons, h, t]; rfl
theorem Tr.len (h : Tr subs cf sz d G v l) : ∃ a cap, v = .slice a l.length cap := by
  cases h with
  | mk rs h _ => obtain ⟨a, c, e⟩ := SlG.len h; exact ⟨a, c, by simpa using e⟩
section
variable {P : Program} {ops : Array Oper} {Q : Exit → Act → World → Prop} {N : Nat} {X : Nat → Prop} {w0 : World} {G : Ghost} {l : List (Nat × Value)} {L : List Asrt} {rest : List Oper}
theorem p_lengx {d : Nat} {ty : TypeId} {pos : String} {after : Array Edge} {gd : Option (Nat × Bool)} {x : Operand} {v : Value} {T E : TypeId} {n sz : Nat} {f : Nat → Nat → Value} {G2 : Ghost} (hT : P.underlying T = some (.slice E)) (hx : ev l x = some v) (hs : SlG G2 v n sz f) :
    PV P N X w0 G l L ⟨some d, .call ⟨.builtin .len, #[x], #[T]⟩, ty, pos, after, gd⟩ (.int .i64 (n : Int)) := by
  obtain ⟨a, c, rfl, _⟩ := hs
  exact p_len hT hx
/-- A row's value is a slice. -/
theorem r_rowsl {E : TypeId} {k n sz : Nat} {v : Value} {xs : List Value} (hL : L[k]? = some (rowA v E sz n xs)) (h : ∀ a c, v = .slice a n c → Runs P ops Q N X w0 G rest l L) : Runs P ops Q N X w0 G rest l L := by
  intro ac w hS
  obtain ⟨F, ⟨⟨hlen, hown⟩, _⟩, _, _⟩ := hS.mem.take hL
  rcases hown with ⟨rfl, h0⟩ | ⟨g, cap, cur, rfl, _⟩
  · exact h _ _ (by rw [h0]) ac w hS
  · exact h _ _ rfl ac w hS
end
theorem getD_mem {β : Type} {rs : List β} {i : Nat} {d : β} (h : i < rs.length) : rs.getD i d ∈ rs := by
  simp [List.getD, List.getElem?_eq_getElem h]
theorem map_getD {rs : List (α × Value)} {i : Nat} (h : i < rs.length) : (rs.map Prod.fst).getD i d.1 = (rs.getD i d).1 := by
  simp [List.getD, List.getElem?_eq_getElem h]
theorem map_getElem {rs : List (α × Value)} {i : Nat} (h : i < rs.length) : (rs.map Prod.fst)[i]? = some (rs.getD i d).1 := by
  simp [List.getD, List.getElem?_eq_getElem h]
theorem map_drop {rs : List (α × Value)} {i : Nat} (h : i < rs.length) : (rs.map Prod.fst).drop i = (rs.getD i d).1 :: (rs.map Prod.fst).drop (i + 1) := by
  rw [List.drop_eq_getElem_cons (by simpa using h)]
  simp [List.getD, List.getElem?_eq_getElem h]
theorem map_take {rs : List (α × Value)} {i : Nat} (h : i < rs.length) : (rs.map Prod.fst).take (i + 1) = (rs.map Prod.fst).take i ++ [(rs.getD i d).1] := by
  rw [List.take_succ_eq_append_getElem (by simpa using h)]
  simp [List.getD, List.getElem?_eq_getElem h]
end

section
variable {H : Type} {enc : TypeId × Value → H} {P : Program} {W : World} {base : Nat} {sp : Nat → Bool} {held : Bool} {B : Nat}

/-- A cell that reads as a value of type T, with so much fuel at most. -/
def LeafB (enc : TypeId × Value → H) (P : Program) (W : World) (base : Nat) (sp : Nat → Bool) (held : Bool) (B : Nat) (T : TypeId) (v : Value) : Prop := ∃ fuel x, fuel ≤ B ∧ DataW.trod enc P W base sp held fuel T [v] = some x
theorem LeafB.leaf {T : TypeId} {v : Value} (h : LeafB enc P W base sp held B T v) : Leaf enc P W base sp held T v := by
  obtain ⟨f, x, _, h⟩ := h
  exact ⟨f, x, h⟩

inductive LeavesB (enc : TypeId × Value → H) (P : Program) (W : World) (base : Nat) (sp : Nat → Bool) (held : Bool) (B : Nat) : List TypeId → List Value → Prop
  | nil : LeavesB enc P W base sp held B [] []
  | cons {T : TypeId} {v : Value} {ts : List TypeId} {vs : List Value} : LeafB enc P W base sp held B T v → LeavesB enc P W base sp held B ts vs → LeavesB enc P W base sp held B (T :: ts) (v :: vs)

theorem LeavesB.append {a b : List TypeId} {c d : List Value} (h : LeavesB enc P W base sp held B a c) (k : LeavesB enc P W base sp held B b d) : LeavesB enc P W base sp held B (a ++ b) (c ++ d) := by
  induction h with
  | nil => exact k
  | cons h1 _ ih => exact .cons h1 ih
theorem LeavesB.inv {T : TypeId} {ts : List TypeId} {vs : List Value} (h : LeavesB enc P W base sp held B (T :: ts) vs) : ∃ v r, vs = v :: r ∧ LeafB enc P W base sp held B T v ∧ LeavesB enc P W base sp held B ts r := by
  cases h with
  | cons h1 h2 => exact ⟨_, _, rfl, h1, h2⟩
theorem LeavesB.inv0 {vs : List Value} (h : LeavesB enc P W base sp held B [] vs) : vs = [] := by
  cases h; rfl

theorem leavesB_of (d : Nat) : (∀ (t : TypeId) (l : List TypeId) (fuel : Nat) (cs : List Value) (x : DataW H × List MemPlace), fuel ≤ B → leafT P d t = some l → DataW.trod enc P W base sp held fuel t cs = some x → LeavesB enc P W base sp held B l cs) ∧
    (∀ (fs : List Field) (off : Nat) (l : List TypeId) (n : Nat) (cs : List Value), n ≤ B → leafF P d off fs = some l → cs.length = off + l.length → (∀ (i : Nat) (f : Field), fs[i]? = some f → ∃ x, DataW.trod enc P W base sp held n f.type ((cs.drop f.offset).take (P.cellsOf f.type)) = some x) →
      LeavesB enc P W base sp held B l (cs.drop off)) := by
  induction d with
  | zero =>
    refine ⟨fun t l _ _ _ _ h => by simp [leafT] at h, fun fs off l n cs _ h hl _ => ?_⟩
    cases fs with
    | nil =>
      simp [leafF] at h; subst h
      rw [List.drop_eq_nil_of_le (by simp at hl; omega)]
      exact .nil
    | cons f fs => simp [leafF] at h
  | succ d ih =>
    obtain ⟨ihT, ihF⟩ := ih
    constructor
    · intro t l fuel cs x hB hl h
      cases hu : P.underlying t with
      | none => unfold leafT at hl; rw [hu] at hl; cases hl
      | some e =>
        by_cases hs : e.aggB = false
        · have e1 := one_of_scal hu hs hl
          subst e1
          obtain ⟨v, rfl⟩ := trod_one hu hs h
          exact .cons ⟨fuel, x, hB, h⟩ .nil
        · cases e <;> simp [TypeDesc.aggB] at hs
          case array n E =>
            unfold leafT at hl
            rw [hu] at hl
            simp only [Option.bind_eq_some_iff] at hl
            obtain ⟨le, h1, h2⟩ := hl
            split at h2
            · rename_i hlen
              simp at h2; subst h2
              obtain ⟨xs, m, hfu, _, hcl, hxl, hget⟩ := DataW.trod_array hu h
              have key : ∀ (k j : Nat), j + k = n → LeavesB enc P W base sp held B (List.replicate k le).flatten ((cs.drop (j * P.cellsOf E)).take (k * P.cellsOf E)) := by
                intro k
                induction k with
                | zero => intro j _; simp; exact .nil
                | succ k ihk =>
                  intro j hj
                  have hjn : j < n := by omega
                  have hg := hget j hjn
                  have hsome : ∃ y, xs[j]? = some y := ⟨xs[j], List.getElem?_eq_getElem (by omega)⟩
                  obtain ⟨y, hy⟩ := hsome
                  rw [hy] at hg
                  have h3 := ihT E le m _ y (by omega) h1 hg
                  have h4 := ihk (j + 1) (by omega)
                  have e2 : (cs.drop (j * P.cellsOf E)).take ((k + 1) * P.cellsOf E) = (cs.drop (j * P.cellsOf E)).take (P.cellsOf E) ++ (cs.drop ((j + 1) * P.cellsOf E)).take (k * P.cellsOf E) := by
                    rw [Nat.add_mul k 1, Nat.one_mul, Nat.add_comm (k * P.cellsOf E), List.take_add, List.drop_drop, Nat.add_mul j 1, Nat.one_mul]
                  rw [List.replicate_succ, List.flatten_cons, e2]
                  exact h3.append h4
              have := key n 0 (by omega)
              simp only [Nat.zero_mul, List.drop_zero] at this
              have hc : cs.take (n * P.cellsOf E) = cs := by
                rw [List.take_of_length_le]
                rw [hcl, ← hlen.2, hlen.1]
                exact Nat.le_refl _
              rw [hc] at this
              exact this
            · cases h2
          case struct fs =>
            unfold leafT at hl
            rw [hu] at hl
            simp only [Option.bind_eq_some_iff] at hl
            obtain ⟨lf, hl, hl2⟩ := hl
            split at hl2
            rotate_left
            · cases hl2
            rename_i hlen
            simp only [Option.some.injEq] at hl2; subst hl2
            obtain ⟨xs, n, hfu, _, hcl, hxl, hget⟩ := DataW.trod_struct hu h
            have := ihF fs.toList 0 lf n cs (by omega) hl (by rw [hcl, hlen]; omega) (fun i f hf => by
              have hg := hget i f (by simpa using hf)
              have hi : i < xs.length := by
                rw [hxl]
                rcases Nat.lt_or_ge i fs.size with h | h
                · exact h
                · rw [List.getElem?_eq_none (by simpa using h)] at hf; cases hf
              exact ⟨xs[i], by rw [hg]; exact List.getElem?_eq_getElem hi⟩)
            simpa using this
    · intro fs off l n cs hB hl hlen hget
      cases fs with
      | nil =>
        simp [leafF] at hl; subst hl
        rw [List.drop_eq_nil_of_le (by simp at hlen; omega)]
        exact .nil
      | cons f fs =>
        unfold leafF at hl
        split at hl
        · rename_i hoff
          simp only [Option.bind_eq_some_iff] at hl
          obtain ⟨lf, h1, h2⟩ := hl
          split at h2
          · rename_i hlf
            simp only [Option.map_eq_some_iff] at h2
            obtain ⟨lr, h3, rfl⟩ := h2
            obtain ⟨x, hx⟩ := hget 0 f (by simp)
            have h4 := ihT f.type lf n _ x hB h1 hx
            have h5 := ihF fs (off + lf.length) lr n cs hB h3 (by simp at hlen; omega) (fun i g hg => hget (i + 1) g (by simpa using hg))
            have e2 : cs.drop off = (cs.drop off).take (P.cellsOf f.type) ++ cs.drop (off + lf.length) := by
              rw [← hlf, ← List.drop_drop, List.take_append_drop]
            rw [e2]
            rw [hoff] at h4
            exact h4.append h5
          · cases h2
        · cases hl

/-- A struct's cells, each with less fuel. -/
theorem leavesB_struct {t : TypeId} {fs : Array Field} {l : List TypeId} {fuel : Nat} {cs : List Value} {x : DataW H × List MemPlace} (d : Nat) (hu : P.underlying t = some (.struct fs)) (hl : leafT P (d + 1) t = some l) (h : DataW.trod enc P W base sp held fuel t cs = some x) :
    ∃ n, fuel = n + 1 ∧ LeavesB enc P W base sp held n l cs := by
  unfold leafT at hl
  rw [hu] at hl
  simp only [Option.bind_eq_some_iff] at hl
  obtain ⟨lf, hl, hl2⟩ := hl
  split at hl2
  rotate_left
  · cases hl2
  rename_i hlen
  simp only [Option.some.injEq] at hl2; subst hl2
  obtain ⟨xs, n, hfu, _, hcl, hxl, hget⟩ := DataW.trod_struct hu h
  have := (leavesB_of (B := n) d).2 fs.toList 0 lf n cs (Nat.le_refl _) hl (by rw [hcl, hlen]; omega) (fun i f hf => by
    have hg := hget i f (by simpa using hf)
    have hi : i < xs.length := by
      rw [hxl]
      rcases Nat.lt_or_ge i fs.size with h | h
      · exact h
      · rw [List.getElem?_eq_none (by simpa using h)] at hf; cases hf
    exact ⟨xs[i], by rw [hg]; exact List.getElem?_eq_getElem hi⟩)
  exact ⟨n, hfu, by simpa using this⟩

theorem agg_of_wide {t : TypeId} {e : TypeDesc} {v : Value} {r : Reach} (he : P.underlying t = some e) (ha : e.aggB = true) (hv : Value.okWide P W r base t v) : ∃ cs, v = .agg cs := by
  unfold Value.okWide at hv
  rw [he] at hv
  cases e <;> simp [TypeDesc.aggB] at ha <;> exact ⟨_, hv.choose_spec.1⟩

/-- A slice whose elements each read as some α of which more is known. -/
theorem open_slB {α : Type} {cells : α → List Value} {Qa : α → Prop} {t e : TypeId} {sz : Nat} {v : Value} (e0 : α) (ht : P.underlying t = some (.slice e)) (hsz : P.cellsOf e = sz) (hpos : 0 < sz)
    (hp : ∀ n cs' y, n < B → DataW.trod enc P W base sp held n e cs' = some y → ∃ a : α, cs' = cells a ∧ Qa a)
    (h : LeafB enc P W base sp held B t v) : ∃ l, SlL (GW W) v sz cells e0 l ∧ ∀ a ∈ l, Qa a := by
  obtain ⟨fuel, x, hB, h⟩ := h
  rcases DataW.trod_slice ht h with ⟨hv, _⟩ | ⟨a, len, cap, elems, rest, n, hfu, hv, _, _, hl, hm, hlen, hel, _, _⟩
  · simp at hv; subst hv
    exact ⟨[], SlG.nil _ _ _, by simp⟩
  · simp at hv; subst hv
    subst hsz
    obtain ⟨A, hA⟩ := @Go.Deep.choose_lt α ⟨e0⟩ len (fun i v => W.cells? base (a.add (i * P.cellsOf e)) (P.cellsOf e) = some (cells v) ∧ Qa v) (fun i hi => by
      have h1 := hel i hi
      rw [List.getElem?_eq_getElem (by omega)] at h1
      obtain ⟨cs', h2, h3⟩ := Option.bind_eq_some_iff.1 h1
      obtain ⟨v, rfl, hq⟩ := hp _ _ _ (by omega) h3
      exact ⟨v, h2, hq⟩)
    refine ⟨(List.range len).map A, ⟨some a, cap, by simp, ⟨by simpa using hl, by simp; omega⟩, fun hn => ?_⟩, fun b hb => ?_⟩
    rotate_left
    · simp only [List.mem_map, List.mem_range] at hb
      obtain ⟨i, hi, rfl⟩ := hb
      exact (hA i hi).2
    simp only [List.length_map, List.length_range] at hn ⊢
    have h0 := (World.cells?_some (hA 0 hn).1).2.2 0 hpos
    have hlen0 := (World.cells?_some (hA 0 hn).1).2.1
    simp only [Nat.zero_mul] at h0
    have e1 : (a.add 0).add 0 = a := by simp [Addr.add]
    rw [e1, List.getElem?_eq_getElem (by omega)] at h0
    obtain ⟨hspot, c, T, fr, hc, _⟩ := cells_of_cell h0
    obtain ⟨ab, ao, asp⟩ := a
    simp only at hspot; subst hspot
    refine ⟨ab, ao, rfl, fun i hi => ⟨c, T, fr, hc, fun j hj => ?_⟩⟩
    have h1 := (World.cells?_some (hA i hi).1).2.2 j hj
    have hlen := (World.cells?_some (hA i hi).1).2.1
    rw [addr_add, addr_add, List.getElem?_eq_getElem (by omega)] at h1
    obtain ⟨_, c', T', fr', hc', h2⟩ := cells_of_cell h1
    simp only at hc hc' h2
    rw [hc] at hc'
    cases hc'
    rw [h2]
    have h3 : ((List.range len).map A).getD i e0 = A i := by simp [List.getD, hi]
    rw [h3]
    have h4 := at_get (cells (A i)) j (by omega)
    rw [List.getElem?_eq_getElem (by omega)] at h4
    simpa using h4

theorem Trod.leafB {r : Reach} {b0 : Nat} {t : TypeId} {e : TypeDesc} {v : Value} {x : DataW H} {ps : List MemPlace} (ht : P.underlying t = some e) (hs : e.aggB = false) (h : DataW.Trod enc P W base sp held t v x ps) (hv : v.cells.toList = [v]) : ∃ B, LeafB enc P W base sp held B t v := by
  obtain ⟨fuel, hf⟩ := h
  exact ⟨fuel, fuel, _, Nat.le_refl _, by rw [← hv]; exact hf⟩
end
end Go.Gx

/-
  GX: a block of the call's own stays as it is from now on, and is a slice. Generic in the program.
-/
namespace Go.Gx
open Go.RowKit

section
variable {P : Program} {ops : Array Oper} {Q : Exit → Act → World → Prop} {N : Nat} {X : Nat → Prop} {w0 : World} {G : Ghost} {l : List (Nat × Value)} {L : List Asrt}
variable {rest : List Oper}

theorem Mem.freezeB {w : World} {k n m sz b : Nat} {E : TypeId} {f : Nat → Value} (h : Mem X w0 G w L) (hL : L[k]? = some (box b n E f)) (hn : n = m * sz) (hm : m ≤ 1000) :
    ∃ G', GNew w0 X G G' ∧ SlG G' (.slice (some ⟨b, 0, none⟩) m m) m sz (fun i j => f (i * sz + j)) ∧ Mem X w0 G' w (L.eraseIdx k) := by
  obtain ⟨F, ⟨⟨c, hc, hr⟩, hF⟩, hU, hsep⟩ := h.sep.erase hL
  have hgF : F b := (hF b).2 rfl
  have hgU := hU b hgF
  refine ⟨fun b' => if b' = b then some (.cells c E (0, 0)) else G b', ⟨fun b' o e => ?_, fun b' e e' => ?_⟩, ?_, h.since, fun b' o e => ?_, hsep.mono (fun b' _ hb => ⟨hb.1.1, ?_⟩)⟩
  · have : b' ≠ b := fun e2 => by subst e2; rw [hgU.2] at e; cases e
    simp only [if_neg this]; exact e
  · by_cases e2 : b' = b
    · subst e2; exact hgU.1
    · simp only [if_neg e2] at e'; exact absurd e e'
  · refine ⟨some ⟨b, 0, none⟩, m, rfl, ⟨Nat.le_refl _, by simp only [maxLen]; omega⟩, fun _ => ⟨b, 0, rfl, fun i hi => ⟨c, E, (0, 0), by simp, fun j hj => ?_⟩⟩⟩
    have hlt : i * sz + j < n := by
      have := Nat.mul_le_mul_right sz (show i + 1 ≤ m from hi)
      rw [Nat.add_mul, Nat.one_mul] at this; omega
    rw [Nat.zero_add]
    exact hr.get _ hlt
  · by_cases e2 : b' = b
    · subst e2; simp only [if_true, Option.some.injEq] at e; subst e; exact hc
    · simp only [if_neg e2] at e; exact h.has b' o e
  · have : b' ≠ b := fun e2 => hb.2 (by rw [e2]; exact hgF)
    simp only [if_neg this]; exact hb.1.2

theorem r_freezeB {k n b E : Nat} {f : Nat → Value} (m sz : Nat) (hL : L[k]? = some (box b n E f)) (hn : n = m * sz) (hm : m ≤ 1000)
    (h : ∀ G', GNew w0 X G G' → SlG G' (.slice (some ⟨b, 0, none⟩) m m) m sz (fun i j => f (i * sz + j)) → Runs P ops Q N X w0 G' rest l (L.eraseIdx k)) : Runs P ops Q N X w0 G rest l L := by
  intro a w hS
  obtain ⟨G', h1, h2, h3⟩ := hS.mem.freezeB hL hn hm
  exact h G' h1 h2 a w ⟨hS.fr, h3⟩

/-- A call that hands back a row of its own. -/
theorem r_callrow {d : Nat} {ty : TypeId} {pos : String} {after : Array Edge} {gd : Option (Nat × Bool)} {f : FuncId} {xs : List Operand} {vs : List Value} {ats : Array TypeId} {E : TypeId} {sz n : Nat} {ys : List Value} (hw : Wt ops l gd) (hd : Nat.blt d N = true) (hf : Callable P f) (hv : evs l xs = some vs)
    (hc : ∀ w, Has G w → Calls P f vs.toArray w (Ret fun r w' => Since nX w w' ∧ ∃ F', (rowA r E sz n ys).holds w' F' ∧ ∀ b, F' b → w.heap.size ≤ b))
    (h : ∀ v, Runs P ops Q N X w0 G rest ((d, v) :: l) (rowA v E sz n ys :: L)) : Runs P ops Q N X w0 G (⟨some d, .call ⟨.value (.func f), xs.toArray, ats⟩, ty, pos, after, gd⟩ :: rest) l L := by
  refine Runs.step hw (fun a w hS => ?_)
  show Oper.upon P _ a _ Q _
  rw [run_call hS.fr hv hf, Oper.upon_enter]
  refine (hc w hS.mem.has).mono (fun e w' hR => ?_)
  cases e with
  | returned r =>
    obtain ⟨hs, F', hB, hF'⟩ := hR
    have h1 := hS.mem.call hs
    refine h r _ _ ⟨hS.fr.put (by simpa using hd) _, h1.since, h1.has, F', hB, fun b hb => ⟨.inl (Nat.le_trans hS.mem.since.size (hF' b hb)), hS.mem.has.fresh (hF' b hb)⟩, ?_⟩
    refine Sep.keep (hS.mem.sep.mono (fun b hb hu => ⟨hu, fun hf => ?_⟩)) (fun b hb _ => hs.block b hb id)
    have := hF' b hf
    omega
  | panicked c => exact hR.elim
  | outgrown => exact hR.elim
end

section
variable {P : Program} {ops : Array Oper} {brk : Nat → Bool} {G0 : Ghost} {L0 : List Asrt} {Q : Exit → Act → World → Prop} {N : Nat} {X : Nat → Prop} {w0 : World} {G : Ghost} {l : List (Nat × Value)} {L : List Asrt}
variable {d n : Nat} {listed : Array Bool} {ty : TypeId} {pos : String} {after : Array Edge} {gd : Option (Nat × Bool)} {v : Value} {T E : TypeId} {m sz : Nat} {q : IntKind} {f : Nat → Nat → Value} {x o : Operand}
/-- A part of a slice, from its beginning on, in a drawn region. -/
theorem d_slice0 (i b : Nat) (hi : ops[i]? = some ⟨some d, .slice T x none (some o) none, ty, pos, after, gd⟩) (hb : brk i = false) (hf : firstB ops brk listed i = true) (hbig : ∀ j, ops.size ≤ j → brk j = false) (hw : Wt ops l gd) (hd : Nat.blt d N = true)
    (hT : P.underlying T = some (.slice E)) (hE : SzIs P E sz) (hx : ev l x = some v) (hs : SlG G0 v m sz f) (hhi : ev l o = some (.int q (b : Nat))) (hbn : b ≤ m)
    (h : ∀ v', SlG G0 v' b sz f → DR P ops brk G0 L0 Q N X w0 G true n (listed.setIfInBounds i true) ((d, v') :: l) L) : DR P ops brk G0 L0 Q N X w0 G true (n + 1) listed l L := by
  obtain ⟨v', h1, h2⟩ := p_slice (P := P) (N := N) (X := aX) (w0 := w0) (l := l) (L := L0) (d := d) (ty := ty) (pos := pos) (after := after) (gd := gd) (q := .i64) (q' := q) (a := 0) (b := b) hT hE hx hs none (some o) rfl hhi (Nat.zero_le _) hbn
  exact d_val1 i hi hb hf hbig hw hd h2 (h v' h1.from0)
end

/-- One element in a block of its own. -/
theorem SlG.single {α : Type} {G : Ghost} {v : Value} {sz : Nat} {f : Nat → Nat → Value} {cells : α → List Value} {e : α} (a : α) (h : SlG G v 1 sz f) (hc : ∀ j, j < sz → f 0 j = at_ (cells a) j) : SlL G v sz cells e [a] := by
  refine SlG.congr h (fun i hi j hj => ?_)
  have hi' : i < 1 := hi
  obtain rfl : i = 0 := by omega
  exact hc j hj
end Go.Gx
namespace Go.Gx
open Go.RowKit
section
variable {P : Program} {ops : Array Oper} {brk : Nat → Bool} {G0 : Ghost} {L0 : List Asrt} {Q : Exit → Act → World → Prop} {N : Nat} {X : Nat → Prop} {w0 : World} {G : Ghost} {l : List (Nat × Value)} {L : List Asrt}
variable {d n : Nat} {listed : Array Bool} {ty : TypeId} {pos : String} {after : Array Edge} {gd : Option (Nat × Bool)} {v : Value} {T E : TypeId} {m sz : Nat} {q : IntKind} {f : Nat → Nat → Value} {x y : Operand}
/-- The address of an element of a slice, in a drawn region. -/
theorem d_iaddr_g (i : Nat) {k : Nat} (hi : ops[i]? = some ⟨some d, .indexAddr T x y, ty, pos, after, gd⟩) (hb : brk i = false) (hf : firstB ops brk listed i = true) (hbig : ∀ j, ops.size ≤ j → brk j = false) (hw : Wt ops l gd) (hd : Nat.blt d N = true)
    (hT : P.underlying T = some (.slice E)) (hE : SzIs P E sz) (hx : ev l x = some v) (hs : SlG G0 v m sz f) (hy : ev l y = some (.int q (k : Nat))) (hk : k < m)
    (h : ∀ b o, RowAt G0 b o sz (f k) → DR P ops brk G0 L0 Q N X w0 G true n (listed.setIfInBounds i true) ((d, .pointer (some ⟨b, o, none⟩)) :: l) L) : DR P ops brk G0 L0 Q N X w0 G true (n + 1) listed l L := by
  obtain ⟨b, o, h1, h2⟩ := iaddr_g (P := P) (N := N) (X := aX) (w0 := w0) (l := l) (L := L0) (d := d) (ty := ty) (pos := pos) (after := after) (gd := gd) hT hE hx hs hy hk
  exact d_val1 i hi hb hf hbig hw hd h2 (h b o h1)
/-- A field of a value: several cells. -/
theorem p_fieldv {S : TypeId} {fs : Array Field} {fld : Field} {e : TypeDesc} {j M o k : Nat} {c : Array Value} {g : Nat → Value} {u : Value} (hS' : P.underlying S = some (.struct fs)) (hf : fs[j]? = some fld) (hT : P.underlying fld.type = some e) (ha : e.aggB = true) (hm : SzIs P fld.type k)
    (hx : ev l x = some (.agg c)) (hc : IsRow c M g) (ho : fld.offset = o) (hM : o + k ≤ M) (hv : aggF k (fun i => g (o + i)) = u) : PV P N X w0 G l L ⟨some d, .field S x j, ty, pos, after, gd⟩ u := by
  intro a w hS
  subst ho
  simp only [execOp, hS.fr.eval hx]
  simp [Instr.field, asAgg, run_underlying hS', hf, hm.run, part, run_isAgg hT, ha, extract_row hc hM, ← hv, aggF]
end
end Go.Gx

/-
  GX: what closures want: a block that they have caught; a slice held against nil; a row without elements; an object that grows by what is found. Generic in the program.
-/
namespace Go.Gx
open Go.RowKit

section
variable {P : Program} {ops : Array Oper} {Q : Exit → Act → World → Prop} {N : Nat} {X : Nat → Prop} {w0 : World} {G : Ghost} {l : List (Nat × Value)} {L : List Asrt}
variable {rest : List Oper} {d : Nat} {ty : TypeId} {pos : String} {after : Array Edge} {gd : Option (Nat × Bool)} {x y : Operand} {v : Value}

/-- A block of the call's own stays as it is from now on. -/
theorem r_freezeX {k n b E : Nat} {f : Nat → Value} (hL : L[k]? = some (box b n E f))
    (h : ∀ G', GNew w0 X G G' → RowAt G' b 0 n f → Runs P ops Q N X w0 G' rest l (L.eraseIdx k)) : Runs P ops Q N X w0 G rest l L := by
  intro a w hS
  obtain ⟨G', h1, h2, h3⟩ := hS.mem.freezeB (m := 1) (sz := n) hL (by omega) (by omega)
  obtain ⟨_, _, e, _, h4⟩ := h2
  obtain ⟨b', o, e2, h5⟩ := h4 (by omega)
  simp only [Value.slice.injEq] at e
  obtain ⟨rfl, _⟩ := e
  simp only [Option.some.injEq, Addr.mk.injEq] at e2
  obtain ⟨rfl, rfl, _⟩ := e2
  have h6 := h5 0 (by omega)
  simp only [Nat.zero_mul, Nat.add_zero, Nat.zero_add] at h6
  exact h G' h1 h6 a w ⟨hS.fr, h3⟩

theorem eqnil_run {T E : TypeId} {a : Option Addr} {n c n' c' : Nat} (hT : P.underlying T = some (.slice E)) (d : Nat) (w : World) : (Op.equalIn (d + 1) T (.slice a n c) (.slice none n' c')).run P w = .ok a.isNone w := by
  cases a <;> simp [Op.equalIn, run_underlying hT]

/-- '==' between a slice and nil. -/
theorem p_eqnil {T U E : TypeId} {a : Option Addr} {n c n' c' : Nat} (hT : P.underlying T = some (.slice E)) (hx : ev l x = some (.slice a n c)) (hy : ev l y = some (.slice none n' c')) :
    PV P N X w0 G l L ⟨some d, .binOp .eql T x y U, ty, pos, after, gd⟩ (.bool a.isNone) := by
  intro ac w hS
  have e : (Op.equal T (.slice a n c) (.slice none n' c')).run P w = .ok a.isNone w := by
    exact eqnil_run hT 9999 w
  have e2 : (binOp .eql T (.slice a n c) (.slice none n' c')).run P w = .ok (.bool a.isNone) w := by
    have h1 : binOp .eql T (.slice a n c) (.slice none n' c') = (do pure (.bool (← Op.equal T (.slice a n c) (.slice none n' c')))) := rfl
    rw [h1]; simp [e]
  have e3 : (eqGuard .eql T x y (.slice a n c) (.slice none n' c')).run P w = .ok () w := by simp [eqGuard]
  simp only [execOp, hS.fr.eval hx, hS.fr.eval hy]
  simp [e3, e2]

/-- A row without elements. -/
theorem r_bslice0 {T E : TypeId} {sz bytes : Nat} {zv : Value} (hw : Wt ops l gd) (hd : Nat.blt d N = true) (hT : P.underlying T = some (.slice E)) (hE : ElemIs P E sz bytes zv)
    (h : ∀ v, Runs P ops Q N X w0 G rest ((d, v) :: l) (rowA v E sz 0 [] :: L)) :
    Runs P ops Q N X w0 G (⟨some d, .buildSlice T 0 #[], ty, pos, after, gd⟩ :: rest) l L := by
  refine Runs.step hw (fun a w hS => ?_)
  show Oper.upon P _ a _ Q _
  obtain ⟨i, hi, hz, hs, _⟩ := hE.info
  have hr : (execOp a.eval ⟨some d, .buildSlice T 0 #[], ty, pos, after, gd⟩).run P w = .ok (.value (.slice (some ⟨w.heap.size, 0, none⟩) 0 0)) (w.alloc (.cells #[] E)) := by
    have h3 : (sizeOf E).run P w = .ok sz w := by simp [sizeOf, typeInfo, hi, hs]
    simp only [execOp]
    simp [Instr.buildSlice, run_underlying hT, h3, Instr.fill, newRow]
    have h5 : ∀ g : Nat → Value, Array.map g (Array.range 0) = #[] := fun g => Array.ext (by simp) (fun i h1 _ => by simp at h1)
    rw [h5]
  rw [hr, Oper.upon_value]
  refine h _ _ _ ⟨hS.fr.put (by simpa using hd) _, hS.mem.alloc _ _ ⟨⟨by simp, .inr ⟨w.heap.size, 0, #[], rfl, Nat.zero_le _, heap_alloc_new w _, Nat.le_refl _, Nat.zero_le _, by simp, by simp⟩⟩, fun b => ⟨fun h => ?_, fun h => ?_⟩, Nat.zero_le _⟩⟩
  · have : b = w.heap.size := h
    subst this; rfl
  · simp [Value.ownBlock] at h; exact h.symm

/-- A call that changes one object, which is told by what comes of it, and hands back memory that stays. -/
theorem r_callox {τ : Type} {k : Nat} {f : FuncId} {xs : List Operand} {vs : List Value} {ats : Array TypeId} {A : Asrt} {B : τ → Asrt} {S : Ghost → Value → τ → Prop} (hw : Wt ops l gd) (hd : Nat.blt d N = true) (hf : Callable P f) (hv : evs l xs = some vs) (hL : L[k]? = some A)
    (hc : ∀ w F, Has G w → A.holds w F → (∀ b, F b → G b = none) → Calls P f vs.toArray w (Ret fun r w' => ∃ G' z, GNew w F G G' ∧ Has G' w' ∧ S G' r z ∧ KeptG (B z) F G' w w'))
    (h : ∀ G' r z, GNew w0 X G G' → S G' r z → Runs P ops Q N X w0 G' rest ((d, r) :: l) (L.set k (B z))) : Runs P ops Q N X w0 G (⟨some d, .call ⟨.value (.func f), xs.toArray, ats⟩, ty, pos, after, gd⟩ :: rest) l L := by
  refine Runs.step hw (fun a w hS => ?_)
  show Oper.upon P _ a _ Q _
  rw [run_call hS.fr hv hf, Oper.upon_enter]
  obtain ⟨F, hA, hsub, hput⟩ := hS.mem.sep.takeU hL
  refine (hc w F hS.mem.has hA (fun b hb => (hsub b hb).2)).mono (fun e w' hR => ?_)
  cases e with
  | returned r =>
    obtain ⟨G', z, hn, hh, hr, hs, F', hB, hF', hFG'⟩ := hR
    have hn' : GNew w0 X G G' := ⟨hn.le, fun b h1 h2 => by
      rcases hn.new b h1 h2 with h3 | h3
      · exact .inl (Nat.le_trans hS.mem.since.size h3)
      · exact (hsub b h3).1⟩
    refine h G' r z hn' hr _ _ ⟨hS.fr.put (by simpa using hd) _, ?_, hh, ?_⟩
    · refine ⟨hs.os.trans hS.mem.since.os, hs.tape.trans hS.mem.since.tape, hs.output.trans hS.mem.since.output, Nat.le_trans hS.mem.since.size hs.size, fun i hi hx => ?_⟩
      rw [hs.block i (Nat.lt_of_lt_of_le hi hS.mem.since.size) (fun hf => Or.elim (hsub i hf).1 (fun h1 => by omega) (fun h1 => hx h1))]
      exact hS.mem.since.block i hi hx
    · refine hput (fun b => (w0.heap.size ≤ b ∨ X b) ∧ G' b = none) w' (B z) F' (fun b hb hu hf => ⟨hu.1, ?_⟩) hB (fun b hb => ⟨⟨?_, hFG' b hb⟩, hF' b hb⟩) (fun b hb _ hf => hs.block b hb hf)
      · cases e : G' b with
        | none => rfl
        | some o => rcases hn.new b hu.2 (by rw [e]; simp) with h3 | h3
                    · omega
                    · exact (hf h3).elim
      · rcases hF' b hb with h1 | h1
        · exact (hsub b h1).1
        · exact .inl (Nat.le_trans hS.mem.since.size h1)
  | panicked c => exact hR.elim
  | outgrown => exact hR.elim
end

section
variable {P : Program} {ops : Array Oper} {Q : Exit → Act → World → Prop} {N : Nat} {X : Nat → Prop} {w0 : World} {G : Ghost} {l : List (Nat × Value)} {L : List Asrt}
variable {rest : List Oper} {d : Nat} {ty : TypeId} {pos : String} {after : Array Edge} {gd : Option (Nat × Bool)} {x y : Operand} {v u : Value}
/-- An assertion is told in other words. -/
theorem r_conv {k : Nat} {A B : Asrt} (hL : L[k]? = some A) (hI : ∀ w F, A.holds w F → B.holds w F) (h : Runs P ops Q N X w0 G rest l (L.set k B)) : Runs P ops Q N X w0 G rest l L := by
  intro a w hS
  obtain ⟨F, hA, _, hput⟩ := hS.mem.take hL
  exact h a w ⟨hS.fr, hput w B F (Since.refl _ _) (hI w F hA) (fun b hb => .inl hb)⟩

/-- append(out, xs...): xs is a row of the call's own, too. -/
theorem r_append_o {T E : TypeId} {sz n m bytes k k2 : Nat} {zv : Value} {xs ys : List Value} (hw : Wt ops l gd) (hd : Nat.blt d N = true) (hT : P.underlying T = some (.slice E)) (hE : ElemIs P E sz bytes zv) (hz : zv.cells.size = sz) (hsz : 0 < sz)
    (hx : ev l x = some v) (hL : L[k]? = some (rowA v E sz n xs)) (hy : ev l y = some u) (hL2 : L[k2]? = some (rowA u E sz m ys)) (h1 : ∀ z ∈ ys, z.oneCell' = true) (h63 : n + m ≤ maxLen) (hbytes : (n + m) * bytes ≤ 140737488355328)
    (h : ∀ v', Runs P ops Q N X w0 G rest ((d, v') :: l) (L.set k (rowA v' E sz (n + m) (xs ++ ys)))) : Runs P ops Q N X w0 G (⟨some d, .call ⟨.builtin .append, #[x, y], #[T, T]⟩, ty, pos, after, gd⟩ :: rest) l L := by
  obtain ⟨i0, hi0, _, hs0, _⟩ := hE.info
  refine Runs.step hw (fun ac w hS => ?_)
  show Oper.upon P _ ac _ Q _
  obtain ⟨F2, hB, _⟩ := hS.mem.take hL2
  have hB' := hB
  obtain ⟨⟨hlen, hown⟩, _, _⟩ := hB
  rcases hown with ⟨rfl, rfl⟩ | ⟨g, cap, cur, rfl, _, hg, hn, hm, hcs, htk⟩
  · have hys : ys = [] := List.eq_nil_of_length_eq_zero (by simpa using hlen)
    subst hys
    have hsz' : SzIs P E sz := by simp [SzIs, hi0, hs0]
    have h' := h v
    simp only [Nat.add_zero, List.append_nil, set_self hL] at h'
    have hr := p_append_nil (P := P) (N := N) (X := X) (w0 := w0) (G := G) (ty := ty) (pos := pos) (after := after) (gd := gd) (d := d) (c := 0) hT hsz' hx hL hy ac w hS
    rw [hr, Oper.upon_value]
    exact h' _ _ ⟨hS.fr.put (by simpa using hd) v, hS.mem⟩
  · obtain ⟨v', w', hr, hS'⟩ := append_end (ty := ty) (pos := pos) (after := after) (gd := gd) (d := d) (news := ys) hT hE hz hsz hS hL hx hy hlen
      (fun j z hj => by
        have hj2 : j < m * sz := by
          have h5 : j < ys.length := by
            rcases Nat.lt_or_ge j ys.length with h6 | h6
            · exact h6
            · rw [List.getElem?_eq_none h6] at hj; cases hj
          omega
        have h7 := rowA_cell hB' rfl hj2
        rw [addr_add, Nat.zero_add, h7]
        simp [List.getD, hj])
      h1 h63 hbytes hd
    rw [hr, Oper.upon_value]
    exact h v' _ _ hS'
end

/-- A row of a call's own goes out and stays as it is. -/
theorem row_mem {w w' : World} {G : Ghost} {r : Value} {E sz n : Nat} {xs : List Value} (hG : Has G w) (h : Since nX w w' ∧ ∃ F', (rowA r E sz n xs).holds w' F' ∧ ∀ b, F' b → w.heap.size ≤ b) :
    ∃ G', GNew w nX G G' ∧ Has G' w' ∧ SlG G' r n sz (fun i j => xs.getD (i * sz + j) undef) ∧ Since nX w w' := by
  obtain ⟨hs, F', hB, hF⟩ := h
  have h1 : Mem nX w G w [] := ⟨Since.refl _ _, hG, trivial⟩
  have h2 := h1.call hs
  have hm : Mem nX w G w' [rowA r E sz n xs] := ⟨h2.since, h2.has, F', hB, fun b hb => ⟨.inl (hF b hb), hG.fresh (hF b hb)⟩, trivial⟩
  obtain ⟨G', h3, h4, h5⟩ := hm.freeze (k := 0) rfl
  exact ⟨G', h3, h5.has, h4, hs⟩

theorem Mem.pack {X : Nat → Prop} {w0 w : World} {G : Ghost} {Ls L : List Asrt} (h : Mem X w0 G w (Ls ++ L)) : Mem X w0 G w (starL Ls :: L) := by
  obtain ⟨F, h1, h2, h3⟩ := Sep.packL Ls h.sep
  exact ⟨h.since, h.has, F, h1, h2, h3⟩

/-! ### slices of slices -/
section
variable {α : Type}
/-- The cells of an element that is a slice. -/
def lC (p : α × Value) : List Value := [p.2]
/-- The value v is a slice of slices, of which each is what T says. -/
def Ls (T : Ghost → Value → α → Prop) (e : α) (G : Ghost) (v : Value) (l : List α) : Prop := ∃ rs : List (α × Value), SlL G v 1 lC (e, .slice none 0 0) rs ∧ (∀ p ∈ rs, T G p.2 p.1) ∧ l = rs.map Prod.fst
theorem Ls.mk {T : Ghost → Value → α → Prop} {e : α} {G : Ghost} {v : Value} (rs : List (α × Value)) (h : SlL G v 1 lC (e, .slice none 0 0) rs) (hp : ∀ p ∈ rs, T G p.2 p.1) : Ls T e G v (rs.map Prod.fst) := ⟨rs, h, hp, rfl⟩

/-- A variable that holds a row of slices. -/
def outA (T E : TypeId) (p : Nat) (rs : List (α × Value)) : Asrt := exA fun v : Value => starL [box p 1 T (at_ [v]), rowA v E 1 rs.length (rs.flatMap lC)]

section
variable {P : Program} {ops : Array Oper} {Q : Exit → Act → World → Prop} {N : Nat} {X : Nat → Prop} {w0 : World} {G : Ghost} {l : List (Nat × Value)} {L : List Asrt}
variable {rest : List Oper} {T E p : Nat} {rs : List (α × Value)}
theorem r_packout {v : Value} {f : Nat → Value} {n : Nat} {xs : List Value} (hf : f 0 = v) (hn : n = rs.length) (hx : xs = rs.flatMap lC) (h : Runs P ops Q N X w0 G rest l (outA T E p rs :: L)) : Runs P ops Q N X w0 G rest l (rowA v E 1 n xs :: box p 1 T f :: L) := by
  intro a w hS
  subst hn; subst hx
  have h1 : Mem X w0 G w (box p 1 T f :: rowA v E 1 rs.length (rs.flatMap lC) :: L) := by
    obtain ⟨hs, hh, F1, h1, hU1, F2, h2, hU2, hL⟩ := hS.mem
    exact ⟨hs, hh, F2, h2, fun b hb => (hU2 b hb).1, F1, h1, fun b hb => ⟨hU1 b hb, fun h3 => (hU2 b h3).2 hb⟩, hL.mono (fun b _ hb => ⟨⟨hb.1.1, hb.2⟩, hb.1.2⟩)⟩
  have h2 : Mem X w0 G w (box p 1 T (at_ [v]) :: rowA v E 1 rs.length (rs.flatMap lC) :: L) := by
    obtain ⟨hs, hh, F1, h1, hr⟩ := h1
    exact ⟨hs, hh, F1, box_congr (fun i hi => by match i, hi with | 0, _ => exact hf) _ _ h1, hr⟩
  obtain ⟨hs, hh, F, h3, hr⟩ := Mem.pack (Ls := [box p 1 T (at_ [v]), rowA v E 1 rs.length (rs.flatMap lC)]) (L := L) h2
  exact h a w ⟨hS.fr, hs, hh, F, ⟨v, h3⟩, hr⟩
theorem r_unpackout (h : ∀ v : Value, Runs P ops Q N X w0 G rest l (box p 1 T (at_ [v]) :: rowA v E 1 rs.length (rs.flatMap lC) :: L)) : Runs P ops Q N X w0 G rest l (outA T E p rs :: L) := by
  intro a w hS
  obtain ⟨hs, hh, F, ⟨v, h3⟩, hr⟩ := hS.mem
  exact h v a w ⟨hS.fr, Mem.unpack (Ls := [box p 1 T (at_ [v]), rowA v E 1 rs.length (rs.flatMap lC)]) ⟨hs, hh, F, h3, hr⟩⟩
end
end
end Go.Gx

/-
  GX: results that lie in memory of the call's own alone; parts of arrays. Generic in the program.
-/
namespace Go.Gx
open Go.RowKit

/-- What is known of the memory that was laid since a world. -/
def fr (w0 : World) (G : Ghost) : Ghost := fun b => if w0.heap.size ≤ b then G b else none
theorem fr_le (w0 : World) (G : Ghost) : GLe (fr w0 G) G := fun b o e => by
  unfold fr at e
  split at e
  · exact e
  · cases e
theorem fr_mono (w0 : World) {G G' : Ghost} (h : GLe G G') : GLe (fr w0 G) (fr w0 G') := fun b o e => by
  unfold fr at e ⊢
  split at e
  · rename_i hb; rw [if_pos hb]; exact h b o e
  · cases e
theorem fr_new (w0 : World) (G : Ghost) (b : Nat) (h : fr w0 G b ≠ none) : w0.heap.size ≤ b := by
  unfold fr at h
  split at h
  · assumption
  · exact absurd rfl h
theorem RowAt.fr {w0 : World} {G : Ghost} {b o n : Nat} {g : Nat → Value} (h : RowAt G b o n g) (hb : w0.heap.size ≤ b) : RowAt (fr w0 G) b o n g := by
  obtain ⟨c, T, f, h1, h2⟩ := h
  exact ⟨c, T, f, by unfold Gx.fr; rw [if_pos hb]; exact h1, h2⟩
theorem SlG.fr {w0 : World} {G : Ghost} {v : Value} {n sz : Nat} {f : Nat → Nat → Value} (h : SlG G v n sz f) (hv : ∀ b, v.ownBlock = some b → w0.heap.size ≤ b) : SlG (fr w0 G) v n sz f := by
  obtain ⟨a, cap, rfl, hc, hr⟩ := h
  refine ⟨a, cap, rfl, hc, fun hn => ?_⟩
  obtain ⟨b, o, rfl, h2⟩ := hr hn
  exact ⟨b, o, rfl, fun i hi => (h2 i hi).fr (hv b rfl)⟩
theorem RowAt.sub {G : Ghost} {b o n j m : Nat} {g : Nat → Value} (h : RowAt G b o n g) (hj : j + m ≤ n) : RowAt G b (o + j) m (fun i => g (j + i)) := by
  obtain ⟨c, T, f, h1, h2⟩ := h
  exact ⟨c, T, f, h1, fun i hi => by rw [Nat.add_assoc]; exact h2 (j + i) (by omega)⟩

section
variable {P : Program} {ops : Array Oper} {Q : Exit → Act → World → Prop} {N : Nat} {w0 : World} {G : Ghost} {l : List (Nat × Value)} {L : List Asrt}
variable {rest : List Oper} {d : Nat} {ty : TypeId} {pos : String} {after : Array Edge} {gd : Option (Nat × Bool)} {v : Value}

theorem Mem.freezeF {w : World} {k n sz : Nat} {E : TypeId} {xs : List Value} (h : Mem nX w0 G w L) (hL : L[k]? = some (rowA v E sz n xs)) :
    ∃ G', GNew w0 nX G G' ∧ SlG (fr w0 G') v n sz (fun i j => xs.getD (i * sz + j) undef) ∧ Mem nX w0 G' w (L.eraseIdx k) := by
  obtain ⟨F, ⟨hown, hF⟩, hU, _⟩ := h.sep.erase hL
  obtain ⟨G', h1, h2, h3⟩ := h.freeze hL
  refine ⟨G', h1, h2.fr (fun b hb => ?_), h3⟩
  rcases (hU b ((hF.1 b).2 hb)).1 with h4 | h4
  · exact h4
  · exact h4.elim
theorem r_freezeF {k n sz : Nat} {E : TypeId} {xs : List Value} (hL : L[k]? = some (rowA v E sz n xs))
    (h : ∀ G', GNew w0 nX G G' → SlG (fr w0 G') v n sz (fun i j => xs.getD (i * sz + j) undef) → Runs P ops Q N nX w0 G' rest l (L.eraseIdx k)) : Runs P ops Q N nX w0 G rest l L := by
  intro a w hS
  obtain ⟨G', h1, h2, h3⟩ := hS.mem.freezeF hL
  exact h G' h1 h2 a w ⟨hS.fr, h3⟩
theorem e_freezeF {e : Exit} {k n sz : Nat} {E : TypeId} {xs : List Value} (hL : L[k]? = some (rowA v E sz n xs))
    (h : ∀ G', GNew w0 nX G G' → SlG (fr w0 G') v n sz (fun i j => xs.getD (i * sz + j) undef) → ERuns Q e N nX w0 G' l (L.eraseIdx k)) : ERuns Q e N nX w0 G l L := by
  intro a w hS
  obtain ⟨G', h1, h2, h3⟩ := hS.mem.freezeF hL
  exact h G' h1 h2 a w ⟨hS.fr, h3⟩

/-- A call whose result lies in memory of its own alone. -/
theorem r_callf {f : FuncId} {xs : List Operand} {vs : List Value} {ats : Array TypeId} {S : Ghost → Value → Prop} (hw : Wt ops l gd) (hd : Nat.blt d N = true) (hf : Callable P f) (hv : evs l xs = some vs)
    (hS : ∀ H H' r, GLe H H' → S H r → S H' r)
    (hc : ∀ w, Has G w → Calls P f vs.toArray w (Ret fun r w' => ∃ H : Ghost, (∀ b, H b ≠ none → w.heap.size ≤ b) ∧ Has H w' ∧ S H r ∧ Since nX w w'))
    (h : ∀ G' r, GNew w0 nX G G' → S (fr w0 G') r → Runs P ops Q N nX w0 G' rest ((d, r) :: l) L) : Runs P ops Q N nX w0 G (⟨some d, .call ⟨.value (.func f), xs.toArray, ats⟩, ty, pos, after, gd⟩ :: rest) l L := by
  refine Runs.step hw (fun a w hSt => ?_)
  show Oper.upon P _ a _ Q _
  rw [run_call hSt.fr hv hf, Oper.upon_enter]
  refine (hc w hSt.mem.has).mono (fun e w' hR => ?_)
  cases e with
  | returned r =>
    obtain ⟨H, hfresh, hh, hr, hs⟩ := hR
    have hnew : GNew w nX G (fun b => match G b with | some o => some o | none => H b) :=
      ⟨fun b o e => by simp [e], fun b e e' => .inl (hfresh b (by simpa [e] using e'))⟩
    have hle : GLe H (fr w0 (fun b => match G b with | some o => some o | none => H b)) := fun b o e => by
      have hge : w.heap.size ≤ b := hfresh b (by rw [e]; simp)
      have : G b = none := hSt.mem.has.fresh hge
      unfold fr
      rw [if_pos (Nat.le_trans hSt.mem.since.size hge)]
      simp [this, e]
    refine h _ r (hnew.up hSt.mem.since.size) (hS _ _ _ hle hr) _ _ ⟨hSt.fr.put (by simpa using hd) _, hSt.mem.callG hs hnew ?_⟩
    intro b o e
    cases e2 : G b with
    | none => simp only [e2] at e; exact hh b o e
    | some o2 =>
      simp only [e2] at e
      cases e
      rw [hs.block b (hSt.mem.has.lt e2) id]
      exact hSt.mem.has b o e2
  | panicked c => exact hR.elim
  | outgrown => exact hR.elim

/-- The same; a row of the call's own is read. -/
theorem r_callfr {f : FuncId} {xs : List Operand} {vs : List Value} {ats : Array TypeId} {k n sz : Nat} {E : TypeId} {r0 : Value} {zs : List Value} {S : Ghost → Value → Prop} (hw : Wt ops l gd) (hd : Nat.blt d N = true) (hf : Callable P f) (hv : evs l xs = some vs) (hL : L[k]? = some (rowA r0 E sz n zs))
    (hS : ∀ H H' r, GLe H H' → S H r → S H' r)
    (hc : ∀ w G1, Has G1 w → GLe G G1 → SlG G1 r0 n sz (fun i j => zs.getD (i * sz + j) undef) → Calls P f vs.toArray w (Ret fun r w' => ∃ H : Ghost, (∀ b, H b ≠ none → w.heap.size ≤ b) ∧ Has H w' ∧ S H r ∧ Since nX w w'))
    (h : ∀ G' r, GNew w0 nX G G' → S (fr w0 G') r → Runs P ops Q N nX w0 G' rest ((d, r) :: l) L) : Runs P ops Q N nX w0 G (⟨some d, .call ⟨.value (.func f), xs.toArray, ats⟩, ty, pos, after, gd⟩ :: rest) l L := by
  refine Runs.step hw (fun a w hSt => ?_)
  show Oper.upon P _ a _ Q _
  rw [run_call hSt.fr hv hf, Oper.upon_enter]
  obtain ⟨G1, h1, h2, h3⟩ := hSt.mem.freeze hL
  refine (hc w G1 h3.has h1.le h2).mono (fun e w' hR => ?_)
  cases e with
  | returned r =>
    obtain ⟨H, hfresh, hh, hr, hs⟩ := hR
    have hnew : GNew w nX G (fun b => match G b with | some o => some o | none => H b) :=
      ⟨fun b o e => by simp [e], fun b e e' => .inl (hfresh b (by simpa [e] using e'))⟩
    have hle : GLe H (fr w0 (fun b => match G b with | some o => some o | none => H b)) := fun b o e => by
      have hge : w.heap.size ≤ b := hfresh b (by rw [e]; simp)
      have : G b = none := hSt.mem.has.fresh hge
      unfold fr
      rw [if_pos (Nat.le_trans hSt.mem.since.size hge)]
      simp [this, e]
    refine h _ r (hnew.up hSt.mem.since.size) (hS _ _ _ hle hr) _ _ ⟨hSt.fr.put (by simpa using hd) _, hSt.mem.callG hs hnew ?_⟩
    intro b o e
    cases e2 : G b with
    | none => simp only [e2] at e; exact hh b o e
    | some o2 =>
      simp only [e2] at e
      cases e
      rw [hs.block b (hSt.mem.has.lt e2) id]
      exact hSt.mem.has b o e2
  | panicked c => exact hR.elim
  | outgrown => exact hR.elim
end

section
variable {P : Program} {N : Nat} {X : Nat → Prop} {w0 : World} {G : Ghost} {l : List (Nat × Value)} {L : List Asrt} {d : Nat} {ty : TypeId} {pos : String} {after : Array Edge} {gd : Option (Nat × Bool)} {x y : Operand}
/-- A part of an array, from its beginning on, as a slice. -/
theorem p_slarr {T E n sz b o m : Nat} {q : IntKind} (hT : P.underlying T = some (.array n E)) (hE : SzIs P E sz) (hx : ev l x = some (.pointer (some ⟨b, o, none⟩))) (hy : ev l y = some (.int q (m : Nat))) (hm : m ≤ n) (hn : n ≤ 1000) :
    PV P N X w0 G l L ⟨some d, .slice T x none (some y) none, ty, pos, after, gd⟩ (.slice (some ⟨b, o, none⟩) m n) := by
  intro ac w hS
  have hmc : (0 : Int) ≤ (m : Int) ∧ (m : Int) ≤ (n : Int) := by omega
  have hadd : (⟨b, o, none⟩ : Addr).add 0 = ⟨b, o, none⟩ := by rw [addr_add, Nat.add_zero]
  simp only [execOp, hS.fr.eval hx, Option.map]
  simp [Instr.sliceAt, run_underlying hT, Instr.sureAddr, Instr.sliceBounds, Instr.sliceBound, asIntOf, hS.fr.eval hy, hE.run, hm, hadd]
theorem slarr_g {b o n m sz : Nat} {g : Nat → Value} (hR : RowAt G b o (n * sz) g) (hm : m ≤ n) (hn : n ≤ 1000) : SlG G (.slice (some ⟨b, o, none⟩) m n) m sz (fun i j => g (i * sz + j)) := by
  refine ⟨_, _, rfl, ⟨hm, by simp only [maxLen]; omega⟩, fun _ => ⟨b, o, rfl, fun i hi => ?_⟩⟩
  exact hR.sub (by have := Nat.mul_le_mul_right sz (show i + 1 ≤ n by omega); rw [Nat.add_mul, Nat.one_mul] at this; exact this)
end
end Go.Gx

/-
  GX: an assertion is brought to the front. Generic in the program.
-/
namespace Go.Gx
theorem Sep.front {w : World} : ∀ {L : List Asrt} {k : Nat} {A : Asrt} {U : Nat → Prop}, L[k]? = some A → Sep w L U → Sep w (A :: L.eraseIdx k) U
  | [], _, _, _, h, _ => by simp at h
  | B :: L, 0, A, U, h, hS => by
    simp at h; subst h; simpa using hS
  | B :: L, k + 1, A, U, h, ⟨F, hB, hF, hL⟩ => by
    simp at h
    obtain ⟨F2, hA, hF2, hR⟩ := Sep.front h hL
    refine ⟨F2, hA, fun b hb => (hF2 b hb).1, ?_⟩
    rw [List.eraseIdx_cons_succ]
    exact ⟨F, hB, fun b hb => ⟨hF b hb, fun h2 => (hF2 b h2).2 hb⟩, hR.mono (fun b _ hb => ⟨⟨hb.1.1, hb.2⟩, hb.1.2⟩)⟩
theorem Mem.front {X : Nat → Prop} {w0 w : World} {G : Ghost} {L : List Asrt} {k : Nat} {A : Asrt} (h : Mem X w0 G w L) (hL : L[k]? = some A) : Mem X w0 G w (A :: L.eraseIdx k) := ⟨h.since, h.has, h.sep.front hL⟩
section
variable {P : Program} {ops : Array Oper} {Q : Exit → Act → World → Prop} {N : Nat} {X : Nat → Prop} {w0 : World} {G : Ghost} {l : List (Nat × Value)} {L : List Asrt} {rest : List Oper} {k : Nat} {A : Asrt}
theorem r_front (hL : L[k]? = some A) (h : Runs P ops Q N X w0 G rest l (A :: L.eraseIdx k)) : Runs P ops Q N X w0 G rest l L := fun a w hS => h a w ⟨hS.fr, hS.mem.front hL⟩
theorem c_front {c : Code} (hL : L[k]? = some A) (h : CRuns P c Q N X w0 G l (A :: L.eraseIdx k)) : CRuns P c Q N X w0 G l L := fun a w hS => h a w ⟨hS.fr, hS.mem.front hL⟩
theorem e_front {e : Exit} (hL : L[k]? = some A) (h : ERuns Q e N X w0 G l (A :: L.eraseIdx k)) : ERuns Q e N X w0 G l L := fun a w hS => h a w ⟨hS.fr, hS.mem.front hL⟩
end
end Go.Gx
namespace Go.Gx
open Go.RowKit
section
variable {P : Program} {N : Nat} {X : Nat → Prop} {w0 : World} {G : Ghost} {l : List (Nat × Value)} {L : List Asrt} {d : Nat} {ty : TypeId} {pos : String} {after : Array Edge} {gd : Option (Nat × Bool)} {x : Operand}
/-- A whole array, as a slice. -/
theorem p_slarr_all {T E n sz b o : Nat} (hT : P.underlying T = some (.array n E)) (hE : SzIs P E sz) (hx : ev l x = some (.pointer (some ⟨b, o, none⟩))) (hn : n ≤ 1000) :
    PV P N X w0 G l L ⟨some d, .slice T x none none none, ty, pos, after, gd⟩ (.slice (some ⟨b, o, none⟩) n n) := by
  intro ac w hS
  have hadd : (⟨b, o, none⟩ : Addr).add 0 = ⟨b, o, none⟩ := by rw [addr_add, Nat.add_zero]
  simp only [execOp, hS.fr.eval hx, Option.map]
  simp [Instr.sliceAt, run_underlying hT, Instr.sureAddr, Instr.sliceBounds, Instr.sliceBound, asIntOf, hE.run, hadd]
end
end Go.Gx
namespace Go.Gx
open Go.RowKit
section
variable {P : Program} {N : Nat} {X : Nat → Prop} {w0 : World} {G : Ghost} {l : List (Nat × Value)} {L : List Asrt} {d : Nat} {ty : TypeId} {pos : String} {after : Array Edge} {gd : Option (Nat × Bool)} {x : Operand}
/-- A field of a value that is one cell. -/
theorem p_field1 {S : TypeId} {fs : Array Field} {fld : Field} {e : TypeDesc} {j M o : Nat} {c : Array Value} {g : Nat → Value} {u : Value} (hS' : P.underlying S = some (.struct fs)) (hf : fs[j]? = some fld) (hT : P.underlying fld.type = some e) (ha : e.aggB = false) (hm : SzIs P fld.type 1)
    (hx : ev l x = some (.agg c)) (hc : IsRow c M g) (ho : fld.offset = o) (hM : o + 1 ≤ M) (hv : g o = u) : PV P N X w0 G l L ⟨some d, .field S x j, ty, pos, after, gd⟩ u := by
  intro a w hS
  subst ho
  have h1 := hc.get fld.offset (by omega)
  simp only [execOp, hS.fr.eval hx]
  simp [Instr.field, asAgg, run_underlying hS', hf, hm.run, part, run_isAgg hT, ha, h1, ← hv]
end
theorem sl_take {α : Type} {G : Ghost} {v : Value} {sz k : Nat} {cells : α → List Value} {d : α} {rs : List α} (hk : k ≤ rs.length) (h : SlG G v k sz (fun i => at_ (cells (rs.getD i d)))) : SlL G v sz cells d (rs.take k) := by
  unfold SlL
  rw [List.length_take, Nat.min_eq_left hk]
  refine h.congr fun i hi j _ => ?_
  simp [List.getD, List.getElem?_take, hi]
end Go.Gx

/-
  Chapter 03, the plain side: terms, bindings as functions on numbers.
-/
namespace Go.Gx.T3

def cl (n : Int) : Nat := (min (max n 0) 32).toNat
theorem cl_lt (n : Int) : cl n < 33 := by unfold cl; omega
theorem cl_cast (n : Int) : ((cl n : Nat) : Int) = min (max n 0) 32 := by unfold cl; omega
def vi (b : Bool) : Int := if b then 1 else 0
def termRight (b : Bool) (n : Int) : Bool := decide (1 ≤ n ∧ n ≤ if b then 32 else 4096)
def tripleRight (a b c : Int) : Bool := decide ((1 ≤ a ∧ a ≤ 4096) ∧ (1 ≤ b ∧ b ≤ 4096) ∧ 1 ≤ c ∧ c ≤ 4096)
def updI (B : Nat → Int) (k : Nat) (t : Int) : Nat → Int := fun i => if i = k then t else B i
theorem upd_int (B : Nat → Int) (k : Nat) (t : Int) (i : Nat) : upd (fun i => Value.int .i64 (B i)) k (.int .i64 t) i = .int .i64 (updI B k t i) := by
  rw [upd_eq]; unfold updI; split <;> rfl
def heldTo (B : Nat → Int) (k : Nat) : Nat → Int := fun i => if i < k then min (max (B i) 0) 4096 else B i
def heldB (B : Nat → Int) : Nat → Int := fun i => if i = 0 then 0 else min (max (B i) 0) 4096
theorem held_next (B : Nat → Int) (k i : Nat) : upd (fun i => Value.int .i64 (heldTo B k i)) k (.int .i64 (min (max (heldTo B k k) 0) 4096)) i = .int .i64 (heldTo B (k + 1) i) := by
  rw [upd_eq]; unfold heldTo
  by_cases h : i = k
  · subst h; simp
  · rw [if_neg h]
    by_cases h2 : i < k
    · rw [if_pos h2, if_pos (by omega)]
    · rw [if_neg h2, if_neg (by omega)]

def fit1 (v : Bool) (n t : Int) (B : Nat → Int) : Option (Nat → Int) :=
  if v = true then (if B (cl n) = 0 then some (updI B (cl n) t) else if B (cl n) = t then some B else none) else if n = t then some B else none

def fitTo (v0 : Bool) (n0 : Int) (v1 : Bool) (n1 : Int) (v2 : Bool) (n2 : Int) (t0 t1 t2 : Int) (B : Nat → Int) : Nat → Option (Nat → Int)
  | 0 => some B
  | 1 => fit1 v0 n0 t0 B
  | 2 => (fit1 v0 n0 t0 B).bind (fit1 v1 n1 t1)
  | _ => ((fit1 v0 n0 t0 B).bind (fit1 v1 n1 t1)).bind (fit1 v2 n2 t2)

def fit (v0 : Bool) (n0 : Int) (v1 : Bool) (n1 : Int) (v2 : Bool) (n2 : Int) (t0 t1 t2 : Int) (B : Nat → Int) : Option (Nat → Int) :=
  ((fit1 v0 n0 t0 B).bind (fit1 v1 n1 t1)).bind (fit1 v2 n2 t2)

section
variable {v0 : Bool} {n0 : Int} {v1 : Bool} {n1 : Int} {v2 : Bool} {n2 t0 t1 t2 : Int} {B Bk : Nat → Int}
theorem fitTo_1 (h : fitTo v0 n0 v1 n1 v2 n2 t0 t1 t2 B 0 = some Bk) : fitTo v0 n0 v1 n1 v2 n2 t0 t1 t2 B 1 = fit1 v0 n0 t0 Bk := by
  simp only [fitTo, Option.some.injEq] at h ⊢; rw [h]
theorem fitTo_2 (h : fitTo v0 n0 v1 n1 v2 n2 t0 t1 t2 B 1 = some Bk) : fitTo v0 n0 v1 n1 v2 n2 t0 t1 t2 B 2 = fit1 v1 n1 t1 Bk := by
  simp only [fitTo] at h ⊢; rw [h]; rfl
theorem fitTo_3 (h : fitTo v0 n0 v1 n1 v2 n2 t0 t1 t2 B 2 = some Bk) : fitTo v0 n0 v1 n1 v2 n2 t0 t1 t2 B 3 = fit1 v2 n2 t2 Bk := by
  simp only [fitTo] at h ⊢; rw [h]; rfl
theorem fitNo_0 (h : fitTo v0 n0 v1 n1 v2 n2 t0 t1 t2 B 0 = some Bk) (h2 : fit1 v0 n0 t0 Bk = none) : fit v0 n0 v1 n1 v2 n2 t0 t1 t2 B = none := by
  simp only [fitTo, Option.some.injEq] at h; unfold fit; rw [h, h2]; rfl
theorem fitNo_1 (h : fitTo v0 n0 v1 n1 v2 n2 t0 t1 t2 B 1 = some Bk) (h2 : fit1 v1 n1 t1 Bk = none) : fit v0 n0 v1 n1 v2 n2 t0 t1 t2 B = none := by
  simp only [fitTo] at h; unfold fit; rw [h, Option.bind_some, h2]; rfl
theorem fitNo_2 (h : fitTo v0 n0 v1 n1 v2 n2 t0 t1 t2 B 2 = some Bk) (h2 : fit1 v2 n2 t2 Bk = none) : fit v0 n0 v1 n1 v2 n2 t0 t1 t2 B = none := by
  simp only [fitTo] at h; unfold fit; rw [h, Option.bind_some, h2]
end

def fine (v0 : Bool) (n0 : Int) (v1 : Bool) (n1 : Int) (v2 : Bool) (n2 : Int) : Bool := termRight v0 n0 && (termRight v1 n1 && termRight v2 n2)

def owns (v : Bool) (n : Int) (k : Nat) : Bool := v && decide (n = (k : Int))
def ownTo (v0 : Bool) (n0 : Int) (v1 : Bool) (n1 : Int) (v2 : Bool) (n2 : Int) (k : Nat) : Nat → Bool
  | 0 => false
  | 1 => owns v0 n0 k
  | 2 => owns v0 n0 k || owns v1 n1 k
  | _ => owns v0 n0 k || owns v1 n1 k || owns v2 n2 k

section
variable (v0 : Bool) (n0 : Int) (v1 : Bool) (n1 : Int) (v2 : Bool) (n2 : Int) (k : Nat)
theorem ownTo_1 : ownTo v0 n0 v1 n1 v2 n2 k 1 = (ownTo v0 n0 v1 n1 v2 n2 k 0 || owns v0 n0 k) := rfl
theorem ownTo_2 : ownTo v0 n0 v1 n1 v2 n2 k 2 = (ownTo v0 n0 v1 n1 v2 n2 k 1 || owns v1 n1 k) := rfl
theorem ownTo_3 : ownTo v0 n0 v1 n1 v2 n2 k 3 = (ownTo v0 n0 v1 n1 v2 n2 k 2 || owns v2 n2 k) := rfl
end

/-- One term: what stood for something stays; only the variable's place is new; the place holds something then. -/
theorem fit1_keeps {v : Bool} {n t : Int} {B C : Nat → Int} (h : fit1 v n t B = some C) (hr : termRight v n = true) (ht : 1 ≤ t) (k : Nat) :
    (B k ≠ 0 → C k = B k) ∧ (C k ≠ B k → owns v n k = true) ∧ (owns v n k = true → C k ≠ 0) := by
  unfold fit1 at h
  unfold termRight at hr
  unfold owns
  cases v with
  | false =>
    simp at h
    simp [← h.2]
  | true =>
    simp only [if_true] at h hr
    simp at hr
    have hcl : ∀ k : Nat, cl n = k ↔ n = (k : Int) := fun k => by unfold cl; omega
    split at h
    · rename_i h0
      simp at h
      subst h
      unfold updI
      by_cases e : k = cl n
      · subst e
        have := (hcl (cl n)).1 rfl
        simp [← this]
        omega
      · simp [e]
        intro e2
        exact absurd ((hcl k).2 e2).symm e
    · rename_i h0
      split at h
      · rename_i h1
        simp at h
        subst h
        simp
        intro e
        rw [← (hcl k).2 e]; exact h0
      · cases h

/-- One term that fitted fits again, and changes nothing. -/
theorem fit1_again {v : Bool} {n t : Int} {B C D : Nat → Int} (h : fit1 v n t B = some C) (ht : 1 ≤ t) (hD : ∀ k, C k ≠ 0 → D k = C k) : fit1 v n t D = some D := by
  unfold fit1 at *
  cases v with
  | false =>
    simp at h ⊢
    exact h.1
  | true =>
    simp only [if_true] at h ⊢
    have key : C (cl n) = t := by
      split at h
      · simp at h; subst h; simp [updI]
      · split at h
        · simp at h; subst h; assumption
        · cases h
    have := hD (cl n) (by omega)
    rw [if_neg (by omega), if_pos (by omega)]

theorem fit_keeps {v0 : Bool} {n0 : Int} {v1 : Bool} {n1 : Int} {v2 : Bool} {n2 t0 t1 t2 : Int} {B C : Nat → Int} (h : fit v0 n0 v1 n1 v2 n2 t0 t1 t2 B = some C) (hf : fine v0 n0 v1 n1 v2 n2 = true) (ht : tripleRight t0 t1 t2 = true) :
    (∀ k, (B k ≠ 0 → C k = B k) ∧ (C k ≠ B k → ownTo v0 n0 v1 n1 v2 n2 k 3 = true) ∧ (ownTo v0 n0 v1 n1 v2 n2 k 3 = true → C k ≠ 0)) ∧ fit v0 n0 v1 n1 v2 n2 t0 t1 t2 C = some C := by
  unfold fit at h
  unfold fine at hf
  unfold tripleRight at ht
  simp at hf ht
  obtain ⟨hf0, hf1, hf2⟩ := hf
  obtain ⟨ht0, ht1, ht2⟩ := ht
  cases e0 : fit1 v0 n0 t0 B with
  | none => simp [e0] at h
  | some B1 =>
    simp only [e0, Option.bind_some] at h
    cases e1 : fit1 v1 n1 t1 B1 with
    | none => simp [e1] at h
    | some B2 =>
      simp only [e1, Option.bind_some] at h
      have k0 := fit1_keeps e0 hf0 (by omega)
      have k1 := fit1_keeps e1 hf1 (by omega)
      have k2 := fit1_keeps h hf2 (by omega)
      refine ⟨fun k => ?_, ?_⟩
      · obtain ⟨a0, b0, c0⟩ := k0 k
        obtain ⟨a1, b1, c1⟩ := k1 k
        obtain ⟨a2, b2, c2⟩ := k2 k
        have e01 : B k ≠ 0 → C k = B k := fun hb => by
          have x0 := a0 hb
          have x1 := a1 (by rw [x0]; exact hb)
          have x2 := a2 (by rw [x1, x0]; exact hb)
          rw [x2, x1, x0]
        refine ⟨e01, fun hne => ?_, fun ho => ?_⟩
        · simp only [ownTo, Bool.or_eq_true]
          by_cases y0 : B1 k = B k
          · by_cases y1 : B2 k = B1 k
            · exact .inr (b2 (by rw [y1, y0]; exact hne))
            · exact .inl (.inr (b1 y1))
          · exact .inl (.inl (b0 y0))
        · simp only [ownTo, Bool.or_eq_true] at ho
          rcases ho with (ho | ho) | ho
          · have z0 := c0 ho
            have z1 := a1 z0
            have z2 := a2 (by rw [z1]; exact z0)
            rw [z2, z1]; exact z0
          · have z1 := c1 ho
            have z2 := a2 z1
            rw [z2]; exact z1
          · exact c2 ho
      · have s2 : ∀ k, B2 k ≠ 0 → C k = B2 k := fun k => (k2 k).1
        have s1 : ∀ k, B1 k ≠ 0 → C k = B1 k := fun k hk => by
          have x1 := (k1 k).1 hk
          rw [s2 k (by rw [x1]; exact hk), x1]
        unfold fit
        rw [fit1_again e0 (by omega) s1, Option.bind_some, fit1_again e1 (by omega) s2, Option.bind_some, fit1_again h (by omega) (fun k _ => rfl)]

theorem keeps_of {v0 : Bool} {n0 : Int} {v1 : Bool} {n1 : Int} {v2 : Bool} {n2 t0 t1 t2 : Int} (hf : fine v0 n0 v1 n1 v2 n2 = true) (ht : tripleRight t0 t1 t2 = true) (B : Nat → Int) (k : Nat) :
    (B k ≠ 0 → (fit v0 n0 v1 n1 v2 n2 t0 t1 t2 B).getD B k = B k) ∧ ((fit v0 n0 v1 n1 v2 n2 t0 t1 t2 B).getD B k ≠ B k → ownTo v0 n0 v1 n1 v2 n2 k 3 = true) ∧
    ((fit v0 n0 v1 n1 v2 n2 t0 t1 t2 B).isSome = true → ownTo v0 n0 v1 n1 v2 n2 k 3 = true → (fit v0 n0 v1 n1 v2 n2 t0 t1 t2 B).getD B k ≠ 0) := by
  cases e : fit v0 n0 v1 n1 v2 n2 t0 t1 t2 B with
  | none => simp
  | some C =>
    have := (fit_keeps e hf ht).1 k
    simpa using this

theorem again_of {v0 : Bool} {n0 : Int} {v1 : Bool} {n1 : Int} {v2 : Bool} {n2 t0 t1 t2 : Int} (hf : fine v0 n0 v1 n1 v2 n2 = true) (ht : tripleRight t0 t1 t2 = true) (B : Nat → Int) (h : (fit v0 n0 v1 n1 v2 n2 t0 t1 t2 B).isSome = true) :
    fit v0 n0 v1 n1 v2 n2 t0 t1 t2 ((fit v0 n0 v1 n1 v2 n2 t0 t1 t2 B).getD B) = some ((fit v0 n0 v1 n1 v2 n2 t0 t1 t2 B).getD B) := by
  cases e : fit v0 n0 v1 n1 v2 n2 t0 t1 t2 B with
  | none => rw [e] at h; cases h
  | some C => simpa using (fit_keeps e hf ht).2

theorem IsRow_ints (k : IntKind) (l : List Int) : IsRow (l.map (Value.int k)).toArray l.length (fun i => .int k (l.getD i 0)) :=
  ⟨by simp, fun i hi => by simp [hi]⟩

end Go.Gx.T3

/- Plain laws of conditions: trees; what is wrong with one; no program in sight. -/
namespace Go.Gx.T4
open Go.Gx Go.Gx.T3

/-- A condition but for what stands below it. -/
structure Hd where
  k : Int
  v0 : Bool
  n0 : Int
  v1 : Bool
  n1 : Int
  v2 : Bool
  n2 : Int
inductive CT where
  | mk (h : Hd) (subs : List CT)
namespace CT
def h : CT → Hd | .mk h _ => h
def subs : CT → List CT | .mk _ l => l
end CT
theorem CT.eta (c : CT) : CT.mk c.h c.subs = c := by cases c; rfl
abbrev h0 : Hd := ⟨0, false, 0, false, 0, false, 0⟩
abbrev d0 : CT × Value := (.mk h0 [], .slice none 0 0)
/-- The cells of a condition: the program's own, and the document's. -/
def cvC (p : CT × Value) : List Value := [.int .i64 p.1.h.k, .bool p.1.h.v0, .int .i64 p.1.h.n0, .bool p.1.h.v1, .int .i64 p.1.h.n1, .bool p.1.h.v2, .int .i64 p.1.h.n2, p.2]
def rvC (p : CT × Value) : List Value := [.int .i64 p.1.h.k, .int .i64 (vi p.1.h.v0), .int .i64 p.1.h.n0, .int .i64 (vi p.1.h.v1), .int .i64 p.1.h.n1, .int .i64 (vi p.1.h.v2), .int .i64 p.1.h.n2, p.2]
abbrev Cs (G : Ghost) (v : Value) (l : List CT) : Prop := Tr CT.subs cvC 8 d0 G v l
abbrev Rs (G : Ghost) (v : Value) (l : List CT) : Prop := Tr CT.subs rvC 8 d0 G v l

theorem size_subs (c : CT) : SizeOf.sizeOf c.subs < SizeOf.sizeOf c := by
  cases c with
  | mk h l => simp [CT.subs]; omega
theorem size_mem {c x : CT} (h : x ∈ c.subs) : SizeOf.sizeOf x < SizeOf.sizeOf c := by
  have := List.sizeOf_lt_of_mem h
  have := size_subs c
  omega
/-- .. of those in a slice. -/
theorem size_at {c : CT} {rs : List (CT × Value)} {i n : Nat} (h : c.subs = rs.map Prod.fst) (hi : i < rs.length) (hn : SizeOf.sizeOf c ≤ n + 1) : SizeOf.sizeOf (rs.getD i d0).1 ≤ n := by
  have h1 : (rs.getD i d0).1 ∈ c.subs := by rw [h]; exact List.mem_map.2 ⟨_, getD_mem hi, rfl⟩
  have := size_mem h1
  omega

/-! ### what is wrong -/
def headOk (h : Hd) : Bool := termRight h.v0 h.n0 && (termRight h.v1 h.n1 && termRight h.v2 h.n2)
def headNone (h : Hd) : Bool := !h.v0 && decide (h.n0 = 0) && (!h.v1 && decide (h.n1 = 0)) && (!h.v2 && decide (h.n2 = 0))
theorem headNone_cs (h : Hd) : csEq [.bool h.v0, .int .i64 h.n0, .bool h.v1, .int .i64 h.n1, .bool h.v2, .int .i64 h.n2] [.bool false, .int .i64 0, .bool false, .int .i64 0, .bool false, .int .i64 0] = headNone h := by
  unfold headNone
  cases h.v0 <;> cases h.v1 <;> cases h.v2 <;> simp [csEq, cEq, Bool.and_assoc]
theorem headNone_no {h : Hd} (e : ¬ (vi h.v0 = 0 ∧ h.n0 = 0 ∧ vi h.v1 = 0 ∧ h.n1 = 0 ∧ vi h.v2 = 0 ∧ h.n2 = 0)) : headNone h = false := by
  unfold headNone
  rw [← Bool.not_eq_true]
  intro hx
  simp only [Bool.and_eq_true, Bool.not_eq_true', decide_eq_true_eq] at hx
  obtain ⟨⟨⟨a0, b0⟩, a1, b1⟩, a2, b2⟩ := hx
  exact e ⟨by simp [vi, a0], b0, by simp [vi, a1], b1, by simp [vi, a2], b2⟩
theorem headNone_yes {h : Hd} (e : vi h.v0 = 0 ∧ h.n0 = 0 ∧ vi h.v1 = 0 ∧ h.n1 = 0 ∧ vi h.v2 = 0 ∧ h.n2 = 0) : ¬ headNone h = false := by
  unfold headNone
  cases h0 : h.v0 <;> cases h1 : h.v1 <;> cases h2 : h.v2 <;> simp_all [vi]
mutual
def check : CT → Int → Int
  | .mk h l, d => if 3 < max d 1 then 5 else if h.k = 3 then (if headNone h = false then 4 else if l.length = 0 then 2 else checkL l (max d 1 + 1)) else if h.k ≠ 1 ∧ h.k ≠ 2 then 3 else if headOk h = false ∨ 0 < l.length then 4 else 0
def checkL : List CT → Int → Int
  | [], _ => 0
  | c :: t, d => if check c d = 0 then checkL t d else check c d
end
theorem check_eq (c : CT) (d : Int) : check c d = if 3 < max d 1 then 5 else if c.h.k = 3 then (if headNone c.h = false then 4 else if c.subs.length = 0 then 2 else checkL c.subs (max d 1 + 1)) else if c.h.k ≠ 1 ∧ c.h.k ≠ 2 then 3 else if headOk c.h = false ∨ 0 < c.subs.length then 4 else 0 := by
  cases c; rw [check]; rfl
theorem check_max (c : CT) (d : Int) : check c (max d 1) = check c d := by
  rw [check_eq c (max d 1), check_eq c d, show max (max d 1) 1 = max d 1 by omega]
theorem checkL_ok {c : CT} {t : List CT} {d : Int} (h : check c d = 0) : checkL (c :: t) d = checkL t d := by rw [checkL, if_pos h]
theorem checkL_no {c : CT} {t : List CT} {d : Int} (h : check c d ≠ 0) : checkL (c :: t) d = check c d := by rw [checkL, if_neg h]

mutual
theorem check_up : ∀ (c : CT) (d : Int), 1 ≤ d → check c (d + 1) = 0 → check c d = 0
  | .mk h l, d, hd, hc => by
    have h1 : max d 1 = d := by omega
    have h2 : max (d + 1) 1 = d + 1 := by omega
    rw [check, h1]
    rw [check, h2] at hc
    by_cases c1 : 3 < d + 1
    · rw [if_pos c1] at hc; omega
    rw [if_neg c1] at hc
    rw [if_neg (by omega)]
    by_cases c2 : h.k = 3
    · rw [if_pos c2] at hc ⊢
      by_cases c3 : headNone h = false
      · rw [if_pos c3] at hc; omega
      rw [if_neg c3] at hc ⊢
      by_cases c4 : l.length = 0
      · rw [if_pos c4] at hc; omega
      rw [if_neg c4] at hc ⊢
      exact checkL_up l (d + 1) (by omega) hc
    · rw [if_neg c2] at hc ⊢; exact hc
theorem checkL_up : ∀ (l : List CT) (d : Int), 1 ≤ d → checkL l (d + 1) = 0 → checkL l d = 0
  | [], _, _, _ => by rw [checkL]
  | c :: t, d, hd, hc => by
    rw [checkL] at hc ⊢
    by_cases c1 : check c (d + 1) = 0
    · rw [if_pos c1] at hc
      rw [if_pos (check_up c d hd c1)]
      exact checkL_up t d hd hc
    · rw [if_neg c1] at hc; exact absurd hc c1
end
theorem check_deep (c : CT) {d : Int} (hd : 3 < d) : check c d ≠ 0 := by
  rw [check_eq, if_pos (by omega)]; decide

/-- Whether it was right at the depth ahead. -/
def rgt (c : CT) (s : Nat) : Bool := decide (s = 1 ∨ check c ((s : Int) - 1) = 0)
theorem rgt_one (c : CT) : rgt c 1 = true := by simp [rgt]
theorem rgt_next (c : CT) {s : Nat} (h : 1 ≤ s) : rgt c (s + 1) = decide (check c (s : Int) = 0) := by
  unfold rgt
  rw [show (((s + 1 : Nat) : Int) - 1) = (s : Int) by omega]
  simp; omega
theorem rgt_yes {c : CT} {s : Nat} (hs : 1 ≤ s) (h : check c (s : Int) = 0) : rgt c s = true := by
  unfold rgt
  by_cases e : s = 1
  · simp [e]
  · have := check_up c ((s : Int) - 1) (by omega) (by rw [show (s : Int) - 1 + 1 = s by omega]; exact h)
    simp [this]

/-! ### how many there are, and how deep -/
mutual
def size : CT → Nat
  | .mk _ l => 1 + sizeL l
def sizeL : List CT → Nat
  | [] => 0
  | c :: t => size c + sizeL t
end
section
variable (m : Int)
mutual
def small : CT → Int → Int → Bool × Int
  | .mk _ l, deep, n => if m < n + 1 ∨ deep < 0 then (false, n + 1) else smallL l (deep - 1) (n + 1)
def smallL : List CT → Int → Int → Bool × Int
  | [], _, n => (true, n)
  | c :: t, deep, n => if (small c deep n).1 = true then smallL t deep (small c deep n).2 else (false, (small c deep n).2)
end
end
theorem small_eq (m : Int) (c : CT) (deep n : Int) : small m c deep n = if m < n + 1 ∨ deep < 0 then (false, n + 1) else smallL m c.subs (deep - 1) (n + 1) := by
  cases c; rw [small]; rfl
theorem smallL_yes {m : Int} {c : CT} {t : List CT} {deep n : Int} (h : (small m c deep n).1 = true) : smallL m (c :: t) deep n = smallL m t deep (small m c deep n).2 := by rw [smallL, if_pos h]
theorem smallL_no {m : Int} {c : CT} {t : List CT} {deep n : Int} (h : (small m c deep n).1 = false) : smallL m (c :: t) deep n = (false, (small m c deep n).2) := by rw [smallL, if_neg (by simp [h])]

mutual
theorem small_lt (m : Int) : ∀ (c : CT) (deep n : Int), 0 ≤ n → n ≤ m → n ≤ (small m c deep n).2 ∧ (small m c deep n).2 ≤ m + 1 ∧ ((small m c deep n).1 = true → (small m c deep n).2 ≤ m)
  | .mk h l, deep, n, h0, h1 => by
    rw [small]
    split
    · exact ⟨by omega, by omega, fun h => by cases h⟩
    · have := smallL_lt m l (deep - 1) (n + 1) (by omega) (by omega)
      exact ⟨by omega, this.2.1, this.2.2⟩
theorem smallL_lt (m : Int) : ∀ (l : List CT) (deep n : Int), 0 ≤ n → n ≤ m → n ≤ (smallL m l deep n).2 ∧ (smallL m l deep n).2 ≤ m + 1 ∧ ((smallL m l deep n).1 = true → (smallL m l deep n).2 ≤ m)
  | [], _, n, h0, h1 => by
    rw [smallL]; exact ⟨Int.le_refl _, by simp; omega, fun _ => h1⟩
  | c :: t, deep, n, h0, h1 => by
    have hc := small_lt m c deep n h0 h1
    rw [smallL]
    split
    · rename_i hy
      have := smallL_lt m t deep (small m c deep n).2 (by omega) (hc.2.2 hy)
      exact ⟨by omega, this.2.1, this.2.2⟩
    · exact ⟨hc.1, hc.2.1, fun h => by cases h⟩
end

theorem size_eq (c : CT) : size c = 1 + sizeL c.subs := by cases c; rw [size]; rfl
theorem size_pos (c : CT) : 1 ≤ size c := by rw [size_eq]; omega
theorem sizeL_len : ∀ l : List CT, l.length ≤ sizeL l
  | [] => Nat.le_refl _
  | c :: t => by have := sizeL_len t; have := size_pos c; rw [sizeL]; simp; omega
theorem sizeL_mem : ∀ {l : List CT} {x : CT}, x ∈ l → size x ≤ sizeL l
  | c :: t, x, h => by
    rw [sizeL]
    rcases List.mem_cons.1 h with rfl | h
    · omega
    · have := sizeL_mem h; omega
theorem size_len {c : CT} {rs : List (CT × Value)} {m : Nat} (hl : c.subs = rs.map Prod.fst) (h : size c ≤ m) : rs.length ≤ m := by
  have h1 := sizeL_len c.subs
  rw [size_eq] at h
  have h2 : c.subs.length = rs.length := by rw [hl]; simp
  omega
theorem size_child {c : CT} {rs : List (CT × Value)} {i m : Nat} (hl : c.subs = rs.map Prod.fst) (hi : i < rs.length) (h : size c ≤ m) : size (rs.getD i d0).1 ≤ m := by
  have h1 : (rs.getD i d0).1 ∈ c.subs := by rw [hl]; exact List.mem_map.2 ⟨_, getD_mem hi, rfl⟩
  have := sizeL_mem h1
  rw [size_eq] at h
  omega
theorem sizeL_take {rs : List (CT × Value)} {k : Nat} (hk : k < rs.length) : sizeL ((rs.map Prod.fst).take (k + 1)) = sizeL ((rs.map Prod.fst).take k) + size (rs.getD k d0).1 := by
  rw [map_take (d := d0) hk]
  generalize (rs.map Prod.fst).take k = a
  induction a with
  | nil => simp [sizeL]
  | cons c t ih => simp only [List.cons_append, sizeL, ih]; omega
theorem sizeL_take_le : ∀ (l : List CT) (k : Nat), sizeL (l.take k) ≤ sizeL l
  | [], k => by simp
  | c :: t, 0 => by simp [sizeL]
  | c :: t, k + 1 => by have := sizeL_take_le t k; simp only [List.take_succ_cons, sizeL]; omega
abbrev cA : CT := .mk ⟨1, false, 1, false, 1, true, 1⟩ []
abbrev cB (c : CT) : CT := .mk ⟨3, false, 0, false, 0, false, 0⟩ [c]
mutual
theorem small_size (m : Int) : ∀ (c : CT) (deep n : Int), (small m c deep n).1 = true → (small m c deep n).2 = n + size c
  | .mk h l, deep, n, hs => by
    rw [small] at hs ⊢
    split at hs
    · cases hs
    · rename_i hc
      rw [if_neg hc, smallL_size m l (deep - 1) (n + 1) hs, size]
      omega
theorem smallL_size (m : Int) : ∀ (l : List CT) (deep n : Int), (smallL m l deep n).1 = true → (smallL m l deep n).2 = n + sizeL l
  | [], _, n, _ => by rw [smallL, sizeL]; simp
  | c :: t, deep, n, hs => by
    rw [smallL] at hs ⊢
    split at hs
    · rename_i hc
      rw [if_pos hc, smallL_size m t deep _ hs, small_size m c deep n hc, sizeL]
      omega
    · cases hs
end
theorem small_le {m : Nat} {c : CT} {deep : Int} (h : (small m c deep 0).1 = true) : size c ≤ m := by
  have h1 := small_size m c deep 0 h
  have h2 := (small_lt m c deep 0 (by omega) (by omega)).2.2 h
  omega

theorem starL_one {A : Asrt} {w : World} {F : Nat → Prop} (h : (starL [A]).holds w F) : A.holds w F := by
  obtain ⟨F1, F2, h1, h2, _, h4⟩ := h
  have e : F = F1 := by
    funext b
    refine propext ((h4 b).trans ⟨fun h => ?_, .inl⟩)
    rcases h with h | h
    · exact h
    · exact (h2.2 b h).elim
  rw [e]; exact h1
/-- A number in a cell. -/
abbrev cntA (T p : Nat) (n : Int) : Asrt := box p 1 T (at_ [.int .i64 n])
end Go.Gx.T4

/- Plain laws of rising lists without a twin: what sorting and making runs one leaves; no program in sight. -/
namespace Go.Gx.Set
open Go.Lib

theorem cu (d : Array Int) (hs : ∀ i j, i ≤ j → j < d.size → d[i]! ≤ d[j]!) : ∀ m, m ≤ d.size → (compactUpTo d m).Pairwise (· < ·) ∧ ∀ x, x ∈ compactUpTo d m ↔ ∃ j, j < m ∧ d[j]! = x
  | 0, _ => ⟨by simp [compactUpTo], fun x => by simp [compactUpTo]⟩
  | m + 1, hm => by
    obtain ⟨h1, h2⟩ := cu d hs m (by omega)
    rw [compactUpTo_succ]
    by_cases hk : keeps d m = true
    · rw [if_pos hk]
      refine ⟨List.pairwise_append.2 ⟨h1, by simp, fun x hx y hy => ?_⟩, fun x => ?_⟩
      · obtain ⟨j, hj, rfl⟩ := (h2 x).1 hx
        obtain rfl : y = d[m]! := by simpa using hy
        have e1 := hs j (m - 1) (by omega) (by omega)
        have e2 := hs (m - 1) m (by omega) (by omega)
        have e3 : d[m]! ≠ d[m - 1]! := by
          have : decide (m = 0 ∨ d[m]! ≠ d[m - 1]!) = true := hk
          rcases of_decide_eq_true this with h | h
          · omega
          · exact h
        omega
      · rw [List.mem_append, h2]
        constructor
        · rintro (⟨j, hj, e⟩ | h)
          · exact ⟨j, by omega, e⟩
          · exact ⟨m, by omega, by simpa using (List.mem_singleton.1 h).symm⟩
        · rintro ⟨j, hj, e⟩
          by_cases hjm : j = m
          · subst hjm; exact .inr (by simp [e])
          · exact .inl ⟨j, by omega, e⟩
    · rw [if_neg hk, List.append_nil]
      refine ⟨h1, fun x => ?_⟩
      rw [h2]
      have e3 : 0 < m ∧ d[m]! = d[m - 1]! := by
        have : ¬ (m = 0 ∨ d[m]! ≠ d[m - 1]!) := fun h => hk (decide_eq_true h)
        exact ⟨by omega, by
          apply Classical.byContradiction
          intro h; exact this (.inr h)⟩
      constructor
      · rintro ⟨j, hj, e⟩; exact ⟨j, by omega, e⟩
      · rintro ⟨j, hj, e⟩
        by_cases hjm : j = m
        · subst hjm; exact ⟨j - 1, by omega, by rw [← e3.2, e]⟩
        · exact ⟨j, by omega, e⟩

/-- The list, rising, each element once. -/
def once (l : List Int) : List Int := compact (l.mergeSort fun x y => decide (x ≤ y))

theorem once_both (l : List Int) : (once l).Pairwise (· < ·) ∧ ∀ x, x ∈ once l ↔ x ∈ l := by
  have hp := List.mergeSort_perm l fun x y => decide (x ≤ y)
  have hs : (l.mergeSort fun x y => decide (x ≤ y)).Pairwise fun x y => x ≤ y :=
    (List.pairwise_mergeSort (le := fun x y : Int => decide (x ≤ y)) (by intro a b c; simp; omega) (by intro a b; simp; omega) l).imp (by simp)
  have hm : ∀ x, x ∈ (l.mergeSort fun x y => decide (x ≤ y)) ↔ x ∈ l := fun x => hp.mem_iff
  unfold once compact
  generalize (l.mergeSort fun x y => decide (x ≤ y)) = s at hs hm
  have hg : ∀ i j, i ≤ j → j < s.toArray.size → s.toArray[i]! ≤ s.toArray[j]! := by
    intro i j hij hj
    have hj' : j < s.length := by simpa using hj
    rw [getElem!_pos s.toArray i (by simp; omega), getElem!_pos s.toArray j hj]
    by_cases e : i = j
    · subst e; exact Int.le_refl _
    · simpa using List.pairwise_iff_getElem.1 hs i j (by omega) hj' (by omega)
  obtain ⟨h1, h2⟩ := cu s.toArray hg s.length (by simp)
  refine ⟨h1, fun x => ?_⟩
  rw [h2, ← hm]
  constructor
  · rintro ⟨j, hj, rfl⟩
    rw [getElem!_pos s.toArray j (by simpa using hj)]
    simp
  · intro hx
    obtain ⟨j, hj, rfl⟩ := List.mem_iff_getElem.1 hx
    exact ⟨j, hj, by rw [getElem!_pos s.toArray j (by simpa using hj)]; simp⟩

theorem once_rises (l : List Int) : (once l).Pairwise (· < ·) := (once_both l).1
theorem mem_once {l : List Int} {x : Int} : x ∈ once l ↔ x ∈ l := (once_both l).2 x

/-- How many of a list lie below a bound. -/
def below (U : List Int) (n : Int) : Nat := U.countP fun x => decide (x < n)
theorem below_le (U : List Int) (n : Int) : below U n ≤ U.length := List.countP_le_length
theorem below_all {U : List Int} {n : Int} (h : ∀ x ∈ U, x < n) : below U n = U.length := List.countP_eq_length.2 fun x hx => decide_eq_true (h x hx)
theorem below_none {U : List Int} {n : Int} (h : ∀ x ∈ U, n ≤ x) : below U n = 0 := List.countP_eq_zero.2 fun x hx => by have := h x hx; simp; omega
theorem below_get {U : List Int} {n : Int} (hU : U.Pairwise (· < ·)) (hn : n ∈ U) : below U n < U.length ∧ U.getD (below U n) 0 = n := by
  induction U with
  | nil => cases hn
  | cons y t ih =>
    rw [List.pairwise_cons] at hU
    by_cases e : n = y
    · subst e
      have h0 : below (n :: t) n = 0 := below_none (by
        intro x hx
        rcases List.mem_cons.1 hx with rfl | hx
        · exact Int.le_refl _
        · have := hU.1 x hx; omega)
      rw [h0]; exact ⟨by simp, rfl⟩
    · have hm : n ∈ t := by simpa [e] using hn
      obtain ⟨h1, h2⟩ := ih hU.2 hm
      have hy := hU.1 n hm
      have h3 : below (y :: t) n = below t n + 1 := by unfold below; rw [List.countP_cons]; simp [hy]
      rw [h3]
      exact ⟨by simp; omega, by simpa using h2⟩
theorem below_next {U : List Int} {n : Int} (hU : U.Pairwise (· < ·)) : below U (n + 1) = below U n + if n ∈ U then 1 else 0 := by
  induction U with
  | nil => rfl
  | cons y t ih =>
    rw [List.pairwise_cons] at hU
    have h := ih hU.2
    have hn : n ∈ t → y < n := hU.1 n
    unfold below at h ⊢
    rw [List.countP_cons, List.countP_cons, h]
    by_cases e : n = y
    · subst e
      have : n ∉ t := fun h => by have := hn h; omega
      simp [this]; omega
    · by_cases c : n ∈ t
      · have := hn c; simp [c, show y < n + 1 by omega, show y < n by omega]
      · simp only [c, List.mem_cons, e, or_self, if_false, Nat.add_zero]
        by_cases c2 : y < n
        · simp [c2, show y < n + 1 by omega]
        · simp [c2, show ¬ y < n + 1 by omega]
end Go.Gx.Set

/- Plain laws of terms and bindings: what the document's pairs say, and how it puts; no program in sight. -/
namespace Go.Gx.T3
open Go.Gx

abbrev Pr := Int × Int
def pr (p : Pr) : List Value := [.int .i64 p.1, .int .i64 p.2]

def prs (B : Nat → Int) : Nat → List Pr
  | 0 => []
  | k + 1 => prs B k ++ (if 0 < (k : Int) ∧ 0 < B k then [((k : Int), B k)] else [])
theorem prs_yes {B : Nat → Int} {k : Nat} (h : 0 < (k : Int) ∧ 0 < B k) : prs B (k + 1) = prs B k ++ [((k : Int), B k)] := by rw [prs, if_pos h]
theorem prs_no {B : Nat → Int} {k : Nat} (h : ¬ (0 < (k : Int) ∧ 0 < B k)) : prs B (k + 1) = prs B k := by rw [prs, if_neg h, List.append_nil]
theorem prs_len (B : Nat → Int) : ∀ k, (prs B k).length ≤ k
  | 0 => by simp [prs]
  | k + 1 => by
    have := prs_len B k
    unfold prs
    split <;> simp <;> omega

def getP : List Pr → Int → Int
  | [], _ => 0
  | p :: t, v => if p.1 = v then p.2 else getP t v

theorem getP_append (l m : List Pr) (v : Int) : getP (l ++ m) v = bif l.any fun p => decide (p.1 = v) then getP l v else getP m v := by
  induction l with
  | nil => simp
  | cons p t ih =>
    simp only [List.cons_append, getP, List.any_cons]
    by_cases h : p.1 = v
    · simp [h]
    · rw [if_neg h, ih, decide_eq_false h, Bool.false_or, if_neg h]

theorem getP_none {l : List Pr} {v : Int} (h : (l.any fun p => decide (p.1 = v)) = false) : getP l v = 0 := by
  induction l with
  | nil => rfl
  | cons p t ih =>
    simp only [List.any_cons, Bool.or_eq_false_iff, decide_eq_false_iff_not] at h
    rw [getP, if_neg h.1, ih h.2]

theorem prs_any {B : Nat → Int} {k : Nat} {v : Int} (h : (k : Int) ≤ v) : ((prs B k).any fun p => decide (p.1 = v)) = false := by
  induction k with
  | zero => rfl
  | succ k ih =>
    unfold prs
    rw [List.any_append, ih (by omega)]
    split
    · simp; omega
    · rfl

theorem getP_prs {B : Nat → Int} (hB : ∀ i, 0 ≤ B i) {n : Nat} (h1 : 1 ≤ n) : ∀ {k : Nat}, n < k → getP (prs B k) n = B n := by
  intro k
  induction k with
  | zero => intro h; omega
  | succ k ih =>
    intro h
    by_cases hk : n = k
    · subst hk
      unfold prs
      rw [getP_append, prs_any (Int.le_refl _), cond_false]
      split
      · simp [getP]
      · have := hB n
        simp only [getP]
        omega
    · unfold prs
      rw [getP_append]
      cases h3 : ((prs B k).any fun p => decide (p.1 = (n : Int))) with
      | true => rw [cond_true, ih (by omega)]
      | false =>
        rw [cond_false]
        have h4 := getP_none h3
        rw [ih (by omega)] at h4
        split
        · simp only [getP]; rw [if_neg (by omega)]; exact h4.symm
        · simp only [getP]; exact h4.symm

/-- Get by rounds. -/
theorem getP_drop {l : List Pr} {i : Nat} {e : Pr} {v : Int} (h : i < l.length) : getP (l.drop i) v = if (l.getD i e).1 = v then (l.getD i e).2 else getP (l.drop (i + 1)) v := by
  have h1 : l.drop i = l.getD i e :: l.drop (i + 1) := by
    rw [List.drop_eq_getElem_cons h]; simp [List.getD, h]
  rw [h1, getP]

/-! ### putting -/

def rpv (v : Bool) (n : Int) (ps : List Pr) : Int := if v then getP ps n else n
def pv (v : Bool) (n : Int) (B : Nat → Int) : Int := if v then B (cl n) else n
def put1 (x : Int) (k : Nat) (T : Nat → Int) : Option (Nat → Int) := if x = 0 then none else some (updI T k x)
def upTo {α : Type} (f : Nat → α → Option α) (s : α) : Nat → Option α
  | 0 => some s
  | k + 1 => (upTo f s k).bind (f k)
theorem upTo_next {α : Type} {f : Nat → α → Option α} {s t : α} {k : Nat} (h : upTo f s k = some t) : upTo f s (k + 1) = f k t := by rw [upTo, h]; rfl
theorem upTo_no {α : Type} {f : Nat → α → Option α} {s t : α} {k : Nat} (h : upTo f s k = some t) (h2 : f k t = none) : ∀ {n : Nat}, k < n → upTo f s n = none := by
  intro n
  induction n with
  | zero => intro h; omega
  | succ n ih =>
    intro hk
    rw [upTo]
    by_cases e : k = n
    · subst e; rw [h]; exact h2
    · rw [ih (by omega)]; rfl
def sel3 (x0 x1 x2 : Int) : Nat → Int
  | 0 => x0
  | 1 => x1
  | _ => x2
def put (x0 x1 x2 : Int) : Nat → Option (Nat → Int) := upTo (fun k => put1 (sel3 x0 x1 x2 k) k) (fun _ => 0)

theorem heldB_nonneg (B : Nat → Int) (i : Nat) : 0 ≤ heldB B i := by
  unfold heldB; split <;> omega

theorem pv_rpv {v : Bool} {n : Int} {l : List Pr} (B : Nat → Int) (hl : ∀ k : Nat, 1 ≤ k → k < 33 → getP l k = B k) (h : termRight v n = true) : rpv v n l = pv v n B := by
  cases v with
  | false => rfl
  | true =>
    have h0 : 1 ≤ n ∧ n ≤ 32 := by simpa [termRight] using h
    have h1 : ((cl n : Nat) : Int) = n := by rw [cl_cast]; omega
    have h3 : cl n < 33 := cl_lt n
    have := hl (cl n) (by omega) h3
    rw [h1] at this
    exact this

theorem prs_held (B : Nat → Int) (k : Nat) (h1 : 1 ≤ k) (h2 : k < 33) : getP (prs (heldB B) 33) k = heldB B k := getP_prs (heldB_nonneg B) h1 h2

theorem fine_split {v0 : Bool} {n0 : Int} {v1 : Bool} {n1 : Int} {v2 : Bool} {n2 : Int} (h : fine v0 n0 v1 n1 v2 n2 = true) : termRight v0 n0 = true ∧ termRight v1 n1 = true ∧ termRight v2 n2 = true := by
  simpa [fine] using h

theorem put_rput {v0 : Bool} {n0 : Int} {v1 : Bool} {n1 : Int} {v2 : Bool} {n2 : Int} (B : Nat → Int) (h : fine v0 n0 v1 n1 v2 n2 = true) :
    put (rpv v0 n0 (prs (heldB B) 33)) (rpv v1 n1 (prs (heldB B) 33)) (rpv v2 n2 (prs (heldB B) 33)) 3 = put (pv v0 n0 (heldB B)) (pv v1 n1 (heldB B)) (pv v2 n2 (heldB B)) 3 := by
  obtain ⟨h0, h1, h2⟩ := fine_split h
  rw [pv_rpv (heldB B) (prs_held B) h0, pv_rpv (heldB B) (prs_held B) h1, pv_rpv (heldB B) (prs_held B) h2]

/-! ### fitting, as the document says it -/

def rfit1 (v : Bool) (n t : Int) (ps : List Pr) : Option (List Pr) :=
  if v = true then (if getP ps n = 0 then some (ps ++ [(n, t)]) else if getP ps n = t then some ps else none) else if n = t then some ps else none

def selB (v0 v1 v2 : Bool) : Nat → Bool
  | 0 => v0
  | 1 => v1
  | _ => v2

def rfit (v0 : Bool) (n0 : Int) (v1 : Bool) (n1 : Int) (v2 : Bool) (n2 : Int) (t0 t1 t2 : Int) (ps : List Pr) : Nat → Option (List Pr) :=
  upTo (fun k => rfit1 (selB v0 v1 v2 k) (sel3 n0 n1 n2 k) (sel3 t0 t1 t2 k)) ps

theorem rfit1_len {v : Bool} {n t : Int} {ps qs : List Pr} (h : rfit1 v n t ps = some qs) : qs.length ≤ ps.length + 1 := by
  unfold rfit1 at h
  repeat' split at h
  all_goals simp at h
  all_goals subst h
  all_goals simp

theorem rfit_len {v0 : Bool} {n0 : Int} {v1 : Bool} {n1 : Int} {v2 : Bool} {n2 : Int} {t0 t1 t2 : Int} {ps : List Pr} : ∀ {k : Nat} {qs : List Pr}, rfit v0 n0 v1 n1 v2 n2 t0 t1 t2 ps k = some qs → qs.length ≤ ps.length + k := by
  intro k
  induction k with
  | zero => intro qs h; simp [rfit, upTo] at h; subst h; simp
  | succ k ih =>
    intro qs h
    unfold rfit at h ih
    rw [upTo] at h
    cases hk : upTo (fun k => rfit1 (selB v0 v1 v2 k) (sel3 n0 n1 n2 k) (sel3 t0 t1 t2 k)) ps k with
    | none => rw [hk] at h; cases h
    | some rs =>
      rw [hk] at h
      have h1 := ih hk
      have h2 := rfit1_len (show rfit1 _ _ _ rs = some qs from h)
      omega

/-- What the pairs say is what the binding says. -/
structure Agree (ps : List Pr) (B : Nat → Int) : Prop where
  nz : ∀ p ∈ ps, p.2 ≠ 0
  eq : ∀ k : Nat, 1 ≤ k → k < 33 → getP ps k = B k

theorem getP_nz {ps : List Pr} {v : Int} (h : ∀ p ∈ ps, p.2 ≠ 0) (h0 : getP ps v = 0) : (ps.any fun p => decide (p.1 = v)) = false := by
  induction ps with
  | nil => rfl
  | cons p t ih =>
    rw [getP] at h0
    by_cases hp : p.1 = v
    · rw [if_pos hp] at h0
      exact absurd h0 (h p (by simp))
    · rw [if_neg hp] at h0
      rw [List.any_cons, decide_eq_false hp, Bool.false_or]
      exact ih (fun q hq => h q (by simp [hq])) h0

theorem fit1_agree {v : Bool} {n t : Int} {ps : List Pr} {B : Nat → Int} (ha : Agree ps B) (hr : termRight v n = true) (ht : 1 ≤ t) :
    match fit1 v n t B, rfit1 v n t ps with
    | some C, some qs => Agree qs C ∧ (C 0 = B 0)
    | none, none => True
    | _, _ => False := by
  unfold fit1 rfit1
  cases v with
  | false => by_cases h : n = t <;> simp [h, ha]
  | true =>
    have h0 : 1 ≤ n ∧ n ≤ 32 := by simpa [termRight] using hr
    have h1 : ((cl n : Nat) : Int) = n := by rw [cl_cast]; omega
    have h2 : 1 ≤ cl n := by omega
    have h4 := ha.eq (cl n) h2 (cl_lt n)
    rw [h1] at h4
    simp only [if_true, h4]
    by_cases h5 : B (cl n) = 0
    · simp only [h5, if_true]
      rw [h5] at h4
      have hno := getP_nz ha.nz h4
      refine ⟨⟨fun p hp => ?_, fun k hk1 hk2 => ?_⟩, by simp [updI]; omega⟩
      · rcases List.mem_append.1 hp with hp | hp
        · exact ha.nz p hp
        · simp at hp; subst hp; show t ≠ 0; omega
      · rw [getP_append]
        by_cases hk : k = cl n
        · subst hk
          rw [h1, hno, cond_false]
          simp [getP, updI]
        · simp only [updI, hk, if_false]
          cases h6 : (ps.any fun p => decide (p.1 = (k : Int))) with
          | true => rw [cond_true, ha.eq k hk1 hk2]
          | false =>
            rw [cond_false, getP, if_neg (by simp; omega), getP, ← ha.eq k hk1 hk2, getP_none h6]
    · rw [if_neg h5, if_neg h5]
      by_cases h6 : B (cl n) = t
      · rw [if_pos h6, if_pos h6]; exact ⟨ha, rfl⟩
      · rw [if_neg h6, if_neg h6]; trivial

theorem prs_nz (B : Nat → Int) : ∀ k, ∀ p ∈ prs B k, p.2 ≠ 0
  | 0, p, h => by simp [prs] at h
  | k + 1, p, h => by
    unfold prs at h
    rcases List.mem_append.1 h with h | h
    · exact prs_nz B k p h
    · split at h
      · simp at h; subst h; show B k ≠ 0; omega
      · simp at h

theorem held_agree (B : Nat → Int) : Agree (prs (heldB B) 33) (heldB B) := ⟨prs_nz _ _, prs_held B⟩

def Rel (x : Option (Nat → Int)) (y : Option (List Pr)) : Prop :=
  match x, y with
  | some C, some qs => Agree qs C ∧ C 0 = 0
  | none, none => True
  | _, _ => False

theorem Rel.bind {x : Option (Nat → Int)} {y : Option (List Pr)} (h : Rel x y) {v : Bool} {n t : Int} (hr : termRight v n = true) (ht : 1 ≤ t) : Rel (x.bind (fit1 v n t)) (y.bind (rfit1 v n t)) := by
  cases x with
  | none => cases y with
    | none => exact h
    | some _ => exact h.elim
  | some C => cases y with
    | none => exact h.elim
    | some qs =>
      obtain ⟨h1, h2⟩ := h
      have := fit1_agree h1 hr ht
      show Rel (fit1 v n t C) (rfit1 v n t qs)
      unfold Rel
      cases h3 : fit1 v n t C <;> cases h4 : rfit1 v n t qs <;> simp only [h3, h4] at this ⊢
      exact ⟨this.1, by rw [this.2, h2]⟩

theorem tripleRight_ge {t0 t1 t2 : Int} (ht : tripleRight t0 t1 t2 = true) : 1 ≤ t0 ∧ 1 ≤ t1 ∧ 1 ≤ t2 := by
  have ht' : (1 ≤ t0 ∧ t0 ≤ 4096) ∧ (1 ≤ t1 ∧ t1 ≤ 4096) ∧ 1 ≤ t2 ∧ t2 ≤ 4096 := by simpa [tripleRight] using ht
  omega

theorem fit_agree {v0 : Bool} {n0 : Int} {v1 : Bool} {n1 : Int} {v2 : Bool} {n2 : Int} {t0 t1 t2 : Int} (B : Nat → Int) (hf : fine v0 n0 v1 n1 v2 n2 = true) (ht : tripleRight t0 t1 t2 = true) :
    Rel (fit v0 n0 v1 n1 v2 n2 t0 t1 t2 (heldB B)) (rfit v0 n0 v1 n1 v2 n2 t0 t1 t2 (prs (heldB B) 33) 3) := by
  obtain ⟨hf0, hf1, hf2⟩ := fine_split hf
  obtain ⟨g0, g1, g2⟩ := tripleRight_ge ht
  have h : Rel (some (heldB B)) (some (prs (heldB B) 33)) := ⟨held_agree B, rfl⟩
  exact ((h.bind hf0 g0).bind hf1 g1).bind hf2 g2

/-- What fits is put. -/
theorem fit1_put {v : Bool} {n t : Int} {B C : Nat → Int} (h : fit1 v n t B = some C) (hr : termRight v n = true) (ht : 1 ≤ t) : pv v n C = t := by
  unfold fit1 at h
  cases v with
  | false =>
    simp only [Bool.false_eq_true, if_false] at h
    split at h
    · rename_i e; simp [pv, e]
    · cases h
  | true =>
    simp only [if_true] at h
    split at h
    · simp at h; subst h; simp [pv, updI]
    · split at h
      · rename_i e; simp at h; subst h; simp [pv, e]
      · cases h

theorem pv_keeps {v : Bool} {n t : Int} {B C : Nat → Int} (h : pv v n B = t) (ht : 1 ≤ t) (hk : ∀ k, B k ≠ 0 → C k = B k) : pv v n C = t := by
  unfold pv at h ⊢
  cases v with
  | false => exact h
  | true =>
    simp only [if_true] at h ⊢
    rw [hk (cl n) (by omega), h]

theorem fit_put {v0 : Bool} {n0 : Int} {v1 : Bool} {n1 : Int} {v2 : Bool} {n2 : Int} {t0 t1 t2 : Int} {B C : Nat → Int} (h : fit v0 n0 v1 n1 v2 n2 t0 t1 t2 B = some C) (hf : fine v0 n0 v1 n1 v2 n2 = true) (ht : tripleRight t0 t1 t2 = true) :
    put (pv v0 n0 C) (pv v1 n1 C) (pv v2 n2 C) 3 = some (updI (updI (updI (fun _ => 0) 0 t0) 1 t1) 2 t2) := by
  obtain ⟨hf0, hf1, hf2⟩ := fine_split hf
  obtain ⟨g0, g1, g2⟩ := tripleRight_ge ht
  unfold fit at h
  cases h1 : fit1 v0 n0 t0 B with
  | none => rw [h1] at h; cases h
  | some B1 =>
    rw [h1, Option.bind_some] at h
    cases h2 : fit1 v1 n1 t1 B1 with
    | none => rw [h2] at h; cases h
    | some B2 =>
      rw [h2, Option.bind_some] at h
      have k2 := fun k => (fit1_keeps h2 hf1 g1 k).1
      have k3 := fun k => (fit1_keeps h hf2 g2 k).1
      have e0 : pv v0 n0 C = t0 := pv_keeps (pv_keeps (fit1_put h1 hf0 g0) g0 k2) g0 k3
      have e1 : pv v1 n1 C = t1 := pv_keeps (fit1_put h2 hf1 g1) g1 k3
      have e2 : pv v2 n2 C = t2 := fit1_put h hf2 g2
      rw [e0, e1, e2]
      simp only [put, upTo, put1, sel3, Option.bind_some]
      have z : ∀ (t : Int) (k : Nat) (T : Nat → Int), 1 ≤ t → put1 t k T = some (updI T k t) := fun t k T h => by rw [put1, if_neg (by omega)]
      rw [if_neg (by omega), Option.bind_some, z _ _ _ g1, Option.bind_some, z _ _ _ g2]

theorem flat_pr (l : List Pr) : ∀ (m i : Nat), i + m = l.length → flat (fun i => at_ (pr (l.getD i (0, 0)))) 2 i m = (l.drop i).flatMap pr
  | 0, i, h => by rw [List.drop_eq_nil_of_le (by omega)]; rfl
  | m + 1, i, h => by
    have h1 : l.drop i = l.getD i (0, 0) :: l.drop (i + 1) := by
      rw [List.drop_eq_getElem_cons (by omega)]; simp [List.getD, show i < l.length by omega]
    rw [flat, flat_pr l m (i + 1) (by omega), h1, List.flatMap_cons]
    rfl
theorem flat_pr0 (l : List Pr) : flat (fun i => at_ (pr (l.getD i (0, 0)))) 2 0 l.length = l.flatMap pr := flat_pr l l.length 0 (by omega)

section
variable {v0 : Bool} {n0 : Int} {v1 : Bool} {n1 : Int} {v2 : Bool} {n2 : Int} {t0 t1 t2 : Int} (B : Nat → Int) (hf : fine v0 n0 v1 n1 v2 n2 = true) (ht : tripleRight t0 t1 t2 = true)
include hf ht

theorem fits_1 : (rfit v0 n0 v1 n1 v2 n2 t0 t1 t2 (prs (heldB B) 33) 3).isSome = (fit v0 n0 v1 n1 v2 n2 t0 t1 t2 (heldB B)).isSome := by
  have h := fit_agree B hf ht
  unfold Rel at h
  cases h1 : fit v0 n0 v1 n1 v2 n2 t0 t1 t2 (heldB B) <;> cases h2 : rfit v0 n0 v1 n1 v2 n2 t0 t1 t2 (prs (heldB B) 33) 3 <;> simp only [h1, h2] at h ⊢ <;> rfl

theorem fits_2 {k : Nat} (h1 : 0 < (k : Int)) (h2 : (k : Int) < 33) : getP ((rfit v0 n0 v1 n1 v2 n2 t0 t1 t2 (prs (heldB B) 33) 3).getD (prs (heldB B) 33)) k = (fit v0 n0 v1 n1 v2 n2 t0 t1 t2 (heldB B)).getD (heldB B) k := by
  have h := fit_agree B hf ht
  unfold Rel at h
  cases h3 : fit v0 n0 v1 n1 v2 n2 t0 t1 t2 (heldB B) <;> cases h4 : rfit v0 n0 v1 n1 v2 n2 t0 t1 t2 (prs (heldB B) 33) 3 <;> simp only [h3, h4, Option.getD_some, Option.getD_none] at h ⊢
  · exact (held_agree B).eq k (by omega) (by omega)
  · exact h.1.eq k (by omega) (by omega)

theorem fits_3 : (fit v0 n0 v1 n1 v2 n2 t0 t1 t2 (heldB B)).getD (heldB B) 0 = 0 := by
  have h := fit_agree B hf ht
  unfold Rel at h
  cases h3 : fit v0 n0 v1 n1 v2 n2 t0 t1 t2 (heldB B) <;> cases h4 : rfit v0 n0 v1 n1 v2 n2 t0 t1 t2 (prs (heldB B) 33) 3 <;> simp only [h3, h4, Option.getD_some, Option.getD_none] at h ⊢
  · rfl
  · exact h.2

theorem fits_4 (h : (fit v0 n0 v1 n1 v2 n2 t0 t1 t2 (heldB B)).isSome = true) :
    put (pv v0 n0 ((fit v0 n0 v1 n1 v2 n2 t0 t1 t2 (heldB B)).getD (heldB B))) (pv v1 n1 ((fit v0 n0 v1 n1 v2 n2 t0 t1 t2 (heldB B)).getD (heldB B))) (pv v2 n2 ((fit v0 n0 v1 n1 v2 n2 t0 t1 t2 (heldB B)).getD (heldB B))) 3 = some (updI (updI (updI (fun _ => 0) 0 t0) 1 t1) 2 t2) := by
  obtain ⟨C, hC⟩ := Option.isSome_iff_exists.1 h
  have := fit_put hC hf ht
  rw [hC]
  exact this
omit hf ht in
theorem fits_5 (h : (fit v0 n0 v1 n1 v2 n2 t0 t1 t2 (heldB B)).isSome = false) : (fit v0 n0 v1 n1 v2 n2 t0 t1 t2 (heldB B)).getD (heldB B) = heldB B := by
  cases hC : fit v0 n0 v1 n1 v2 n2 t0 t1 t2 (heldB B) with
  | none => rfl
  | some C => rw [hC] at h; cases h
end

end Go.Gx.T3

/- Plain laws of the variables of terms; no program in sight. -/
namespace Go.Gx.T3
open Go.Gx

section
variable (v0 : Bool) (n0 : Int) (v1 : Bool) (n1 : Int) (v2 : Bool) (n2 : Int)
/-- The variables of the first k terms. -/
def vsTo : Nat → List Int
  | 0 => []
  | k + 1 => vsTo k ++ if selB v0 v1 v2 k then [sel3 n0 n1 n2 k] else []
abbrev vars : List Int := Set.once (vsTo v0 n0 v1 n1 v2 n2 3)
end
section
variable {v0 : Bool} {n0 : Int} {v1 : Bool} {n1 : Int} {v2 : Bool} {n2 : Int}
theorem vs_yes {k : Nat} (h : selB v0 v1 v2 k = true) : vsTo v0 n0 v1 n1 v2 n2 (k + 1) = vsTo v0 n0 v1 n1 v2 n2 k ++ [sel3 n0 n1 n2 k] := by rw [vsTo, if_pos h]
theorem vs_no {k : Nat} (h : selB v0 v1 v2 k = false) : vsTo v0 n0 v1 n1 v2 n2 (k + 1) = vsTo v0 n0 v1 n1 v2 n2 k := by rw [vsTo, if_neg (by simp [h]), List.append_nil]
theorem vs_len : ∀ k, (vsTo v0 n0 v1 n1 v2 n2 k).length ≤ k
  | 0 => Nat.le_refl _
  | k + 1 => by have := vs_len k; unfold vsTo; split <;> simp <;> omega
theorem own_mem {n : Nat} : (n : Int) ∈ vars v0 n0 v1 n1 v2 n2 ↔ ownTo v0 n0 v1 n1 v2 n2 n 3 = true := by
  rw [Set.mem_once]
  cases v0 <;> cases v1 <;> cases v2 <;> simp [vsTo, selB, sel3, ownTo, owns, eq_comm (a := (n : Int)), or_assoc]
theorem vars_mem {x : Int} (hf : fine v0 n0 v1 n1 v2 n2 = true) (hx : x ∈ vars v0 n0 v1 n1 v2 n2) : 1 ≤ x ∧ x ≤ 32 := by
  rw [Set.mem_once] at hx
  simp only [fine, termRight, Bool.and_eq_true, decide_eq_true_eq] at hf
  obtain ⟨h0, h1, h2⟩ := hf
  cases v0 <;> cases v1 <;> cases v2 <;> simp [vsTo, selB, sel3] at hx h0 h1 h2 <;> omega
theorem vars_start (hf : fine v0 n0 v1 n1 v2 n2 = true) : ((Set.below (vars v0 n0 v1 n1 v2 n2) ((1 : Nat) : Int) : Nat) : Int) = 0 := by
  have h := Set.below_none (U := vars v0 n0 v1 n1 v2 n2) (n := ((1 : Nat) : Int)) (fun x hx => (vars_mem hf hx).1)
  rw [h]; rfl
theorem vars_end (hf : fine v0 n0 v1 n1 v2 n2 = true) {n : Nat} (hn : 33 ≤ n) : Set.below (vars v0 n0 v1 n1 v2 n2) (n : Int) = (vars v0 n0 v1 n1 v2 n2).length :=
  Set.below_all fun x hx => by have := (vars_mem hf hx).2; omega
theorem vars_yes {n : Nat} (h : ownTo v0 n0 v1 n1 v2 n2 n 3 = true) : ((Set.below (vars v0 n0 v1 n1 v2 n2) (n : Int) : Nat) : Int) + 1 = ((Set.below (vars v0 n0 v1 n1 v2 n2) ((n + 1 : Nat) : Int) : Nat) : Int) := by
  have e : ((n + 1 : Nat) : Int) = (n : Int) + 1 := by omega
  have h2 := Set.below_next (U := vars v0 n0 v1 n1 v2 n2) (n := (n : Int)) (Set.once_rises _)
  rw [if_pos (own_mem.2 h)] at h2
  rw [e, h2]; omega
theorem vars_no {n : Nat} (h : ownTo v0 n0 v1 n1 v2 n2 n 3 = false) : ((Set.below (vars v0 n0 v1 n1 v2 n2) (n : Int) : Nat) : Int) = ((Set.below (vars v0 n0 v1 n1 v2 n2) ((n + 1 : Nat) : Int) : Nat) : Int) := by
  have e : ((n + 1 : Nat) : Int) = (n : Int) + 1 := by omega
  have hn : ¬ (n : Int) ∈ vars v0 n0 v1 n1 v2 n2 := fun hm => by rw [own_mem.1 hm] at h; cases h
  have h2 := Set.below_next (U := vars v0 n0 v1 n1 v2 n2) (n := (n : Int)) (Set.once_rises _)
  rw [if_neg hn] at h2
  rw [e, h2]; omega
theorem vars_at {n : Nat} (h : ownTo v0 n0 v1 n1 v2 n2 n 3 = true) : Set.below (vars v0 n0 v1 n1 v2 n2) (n : Int) < (vars v0 n0 v1 n1 v2 n2).length ∧ (vars v0 n0 v1 n1 v2 n2).getD (Set.below (vars v0 n0 v1 n1 v2 n2) (n : Int)) 0 = n :=
  Set.below_get (Set.once_rises _) (own_mem.2 h)
end
end Go.Gx.T3

/- Plain laws of the variables of conditions; no program in sight. -/
namespace Go.Gx.T4
open Go.Gx Go.Gx.T3

def own (h : Hd) : List Int := if h.k = 3 then [] else vars h.v0 h.n0 h.v1 h.n1 h.v2 h.n2
mutual
def cvars : CT → List Int
  | .mk h l => Set.once (own h ++ cvarsL l)
def cvarsL : List CT → List Int
  | [] => []
  | c :: t => cvars c ++ cvarsL t
end
theorem cvars_eq (c : CT) : cvars c = Set.once (own c.h ++ cvarsL c.subs) := by cases c; rw [cvars]; rfl
theorem once_len (l : List Int) : (Set.once l).length ≤ l.length := by
  have := compact_le (l.mergeSort fun x y => decide (x ≤ y))
  rw [List.length_mergeSort] at this
  exact this
theorem own_len (h : Hd) : (own h).length ≤ 3 := by
  unfold own
  split
  · simp
  · exact Nat.le_trans (once_len _) (vs_len 3)
mutual
theorem cvars_len : ∀ c : CT, (cvars c).length ≤ 3 * size c
  | .mk h l => by
    have h1 := once_len (own h ++ cvarsL l)
    have h2 := own_len h
    have h3 := cvarsL_len l
    rw [List.length_append] at h1
    rw [cvars, size]; omega
theorem cvarsL_len : ∀ l : List CT, (cvarsL l).length ≤ 3 * sizeL l
  | [] => by simp [cvarsL]
  | c :: t => by
    have h1 := cvars_len c
    have h2 := cvarsL_len t
    rw [cvarsL, sizeL, List.length_append]; omega
end
theorem cvarsL_append (a b : List CT) : cvarsL (a ++ b) = cvarsL a ++ cvarsL b := by
  induction a with
  | nil => rfl
  | cons c t ih => simp [cvarsL, ih]
theorem cvarsL_take {rs : List (CT × Value)} {k : Nat} (hk : k < rs.length) : cvarsL ((rs.map Prod.fst).take (k + 1)) = cvarsL ((rs.map Prod.fst).take k) ++ cvars (rs.getD k d0).1 := by
  rw [map_take (d := d0) hk, cvarsL_append]; simp [cvarsL]
theorem cvarsL_some {rs : List (CT × Value)} (k : Nat) : (cvarsL ((rs.map Prod.fst).take k)).length ≤ 3 * sizeL (rs.map Prod.fst) := by
  have h1 := cvarsL_len ((rs.map Prod.fst).take k)
  have h2 := sizeL_take_le (rs.map Prod.fst) k
  omega
theorem mem_cvarsL {l : List CT} {x : Int} : x ∈ cvarsL l ↔ ∃ c ∈ l, x ∈ cvars c := by
  induction l with
  | nil => simp [cvarsL]
  | cons c t ih => simp [cvarsL, ih]

/-! ### the document's: does a variable stand in it? -/
mutual
def has : CT → Nat → Bool
  | .mk h l, v => (decide (h.k < 3) && ownTo h.v0 h.n0 h.v1 h.n1 h.v2 h.n2 v 3) || hasL l v
def hasL : List CT → Nat → Bool
  | [], _ => false
  | c :: t, v => has c v || hasL t v
end
theorem has_eq (c : CT) (v : Nat) : has c v = ((decide (c.h.k < 3) && ownTo c.h.v0 c.h.n0 c.h.v1 c.h.n1 c.h.v2 c.h.n2 v 3) || hasL c.subs v) := by cases c; rw [has]; rfl
theorem hasL_yes {c : CT} {t : List CT} {v : Nat} (h : has c v = true) : hasL (c :: t) v = true := by rw [hasL, h]; rfl
theorem hasL_no {c : CT} {t : List CT} {v : Nat} (h : has c v = false) : hasL (c :: t) v = hasL t v := by rw [hasL, h]; rfl

/-- What is right has kinds and terms that may be. -/
theorem check_right {h : Hd} {l : List CT} {d : Int} (hc : check (.mk h l) d = 0) : (h.k = 3 ∧ checkL l (max d 1 + 1) = 0) ∨ ((h.k = 1 ∨ h.k = 2) ∧ headOk h = true ∧ l = []) := by
  rw [check] at hc
  by_cases c1 : 3 < max d 1
  · rw [if_pos c1] at hc; omega
  rw [if_neg c1] at hc
  by_cases c2 : h.k = 3
  · rw [if_pos c2] at hc
    by_cases c3 : headNone h = false
    · rw [if_pos c3] at hc; omega
    rw [if_neg c3] at hc
    by_cases c4 : l.length = 0
    · rw [if_pos c4] at hc; omega
    rw [if_neg c4] at hc
    exact .inl ⟨c2, hc⟩
  · rw [if_neg c2] at hc
    by_cases c3 : h.k ≠ 1 ∧ h.k ≠ 2
    · rw [if_pos c3] at hc; omega
    rw [if_neg c3] at hc
    by_cases c4 : headOk h = false ∨ 0 < l.length
    · rw [if_pos c4] at hc; omega
    refine .inr ⟨by omega, ?_, List.eq_nil_of_length_eq_zero (by omega)⟩
    cases e : headOk h with
    | true => rfl
    | false => exact absurd (.inl e) c4
theorem checkL_right {c : CT} {t : List CT} {d : Int} (h : checkL (c :: t) d = 0) : check c d = 0 ∧ checkL t d = 0 := by
  rw [checkL] at h
  split at h
  · rename_i h1; exact ⟨h1, h⟩
  · rename_i h1; exact absurd h h1
mutual
theorem has_mem : ∀ (c : CT) (d : Int) (v : Nat), check c d = 0 → (((v : Int) ∈ cvars c ↔ has c v = true) ∧ ∀ x ∈ cvars c, 1 ≤ x ∧ x ≤ 32)
  | .mk h l, d, v, hc => by
    rw [cvars, has]
    rcases check_right hc with ⟨hk, hl⟩ | ⟨hk, ho, rfl⟩
    · obtain ⟨h1, h2⟩ := hasL_mem l (max d 1 + 1) v hl
      have e : own h = [] := by rw [own, if_pos hk]
      rw [e, List.nil_append]
      refine ⟨?_, fun x hx => h2 x (Set.mem_once.1 hx)⟩
      rw [Set.mem_once, h1]
      simp [hk]
    · have e : own h = vars h.v0 h.n0 h.v1 h.n1 h.v2 h.n2 := by rw [own, if_neg (by omega)]
      rw [e]
      simp only [cvarsL, hasL, List.append_nil, Bool.or_false]
      have hf : fine h.v0 h.n0 h.v1 h.n1 h.v2 h.n2 = true := ho
      refine ⟨?_, fun x hx => vars_mem hf (Set.mem_once.1 hx)⟩
      rw [Set.mem_once, own_mem]
      simp [show h.k < 3 by omega]
theorem hasL_mem : ∀ (l : List CT) (d : Int) (v : Nat), checkL l d = 0 → (((v : Int) ∈ cvarsL l ↔ hasL l v = true) ∧ ∀ x ∈ cvarsL l, 1 ≤ x ∧ x ≤ 32)
  | [], _, _, _ => by simp [cvarsL, hasL]
  | c :: t, d, v, hc => by
    obtain ⟨a, b⟩ := checkL_right hc
    obtain ⟨h1, h2⟩ := has_mem c d v a
    obtain ⟨h3, h4⟩ := hasL_mem t d v b
    rw [cvarsL, hasL, List.mem_append, h1, h3]
    refine ⟨by simp, fun x hx => ?_⟩
    rcases List.mem_append.1 hx with hx | hx
    · exact h2 x hx
    · exact h4 x hx
end
theorem cvars_rises (c : CT) : (cvars c).Pairwise (· < ·) := by rw [cvars_eq]; exact Set.once_rises _
theorem cv_start {c : CT} {d : Int} (hc : check c d = 0) : ((Set.below (cvars c) ((1 : Nat) : Int) : Nat) : Int) = 0 := by
  have h := Set.below_none (U := cvars c) (n := ((1 : Nat) : Int)) (fun x hx => ((has_mem c d 0 hc).2 x hx).1)
  rw [h]; rfl
theorem cv_end {c : CT} {d : Int} (hc : check c d = 0) {n : Nat} (hn : 33 ≤ n) : Set.below (cvars c) (n : Int) = (cvars c).length :=
  Set.below_all fun x hx => by have := ((has_mem c d 0 hc).2 x hx).2; omega
theorem cv_yes {c : CT} {d : Int} (hc : check c d = 0) {n : Nat} (h : has c n = true) : ((Set.below (cvars c) (n : Int) : Nat) : Int) + 1 = ((Set.below (cvars c) ((n + 1 : Nat) : Int) : Nat) : Int) := by
  have e : ((n + 1 : Nat) : Int) = (n : Int) + 1 := by omega
  have h2 := Set.below_next (U := cvars c) (n := (n : Int)) (cvars_rises c)
  rw [if_pos ((has_mem c d n hc).1.2 h)] at h2
  rw [e, h2]; omega
theorem cv_no {c : CT} {d : Int} (hc : check c d = 0) {n : Nat} (h : has c n = false) : ((Set.below (cvars c) (n : Int) : Nat) : Int) = ((Set.below (cvars c) ((n + 1 : Nat) : Int) : Nat) : Int) := by
  have e : ((n + 1 : Nat) : Int) = (n : Int) + 1 := by omega
  have hn : ¬ (n : Int) ∈ cvars c := fun hm => by rw [(has_mem c d n hc).1.1 hm] at h; cases h
  have h2 := Set.below_next (U := cvars c) (n := (n : Int)) (cvars_rises c)
  rw [if_neg hn] at h2
  rw [e, h2]; omega
theorem cv_at {c : CT} {d : Int} (hc : check c d = 0) {n : Nat} (h : has c n = true) : Set.below (cvars c) (n : Int) < (cvars c).length ∧ (cvars c).getD (Set.below (cvars c) (n : Int)) 0 = n :=
  Set.below_get (cvars_rises c) ((has_mem c d n hc).1.2 h)
theorem own_yes {h : Hd} {v : Nat} (e : h.k < 3 ∧ ((vi h.v0 = 1 ∧ h.n0 = (v : Int)) ∨ (vi h.v1 = 1 ∧ h.n1 = (v : Int)) ∨ (vi h.v2 = 1 ∧ h.n2 = (v : Int)))) : (decide (h.k < 3) && ownTo h.v0 h.n0 h.v1 h.n1 h.v2 h.n2 v 3) = true := by
  rw [decide_eq_true e.1, Bool.true_and]
  simp only [ownTo, owns]
  rcases e.2 with ⟨a, b⟩ | ⟨a, b⟩ | ⟨a, b⟩
  · have : h.v0 = true := by cases e : h.v0 <;> simp_all [vi]
    simp [this, b]
  · have : h.v1 = true := by cases e : h.v1 <;> simp_all [vi]
    simp [this, b]
  · have : h.v2 = true := by cases e : h.v2 <;> simp_all [vi]
    simp [this, b]
theorem own_no {h : Hd} {v : Nat} (e : ¬ (h.k < 3 ∧ vi h.v0 = 1 ∧ h.n0 = (v : Int)) ∧ ¬ (h.k < 3 ∧ vi h.v1 = 1 ∧ h.n1 = (v : Int)) ∧ ¬ (h.k < 3 ∧ vi h.v2 = 1 ∧ h.n2 = (v : Int))) : (decide (h.k < 3) && ownTo h.v0 h.n0 h.v1 h.n1 h.v2 h.n2 v 3) = false := by
  rw [← Bool.not_eq_true]
  intro hx
  simp only [ownTo, owns, Bool.and_eq_true, Bool.or_eq_true, decide_eq_true_eq] at hx
  obtain ⟨hk, (⟨a, b⟩ | ⟨a, b⟩) | ⟨a, b⟩⟩ := hx
  · exact e.1 ⟨hk, by simp [vi, a], b⟩
  · exact e.2.1 ⟨hk, by simp [vi, a], b⟩
  · exact e.2.2 ⟨hk, by simp [vi, a], b⟩
end Go.Gx.T4

/- Plain laws of steps: trees with tests; what conditions are compiled to; no program in sight. -/
namespace Go.Gx.T8
open Go.Gx Go.Gx.T3 Go.Gx.T4

abbrev TD := Int × Int × Int
def tC (t : TD) : List Value := [.int .i64 t.1, .int .i64 t.2.1, .int .i64 t.2.2]
abbrev t0 : TD := (0, 0, 0)
/-- A step but for what stands below it. -/
structure SH where
  k : Int
  k0 : Int
  k1 : Int
  k2 : Int
  ts : List TD
inductive ST where
  | mk (h : SH) (subs : List ST)
def ST.h : ST → SH | .mk h _ => h
def ST.subs : ST → List ST | .mk _ l => l
abbrev SVal := ST × Value × Value
abbrev s0 : SVal := (.mk ⟨0, 0, 0, 0, []⟩ [], .slice none 0 0, .slice none 0 0)
def sC (p : SVal) : List Value := [.int .i64 p.1.h.k, .int .i64 p.1.h.k0, .int .i64 p.1.h.k1, .int .i64 p.1.h.k2, p.2.1, p.2.2]
/-- The value v is a slice of steps. -/
inductive Ss (G : Ghost) : Value → List ST → Prop
  | mk {v : Value} (rs : List SVal) (h : SlL G v 6 sC s0 rs) (ht : ∀ p ∈ rs, SlL G p.2.1 3 tC t0 p.1.h.ts) (hs : ∀ p ∈ rs, Ss G p.2.2 p.1.subs) : Ss G v (rs.map Prod.fst)
theorem Ss.inv {G : Ghost} {v : Value} {l : List ST} (h : Ss G v l) : ∃ rs : List SVal, SlL G v 6 sC s0 rs ∧ (∀ p ∈ rs, SlL G p.2.1 3 tC t0 p.1.h.ts) ∧ (∀ p ∈ rs, Ss G p.2.2 p.1.subs) ∧ l = rs.map Prod.fst := by
  cases h with
  | mk rs h ht hs => exact ⟨rs, h, ht, hs, rfl⟩
theorem Ss.mono {G G' : Ghost} {v : Value} {l : List ST} (h : Ss G v l) (hle : GLe G G') : Ss G' v l := by
  induction h with
  | mk rs h ht _ ih => exact .mk rs (h.mono hle) (fun p hp => (ht p hp).mono hle) ih
theorem Ss.one {G : Ghost} {v : Value} {l : List ST} (h : Ss G v l) : v.oneCell' = true := by
  cases h with
  | mk rs h _ _ => exact h.one
theorem Ss.nil {G : Ghost} : Ss G (.slice none 0 0) [] := Ss.mk [] (SlG.nil _ _ _) (by simp) (by simp)

/-- A part of a slice of trees, from its beginning on. -/
theorem Tr.take {α : Type} {subs : α → List α} {cf : α × Value → List Value} {sz k : Nat} {d : α × Value} {G : Ghost} {v : Value} {rs : List (α × Value)} (hk : k ≤ rs.length) (h : SlG G v k sz (fun i => at_ (cf (rs.getD i d)))) (hs : ∀ p ∈ rs, Tr subs cf sz d G p.2 (subs p.1)) : SlL G v sz cf d (rs.take k) ∧ Tr subs cf sz d G v ((rs.take k).map Prod.fst) := by
  have h1 : SlL G v sz cf d (rs.take k) := by
    unfold SlL
    rw [List.length_take, Nat.min_eq_left hk]
    refine h.congr fun i hi j _ => ?_
    simp [List.getD, List.getElem?_take, hi]
  exact ⟨h1, Tr.mk _ h1 fun p hp => hs p (List.mem_of_mem_take hp)⟩

theorem rv_ones {G : Ghost} {rs : List (CT × Value)} (hp : ∀ p ∈ rs, Rs G p.2 p.1.subs) : ∀ i, i < rs.length → ∀ j, j < 8 → (at_ (rvC (rs.getD i d0)) j).oneCell' = true := by
  intro i hi j hj
  have h := (hp _ (getD_mem (d := d0) hi)).one
  match j, hj with
  | 0, _ => rfl
  | 1, _ => rfl
  | 2, _ => rfl
  | 3, _ => rfl
  | 4, _ => rfl
  | 5, _ => rfl
  | 6, _ => rfl
  | 7, _ => exact h

/-! ### where a variable is bound -/
def firstF (h : Hd) (v : Int) : Option Int :=
  if h.v0 = true ∧ h.n0 = v then some 0 else if h.v1 = true ∧ h.n1 = v then some 1 else if h.v2 = true ∧ h.n2 = v then some 2 else none
def bound (v : Int) : List CT → Int → Option (Int × Int)
  | [], _ => none
  | c :: t, b => if c.h.k = 1 then (match firstF c.h v with | some f => some (b, f) | none => bound v t (b + 1)) else bound v t b
theorem bound_skip {v b : Int} {c : CT} {t : List CT} (h : c.h.k ≠ 1) : bound v (c :: t) b = bound v t b := by rw [bound, if_neg h]
theorem bound_next {v b : Int} {c : CT} {t : List CT} (h : c.h.k = 1) (hf : firstF c.h v = none) : bound v (c :: t) b = bound v t (b + 1) := by rw [bound, if_pos h, hf]
theorem bound_here {v b f : Int} {c : CT} {t : List CT} (h : c.h.k = 1) (hf : firstF c.h v = some f) : bound v (c :: t) b = some (b, f) := by rw [bound, if_pos h, hf]
theorem firstF_at {h : Hd} {v : Int} (f : Int) (e : (f = 0 ∧ vi h.v0 = 1 ∧ h.n0 = v) ∨ (f = 1 ∧ ¬ (vi h.v0 = 1 ∧ h.n0 = v) ∧ vi h.v1 = 1 ∧ h.n1 = v) ∨ (f = 2 ∧ ¬ (vi h.v0 = 1 ∧ h.n0 = v) ∧ ¬ (vi h.v1 = 1 ∧ h.n1 = v) ∧ vi h.v2 = 1 ∧ h.n2 = v)) : firstF h v = some f := by
  have b0 : vi h.v0 = 1 ↔ h.v0 = true := by cases h.v0 <;> simp [vi]
  have b1 : vi h.v1 = 1 ↔ h.v1 = true := by cases h.v1 <;> simp [vi]
  have b2 : vi h.v2 = 1 ↔ h.v2 = true := by cases h.v2 <;> simp [vi]
  rw [b0, b1, b2] at e
  unfold firstF
  rcases e with ⟨rfl, e⟩ | ⟨rfl, e1, e⟩ | ⟨rfl, e1, e2, e⟩
  · rw [if_pos e]
  · rw [if_neg e1, if_pos e]
  · rw [if_neg e1, if_neg e2, if_pos e]
theorem firstF_no {h : Hd} {v : Int} (e : ¬ (vi h.v0 = 1 ∧ h.n0 = v) ∧ ¬ (vi h.v1 = 1 ∧ h.n1 = v) ∧ ¬ (vi h.v2 = 1 ∧ h.n2 = v)) : firstF h v = none := by
  have b0 : vi h.v0 = 1 ↔ h.v0 = true := by cases h.v0 <;> simp [vi]
  have b1 : vi h.v1 = 1 ↔ h.v1 = true := by cases h.v1 <;> simp [vi]
  have b2 : vi h.v2 = 1 ↔ h.v2 = true := by cases h.v2 <;> simp [vi]
  rw [b0, b1, b2] at e
  unfold firstF
  rw [if_neg e.1, if_neg e.2.1, if_neg e.2.2]
theorem firstF_lt {h : Hd} {v f : Int} (e : firstF h v = some f) : 0 ≤ f ∧ f ≤ 2 := by
  unfold firstF at e
  repeat' split at e
  all_goals simp at e
  all_goals omega
theorem bound_lt {v : Int} : ∀ {l : List CT} {b : Int} {x : Int × Int}, bound v l b = some x → (b ≤ x.1 ∧ x.1 < b + l.length) ∧ 0 ≤ x.2 ∧ x.2 ≤ 2
  | [], _, _, h => by simp [bound] at h
  | c :: t, b, x, h => by
    rw [bound] at h
    split at h
    · split at h
      · rename_i f hf
        simp at h; subst h
        have := firstF_lt hf
        simp; omega
      · have := bound_lt h; simp; omega
    · have := bound_lt h; simp; omega

/-! ### steps -/
def vF (h : Hd) : Nat → Bool | 0 => h.v0 | 1 => h.v1 | _ => h.v2
def nF (h : Hd) : Nat → Int | 0 => h.n0 | 1 => h.n1 | _ => h.n2
/-- Is term g what term f is? -/
def sameF (h : Hd) (g f : Nat) : Bool := decide (vF h g = vF h f) && decide (nF h g = nF h f)
/-- The first term ahead of term f, from g on, that is alike. -/
def dupF (h : Hd) (f : Nat) : Option Int := if f ≥ 1 ∧ sameF h 0 f = true then some 0 else if f ≥ 2 ∧ sameF h 1 f = true then some 1 else none
/-- The test of field f. -/
def testF (ch : List CT) (h : Hd) (f : Nat) : List TD :=
  if vF h f = true then (match bound (nF h f) ch 0 with
    | some x => [((f : Int), x.1, x.2)]
    | none => match dupF h f with | some g => [((f : Int), -1, g)] | none => []) else []
def testsTo (ch : List CT) (h : Hd) : Nat → List TD
  | 0 => []
  | f + 1 => testsTo ch h f ++ testF ch h f
theorem testsTo_succ (ch : List CT) (h : Hd) (f : Nat) : testsTo ch h (f + 1) = testsTo ch h f ++ testF ch h f := rfl
def keyTo (h : Hd) (f i : Nat) : Int := if i < f ∧ vF h i = false then nF h i else 0
mutual
def stepOf : List CT → CT → ST
  | ch, .mk h l => if h.k = 3 then .mk ⟨h.k, 0, 0, 0, []⟩ (stepsOf ch l) else .mk ⟨h.k, keyTo h 3 0, keyTo h 3 1, keyTo h 3 2, testsTo ch h 3⟩ []
def stepsOf : List CT → List CT → List ST
  | _, [] => []
  | ch, c :: t => stepOf ch c :: stepsOf (ch ++ [c]) t
end
theorem stepOf_ncc {ch : List CT} {c : CT} (h : c.h.k = 3) : stepOf ch c = .mk ⟨c.h.k, 0, 0, 0, []⟩ (stepsOf ch c.subs) := by
  cases c with | mk hd l => have h' : hd.k = 3 := h; rw [stepOf, if_pos h']; rfl
theorem stepOf_other {ch : List CT} {c : CT} (h : c.h.k ≠ 3) : stepOf ch c = .mk ⟨c.h.k, keyTo c.h 3 0, keyTo c.h 3 1, keyTo c.h 3 2, testsTo ch c.h 3⟩ [] := by
  cases c with | mk hd l => have h' : hd.k ≠ 3 := h; rw [stepOf, if_neg h']; rfl
theorem stepsOf_append (a b : List CT) : ∀ ch, stepsOf ch (a ++ b) = stepsOf ch a ++ stepsOf (ch ++ a) b := by
  induction a with
  | nil => intro ch; simp [stepsOf]
  | cons c t ih => intro ch; simp [stepsOf, ih]
theorem stepsOf_len : ∀ (l ch : List CT), (stepsOf ch l).length = l.length
  | [], _ => by simp [stepsOf]
  | c :: t, ch => by simp [stepsOf, stepsOf_len t]
theorem stepsOf_take {rs : List (CT × Value)} {k : Nat} {ch : List CT} (hk : k < rs.length) : stepsOf ch ((rs.map Prod.fst).take (k + 1)) = stepsOf ch ((rs.map Prod.fst).take k) ++ [stepOf (ch ++ (rs.map Prod.fst).take k) (rs.getD k d0).1] := by
  rw [map_take (d := d0) hk, stepsOf_append]; simp [stepsOf]
theorem testsTo_len (ch : List CT) (h : Hd) : ∀ f, (testsTo ch h f).length ≤ f
  | 0 => Nat.le_refl _
  | f + 1 => by
    have := testsTo_len ch h f
    have h2 : (testF ch h f).length ≤ 1 := by
      unfold testF; repeat' split
      all_goals simp
    rw [testsTo, List.length_append]; omega
theorem same_cs (h : Hd) (g f : Nat) : csEq [.int .i64 (vi (vF h g)), .int .i64 (nF h g)] [.int .i64 (vi (vF h f)), .int .i64 (nF h f)] = sameF h g f := by
  unfold sameF
  cases vF h g <;> cases vF h f <;> simp [csEq, cEq, vi]
theorem vF_no {h : Hd} {f : Nat} (e : vi (vF h f) = 0) : vF h f = false := by cases x : vF h f <;> simp_all [vi]
theorem vF_yes {h : Hd} {f : Nat} (e : ¬ vi (vF h f) = 0) : vF h f = true := by cases x : vF h f <;> simp_all [vi]
theorem T1 {ch : List CT} {h : Hd} {f : Nat} (hv : vF h f = false) : testF ch h f = [] := by unfold testF; rw [if_neg (by rw [hv]; decide)]
theorem T2 {ch : List CT} {h : Hd} {f : Nat} (hv : vF h f = true) (hb : (bound (nF h f) ch 0).isSome = true) : testF ch h f = [((f : Int), ((bound (nF h f) ch 0).getD (0, 0)).1, ((bound (nF h f) ch 0).getD (0, 0)).2)] := by
  unfold testF
  obtain ⟨x, hx⟩ := Option.isSome_iff_exists.1 hb
  rw [if_pos hv, hx]; rfl
theorem T3 {ch : List CT} {h : Hd} {f : Nat} {g : Int} (hv : vF h f = true) (hb : (bound (nF h f) ch 0).isSome = false) (hd : dupF h f = some g) : testF ch h f = [((f : Int), -1, g)] := by
  unfold testF
  have hn : bound (nF h f) ch 0 = none := by
    cases e : bound (nF h f) ch 0 with
    | none => rfl
    | some x => rw [e] at hb; cases hb
  rw [if_pos hv, hn, hd]
theorem T4 {ch : List CT} {h : Hd} {f : Nat} (hv : vF h f = true) (hb : (bound (nF h f) ch 0).isSome = false) (hd : dupF h f = none) : testF ch h f = [] := by
  unfold testF
  have hn : bound (nF h f) ch 0 = none := by
    cases e : bound (nF h f) ch 0 with
    | none => rfl
    | some x => rw [e] at hb; cases hb
  rw [if_pos hv, hn, hd]
theorem dup0 (h : Hd) : dupF h 0 = none := by simp [dupF]
theorem dup1_yes {h : Hd} (s : sameF h 0 1 = true) : dupF h 1 = some 0 := by simp [dupF, s]
theorem dup1_no {h : Hd} (s : sameF h 0 1 = false) : dupF h 1 = none := by simp [dupF, s]
theorem dup2_0 {h : Hd} (s : sameF h 0 2 = true) : dupF h 2 = some 0 := by simp [dupF, s]
theorem dup2_1 {h : Hd} (s : sameF h 0 2 = false) (s' : sameF h 1 2 = true) : dupF h 2 = some 1 := by simp [dupF, s, s']
theorem dup2_no {h : Hd} (s : sameF h 0 2 = false) (s' : sameF h 1 2 = false) : dupF h 2 = none := by simp [dupF, s, s']
theorem key_set {h : Hd} {f : Nat} (hv : vF h f = false) : keyTo h (f + 1) f = nF h f := by unfold keyTo; rw [if_pos ⟨by omega, hv⟩]
theorem key_not {h : Hd} {f : Nat} (hv : vF h f = true) : keyTo h (f + 1) f = 0 := by unfold keyTo; rw [if_neg (by simp [hv])]
theorem key_else {h : Hd} {f i : Nat} (hi : i ≠ f) : keyTo h (f + 1) i = keyTo h f i := by
  unfold keyTo
  by_cases e : i < f
  · have e2 : i < f + 1 := by omega
    simp [e, e2]
  · have e2 : ¬ i < f + 1 := by omega
    simp [e, e2]

/-! ### right conditions, and few -/
def fineL (l : List CT) : Bool := (small 18 (.mk h0 l) 5 0).1 && ((l.all fun c => decide (check c 1 = 0)) && decide (sizeL l ≤ 16))
theorem fineL_small {l : List CT} (h : (small 18 (.mk h0 l) 5 0).1 = false) : fineL l = false := by rw [fineL, h]; rfl
theorem fineL_bad {l : List CT} {c : CT} (hc : c ∈ l) (h : check c 1 ≠ 0) : fineL l = false := by
  rw [← Bool.not_eq_true]
  intro e
  simp only [fineL, Bool.and_eq_true, List.all_eq_true, decide_eq_true_eq] at e
  exact h (e.2.1 c hc)
theorem fineL_end {l : List CT} (h : (small 18 (.mk h0 l) 5 0).1 = true) (ha : ∀ c ∈ l, check c 1 = 0) : fineL l = decide (sizeL l ≤ 16) := by
  rw [fineL, h, List.all_eq_true.2 (fun c hc => decide_eq_true (ha c hc))]; rfl
theorem fineL_yes {l : List CT} (h : fineL l = true) : (∀ c ∈ l, check c 1 = 0) ∧ sizeL l ≤ 16 := by
  simp only [fineL, Bool.and_eq_true, List.all_eq_true, decide_eq_true_eq] at h
  exact ⟨h.2.1, h.2.2⟩
theorem fine_size {l : List CT} (h : (small 18 (.mk h0 l) 5 0).1 = true) : sizeL l ≤ 1000 := by
  have := small_le (m := 18) h
  rw [size_eq] at this
  have e : (CT.mk h0 l).subs = l := rfl
  rw [e] at this; omega
end Go.Gx.T8
namespace Go.Gx.T8
open Go.Gx Go.Gx.T3 Go.Gx.T4
theorem Tr.take2 {α : Type} {subs : α → List α} {cf : α × Value → List Value} {sz k : Nat} {d : α × Value} {G : Ghost} {v : Value} {rs : List (α × Value)} (hk : k ≤ rs.length) (h : SlG G v k sz (fun i => at_ (cf (rs.getD i d)))) (hs : ∀ p ∈ rs, Tr subs cf sz d G p.2 (subs p.1)) : Tr subs cf sz d G v ((rs.map Prod.fst).take k) := by
  rw [← List.map_take]; exact (Tr.take hk h hs).2
theorem Ss.len {G : Ghost} {v : Value} {l : List ST} (h : Ss G v l) : ∃ a cap, v = .slice a l.length cap := by
  cases h with
  | mk rs h _ _ => obtain ⟨a, c, e⟩ := SlG.len h; exact ⟨a, c, by simpa using e⟩
mutual
/-- How many steps and tests there are. -/
def ssz : ST → Nat
  | .mk h l => 1 + h.ts.length + sszL l
def sszL : List ST → Nat
  | [] => 0
  | s :: t => ssz s + sszL t
end
theorem ssz_eq (s : ST) : ssz s = 1 + s.h.ts.length + sszL s.subs := by cases s; rw [ssz]; rfl
theorem sszL_len : ∀ l : List ST, l.length ≤ sszL l
  | [] => Nat.le_refl _
  | s :: t => by have := sszL_len t; have := ssz_eq s; rw [sszL]; simp; omega
theorem sszL_mem : ∀ {l : List ST} {x : ST}, x ∈ l → ssz x ≤ sszL l
  | c :: t, x, h => by
    rw [sszL]
    rcases List.mem_cons.1 h with rfl | h
    · omega
    · have := sszL_mem h; omega
theorem sv_mem {rs : List SVal} {k : Nat} (hk : k < rs.length) : (rs.getD k s0).1 ∈ rs.map Prod.fst := List.mem_map.2 ⟨_, getD_mem hk, rfl⟩
theorem sv_take {rs : List SVal} {k : Nat} (hk : k < rs.length) : (rs.map Prod.fst).take (k + 1) = (rs.map Prod.fst).take k ++ [(rs.getD k s0).1] := by
  rw [List.take_succ_eq_append_getElem (by simpa using hk)]
  simp [List.getD, List.getElem?_eq_getElem hk]
theorem sv_at {l : List ST} {rs : List SVal} {k n : Nat} (hl : l = rs.map Prod.fst) (hk : k < rs.length) (hz : SizeOf.sizeOf l ≤ n + 1) : SizeOf.sizeOf (rs.getD k s0).1.subs ≤ n := by
  have h1 : (rs.getD k s0).1 ∈ l := by rw [hl]; exact sv_mem hk
  have h2 := List.sizeOf_lt_of_mem h1
  have h3 : SizeOf.sizeOf (rs.getD k s0).1.subs < SizeOf.sizeOf (rs.getD k s0).1 := by
    cases (rs.getD k s0).1 with
    | mk h l => simp [ST.subs]; omega
  omega
theorem ts_next {ts : List TD} {j : Nat} (hj : j < ts.length) : ts.take (j + 1) = ts.take j ++ [ts.getD j t0] := by
  rw [List.take_succ_eq_append_getElem hj]; simp [List.getD, List.getElem?_eq_getElem hj]
mutual
theorem ssz_of : ∀ (c : CT) (ch : List CT), ssz (stepOf ch c) ≤ 4 * size c
  | .mk h l, ch => by
    rw [stepOf, size]
    split
    · have := sszL_of l ch
      rw [ssz]; simp; omega
    · have := testsTo_len ch h 3
      rw [ssz, sszL]; simp; omega
theorem sszL_of : ∀ (l : List CT) (ch : List CT), sszL (stepsOf ch l) ≤ 4 * sizeL l
  | [], _ => by simp [stepsOf, sszL]
  | c :: t, ch => by
    have h1 := ssz_of c ch
    have h2 := sszL_of t (ch ++ [c])
    rw [stepsOf, sszL, sizeL]; omega
end
end Go.Gx.T8

/- Plain laws of chains of conditions; no program in sight. -/
namespace Go.Gx
theorem RowAt.congr {G : Ghost} {b o n : Nat} {f g : Nat → Value} (h : RowAt G b o n f) (e : ∀ i, i < n → f i = g i) : RowAt G b o n g := by
  obtain ⟨c, T, fr, h1, h2⟩ := h
  exact ⟨c, T, fr, h1, fun j hj => by rw [h2 j hj, e j hj]⟩
end Go.Gx
namespace Go.Gx.T6
open Go.Gx Go.Gx.T3 Go.Gx.T4 Go.Gx.T8

theorem cv_ones {G : Ghost} {rs : List (CT × Value)} (hp : ∀ p ∈ rs, Cs G p.2 p.1.subs) : ∀ i, i < rs.length → ∀ j, j < 8 → (at_ (cvC (rs.getD i d0)) j).oneCell' = true := by
  intro i hi j hj
  have h := (hp _ (getD_mem (d := d0) hi)).one
  match j, hj with
  | 0, _ => rfl
  | 1, _ => rfl
  | 2, _ => rfl
  | 3, _ => rfl
  | 4, _ => rfl
  | 5, _ => rfl
  | 6, _ => rfl
  | 7, _ => exact h
theorem nil_rs {α : Type} {G : Ghost} {n c : Nat} {sz : Nat} {cells : α → List Value} {e : α} {rs : List α} (h : SlL G (.slice none n c) sz cells e rs) : rs = [] := by
  obtain ⟨a, cap, e1, _, h2⟩ := h
  simp only [Value.slice.injEq] at e1
  obtain ⟨rfl, _⟩ := e1
  rcases rs with _ | ⟨x, t⟩
  · rfl
  · obtain ⟨_, _, e3, _⟩ := h2 (by simp)
    cases e3

theorem Tr.slg {α : Type} {subs : α → List α} {cf : α × Value → List Value} {sz : Nat} {d : α × Value} {G : Ghost} {v : Value} {l : List α} (h : Tr subs cf sz d G v l) : ∃ f, SlG G v l.length sz f := by
  obtain ⟨rs, hr, _, rfl⟩ := h.inv
  exact ⟨_, by rw [List.length_map]; exact hr⟩

mutual
/-- The chains of what stands in a condition, and its own. -/
def chain1 : List CT → CT → List (List CT)
  | ah, .mk h l => (if h.k = 3 then chains ah l else []) ++ [ah ++ [.mk h l]]
/-- The chains of conditions behind a beginning. -/
def chains : List CT → List CT → List (List CT)
  | _, [] => []
  | ah, c :: t => chain1 ah c ++ chains (ah ++ [c]) t
end
theorem chain1_ncc {ah : List CT} {c : CT} (h : c.h.k = 3) : chain1 ah c = chains ah c.subs ++ [ah ++ [c]] := by
  cases c with | mk hd l => have h' : hd.k = 3 := h; rw [chain1, if_pos h']; rfl
theorem chain1_other {ah : List CT} {c : CT} (h : c.h.k ≠ 3) : chain1 ah c = [ah ++ [c]] := by
  cases c with | mk hd l => have h' : hd.k ≠ 3 := h; rw [chain1, if_neg h']; rfl
theorem chains_append (a b : List CT) : ∀ ah, chains ah (a ++ b) = chains ah a ++ chains (ah ++ a) b := by
  induction a with
  | nil => intro ah; simp [chains]
  | cons c t ih => intro ah; simp [chains, ih]
theorem chains_take {rs : List (CT × Value)} {k : Nat} {ah : List CT} (hk : k < rs.length) : chains ah ((rs.map Prod.fst).take (k + 1)) = chains ah ((rs.map Prod.fst).take k) ++ chain1 (ah ++ (rs.map Prod.fst).take k) (rs.getD k d0).1 := by
  rw [map_take (d := d0) hk, chains_append]; simp [chains]
mutual
theorem chain1_len : ∀ (c : CT) (ah : List CT), (chain1 ah c).length ≤ size c
  | .mk h l, ah => by
    have := chains_len l ah
    rw [chain1, size]
    split <;> simp <;> omega
theorem chains_len : ∀ (l : List CT) (ah : List CT), (chains ah l).length ≤ sizeL l
  | [], _ => by simp [chains, sizeL]
  | c :: t, ah => by
    have h1 := chain1_len c ah
    have h2 := chains_len t (ah ++ [c])
    rw [chains, sizeL, List.length_append]; omega
end
/-- A part of them, and what is behind. -/
theorem chains_take_le (ah : List CT) (rs : List (CT × Value)) (k : Nat) : (chains ah ((rs.map Prod.fst).take k)).length ≤ sizeL ((rs.map Prod.fst).take k) := chains_len _ _

theorem sub_size {rs : List (CT × Value)} {k : Nat} (hk : k < rs.length) : SizeOf.sizeOf (rs.getD k d0).1.subs < SizeOf.sizeOf (rs.map Prod.fst) := by
  have h1 : (rs.getD k d0).1 ∈ rs.map Prod.fst := List.mem_map.2 ⟨_, getD_mem hk, rfl⟩
  have h2 := List.sizeOf_lt_of_mem h1
  have h3 := size_subs (rs.getD k d0).1
  omega
/-- What is known of the chains that were found: each is a slice of conditions. -/
abbrev ChC (G : Ghost) (z : List (List CT × Value)) : Prop := ∀ q ∈ z, Cs G q.2 q.1
theorem ChC.mono {G G' : Ghost} {z : List (List CT × Value)} (h : ChC G z) (hle : GLe G G') : ChC G' z := fun q hq => (h q hq).mono hle
theorem ChC.snoc {G : Ghost} {z : List (List CT × Value)} {v : Value} {l : List CT} (h : ChC G z) (hl : Cs G v l) : ChC G (z ++ [(l, v)]) := fun q hq => by
  rcases List.mem_append.1 hq with h1 | h1
  · exact h q h1
  · rw [List.mem_singleton.1 h1]; exact hl

/-! ### alike -/
def hEq (a b : Hd) : Bool := decide (a.k = b.k) && csEq [.bool a.v0, .int .i64 a.n0, .bool a.v1, .int .i64 a.n1, .bool a.v2, .int .i64 a.n2] [.bool b.v0, .int .i64 b.n0, .bool b.v1, .int .i64 b.n1, .bool b.v2, .int .i64 b.n2]
theorem hEq_r (a b : Hd) : csEq [.int .i64 (vi a.v0), .int .i64 a.n0, .int .i64 (vi a.v1), .int .i64 a.n1, .int .i64 (vi a.v2), .int .i64 a.n2] [.int .i64 (vi b.v0), .int .i64 b.n0, .int .i64 (vi b.v1), .int .i64 b.n1, .int .i64 (vi b.v2), .int .i64 b.n2] = csEq [.bool a.v0, .int .i64 a.n0, .bool a.v1, .int .i64 a.n1, .bool a.v2, .int .i64 a.n2] [.bool b.v0, .int .i64 b.n0, .bool b.v1, .int .i64 b.n1, .bool b.v2, .int .i64 b.n2] := by
  cases a.v0 <;> cases a.v1 <;> cases a.v2 <;> cases b.v0 <;> cases b.v1 <;> cases b.v2 <;> simp [csEq, cEq, vi]
def hRb (a b : Hd) : Bool := csEq [.int .i64 (vi a.v0), .int .i64 a.n0, .int .i64 (vi a.v1), .int .i64 a.n1, .int .i64 (vi a.v2), .int .i64 a.n2] [.int .i64 (vi b.v0), .int .i64 b.n0, .int .i64 (vi b.v1), .int .i64 b.n1, .int .i64 (vi b.v2), .int .i64 b.n2]
theorem hEq_rb (a b : Hd) : hEq a b = (decide (a.k = b.k) && hRb a b) := by unfold hEq hRb; rw [hEq_r]
theorem hEq_iff (a b : Hd) : hEq a b = true ↔ a = b := by
  obtain ⟨a0, a1, a2, a3, a4, a5, a6⟩ := a
  obtain ⟨b0, b1, b2, b3, b4, b5, b6⟩ := b
  simp [hEq, csEq, cEq]
mutual
def ceq : CT → CT → Bool
  | .mk h l, .mk h' l' => hEq h h' && ceqL l l'
def ceqL : List CT → List CT → Bool
  | [], [] => true
  | c :: t, c' :: t' => ceq c c' && ceqL t t'
  | _, _ => false
end
theorem ceq_eq (a b : CT) : ceq a b = (hEq a.h b.h && ceqL a.subs b.subs) := by cases a; cases b; rw [ceq]; rfl
theorem ceqL_len : ∀ {l l' : List CT}, l.length ≠ l'.length → ceqL l l' = false
  | [], [], h => absurd rfl h
  | [], _ :: _, _ => by simp [ceqL]
  | _ :: _, [], _ => by simp [ceqL]
  | c :: t, c' :: t', h => by rw [ceqL, ceqL_len (by simpa using h), Bool.and_false]
theorem ceq_no {c c2 : CT} (h : (¬ c.h.k = c2.h.k ∨ hRb c.h c2.h = false) ∨ ¬ c.subs.length = c2.subs.length) : ceq c c2 = false := by
  rw [ceq_eq, hEq_rb]
  rcases h with (h | h) | h
  · rw [decide_eq_false h]; rfl
  · rw [h, Bool.and_false]; rfl
  · rw [ceqL_len h, Bool.and_false]
theorem ceq_sub {c c2 : CT} (h : c.h.k = c2.h.k ∧ hRb c.h c2.h = true) : ceq c c2 = ceqL c.subs c2.subs := by
  rw [ceq_eq, hEq_rb, decide_eq_true h.1, h.2]; rfl
theorem ceqL_no {rs rs2 : List (CT × Value)} {k : Nat} (h1 : k < rs.length) (h2 : k < rs2.length) (h : ceq (rs.getD k d0).1 (rs2.getD k d0).1 = false) : ceqL ((rs.map Prod.fst).drop k) ((rs2.map Prod.fst).drop k) = false := by
  rw [map_drop (d := d0) h1, map_drop (d := d0) h2, ceqL, h, Bool.false_and]
theorem ceqL_yes {rs rs2 : List (CT × Value)} {k : Nat} (h1 : k < rs.length) (h2 : k < rs2.length) (h : ceq (rs.getD k d0).1 (rs2.getD k d0).1 = true) : ceqL ((rs.map Prod.fst).drop (k + 1)) ((rs2.map Prod.fst).drop (k + 1)) = ceqL ((rs.map Prod.fst).drop k) ((rs2.map Prod.fst).drop k) := by
  rw [map_drop (d := d0) h1, map_drop (d := d0) h2, ceqL, h, Bool.true_and]
mutual
theorem ceq_iff : ∀ (a b : CT), ceq a b = true ↔ a = b
  | .mk h l, .mk h' l' => by
    rw [ceq, Bool.and_eq_true, hEq_iff, ceqL_iff l l']
    simp
theorem ceqL_iff : ∀ (l l' : List CT), ceqL l l' = true ↔ l = l'
  | [], [] => by simp [ceqL]
  | [], _ :: _ => by simp [ceqL]
  | _ :: _, [] => by simp [ceqL]
  | c :: t, c' :: t' => by
    rw [ceqL, Bool.and_eq_true, ceq_iff c c', ceqL_iff t t']
    simp
end
/-- The chains that conditions end themselves. -/
def ownC (l : List CT) : List Int := (List.range l.length).map fun i => (sizeL (l.take (i + 1)) : Int) - 1
def ownCTo (l : List CT) (k : Nat) : List Int := (List.range k).map fun i => (sizeL (l.take (i + 1)) : Int) - 1
theorem ownCTo_succ (l : List CT) (k : Nat) : ownCTo l (k + 1) = ownCTo l k ++ [(sizeL (l.take (k + 1)) : Int) - 1] := by simp [ownCTo, List.range_succ]
theorem ownCTo_len (l : List CT) (k : Nat) : (ownCTo l k).length = k := by simp [ownCTo]
theorem rv_one1 {G : Ghost} {z : List (List CT × Value)} (hz : ∀ q ∈ z, Rs G q.2 q.1) : ∀ i, i < z.length → ∀ j, j < 1 → (at_ (lC (z.getD i ([], .slice none 0 0))) j).oneCell' = true := by
  intro i hi j hj
  have h := (hz _ (getD_mem (d := ([], .slice none 0 0)) hi)).one
  match j, hj with
  | 0, _ => exact h
theorem rv_all {G : Ghost} {rs : List (CT × Value)} (hp : ∀ p ∈ rs, Rs G p.2 p.1.subs) : ∀ u ∈ rs.flatMap rvC, u.oneCell' = true := by
  intro u hu
  obtain ⟨p, h1, h2⟩ := List.mem_flatMap.1 hu
  have h3 := (hp p h1).one
  simp only [rvC, List.mem_cons, List.not_mem_nil, or_false] at h2
  rcases h2 with rfl | rfl | rfl | rfl | rfl | rfl | rfl | rfl
  all_goals first | rfl | exact h3
abbrev RhC (G : Ghost) (z : List (List CT × Value)) : Prop := ∀ q ∈ z, Rs G q.2 q.1
theorem RhC.mono {G G' : Ghost} {z : List (List CT × Value)} (h : RhC G z) (hle : GLe G G') : RhC G' z := fun q hq => (h q hq).mono hle
theorem RhC.snoc {G : Ghost} {z : List (List CT × Value)} {v : Value} {l : List CT} (h : RhC G z) (hl : Rs G v l) : RhC G (z ++ [(l, v)]) := fun q hq => by
  rcases List.mem_append.1 hq with h1 | h1
  · exact h q h1
  · rw [List.mem_singleton.1 h1]; exact hl
theorem RhC.app {G : Ghost} {z z' : List (List CT × Value)} (h : RhC G z) (h' : RhC G z') : RhC G (z ++ z') := fun q hq => by
  rcases List.mem_append.1 hq with h1 | h1
  · exact h q h1
  · exact h' q h1
end Go.Gx.T6

/-
  GX: a row of the call's own is sorted by the library with a function of the program's. Generic in the program.
-/
namespace Go.Gx
open Go.RowKit Go.Sort Go.Proofs

section
variable {α : Type} [Inhabited α]

theorem flatK_eq {enc : α → List Value} {kk : Nat} (hk : ∀ x, (enc x).length = kk) (d : Array α) : flatK enc kk d = (d.toList.flatMap enc).toArray := by
  have hlen : (d.toList.flatMap enc).length = d.size * kk := by
    rw [List.length_flatMap]
    have : d.toList.map (fun x => (enc x).length) = List.replicate d.size kk := by
      rw [List.map_congr_left (fun x _ => hk x), List.map_const']; simp
    rw [this]; simp
  refine ext_get! (by simp [hlen]) fun t ht => ?_
  have ht' : t < d.size * kk := by simpa using ht
  have k0 : 0 < kk := by
    rcases Nat.eq_zero_or_pos kk with h | h
    · subst h; simp at ht'
    · exact h
  rw [get_flatK _ _ _ t ht']
  have h1 : t / kk < d.size := Nat.div_lt_of_lt_mul (by rw [Nat.mul_comm]; exact ht')
  have h2 : t % kk < kk := Nat.mod_lt _ k0
  have h3 := flatMap_get (cells := enc) hk default d.toList (t / kk) (t % kk) (by simpa using h1) h2
  rw [show t / kk * kk + t % kk = t by rw [Nat.mul_comm]; exact Nat.div_add_mod t kk] at h3
  have h4 : (d.toList.flatMap enc).toArray[t]! = (d.toList.flatMap enc).getD t undef := by
    have h5 : t < (d.toList.flatMap enc).length := by rw [hlen]; exact ht'
    rw [getElem!_pos _ t (by simpa using h5)]
    simp [List.getD, List.getElem?_eq_getElem h5]
  rw [h4, h3]
  have h6 : d.toList.getD (t / kk) default = d[t / kk]! := by
    simp [List.getD, Array.getElem!_eq_getD, Array.getD, h1]
  rw [h6]
  have h7 : t % kk < (enc d[t / kk]!).length := by rw [hk]; exact h2
  rw [getElem!_pos (enc d[t / kk]!) (t % kk) h7]
  have h8 := at_get (enc d[t / kk]!) (t % kk) h7
  rw [List.getElem?_eq_getElem h7] at h8
  simpa using h8

theorem holdsV {w : World} {g : Nat} {E : TypeId} {cur : Array Value} {vs : List Value} (hg : w.heap[g]? = some (.cells cur E (0, 0))) (ht : cur.toList.take vs.length = vs) : Holds id w g 0 vs.toArray := by
  intro j hj
  have hj' : j < vs.length := by simpa using hj
  have h1 := congrArg (fun l => l[j]?) ht
  simp only [List.getElem?_take, hj', if_true, List.getElem?_eq_getElem hj'] at h1
  constructor
  · rw [cell_of_row w g (0 + j) cur E (0, 0) hg, Nat.zero_add]
    rw [← Array.getElem?_toList, h1]
    simp [hj']
  · simp [World.frozen?, hg]

theorem afterV {w : World} {g cap q n sz : Nat} {E : TypeId} {cur : Array Value} {os : Array Obj} {vs : List Value} (hg : w.heap[g]? = some (.cells cur E (0, 0))) (hl : vs.length = n * sz) (hc : cur.size = cap * sz) (hcm : cap ≤ maxLen) (hn : n ≤ cap) :
    (rowA (.slice (some ⟨g, 0, none⟩) n cap) E sz n vs).holds (grow (putRow id (Sort.ahead w q) g 0 vs.toArray) os) (fun b => b = g) := by
  have hg' : (Sort.ahead w q).heap[g]? = some (.cells cur E (0, 0)) := hg
  have h1 := putRow_heap (enc := id) (n := 0) (d := vs.toArray) hg'
  have hlt : g < (putRow id (Sort.ahead w q) g 0 vs.toArray).heap.size := lt_of_heap h1
  have hle : vs.length ≤ cur.size := by rw [hl, hc]; exact Nat.mul_le_mul_right sz hn
  refine ⟨⟨hl, .inr ⟨g, cap, putCells id 0 vs.toArray cur, rfl, Nat.zero_le _, ?_, hn, hcm, ?_, ?_⟩⟩, fun b => ⟨fun h => by subst h; rfl, fun h => by simp [Value.ownBlock] at h; exact h.symm⟩, Nat.le_trans hn hcm⟩
  · show ((putRow id (Sort.ahead w q) g 0 vs.toArray).heap ++ os)[g]? = _
    rw [Array.getElem?_append_left hlt]; exact h1
  · simp [putCells, hc]
  · rw [← hl, putCells_take (by simp) (by simpa using hle)]; simp

theorem since_sortV {w : World} {g q : Nat} {os : Array Obj} {vs : Array Value} {F : Nat → Prop} (hF : F g) : Since F w (grow (putRow id (Sort.ahead w q) g 0 vs) os) := by
  have hsz : (putRow id (Sort.ahead w q) g 0 vs).heap.size = w.heap.size := by
    show (w.heap.modify g _).size = _
    simp
  refine ⟨rfl, rfl, rfl, ?_, fun b hb hx => ?_⟩
  · show w.heap.size ≤ (((putRow id (Sort.ahead w q) g 0 vs).heap ++ os)).size
    rw [Array.size_append]; omega
  · have hne : b ≠ g := fun e => hx (e ▸ hF)
    show ((putRow id (Sort.ahead w q) g 0 vs).heap ++ os)[b]? = _
    rw [Array.getElem?_append_left (by omega), putRow_other hne]
    rfl
end

/-- What a call of the library's slices.SortFunc comes to. -/
def SortFC (P : Program) {α : Type} [Inhabited α] (f g : FuncId) (enc : α → List Value) (kk : Nat) (lt : α → α → Bool) : Prop := ∀ (blk cap : Nat) (zs : List α) (w : World), HoldsK enc kk w blk 0 zs.toArray → blk < w.heap.size → zs.length < 4611686018427387904 →
  Calls P f #[.slice (some ⟨blk, 0, none⟩) zs.length cap, .func (.func g) #[] #[]] w fun e w' => e = .returned (.tuple #[]) ∧ ∃ (d' : Array α) (n : Nat) (os : Array Obj), PermIn 0 zs.toArray.size zs.toArray d' ∧ SortedIn lt 0 zs.toArray.size d' ∧ w' = sortWorldK enc kk w blk 0 n d' os
def SortFN (P : Program) (f g : FuncId) : Prop := ∀ (p : Option Addr) (cap : Nat) (w : World), Calls P f #[.slice p 0 cap, .func (.func g) #[] #[]] w fun e w' => e = .returned (.tuple #[]) ∧ w' = w

section
variable {P : Program} {ops : Array Oper} {Q : Exit → Act → World → Prop} {N : Nat} {X : Nat → Prop} {w0 : World} {G : Ghost} {l : List (Nat × Value)} {L : List Asrt}
variable {rest : List Oper} {d k : Nat} {ty : TypeId} {pos : String} {after : Array Edge} {gd : Option (Nat × Bool)} {v : Value} {E : TypeId} {f g : FuncId} {xs : List Operand} {ats : Array TypeId}
variable {α : Type} [Inhabited α] {enc : α → List Value} {kk : Nat} {lt : α → α → Bool} {zs : List α}

theorem r_sortf (hw : Wt ops l gd) (hd : Nat.blt d N = true) (hf : Callable P f) (hv : evs l xs = some [v, .func (.func g) #[] #[]]) (hL : L[k]? = some (rowA v E kk zs.length (zs.flatMap enc))) (hk : ∀ x, (enc x).length = kk) (hs : SortFC P f g enc kk lt) (hn : SortFN P f g) (hlen : zs.length < 4611686018427387904)
    (h : ∀ zs' : List α, zs'.Perm zs → zs'.Pairwise (fun a b => lt b a = false) → Runs P ops Q N X w0 G rest ((d, .tuple #[]) :: l) (L.set k (rowA v E kk zs'.length (zs'.flatMap enc)))) : Runs P ops Q N X w0 G (⟨some d, .call ⟨.value (.func f), xs.toArray, ats⟩, ty, pos, after, gd⟩ :: rest) l L := by
  refine Runs.step hw (fun a w hS => ?_)
  show Oper.upon P _ a _ Q _
  rw [run_call hS.fr hv hf, Oper.upon_enter]
  obtain ⟨F, ⟨⟨hlen1, hown⟩, hF, hmax⟩, _, hput⟩ := hS.mem.take hL
  by_cases hz : zs.length = 0
  · have hz' : zs = [] := List.eq_nil_of_length_eq_zero hz
    subst hz'
    have h' := h [] .nil .nil
    rw [set_same hL] at h'
    have hv2 : ∃ p c, v = .slice p 0 c := by
      rcases hown with ⟨rfl, _⟩ | ⟨g, cap, cur, rfl, _⟩
      · exact ⟨_, _, rfl⟩
      · exact ⟨_, _, rfl⟩
    obtain ⟨p, c, rfl⟩ := hv2
    refine (hn p c w).mono (fun e w' hR => ?_)
    obtain ⟨rfl, rfl⟩ := hR
    exact h' _ _ ⟨hS.fr.put (by simpa using hd) _, hS.mem⟩
  · rcases hown with ⟨_, h0⟩ | ⟨b, cap, cur, rfl, _, hg, hnc, hcm, hcs, htk⟩
    · exact absurd h0 hz
    · have htk' : cur.toList.take (zs.flatMap enc).length = zs.flatMap enc := by rw [hlen1]; exact htk
      have hH : HoldsK enc kk w b 0 zs.toArray := by
        unfold HoldsK
        rw [flatK_eq hk]
        exact holdsV hg (by simpa using htk')
      refine (hs b cap zs w hH (lt_of_heap hg) hlen).mono (fun e w' hR => ?_)
      obtain ⟨rfl, d', q, os, hp, hsd, rfl⟩ := hR
      have hFg : F b := (hF b).2 rfl
      have hsz' : d'.size = zs.length := by have := hp.1; simpa using this
      have hperm : d'.toList.Perm zs := by
        have h3 := hp.2.2
        have e1 : (d'.extract 0 zs.toArray.size).toList = d'.toList := by
          have e3 : zs.toArray.size = d'.size := by simp [hsz']
          rw [e3]; simp
        have e2 : (zs.toArray.extract 0 zs.toArray.size).toList = zs := by simp
        rw [e1, e2] at h3
        exact h3
      have hsort : d'.toList.Pairwise (fun a b => lt b a = false) := by
        rw [List.pairwise_iff_getElem]
        intro i j hi hj hij
        have h4 := hsd i j (Nat.zero_le _) hij (by simp at hj ⊢; omega)
        have hi' : i < d'.size := by simpa using hi
        have hj' : j < d'.size := by simpa using hj
        rw [getElem!_pos d' i hi', getElem!_pos d' j hj'] at h4
        simpa using h4
      refine h d'.toList hperm hsort _ _ ⟨hS.fr.put (by simpa using hd) _, hput _ _ (fun x => x = b) ?_ ?_ (fun x hx => .inl (hx ▸ hFg))⟩
      · unfold sortWorldK putRowK
        exact since_sortV hFg
      · unfold sortWorldK putRowK
        rw [flatK_eq hk]
        have hl2 : (d'.toList.flatMap enc).length = zs.length * kk := by
          have h5 := congrArg Array.size (flatK_eq hk d')
          rw [size_flatK, hsz'] at h5
          simpa using h5.symm
        have h6 := afterV (q := q) (os := os) (vs := d'.toList.flatMap enc) (n := zs.length) hg hl2 hcs hcm hnc
        rw [show d'.toList.length = zs.length by simpa using hsz']
        exact h6
end
end Go.Gx

/- Plain laws of places where variables are bound; no program in sight. -/
namespace Go.Gx.T6
open Go.Gx Go.Gx.T3 Go.Gx.T4 Go.Gx.T8

/-- The place of the first one, or -1. -/
def idxF {α : Type} (pf : α → Bool) : List α → Int → Int
  | [], _ => -1
  | x :: t, k => if pf x = true then k else idxF pf t (k + 1)
theorem drop_cons {α : Type} {l : List α} {k : Nat} (d : α) (h : k < l.length) : l.drop k = l.getD k d :: l.drop (k + 1) := by
  rw [List.drop_eq_getElem_cons h]; simp [List.getD, List.getElem?_eq_getElem h]
theorem idxF_yes {α : Type} {pf : α → Bool} {l : List α} {k : Nat} {d : α} (h : k < l.length) (hp : pf (l.getD k d) = true) : idxF pf (l.drop k) k = k := by
  rw [drop_cons d h, idxF, if_pos hp]
theorem idxF_no {α : Type} {pf : α → Bool} {l : List α} {k : Nat} {d : α} (h : k < l.length) (hp : pf (l.getD k d) = false) : idxF pf (l.drop k) k = idxF pf (l.drop (k + 1)) ((k + 1 : Nat) : Int) := by
  rw [drop_cons d h, idxF, if_neg (by rw [hp]; decide)]; rfl
theorem idxF_none {α : Type} {pf : α → Bool} : ∀ {l : List α} {k : Int}, (∀ x ∈ l, pf x = false) → idxF pf l k = -1
  | [], _, _ => rfl
  | x :: t, k, h => by rw [idxF, if_neg (by rw [h x (by simp)]; decide)]; exact idxF_none (fun y hy => h y (by simp [hy]))
/-- What is found is one that fits. -/
theorem idxF_some {α : Type} {pf : α → Bool} (d : α) : ∀ {l : List α} {k : Int}, 0 ≤ k → 0 ≤ idxF pf l k → ∃ i : Nat, idxF pf l k = k + i ∧ i < l.length ∧ pf (l.getD i d) = true
  | [], k, _, h => by simp [idxF] at h
  | x :: t, k, hk, h => by
    rw [idxF] at h ⊢
    split
    · rename_i hp
      exact ⟨0, by simp, by simp, by simpa using hp⟩
    · rename_i hp
      rw [if_neg hp] at h
      obtain ⟨i, h1, h2, h3⟩ := idxF_some d (by omega) h
      exact ⟨i + 1, by rw [h1]; omega, by simp; omega, by simpa using h3⟩
theorem idxF_neg {α : Type} {pf : α → Bool} : ∀ {l : List α} {k : Int}, 0 ≤ k → ¬ 0 ≤ idxF pf l k → ∀ x ∈ l, pf x = false
  | [], _, _, _ => by simp
  | x :: t, k, hk, h => by
    rw [idxF] at h
    split at h
    · exact absurd hk h
    · rename_i hp
      intro y hy
      rcases List.mem_cons.1 hy with rfl | hy
      · simpa using hp
      · exact idxF_neg (by omega) h y hy
theorem idxF_any {α : Type} (pf : α → Bool) (l : List α) : decide (0 ≤ idxF pf l 0) = l.any pf := by
  by_cases h : 0 ≤ idxF pf l 0
  · rw [decide_eq_true h]
    rcases l with _ | ⟨x, t⟩
    · simp [idxF] at h
    · obtain ⟨i, _, h2, h3⟩ := idxF_some x (Int.le_refl 0) h
      exact (List.any_eq_true.2 ⟨_, getD_mem h2, h3⟩).symm
  · rw [decide_eq_false h]
    have := idxF_neg (Int.le_refl 0) h
    exact (Bool.eq_false_iff.2 (fun h2 => by obtain ⟨x, hx, hp⟩ := List.any_eq_true.1 h2; rw [this x hx] at hp; cases hp)).symm

/-! ### places -/
abbrev PL := Int × Int × Int
def isV (v : Int) (p : PL) : Bool := decide (p.1 = v)
/-- How many Pos there are. -/
def posN : List CT → Nat
  | [] => 0
  | c :: t => (if c.h.k = 1 then 1 else 0) + posN t
theorem posN_append (a b : List CT) : posN (a ++ b) = posN a + posN b := by
  induction a with
  | nil => simp [posN]
  | cons c t ih => simp only [List.cons_append, posN, ih]; omega
theorem posN_len : ∀ l : List CT, posN l ≤ l.length
  | [] => Nat.le_refl _
  | c :: t => by have := posN_len t; rw [posN]; simp; split <;> omega
def pl1 (h : Hd) (b : Int) (out : List PL) (f : Nat) : List PL := if vF h f = true ∧ ¬ 0 ≤ idxF (isV (nF h f)) out 0 then out ++ [(nF h f, b, (f : Int))] else out
def plTo (h : Hd) (b : Int) (out : List PL) : Nat → List PL
  | 0 => out
  | f + 1 => pl1 h b (plTo h b out f) f
def places : List CT → Int → List PL → List PL
  | [], _, out => out
  | c :: t, b, out => if c.h.k = 1 then places t (b + 1) (plTo c.h b out 3) else places t b out
theorem places_snoc (c : CT) : ∀ (l : List CT) (b : Int) (out : List PL), places (l ++ [c]) b out = if c.h.k = 1 then plTo c.h (b + posN l) (places l b out) 3 else places l b out
  | [], b, out => by simp [places, posN]
  | x :: t, b, out => by
    rw [List.cons_append, places]
    split
    · rename_i hx
      rw [places_snoc c t, places, if_pos hx, posN, if_pos hx]
      congr 2
      omega
    · rename_i hx
      rw [places_snoc c t, places, if_neg hx, posN, if_neg hx, Nat.zero_add]
theorem pl1_len (h : Hd) (b : Int) (out : List PL) (f : Nat) : (pl1 h b out f).length ≤ out.length + 1 := by
  unfold pl1; split <;> simp
theorem plTo_len (h : Hd) (b : Int) (out : List PL) : ∀ f, (plTo h b out f).length ≤ out.length + f
  | 0 => Nat.le_refl _
  | f + 1 => by have := plTo_len h b out f; have := pl1_len h b (plTo h b out f) f; rw [plTo]; omega
theorem places_len : ∀ (l : List CT) (b : Int) (out : List PL), (places l b out).length ≤ out.length + 3 * l.length
  | [], _, _ => by simp [places]
  | c :: t, b, out => by
    rw [places]
    have := plTo_len c.h b out 3
    split
    · have := places_len t (b + 1) (plTo c.h b out 3); simp; omega
    · have := places_len t b out; simp; omega
/-- Whose variables differ. -/
def Once (l : List PL) : Prop := l.Pairwise fun a b => a.1 ≠ b.1
theorem pl1_once {h : Hd} {b : Int} {out : List PL} {f : Nat} (ho : Once out) : Once (pl1 h b out f) := by
  unfold pl1
  split
  · rename_i hx
    have := idxF_neg (Int.le_refl 0) hx.2
    refine List.pairwise_append.2 ⟨ho, by simp, fun a ha c hc => ?_⟩
    rw [List.mem_singleton.1 hc]
    have h2 := this a ha
    simpa [isV] using h2
  · exact ho
theorem plTo_once {h : Hd} {b : Int} {out : List PL} (ho : Once out) : ∀ f, Once (plTo h b out f)
  | 0 => ho
  | f + 1 => pl1_once (plTo_once ho f)
theorem places_once : ∀ (l : List CT) (b : Int) (out : List PL), Once out → Once (places l b out)
  | [], _, _, h => h
  | c :: t, b, out, h => by
    rw [places]; split
    · exact places_once t _ _ (plTo_once h 3)
    · exact places_once t _ _ h

def ltP (a b : PL) : Bool := decide (a.1 < b.1)
end Go.Gx.T6
namespace Go.Gx.T6
open Go.Gx Go.Gx.T3 Go.Gx.T4 Go.Gx.T8
theorem sorted_two {a b : PL} {zs : List PL} (h : zs.Perm [a, b]) (hs : zs.Pairwise (fun x y => ltP y x = false)) (hab : ltP a b = true) : zs = [a, b] := by
  have hl := h.length_eq
  match zs, hl with
  | [x, y], _ =>
    have hx : x ∈ [a, b] := h.subset (by simp)
    rcases List.mem_cons.1 hx with rfl | hx
    · have h2 := (List.perm_cons x).1 h
      have h3 := List.perm_singleton.1 h2
      rw [h3]
    · have hx' := List.mem_singleton.1 hx
      subst hx'
      have h1 : [x, y].Perm [x, a] := h.trans (List.Perm.swap x a [])
      have h2 := (List.perm_cons x).1 h1
      have h3 := List.perm_singleton.1 h2
      simp only [List.cons.injEq, and_true] at h3
      subst h3
      have h4 := (List.pairwise_cons.1 hs).1 y (by simp)
      rw [h4] at hab; cases hab
abbrev A6 (n : Int) : CT := .mk ⟨1, false, n, false, 1, true, n⟩ []
abbrev B6 : CT := .mk ⟨3, false, 0, false, 0, false, 0⟩ [A6 2, A6 3]
abbrev L6 : List CT := [A6 1, B6, A6 4]
theorem L6_places : places L6 0 [] = [(1, 0, 2), (4, 1, 2)] := by decide +kernel
theorem L6_bound {zs : List PL} (h : zs.Perm (places L6 0 [])) (hs : zs.Pairwise (fun x y => ltP y x = false)) : zs = [(1, 0, 2), (4, 1, 2)] := by
  rw [L6_places] at h
  exact sorted_two h hs (by decide)
theorem L6_len : (chains [] L6).length = 5 := by decide +kernel
theorem L6_len2 : ((chains [] L6).getD 2 []).length = 3 := by decide +kernel
theorem L6_own : ownC L6 = [0, 3, 4] := by decide +kernel
theorem mapfst_getD {α : Type} {qs : List (α × Value)} (e : α) (v : Value) (i : Nat) : (qs.map Prod.fst).getD i e = (qs.getD i (e, v)).1 := by
  simp only [List.getD, List.getElem?_map]
  cases qs[i]? <;> rfl
end Go.Gx.T6

/- Plain laws of chains: their sizes, where they stand; no program in sight. -/
namespace Go.Gx.T6
open Go.Gx Go.Gx.T3 Go.Gx.T4 Go.Gx.T8

theorem sizeL_append (a b : List CT) : sizeL (a ++ b) = sizeL a + sizeL b := by
  induction a with
  | nil => simp [sizeL]
  | cons c t ih => simp only [List.cons_append, sizeL, ih]; omega
mutual
theorem chain1_size : ∀ (c : CT) (ah : List CT), ∀ x ∈ chain1 ah c, sizeL x ≤ sizeL ah + size c
  | .mk h l, ah, x, hx => by
    rw [chain1] at hx
    rcases List.mem_append.1 hx with hx | hx
    · split at hx
      · have := chains_size l ah x hx
        rw [size]; omega
      · cases hx
    · rw [List.mem_singleton.1 hx, sizeL_append]
      simp [sizeL]
theorem chains_size : ∀ (l : List CT) (ah : List CT), ∀ x ∈ chains ah l, sizeL x ≤ sizeL ah + sizeL l
  | [], _, x, hx => by rw [chains] at hx; cases hx
  | c :: t, ah, x, hx => by
    rw [chains] at hx
    rcases List.mem_append.1 hx with hx | hx
    · have := chain1_size c ah x hx
      rw [sizeL]; omega
    · have := chains_size t (ah ++ [c]) x hx
      rw [sizeL_append] at this
      simp only [sizeL] at this ⊢
      omega
end
mutual
/-- Only Ncc have conditions in them. -/
def flatOk : CT → Bool
  | .mk h l => (decide (h.k = 3) || l.isEmpty) && flatOkL l
def flatOkL : List CT → Bool
  | [] => true
  | c :: t => flatOk c && flatOkL t
end
mutual
theorem flat_of_check : ∀ (c : CT) (d : Int), check c d = 0 → flatOk c = true
  | .mk h l, d, hc => by
    rw [check] at hc
    rw [flatOk]
    split at hc
    · omega
    · split at hc
      · rename_i h3
        split at hc
        · omega
        · split at hc
          · omega
          · rw [flat_of_checkL l _ hc, decide_eq_true h3]; rfl
      · split at hc
        · omega
        · split at hc
          · omega
          · rename_i _ _ h4
            have : l = [] := by
              rcases l with _ | ⟨a, b⟩
              · rfl
              · exact absurd (.inr (by simp)) h4
            subst this
            simp [flatOkL]
theorem flat_of_checkL : ∀ (l : List CT) (d : Int), checkL l d = 0 → flatOkL l = true
  | [], _, _ => by rw [flatOkL]
  | c :: t, d, hc => by
    rw [checkL] at hc
    split at hc
    · rename_i h
      rw [flatOkL, flat_of_check c d h, flat_of_checkL t d hc]; rfl
    · rename_i h; exact absurd hc h
end
theorem flat_all_of {l : List CT} (h : ∀ c ∈ l, check c 1 = 0) : flatOkL l = true := by
  induction l with
  | nil => rw [flatOkL]
  | cons c t ih => rw [flatOkL, flat_of_check c 1 (h c (by simp)), ih (fun x hx => h x (by simp [hx]))]; rfl
mutual
theorem chain1_eq : ∀ (c : CT) (ah : List CT), flatOk c = true → (chain1 ah c).length = size c
  | .mk h l, ah, hc => by
    rw [flatOk, Bool.and_eq_true] at hc
    rw [chain1, size]
    split
    · rw [List.length_append, chains_eq l ah hc.2]; simp; omega
    · rename_i h3
      have : l = [] := by
        have h4 := hc.1
        rw [decide_eq_false h3, Bool.false_or] at h4
        simpa using h4
      subst this
      simp [sizeL]
theorem chains_eq : ∀ (l : List CT) (ah : List CT), flatOkL l = true → (chains ah l).length = sizeL l
  | [], _, _ => by simp [chains, sizeL]
  | c :: t, ah, h => by
    rw [flatOkL, Bool.and_eq_true] at h
    rw [chains, List.length_append, chain1_eq c ah h.1, chains_eq t _ h.2, sizeL]
end
theorem flatOkL_take : ∀ {l : List CT} (k : Nat), flatOkL l = true → flatOkL (l.take k) = true
  | [], k, h => by simpa using h
  | c :: t, 0, _ => by simp [flatOkL]
  | c :: t, k + 1, h => by
    rw [flatOkL, Bool.and_eq_true] at h
    rw [List.take_succ_cons, flatOkL, h.1, flatOkL_take k h.2]; rfl
theorem take_succ {l : List CT} {k : Nat} (hk : k < l.length) : ∃ c, c ∈ l ∧ l.take (k + 1) = l.take k ++ [c] := ⟨l[k], List.getElem_mem hk, List.take_succ_eq_append_getElem hk⟩
/-- The chain that ends at the condition at k. -/
theorem chains_at {l : List CT} {k : Nat} (h : flatOkL l = true) (hk : k < l.length) : (chains [] l).getD (sizeL (l.take (k + 1)) - 1) [] = l.take (k + 1) ∧ sizeL (l.take (k + 1)) - 1 < (chains [] l).length ∧ 1 ≤ sizeL (l.take (k + 1)) := by
  obtain ⟨c, hc, e⟩ := take_succ hk
  have h1 : chains [] l = chains [] (l.take (k + 1)) ++ chains ([] ++ l.take (k + 1)) (l.drop (k + 1)) := by rw [← chains_append, List.take_append_drop]
  have h2 : chains [] (l.take (k + 1)) = chains [] (l.take k) ++ chain1 ([] ++ l.take k) c := by
    rw [e, chains_append]; simp [chains]
  have h3 : ∃ p, chain1 ([] ++ l.take k) c = p ++ [l.take (k + 1)] := by
    cases c with
    | mk hd sb => exact ⟨if hd.k = 3 then chains (l.take k) sb else [], by rw [chain1, e]; simp⟩
  obtain ⟨p, h3⟩ := h3
  have hlen : (chains [] (l.take (k + 1))).length = sizeL (l.take (k + 1)) := chains_eq _ _ (flatOkL_take _ h)
  have hq : chains [] (l.take (k + 1)) = (chains [] (l.take k) ++ p) ++ [l.take (k + 1)] := by rw [h2, h3, List.append_assoc]
  have hl2 : (chains [] (l.take k) ++ p).length = sizeL (l.take (k + 1)) - 1 := by
    have := congrArg List.length hq
    rw [hlen, List.length_append] at this
    simp at this ⊢
    omega
  refine ⟨?_, ?_, ?_⟩
  · rw [h1, hq, ← hl2]
    simp [List.getD]
  · rw [h1, List.length_append, hq, List.length_append, hl2]; simp; omega
  · have := congrArg List.length hq
    rw [hlen, List.length_append] at this
    simp at this
    omega
theorem own_at {l : List CT} {k : Nat} (hk : k < l.length) (h1 : 1 ≤ sizeL (l.take (k + 1))) : (ownC l).getD k 0 = ((sizeL (l.take (k + 1)) - 1 : Nat) : Int) := by
  unfold ownC
  simp [List.getD, hk]
  omega
theorem ownC_len (l : List CT) : (ownC l).length = l.length := by simp [ownC]

/-! ### each but its last condition stands ahead -/
def Ahead (ah : List CT) (cs : List (List CT)) : Prop := ∀ i (hi : i < cs.length), cs[i] ≠ [] ∧ (cs[i].dropLast = ah ∨ ∃ j, ∃ (hj : j < i), cs[j]'(by omega) = cs[i].dropLast)
theorem Ahead.snoc {ah : List CT} {cs : List (List CT)} {c : CT} (h : Ahead ah cs) : Ahead ah (cs ++ [ah ++ [c]]) := by
  intro i hi
  by_cases hlt : i < cs.length
  · have h1 := h i hlt
    rw [List.getElem_append_left hlt]
    refine ⟨h1.1, h1.2.imp id ?_⟩
    rintro ⟨j, hj, e⟩
    exact ⟨j, hj, by rw [List.getElem_append_left (by omega)]; exact e⟩
  · have e : i = cs.length := by simp at hi; omega
    subst e
    simp
theorem Ahead.app {ah : List CT} {cs ds : List (List CT)} {c : CT} (h : Ahead ah (cs ++ [ah ++ [c]])) (h2 : Ahead (ah ++ [c]) ds) : Ahead ah ((cs ++ [ah ++ [c]]) ++ ds) := by
  intro i hi
  by_cases hlt : i < (cs ++ [ah ++ [c]]).length
  · have h1 := h i hlt
    rw [List.getElem_append_left hlt]
    refine ⟨h1.1, h1.2.imp id ?_⟩
    rintro ⟨j, hj, e⟩
    exact ⟨j, hj, by rw [List.getElem_append_left (by omega)]; exact e⟩
  · have hge : (cs ++ [ah ++ [c]]).length ≤ i := by omega
    have h1 := h2 (i - (cs ++ [ah ++ [c]]).length) (by simp at hi hge ⊢; omega)
    rw [List.getElem_append_right hge]
    refine ⟨h1.1, .inr ?_⟩
    rcases h1.2 with e | ⟨j, hj, e⟩
    · refine ⟨cs.length, by simp at hge; omega, ?_⟩
      rw [e]
      rw [List.getElem_append_left (by simp)]
      simp
    · refine ⟨j + (cs ++ [ah ++ [c]]).length, by omega, ?_⟩
      rw [← e, List.getElem_append_right (by omega)]
      congr 1
      omega
mutual
theorem chain1_ahead : ∀ (c : CT) (ah : List CT), ∃ cs, chain1 ah c = cs ++ [ah ++ [c]] ∧ Ahead ah (cs ++ [ah ++ [c]])
  | .mk h l, ah => by
    refine ⟨if h.k = 3 then chains ah l else [], by rw [chain1], Ahead.snoc ?_⟩
    split
    · exact chains_ahead l ah
    · intro i hi; simp at hi
theorem chains_ahead : ∀ (l : List CT) (ah : List CT), Ahead ah (chains ah l)
  | [], _ => by rw [chains]; intro i hi; simp at hi
  | c :: t, ah => by
    obtain ⟨cs, e, h⟩ := chain1_ahead c ah
    rw [chains, e]
    exact Ahead.app h (chains_ahead t (ah ++ [c]))
end
/-- Is a chain the beginning of another? -/
def hadPre (qs : List (List CT)) (x : List CT) (i : Nat) : Bool := decide (x.length = 1) || (qs.take i).any fun y => ceqL y x.dropLast
theorem had_pre {l : List CT} {i : Nat} (hi : i < (chains [] l).length) : (chains [] l).getD i [] ≠ [] ∧ hadPre (chains [] l) ((chains [] l).getD i []) i = true := by
  have h := chains_ahead l [] i hi
  have e : (chains [] l).getD i [] = (chains [] l)[i] := by simp [List.getD, hi]
  rw [e]
  refine ⟨h.1, ?_⟩
  unfold hadPre
  rw [Bool.or_eq_true]
  rcases h.2 with h2 | ⟨j, hj, h2⟩
  · left
    have h3 : (chains [] l)[i].length ≠ 0 := fun hx => h.1 (List.eq_nil_of_length_eq_zero hx)
    have h4 := congrArg List.length h2
    simp at h4
    simp; omega
  · right
    refine List.any_eq_true.2 ⟨(chains [] l)[j], List.mem_iff_getElem.2 ⟨j, by simp; omega, by simp⟩, (ceqL_iff _ _).2 h2⟩
def foundTo (qs : List (List CT)) (x : List CT) (j : Nat) : Bool := decide (x.length = 1) || (qs.take j).any fun y => ceqL y x.dropLast
theorem foundTo_succ {qs : List (List CT)} {x : List CT} {j : Nat} (hj : j < qs.length) : foundTo qs x (j + 1) = (foundTo qs x j || ceqL (qs.getD j []) x.dropLast) := by
  unfold foundTo
  have e : qs.getD j [] = qs[j] := by simp [List.getD, hj]
  rw [List.take_succ_eq_append_getElem hj, e]
  simp only [List.any_append, List.any_cons, List.any_nil, Bool.or_false, Bool.or_assoc]
end Go.Gx.T6
namespace Go.Gx.T6
open Go.Gx Go.Gx.T3 Go.Gx.T4 Go.Gx.T8
abbrev e6 : List CT × Value := ([], .slice none 0 0)
theorem chain_get {cs : List (List CT)} {qs : List (List CT × Value)} {k : Nat} (hl : cs = qs.map Prod.fst) : cs.getD k [] = (qs.getD k e6).1 := by
  rw [hl, mapfst_getD]
theorem chain_small {l : List CT} {qs : List (List CT × Value)} {k : Nat} (hl : chains [] l = qs.map Prod.fst) (hk : k < qs.length) (hsz : sizeL l ≤ 1000) : sizeL (qs.getD k e6).1 ≤ 1000 := by
  have h1 : (qs.getD k e6).1 ∈ chains [] l := by rw [hl]; exact List.mem_map.2 ⟨_, getD_mem hk, rfl⟩
  have := chains_size l [] _ h1
  simp only [sizeL] at this
  omega
theorem chain_same {cs : List (List CT)} {qs ps : List (List CT × Value)} {k : Nat} (h1 : cs = qs.map Prod.fst) (h2 : cs = ps.map Prod.fst) : ceqL (qs.getD k e6).1 (ps.getD k e6).1 = true := by
  rw [← chain_get h1, ← chain_get h2]
  exact (ceqL_iff _ _).2 rfl
theorem sizeL_takeA : ∀ (l : List CT) (k : Nat), sizeL (l.take k) ≤ sizeL l := sizeL_take_le
end Go.Gx.T6
namespace Go.Gx.T6
open Go.Gx Go.Gx.T3 Go.Gx.T4 Go.Gx.T8
theorem own_last {l : List CT} (h : 1 ≤ l.length) : (ownC l).getD (l.length - 1) 0 = (sizeL l : Int) - 1 := by
  unfold ownC
  have h1 : l.length - 1 < l.length := by omega
  simp [List.getD, h1]
  rw [show l.length - 1 + 1 = l.length by omega, List.take_length]
end Go.Gx.T6

/- Plain laws of compiled steps: where variables were bound, found in a sorted list of places; steps that are alike; no program in sight. -/
namespace Go.Gx.T8
open Go.Gx Go.Gx.T3 Go.Gx.T4 Go.Gx.T6

/-! ### the first alike term -/
abbrev TT := Bool × Int
def tmC (t : TT) : List Value := [.bool t.1, .int .i64 t.2]
abbrev tt0 : TT := (false, 0)
def terms (h : Hd) : List TT := [(h.v0, h.n0), (h.v1, h.n1), (h.v2, h.n2)]
def sameT (t z : TT) : Bool := csEq (tmC t) (tmC z)
theorem sameT_eq (t z : TT) : sameT t z = (decide (t.1 = z.1) && decide (t.2 = z.2)) := by
  obtain ⟨a, b⟩ := t
  obtain ⟨c, d⟩ := z
  cases a <;> cases c <;> simp [sameT, tmC, csEq, cEq]
/-- Where the first term ahead of term f stands that is alike; -1: none. -/
def ownG (h : Hd) (f : Nat) : Int := idxF (sameT (vF h f, nF h f)) ((terms h).take f) 0
theorem sameF_T (h : Hd) (g f : Nat) : sameT (vF h f, nF h f) (vF h g, nF h g) = sameF h g f := by
  rw [sameT_eq]; unfold sameF
  rw [show decide (vF h f = vF h g) = decide (vF h g = vF h f) from decide_eq_decide.2 ⟨Eq.symm, Eq.symm⟩, show decide (nF h f = nF h g) = decide (nF h g = nF h f) from decide_eq_decide.2 ⟨Eq.symm, Eq.symm⟩]
theorem ownG_eq (h : Hd) : ∀ f, f < 3 → ownG h f = (dupF h f).getD (-1)
  | 0, _ => by simp [ownG, idxF, dupF]
  | 1, _ => by
    have h1 := sameF_T h 0 1
    show idxF _ [(h.v0, h.n0)] 0 = _
    rw [idxF, show sameT (vF h 1, nF h 1) (h.v0, h.n0) = sameF h 0 1 from h1]
    cases e : sameF h 0 1 <;> simp [idxF, dupF, e]
  | 2, _ => by
    have h1 := sameF_T h 0 2
    have h2 := sameF_T h 1 2
    show idxF _ [(h.v0, h.n0), (h.v1, h.n1)] 0 = _
    rw [idxF, idxF, show sameT (vF h 2, nF h 2) (h.v0, h.n0) = sameF h 0 2 from h1, show sameT (vF h 2, nF h 2) (h.v1, h.n1) = sameF h 1 2 from h2]
    cases e : sameF h 0 2 <;> cases e' : sameF h 1 2 <;> simp [idxF, dupF, e, e']
theorem dup_some {h : Hd} {f : Nat} (hf : f < 3) (hg : 0 ≤ ownG h f) : dupF h f = some (ownG h f) := by
  rw [ownG_eq h f hf] at hg ⊢
  cases e : dupF h f with
  | none => rw [e] at hg; simp at hg
  | some x => rfl
theorem dup_none {h : Hd} {f : Nat} (hf : f < 3) (hg : ¬ 0 ≤ ownG h f) : dupF h f = none := by
  rw [ownG_eq h f hf] at hg
  cases e : dupF h f with
  | none => rfl
  | some x =>
    rw [e] at hg
    exfalso
    apply hg
    show 0 ≤ x
    unfold dupF at e
    split at e
    · cases e; omega
    · split at e
      · cases e; omega
      · cases e

/-! ### bound, by a list of places -/
def lkP (v : Int) (ps : List PL) : Option (Int × Int) := (ps.find? (isV v)).map Prod.snd
theorem lkP_append (v : Int) (a b : List PL) : lkP v (a ++ b) = (lkP v a).or (lkP v b) := by
  unfold lkP
  rw [List.find?_append]
  cases a.find? (isV v) <;> simp
theorem isV_iff {v : Int} {p : PL} : isV v p = true ↔ p.1 = v := by simp [isV]
theorem lkP_none {v : Int} {ps : List PL} (h : ∀ p ∈ ps, isV v p = false) : lkP v ps = none := by
  unfold lkP
  rw [List.find?_eq_none.2 (fun p hp => by rw [h p hp]; decide)]; rfl
theorem lkP_isSome {v : Int} {ps : List PL} (h : 0 ≤ idxF (isV v) ps 0) : (lkP v ps).isSome = true := by
  have h1 : ps.any (isV v) = true := by rw [← idxF_any, decide_eq_true h]
  obtain ⟨p, hp, h2⟩ := List.any_eq_true.1 h1
  unfold lkP
  rw [Option.isSome_map]
  exact List.find?_isSome.2 ⟨p, hp, h2⟩
theorem lkP_pl1 (h : Hd) (b : Int) (out : List PL) (f : Nat) (v : Int) : lkP v (pl1 h b out f) = (lkP v out).or (if vF h f = true ∧ nF h f = v then some (b, (f : Int)) else none) := by
  unfold pl1
  by_cases h1 : vF h f = true
  · by_cases h2 : 0 ≤ idxF (isV (nF h f)) out 0
    · rw [if_neg (by simp [h2])]
      by_cases h3 : nF h f = v
      · subst h3
        have := lkP_isSome h2
        cases e : lkP (nF h f) out with
        | none => rw [e] at this; cases this
        | some x => simp
      · rw [if_neg (by simp [h3])]; simp
    · rw [if_pos ⟨h1, h2⟩, lkP_append]
      congr 1
      by_cases h3 : nF h f = v
      · rw [if_pos ⟨h1, h3⟩]; simp [lkP, isV, h3]
      · rw [if_neg (by simp [h3])]; simp [lkP, isV, h3]
  · rw [if_neg (by simp [h1]), if_neg (by simp [h1])]; simp
theorem or_assoc' {α : Type} (a b c : Option α) : (a.or b).or c = a.or (b.or c) := by cases a <;> simp
theorem lkP_plTo (h : Hd) (b : Int) (out : List PL) (v : Int) : lkP v (plTo h b out 3) = (lkP v out).or ((firstF h v).map fun f => (b, f)) := by
  show lkP v (pl1 h b (pl1 h b (pl1 h b out 0) 1) 2) = _
  rw [lkP_pl1, lkP_pl1, lkP_pl1, or_assoc', or_assoc']
  congr 1
  unfold firstF
  show ((if h.v0 = true ∧ h.n0 = v then some (b, ((0 : Nat) : Int)) else none).or ((if h.v1 = true ∧ h.n1 = v then some (b, ((1 : Nat) : Int)) else none).or (if h.v2 = true ∧ h.n2 = v then some (b, ((2 : Nat) : Int)) else none))) = _
  by_cases h0 : h.v0 = true ∧ h.n0 = v
  · rw [if_pos h0, if_pos h0]; rfl
  · rw [if_neg h0, if_neg h0]
    by_cases h1 : h.v1 = true ∧ h.n1 = v
    · rw [if_pos h1, if_pos h1]; rfl
    · rw [if_neg h1, if_neg h1]
      by_cases h2 : h.v2 = true ∧ h.n2 = v
      · rw [if_pos h2, if_pos h2]; rfl
      · rw [if_neg h2, if_neg h2]; rfl
theorem lkP_places (v : Int) : ∀ (l : List CT) (b : Int) (out : List PL), lkP v (places l b out) = (lkP v out).or (bound v l b)
  | [], b, out => by simp [places, bound]
  | c :: t, b, out => by
    rw [places, bound]
    split
    · rw [lkP_places v t, lkP_plTo, or_assoc']
      congr 1
      cases firstF c.h v <;> simp
    · rw [lkP_places v t]
theorem lkP_once {v : Int} : ∀ {ps : List PL} {p : PL}, Once ps → p ∈ ps → p.1 = v → lkP v ps = some p.2
  | q :: t, p, ho, hp, hv => by
    obtain ⟨h1, h2⟩ := List.pairwise_cons.1 ho
    rcases List.mem_cons.1 hp with rfl | hp
    · simp [lkP, isV, hv]
    · have h3 := h1 p hp
      have h4 : isV v q = false := by simp [isV]; rw [← hv]; exact h3
      have h5 := lkP_once h2 hp hv
      unfold lkP at h5 ⊢
      rw [List.find?_cons, h4]; exact h5
/-- What is found in the sorted places is what is bound. -/
theorem found_bound {l : List CT} {zs : List PL} {v : Int} {i : Nat} (hp : zs.Perm (places l 0 [])) (hi : i < zs.length) (hv : isV v (zs.getD i t0) = true) : bound v l 0 = some (zs.getD i t0).2 := by
  have h1 : zs.getD i t0 ∈ places l 0 [] := hp.subset (getD_mem hi)
  have h2 := lkP_once (places_once l 0 [] .nil) h1 (isV_iff.1 hv)
  rw [lkP_places] at h2
  simpa [lkP] using h2
theorem found_none {l : List CT} {zs : List PL} {v : Int} (hp : zs.Perm (places l 0 [])) (h : ¬ 0 ≤ idxF (isV v) zs 0) : bound v l 0 = none := by
  have h1 := idxF_neg (Int.le_refl 0) h
  have h2 := lkP_places v l 0 []
  rw [lkP_none (fun p hp' => h1 p (hp.symm.subset hp'))] at h2
  simpa [lkP] using h2.symm
theorem testF_b {ch : List CT} {h : Hd} {f : Nat} {x : Int × Int} (hv : vF h f = true) (hb : bound (nF h f) ch 0 = some x) : testF ch h f = [((f : Int), x.1, x.2)] := by
  unfold testF; rw [if_pos hv, hb]
theorem testF_d {ch : List CT} {h : Hd} {f : Nat} {g : Int} (hv : vF h f = true) (hb : bound (nF h f) ch 0 = none) (hd : dupF h f = some g) : testF ch h f = [((f : Int), -1, g)] := by
  unfold testF; rw [if_pos hv, hb, hd]
theorem testF_n {ch : List CT} {h : Hd} {f : Nat} (hv : vF h f = true) (hb : bound (nF h f) ch 0 = none) (hd : dupF h f = none) : testF ch h f = [] := by
  unfold testF; rw [if_pos hv, hb, hd]

theorem Ss.le {G G' : Ghost} {v : Value} {l : List ST} (h : Ss G v l) (hle : GLe G G') : Ss G' v l := h.mono hle
end Go.Gx.T8
namespace Go.Gx.T8
open Go.Gx Go.Gx.T3 Go.Gx.T4 Go.Gx.T6
theorem terms_sl {h : Hd} {k : Int} {sv : Value} {G : Ghost} {v : Value} {f : Nat} (hf : f < 3) (hv : SlG G v f 2 (fun i j => at_ [Value.int .i64 k, Value.bool h.v0, Value.int .i64 h.n0, Value.bool h.v1, Value.int .i64 h.n1, Value.bool h.v2, Value.int .i64 h.n2, sv] (1 + (i * 2 + j)))) : SlL G v 2 tmC tt0 ((terms h).take f) := by
  match f, hf with
  | 0, _ => exact SlG.congr hv (fun i hi => absurd (show i < 0 from hi) (by omega))
  | 1, _ =>
    refine SlG.congr hv (fun i hi j hj => ?_)
    have hi' : i < 1 := hi
    obtain rfl : i = 0 := by omega
    match j, hj with
    | 0, _ => rfl
    | 1, _ => rfl
  | 2, _ =>
    refine SlG.congr hv (fun i hi j hj => ?_)
    match i, hi with
    | 0, _ =>
      match j, hj with
      | 0, _ => rfl
      | 1, _ => rfl
    | 1, _ =>
      match j, hj with
      | 0, _ => rfl
      | 1, _ => rfl
theorem term_at {h : Hd} {k : Int} {sv : Value} {f : Nat} (hf : f < 3) : aggF 2 (fun i => at_ [Value.int .i64 k, Value.bool h.v0, Value.int .i64 h.n0, Value.bool h.v1, Value.int .i64 h.n1, Value.bool h.v2, Value.int .i64 h.n2, sv] (1 + (f * 2 + i))) = Value.agg #[Value.bool (vF h f), Value.int .i64 (nF h f)] := by
  match f, hf with
  | 0, _ => rfl
  | 1, _ => rfl
  | 2, _ => rfl
end Go.Gx.T8
namespace Go.Gx.T8
open Go.Gx Go.Gx.T3 Go.Gx.T4 Go.Gx.T6
theorem take_rs {rs : List (CT × Value)} {k : Nat} (hk : k < rs.length) : rs.take (k + 1) = rs.take k ++ [rs.getD k d0] := by
  rw [List.take_succ_eq_append_getElem hk]; simp [List.getD, List.getElem?_eq_getElem hk]
end Go.Gx.T8

/- Plain laws of rules: wysF to where a variable stands, and its scope; no program in sight. -/
namespace Go.Gx.T5
open Go.Gx Go.Gx.T3 Go.Gx.T4 Go.Gx.T8 Go.Gx.T6
abbrev ownV (h : Hd) (v : Nat) : Bool := ownTo h.v0 h.n0 h.v1 h.n1 h.v2 h.n2 v 3
mutual
/-- The wysF to where a variable stands, with the kinds of the conditions there. -/
def wk1 : CT → Nat → Int → List (List Int × Int)
  | .mk h s, v, i => if h.k = 3 then (wk s v 0).map (fun p => (i :: p.1, p.2)) else if ownV h v = true then [([i], h.k)] else []
def wk : List CT → Nat → Int → List (List Int × Int)
  | [], _, _ => []
  | c :: t, v, i => wk1 c v i ++ wk t v (i + 1)
end
theorem wk1_ncc {c : CT} {v : Nat} {i : Int} (h : c.h.k = 3) : wk1 c v i = (wk c.subs v 0).map (fun p => (i :: p.1, p.2)) := by
  cases c with | mk hd l => have h' : hd.k = 3 := h; rw [wk1, if_pos h']; rfl
theorem wk1_own {c : CT} {v : Nat} {i : Int} (h : c.h.k ≠ 3) (ho : ownV c.h v = true) : wk1 c v i = [([i], c.h.k)] := by
  cases c with | mk hd l => have h' : hd.k ≠ 3 := h; have ho' : ownV hd v = true := ho; rw [wk1, if_neg h', if_pos ho']; rfl
theorem wk1_none {c : CT} {v : Nat} {i : Int} (h : c.h.k ≠ 3) (ho : ownV c.h v = false) : wk1 c v i = [] := by
  cases c with | mk hd l => have h' : hd.k ≠ 3 := h; have ho' : ownV hd v = false := ho; rw [wk1, if_neg h', if_neg (by rw [ho']; decide)]
theorem wk_append (a b : List CT) (v : Nat) : ∀ i, wk (a ++ b) v i = wk a v i ++ wk b v (i + a.length) := by
  induction a with
  | nil => intro i; simp [wk]
  | cons c t ih => intro i; simp only [List.cons_append, wk, ih, List.length_cons, List.append_assoc]; congr 3; omega
theorem wk_take {rs : List (CT × Value)} {k : Nat} {v : Nat} (hk : k < rs.length) : wk ((rs.map Prod.fst).take (k + 1)) v 0 = wk ((rs.map Prod.fst).take k) v 0 ++ wk1 (rs.getD k d0).1 v (k : Nat) := by
  rw [map_take (d := d0) hk, wk_append]
  simp only [wk, List.append_nil, List.length_take, List.length_map, Int.zero_add]
  congr 3; omega
mutual
theorem wk1_len : ∀ (c : CT) (v : Nat) (i : Int), (wk1 c v i).length ≤ size c
  | .mk h s, v, i => by
    have := wk_len s v 0
    rw [wk1, size]
    split
    · rw [List.length_map]; omega
    · split <;> simp
theorem wk_len : ∀ (l : List CT) (v : Nat) (i : Int), (wk l v i).length ≤ sizeL l
  | [], _, _ => by simp [wk]
  | c :: t, v, i => by
    have h1 := wk1_len c v i
    have h2 := wk_len t v (i + 1)
    rw [wk, sizeL, List.length_append]; omega
end
/-- The wysF behind a way. -/
def wysF (l : List CT) (v : Nat) (way : List Int) : List (List Int) := (wk l v 0).map fun p => way ++ p.1
/-- Where a way goes on from a condition. -/
def desc : CT → List Int → CT
  | c, [] => c
  | c, i :: w => desc (c.subs.getD i.toNat d0.1) w
def okW : CT → List Int → Prop
  | _, [] => True
  | c, i :: w => (0 ≤ i ∧ i < (c.subs.length : Int)) ∧ okW (c.subs.getD i.toNat d0.1) w
mutual
theorem wk1_at : ∀ (c : CT) (v : Nat) (i : Int), ∀ p ∈ wk1 c v i, ∃ w, p.1 = i :: w ∧ okW c w ∧ (desc c w).h.k = p.2
  | .mk h s, v, i, p, hp => by
    rw [wk1] at hp
    split at hp
    · obtain ⟨q, hq, rfl⟩ := List.mem_map.1 hp
      obtain ⟨j, w, e, hj, ho, hk⟩ := wk_at s v 0 q hq
      refine ⟨q.1, rfl, ?_, ?_⟩
      · rw [e, okW]
        refine ⟨by show 0 ≤ j ∧ j < ((CT.mk h s).subs.length : Int); exact ⟨by omega, by show j < (s.length : Int); omega⟩, ?_⟩
        rw [Int.sub_zero] at ho; exact ho
      · rw [e, desc]
        rw [Int.sub_zero] at hk; exact hk
    · rename_i h3
      split at hp
      · rw [List.mem_singleton.1 hp]
        exact ⟨[], rfl, trivial, rfl⟩
      · cases hp
theorem wk_at : ∀ (l : List CT) (v : Nat) (i : Int), ∀ p ∈ wk l v i, ∃ j w, p.1 = j :: w ∧ (i ≤ j ∧ j < i + l.length) ∧ okW (l.getD (j - i).toNat d0.1) w ∧ (desc (l.getD (j - i).toNat d0.1) w).h.k = p.2
  | [], _, _, p, hp => by rw [wk] at hp; cases hp
  | c :: t, v, i, p, hp => by
    rw [wk] at hp
    rcases List.mem_append.1 hp with hp | hp
    · obtain ⟨w, e, h1, h2⟩ := wk1_at c v i p hp
      refine ⟨i, w, e, by simp; omega, ?_⟩
      rw [Int.sub_self]
      exact ⟨h1, h2⟩
    · obtain ⟨j, w, e, hj, h1, h2⟩ := wk_at t v (i + 1) p hp
      refine ⟨j, w, e, by simp; omega, ?_⟩
      have e2 : (j - i).toNat = (j - (i + 1)).toNat + 1 := by omega
      rw [e2]
      exact ⟨h1, h2⟩
end
/-- Are all wysF in the scope of the first one? -/
def scopeOf (p : List Int × Int) : List Int := if p.2 = 1 then p.1.dropLast else p.1
def begins (sc w : List Int) : Bool := decide (sc.length ≤ w.length) && decide (w.take sc.length = sc)
def inPl : List (List Int × Int) → Bool
  | [] => true
  | p :: t => (p :: t).all fun q => begins (scopeOf p) q.1
/- The document's: where a variable stands behind its scope. -/
mutual
def out1 : CT → Nat → Int
  | .mk _ s, v => out s v
def out : List CT → Nat → Int
  | [], _ => 0
  | c :: t, v => if has c v = false then out t v else if c.h.k = 1 then 2 else if hasL t v = true then 1 else if c.h.k = 3 ∧ out1 c v = 1 then 1 else 0
end
theorem out1_eq (c : CT) (v : Nat) : out1 c v = out c.subs v := by cases c; rw [out1]; rfl
mutual
/-- All kinds are kinds, at any depth. -/
def kinds1 : CT → Prop
  | .mk h s => (h.k = 1 ∨ h.k = 2 ∨ h.k = 3) ∧ kindsL s
def kindsL : List CT → Prop
  | [] => True
  | c :: t => kinds1 c ∧ kindsL t
end
theorem kinds1_eq (c : CT) : kinds1 c = ((c.h.k = 1 ∨ c.h.k = 2 ∨ c.h.k = 3) ∧ kindsL c.subs) := by cases c; rw [kinds1]; rfl
mutual
theorem kinds1_of : ∀ (c : CT) (d : Int), check c d = 0 → kinds1 c
  | .mk h s, d, hc => by
    rw [kinds1]
    rcases check_right hc with ⟨h1, h2⟩ | ⟨h1, _, h3⟩
    · exact ⟨.inr (.inr h1), kindsL_of s _ h2⟩
    · subst h3
      refine ⟨?_, by rw [kindsL]; trivial⟩
      rcases h1 with h1 | h1
      · exact .inl h1
      · exact .inr (.inl h1)
theorem kindsL_of : ∀ (l : List CT) (d : Int), checkL l d = 0 → kindsL l
  | [], _, _ => by rw [kindsL]; trivial
  | c :: t, d, hc => by
    have h := checkL_right hc
    rw [kindsL]
    exact ⟨kinds1_of c d h.1, kindsL_of t d h.2⟩
end
mutual
theorem wk1_nil : ∀ (c : CT) (v : Nat) (i : Int), flatOk c = true → (c.h.k = 1 ∨ c.h.k = 2 ∨ c.h.k = 3) → kindsL c.subs → (wk1 c v i = [] ↔ has c v = false)
  | .mk h s, v, i, hf, hk, hks => by
    rw [flatOk, Bool.and_eq_true] at hf
    have hk' : h.k = 1 ∨ h.k = 2 ∨ h.k = 3 := hk
    rw [wk1, has]
    by_cases h3 : h.k = 3
    · rw [if_pos h3, decide_eq_false (show ¬ h.k < 3 by omega), Bool.false_and, Bool.false_or, List.map_eq_nil_iff]
      exact wk_nil s v 0 hf.2 hks
    · have hs : s = [] := by
        have h4 := hf.1
        rw [decide_eq_false h3, Bool.false_or] at h4
        simpa using h4
      subst hs
      rw [if_neg h3, decide_eq_true (show h.k < 3 by omega), Bool.true_and, hasL, Bool.or_false]
      by_cases ho : ownV h v = true
      · have ho' : ownTo h.v0 h.n0 h.v1 h.n1 h.v2 h.n2 v 3 = true := ho
        rw [if_pos ho, ho']; simp
      · have ho' : ownTo h.v0 h.n0 h.v1 h.n1 h.v2 h.n2 v 3 = false := by simpa using ho
        rw [if_neg ho, ho']; simp
theorem wk_nil : ∀ (l : List CT) (v : Nat) (i : Int), flatOkL l = true → kindsL l → (wk l v i = [] ↔ hasL l v = false)
  | [], _, _, _, _ => by simp [wk, hasL]
  | c :: t, v, i, hf, hk => by
    rw [flatOkL, Bool.and_eq_true] at hf
    rw [kindsL, kinds1_eq] at hk
    rw [wk, hasL, List.append_eq_nil_iff, Bool.or_eq_false_iff, wk1_nil c v i hf.1 hk.1.1 hk.1.2, wk_nil t v (i + 1) hf.2 hk.2]
end
theorem begins_nil (w : List Int) : begins [] w = true := by simp [begins]
theorem begins_cons (i : Int) (sc : List Int) (w : List Int) : begins (i :: sc) (i :: w) = begins sc w := by simp [begins]
theorem begins_other {i j : Int} (sc w : List Int) (h : i ≠ j) : begins (i :: sc) (j :: w) = false := by
  have : ¬ (j :: w).take (i :: sc).length = i :: sc := by
    simp only [List.length_cons, List.take_succ_cons, List.cons.injEq, not_and]
    intro h2; exact absurd h2.symm h
  rw [begins, decide_eq_false this, Bool.and_false]
theorem scope_cons {i : Int} {p : List Int × Int} (h : p.1 ≠ []) : scopeOf (i :: p.1, p.2) = i :: scopeOf p := by
  unfold scopeOf
  split
  · cases hp : p.1 with
    | nil => exact absurd hp h
    | cons a b => rfl
  · rfl
theorem inPl_some {ws ts : List (List Int × Int)} {i : Int} (hne : ws ≠ []) (hw : ∀ p ∈ ws, p.1 ≠ []) (ht : ∀ p ∈ ts, ∃ j w, p.1 = j :: w ∧ i < j) :
    inPl (ws.map (fun p => (i :: p.1, p.2)) ++ ts) = (inPl ws && decide (ts = [])) := by
  cases ws with
  | nil => exact absurd rfl hne
  | cons p t =>
    show ((((i :: p.1, p.2) :: t.map (fun p => (i :: p.1, p.2))) ++ ts).all fun q => begins (scopeOf (i :: p.1, p.2)) q.1) = _
    rw [scope_cons (hw p (by simp)), List.all_append]
    congr 1
    · show (((p :: t).map (fun p => (i :: p.1, p.2))).all _) = _
      rw [List.all_map]
      show (p :: t).all _ = (p :: t).all (fun q => begins (scopeOf p) q.1)
      congr 1
      funext q
      exact begins_cons i _ _
    · cases ts with
      | nil => rfl
      | cons q r =>
        obtain ⟨j, w, e, hj⟩ := ht q (by simp)
        rw [List.all_cons, e, begins_other _ _ (show i ≠ j by omega), Bool.false_and]
        simp
mutual
theorem inPl1 : ∀ (c : CT) (v : Nat), flatOk c = true → (c.h.k = 1 ∨ c.h.k = 2 ∨ c.h.k = 3) → kindsL c.subs → inPl (wk c.subs v 0) = decide (out1 c v ≠ 1)
  | .mk h s, v, hf, hk, hks => by
    rw [flatOk, Bool.and_eq_true] at hf
    rw [out1]
    exact inPl_out s v 0 hf.2 hks
theorem inPl_out : ∀ (l : List CT) (v : Nat) (i : Int), flatOkL l = true → kindsL l → inPl (wk l v i) = decide (out l v ≠ 1)
  | [], _, _, _, _ => by simp [wk, inPl, out]
  | c :: t, v, i, hf, hk => by
    rw [flatOkL, Bool.and_eq_true] at hf
    rw [kindsL, kinds1_eq] at hk
    have hn := wk1_nil c v i hf.1 hk.1.1 hk.1.2
    have ht := wk_nil t v (i + 1) hf.2 hk.2
    have htj : ∀ p ∈ wk t v (i + 1), ∃ j w, p.1 = j :: w ∧ i < j := fun p hp => by
      obtain ⟨j, w, e, hj, _⟩ := wk_at t v (i + 1) p hp
      exact ⟨j, w, e, by omega⟩
    rw [wk, out]
    by_cases hc : has c v = false
    · rw [if_pos hc, hn.2 hc, List.nil_append]
      exact inPl_out t v (i + 1) hf.2 hk.2
    rw [if_neg hc]
    have hh : has c v = true := by simpa using hc
    by_cases h1 : c.h.k = 1
    · rw [if_pos h1]
      have ho : ownV c.h v = true := by
        cases e : ownV c.h v with
        | true => rfl
        | false => exact absurd (hn.1 (wk1_none (by omega) e)) hc
      rw [wk1_own (by omega) ho, h1]
      have : inPl ([([i], (1 : Int))] ++ wk t v (i + 1)) = true := by
        show (([i], (1 : Int)) :: wk t v (i + 1)).all (fun q => begins (scopeOf ([i], (1 : Int))) q.1) = true
        refine List.all_eq_true.2 fun q _ => ?_
        show begins (scopeOf ([i], (1 : Int))) q.1 = true
        exact begins_nil _
      rw [this]; rfl
    rw [if_neg h1]
    have hbt : decide (wk t v (i + 1) = []) = !(hasL t v) := by
      cases e : hasL t v with
      | true => exact decide_eq_false (fun h => by rw [ht.1 h] at e; cases e)
      | false => exact decide_eq_true (ht.2 e)
    by_cases h3 : c.h.k = 3
    · rw [wk1_ncc h3]
      have hs : hasL c.subs v = true := by
        rw [has_eq, decide_eq_false (show ¬ c.h.k < 3 by omega), Bool.false_and, Bool.false_or] at hh
        exact hh
      have hne : wk c.subs v 0 ≠ [] := fun h => by
        have hfs : flatOkL c.subs = true := by
          have := hf.1
          cases c with | mk hd l => rw [flatOk, Bool.and_eq_true] at this; exact this.2
        rw [(wk_nil c.subs v 0 hfs hk.1.2).1 h] at hs; cases hs
      rw [inPl_some hne (fun p hp => by obtain ⟨j, w, e, _⟩ := wk_at c.subs v 0 p hp; rw [e]; simp) htj, inPl1 c v hf.1 hk.1.1 hk.1.2, hbt]
      by_cases ht2 : hasL t v = true
      · rw [if_pos ht2, ht2]; simp
      · rw [if_neg ht2, Bool.eq_false_iff.2 ht2]
        by_cases ho : out1 c v = 1
        · rw [if_pos ⟨h3, ho⟩]; simp [ho]
        · rw [if_neg (fun h => ho h.2)]; simp [ho]
    · have ho : ownV c.h v = true := by
        cases e : ownV c.h v with
        | true => rfl
        | false => exact absurd (hn.1 (wk1_none h3 e)) hc
      have h2 : c.h.k = 2 := by rcases hk.1.1 with h | h | h <;> omega
      rw [wk1_own h3 ho, h2]
      have e1 : inPl ([([i], (2 : Int))] ++ wk t v (i + 1)) = decide (wk t v (i + 1) = []) := by
        cases e : wk t v (i + 1) with
        | nil => simp [inPl, scopeOf, begins]
        | cons q r =>
          obtain ⟨j, w, e2, hj⟩ := htj q (by rw [e]; simp)
          show (([i], (2 : Int)) :: q :: r).all (fun q => begins (scopeOf ([i], (2 : Int))) q.1) = _
          rw [List.all_cons, List.all_cons, e2]
          have : begins (scopeOf ([i], (2 : Int))) (j :: w) = false := begins_other [] w (show i ≠ j by omega)
          rw [this]; simp
      rw [e1, hbt]
      by_cases ht2 : hasL t v = true
      · rw [if_pos ht2, ht2]; simp
      · rw [if_neg ht2, if_neg (by omega), Bool.eq_false_iff.2 ht2]; simp
end
end Go.Gx.T5

/- Plain laws of steps: alike, right, few; no program in sight. -/
namespace Go.Gx.T8
open Go.Gx Go.Gx.T3 Go.Gx.T4 Go.Gx.T6

theorem tC_eq (a b : TD) : csEq (tC a) (tC b) = decide (a = b) := by
  obtain ⟨a0, a1, a2⟩ := a
  obtain ⟨b0, b1, b2⟩ := b
  by_cases h0 : a0 = b0 <;> by_cases h1 : a1 = b1 <;> by_cases h2 : a2 = b2 <;> simp [tC, csEq, cEq, h0, h1, h2]
theorem take_eq_succ {α : Type} {a b : List α} {k : Nat} {d : α} (ha : k < a.length) (hb : k < b.length) (h : a.take k = b.take k) (he : a.getD k d = b.getD k d) : a.take (k + 1) = b.take (k + 1) := by
  rw [List.take_succ_eq_append_getElem ha, List.take_succ_eq_append_getElem hb, h]
  simp [List.getD, List.getElem?_eq_getElem ha, List.getElem?_eq_getElem hb] at he
  rw [he]
theorem ne_of_get {α : Type} {a b : List α} {k : Nat} {d : α} (he : a.getD k d ≠ b.getD k d) : a ≠ b := fun h => he (by rw [h])
theorem ne_of_len {α : Type} {a b : List α} (h : a.length ≠ b.length) : a ≠ b := fun e => h (by rw [e])
def kEq (a b : SH) : Bool := csEq [.int .i64 a.k0, .int .i64 a.k1, .int .i64 a.k2] [.int .i64 b.k0, .int .i64 b.k1, .int .i64 b.k2]
theorem kEq_iff (a b : SH) : kEq a b = true ↔ a.k0 = b.k0 ∧ a.k1 = b.k1 ∧ a.k2 = b.k2 := by simp [kEq, csEq, cEq, and_assoc]
mutual
def seq : ST → ST → Bool
  | .mk h l, .mk h' l' => (decide (h.k = h'.k) && kEq h h') && (decide (h.ts = h'.ts) && seqL l l')
def seqL : List ST → List ST → Bool
  | [], [] => true
  | c :: t, c' :: t' => seq c c' && seqL t t'
  | _, _ => false
end
theorem seq_eq (a b : ST) : seq a b = ((decide (a.h.k = b.h.k) && kEq a.h b.h) && (decide (a.h.ts = b.h.ts) && seqL a.subs b.subs)) := by cases a; cases b; rw [seq]; rfl
theorem seqL_len : ∀ {l l' : List ST}, l.length ≠ l'.length → seqL l l' = false
  | [], [], h => absurd rfl h
  | [], _ :: _, _ => by simp [seqL]
  | _ :: _, [], _ => by simp [seqL]
  | c :: t, c' :: t', h => by rw [seqL, seqL_len (by simpa using h), Bool.and_false]
theorem sv_drop {rs : List SVal} {k : Nat} (hk : k < rs.length) : (rs.map Prod.fst).drop k = (rs.getD k s0).1 :: (rs.map Prod.fst).drop (k + 1) := by
  rw [List.drop_eq_getElem_cons (by simpa using hk)]
  simp [List.getD, List.getElem?_eq_getElem hk]
theorem seqL_no {rs rs2 : List SVal} {k : Nat} (h1 : k < rs.length) (h2 : k < rs2.length) (h : seq (rs.getD k s0).1 (rs2.getD k s0).1 = false) : seqL ((rs.map Prod.fst).drop k) ((rs2.map Prod.fst).drop k) = false := by
  rw [sv_drop h1, sv_drop h2, seqL, h, Bool.false_and]
theorem seqL_yes {rs rs2 : List SVal} {k : Nat} (h1 : k < rs.length) (h2 : k < rs2.length) (h : seq (rs.getD k s0).1 (rs2.getD k s0).1 = true) : seqL ((rs.map Prod.fst).drop (k + 1)) ((rs2.map Prod.fst).drop (k + 1)) = seqL ((rs.map Prod.fst).drop k) ((rs2.map Prod.fst).drop k) := by
  rw [sv_drop h1, sv_drop h2, seqL, h, Bool.true_and]
mutual
theorem seq_iff : ∀ (a b : ST), seq a b = true ↔ a = b
  | .mk h l, .mk h' l' => by
    rw [seq, Bool.and_eq_true, Bool.and_eq_true, Bool.and_eq_true, decide_eq_true_iff, decide_eq_true_iff, kEq_iff, seqL_iff l l']
    obtain ⟨a, b, c, d, e⟩ := h
    obtain ⟨a', b', c', d', e'⟩ := h'
    simp only [ST.mk.injEq, SH.mk.injEq]
    constructor
    · rintro ⟨⟨h1, h2, h3, h4⟩, h5, h6⟩; exact ⟨⟨h1, h2, h3, h4, h5⟩, h6⟩
    · rintro ⟨⟨h1, h2, h3, h4, h5⟩, h6⟩; exact ⟨⟨h1, h2, h3, h4⟩, h5, h6⟩
theorem seqL_iff : ∀ (l l' : List ST), seqL l l' = true ↔ l = l'
  | [], [] => by simp [seqL]
  | [], _ :: _ => by simp [seqL]
  | _ :: _, [] => by simp [seqL]
  | c :: t, c' :: t' => by
    rw [seqL, Bool.and_eq_true, seq_iff c c', seqL_iff t t']
    simp
end
theorem seq_no {a b : ST} (h : ((¬ a.h.k = b.h.k ∨ kEq a.h b.h = false) ∨ ¬ a.h.ts.length = b.h.ts.length) ∨ ¬ a.subs.length = b.subs.length) : seq a b = false := by
  rw [seq_eq]
  rcases h with ((h | h) | h) | h
  · rw [decide_eq_false h]; rfl
  · rw [h, Bool.and_false]; rfl
  · rw [decide_eq_false (ne_of_len h), Bool.false_and, Bool.and_false]
  · rw [seqL_len h, Bool.and_false, Bool.and_false]
theorem seq_ts {a b : ST} (h : a.h.ts ≠ b.h.ts) : seq a b = false := by rw [seq_eq, decide_eq_false h, Bool.false_and, Bool.and_false]
theorem seq_sub {a b : ST} (h1 : a.h.k = b.h.k) (h2 : kEq a.h b.h = true) (h3 : a.h.ts = b.h.ts) : seq a b = seqL a.subs b.subs := by
  rw [seq_eq, decide_eq_true h1, h2, decide_eq_true h3]; rfl
theorem ssz_at {a : ST} {rs : List SVal} {i n : Nat} (h : a.subs = rs.map Prod.fst) (hi : i < rs.length) (hn : SizeOf.sizeOf a ≤ n + 1) : SizeOf.sizeOf (rs.getD i s0).1 ≤ n := by
  have h1 : (rs.getD i s0).1 ∈ a.subs := by rw [h]; exact sv_mem hi
  have h2 := List.sizeOf_lt_of_mem h1
  have h3 : SizeOf.sizeOf a.subs < SizeOf.sizeOf a := by
    cases a with
    | mk h l => simp [ST.subs]; omega
  omega
theorem s_pos (a : ST) : 0 < SizeOf.sizeOf a := by cases a; simp; omega
end Go.Gx.T8
namespace Go.Gx.T8
open Go.Gx Go.Gx.T3 Go.Gx.T4 Go.Gx.T6
abbrev L8 : List CT := [.mk ⟨1, true, 1, false, 4, true, 2⟩ [], .mk ⟨1, true, 2, false, 4, true, 1⟩ []]
abbrev S80 : ST := .mk ⟨1, 0, 4, 0, []⟩ []
abbrev S81 : ST := .mk ⟨1, 0, 4, 0, [(0, 0, 2), (2, 0, 0)]⟩ []
theorem L8_steps : stepsOf [] L8 = [S80, S81] := (seqL_iff _ _).1 (by decide +kernel)
theorem L8_open {qs : List SVal} (h : stepsOf [] L8 = qs.map Prod.fst) : ∃ a0 b0 a1 b1, qs = [(S80, a0, b0), (S81, a1, b1)] := by
  rw [L8_steps] at h
  match qs, h with
  | [(c0, a0, b0), (c1, a1, b1)], h =>
    simp only [List.map_cons, List.map_nil, List.cons.injEq, and_true] at h
    obtain ⟨rfl, rfl⟩ := h
    exact ⟨a0, b0, a1, b1, rfl⟩
end Go.Gx.T8
namespace Go.Gx.T8
theorem s_subs (a : ST) : SizeOf.sizeOf a.subs < SizeOf.sizeOf a := by
  cases a with
  | mk h l => simp [ST.subs]; omega
end Go.Gx.T8
namespace Go.Gx.T8
open Go.Gx Go.Gx.T3 Go.Gx.T4 Go.Gx.T6
theorem sv_getD {qs : List SVal} {cs : List ST} (h : cs = qs.map Prod.fst) (k : Nat) : (qs.getD k s0).1 = cs.getD k s0.1 := by
  rw [h]
  simp only [List.getD, List.getElem?_map]
  cases qs[k]? <;> rfl
theorem steps_at {rs : List (CT × Value)} {ch : List CT} {k : Nat} (hk : k < rs.length) : (stepsOf ch (rs.map Prod.fst)).getD k s0.1 = stepOf (ch ++ (rs.map Prod.fst).take k) (rs.getD k d0).1 := by
  have e : rs.map Prod.fst = (rs.map Prod.fst).take k ++ ((rs.getD k d0).1 :: (rs.map Prod.fst).drop (k + 1)) := by
    rw [← map_drop (d := d0) hk, List.take_append_drop]
  have h2 : stepsOf ch (rs.map Prod.fst) = stepsOf ch ((rs.map Prod.fst).take k) ++ (stepOf (ch ++ (rs.map Prod.fst).take k) (rs.getD k d0).1 :: stepsOf (ch ++ (rs.map Prod.fst).take k ++ [(rs.getD k d0).1]) ((rs.map Prod.fst).drop (k + 1))) := by
    conv => lhs; rw [e]
    rw [stepsOf_append]
    simp [stepsOf]
  have h3 : (stepsOf ch ((rs.map Prod.fst).take k)).length = k := by rw [stepsOf_len]; simp; omega
  rw [h2]
  simp [List.getD, List.getElem?_append_right, h3]
theorem steps_at_take {rs : List (CT × Value)} {n k : Nat} (hk : k < n) (hn : n ≤ rs.length) : (stepsOf [] ((rs.map Prod.fst).take n)).getD k s0.1 = stepOf ((rs.map Prod.fst).take k) (rs.getD k d0).1 := by
  have h1 : (rs.take n).getD k d0 = rs.getD k d0 := by simp [List.getD, List.getElem?_take, hk]
  have h2 := steps_at (rs := rs.take n) (ch := []) (k := k) (by simp; omega)
  rw [h1, List.map_take, List.take_take, Nat.min_eq_left (by omega)] at h2
  exact h2
end Go.Gx.T8

/- Plain laws of names of variables that are turned about; no program in sight. -/
namespace Go.Gx.T8
open Go.Gx Go.Gx.T3 Go.Gx.T4
def tnV (y : Int) (b : Bool) (n : Int) : Int := if b = true then (n - 1 + y) % 32 + 1 else n
def tnH (y : Int) (h : Hd) : Hd := ⟨h.k, h.v0, tnV y h.v0 h.n0, h.v1, tnV y h.v1 h.n1, h.v2, tnV y h.v2 h.n2⟩
mutual
/-- A condition with other names. -/
def tn (y : Int) : CT → CT
  | .mk h l => .mk (tnH y h) (tnL y l)
def tnL (y : Int) : List CT → List CT
  | [] => []
  | c :: t => tn y c :: tnL y t
end
theorem tn_eq (y : Int) (c : CT) : tn y c = .mk (tnH y c.h) (tnL y c.subs) := by cases c; rw [tn]; rfl
theorem tnL_append (y : Int) (a b : List CT) : tnL y (a ++ b) = tnL y a ++ tnL y b := by
  induction a with
  | nil => rfl
  | cons c t ih => simp [tnL, ih]
theorem tnL_take {y : Int} {rs : List (CT × Value)} {k : Nat} (hk : k < rs.length) : tnL y ((rs.map Prod.fst).take (k + 1)) = tnL y ((rs.map Prod.fst).take k) ++ [tn y (rs.getD k d0).1] := by
  rw [map_take (d := d0) hk, tnL_append]; simp [tnL]
theorem tnL_len (y : Int) : ∀ l : List CT, (tnL y l).length = l.length
  | [] => rfl
  | c :: t => by simp [tnL, tnL_len y t]
mutual
theorem tn_size (y : Int) : ∀ c : CT, size (tn y c) = size c
  | .mk h l => by rw [tn, size, size, tnL_size y l]
theorem tnL_size (y : Int) : ∀ l : List CT, sizeL (tnL y l) = sizeL l
  | [] => rfl
  | c :: t => by rw [tnL, sizeL, sizeL, tn_size y c, tnL_size y t]
end
def okV (b : Bool) (n : Int) : Prop := b = true → 1 ≤ n ∧ n ≤ 32
def okH (h : Hd) : Prop := okV h.v0 h.n0 ∧ okV h.v1 h.n1 ∧ okV h.v2 h.n2
mutual
/-- Names that may be, at any depth. -/
def okC : CT → Prop
  | .mk h l => okH h ∧ okCL l
def okCL : List CT → Prop
  | [] => True
  | c :: t => okC c ∧ okCL t
end
theorem okC_eq (c : CT) : okC c = (okH c.h ∧ okCL c.subs) := by cases c; rw [okC]; rfl
theorem okCL_mem : ∀ {l : List CT} {c : CT}, okCL l → c ∈ l → okC c
  | x :: t, c, h, hc => by
    rw [okCL] at h
    rcases List.mem_cons.1 hc with rfl | hc
    · exact h.1
    · exact okCL_mem h.2 hc
theorem okCL_append : ∀ {a b : List CT}, okCL a → okCL b → okCL (a ++ b)
  | [], _, _, h => h
  | x :: t, b, h, h2 => by
    rw [okCL] at h
    rw [List.cons_append, okCL]
    exact ⟨h.1, okCL_append h.2 h2⟩
theorem okH_head {h : Hd} (e : headOk h = true) : okH h := by
  simp only [headOk, Bool.and_eq_true] at e
  have f : ∀ b n, termRight b n = true → okV b n := by
    intro b n e hb
    subst hb
    simpa [termRight] using e
  exact ⟨f _ _ e.1, f _ _ e.2.1, f _ _ e.2.2⟩
theorem okH_none {h : Hd} (e : headNone h = true) : okH h := by
  simp only [headNone, Bool.and_eq_true, Bool.not_eq_true', decide_eq_true_eq] at e
  obtain ⟨⟨⟨a0, _⟩, a1, _⟩, a2, _⟩ := e
  exact ⟨fun hb => by (rw [a0] at hb; cases hb), fun hb => by (rw [a1] at hb; cases hb), fun hb => by (rw [a2] at hb; cases hb)⟩
mutual
theorem ok_check : ∀ (c : CT) (d : Int), check c d = 0 → okC c
  | .mk h l, d, hc => by
    rw [okC]
    rw [check] at hc
    by_cases c1 : 3 < max d 1
    · rw [if_pos c1] at hc; omega
    rw [if_neg c1] at hc
    by_cases c2 : h.k = 3
    · rw [if_pos c2] at hc
      by_cases c3 : headNone h = false
      · rw [if_pos c3] at hc; omega
      rw [if_neg c3] at hc
      by_cases c4 : l.length = 0
      · rw [if_pos c4] at hc; omega
      rw [if_neg c4] at hc
      exact ⟨okH_none (by simpa using c3), ok_checkL l _ hc⟩
    · rw [if_neg c2] at hc
      by_cases c3 : h.k ≠ 1 ∧ h.k ≠ 2
      · rw [if_pos c3] at hc; omega
      rw [if_neg c3] at hc
      by_cases c4 : headOk h = false ∨ 0 < l.length
      · rw [if_pos c4] at hc; omega
      have hl : l = [] := List.eq_nil_of_length_eq_zero (by omega)
      subst hl
      refine ⟨okH_head ?_, by rw [okCL]; trivial⟩
      cases e : headOk h with
      | true => rfl
      | false => exact absurd (.inl e) c4
theorem ok_checkL : ∀ (l : List CT) (d : Int), checkL l d = 0 → okCL l
  | [], _, _ => by rw [okCL]; trivial
  | c :: t, d, hc => by
    rw [checkL] at hc
    rw [okCL]
    by_cases h : check c d = 0
    · rw [if_pos h] at hc
      exact ⟨ok_check c d h, ok_checkL t d hc⟩
    · rw [if_neg h] at hc; exact absurd hc h
end
theorem ok_all : ∀ {l : List CT}, (∀ c ∈ l, check c 1 = 0) → okCL l
  | [], _ => by rw [okCL]; trivial
  | c :: t, h => by rw [okCL]; exact ⟨ok_check c 1 (h c (by simp)), ok_all (fun x hx => h x (by simp [hx]))⟩
theorem tnV_inj {y : Int} {b : Bool} {n m : Int} (hn : okV b n) (hm : okV b m) : tnV y b n = tnV y b m ↔ n = m := by
  cases b with
  | false => simp [tnV]
  | true =>
    have h1 := hn rfl
    have h2 := hm rfl
    simp only [tnV, if_true]
    omega
theorem tnH_v (y : Int) (h : Hd) (f : Nat) : vF (tnH y h) f = vF h f := by
  match f with
  | 0 => rfl
  | 1 => rfl
  | _ + 2 => rfl
theorem tnH_n (y : Int) (h : Hd) (f : Nat) : nF (tnH y h) f = tnV y (vF h f) (nF h f) := by
  match f with
  | 0 => rfl
  | 1 => rfl
  | _ + 2 => rfl
theorem okH_at {h : Hd} (e : okH h) (f : Nat) : okV (vF h f) (nF h f) := by
  match f with
  | 0 => exact e.1
  | 1 => exact e.2.1
  | _ + 2 => exact e.2.2
theorem tn_sameF {y : Int} {h : Hd} (e : okH h) (g f : Nat) : sameF (tnH y h) g f = sameF h g f := by
  unfold sameF
  rw [tnH_v, tnH_v, tnH_n, tnH_n]
  by_cases hv : vF h g = vF h f
  · have h1 := okH_at e g
    have h2 := okH_at e f
    rw [hv] at h1 ⊢
    simp only [tnV_inj h1 h2]
  · rw [decide_eq_false hv, Bool.false_and, Bool.false_and]
theorem tn_dupF {y : Int} {h : Hd} (e : okH h) (f : Nat) : dupF (tnH y h) f = dupF h f := by
  unfold dupF
  rw [tn_sameF e, tn_sameF e]
theorem tn_firstF {y : Int} {h : Hd} {v : Int} (e : okH h) (hv : okV true v) : firstF (tnH y h) (tnV y true v) = firstF h v := by
  have f : ∀ b n, okV b n → ((b = true ∧ tnV y b n = tnV y true v) ↔ (b = true ∧ n = v)) := by
    intro b n hn
    constructor
    · rintro ⟨rfl, h2⟩; exact ⟨rfl, (tnV_inj hn hv).1 h2⟩
    · rintro ⟨rfl, h2⟩; exact ⟨rfl, (tnV_inj hn hv).2 h2⟩
  unfold firstF
  have h0 := f _ _ e.1
  have h1 := f _ _ e.2.1
  have h2 := f _ _ e.2.2
  simp only [tnH, h0, h1, h2]
theorem tn_bound {y : Int} {v : Int} (hv : okV true v) : ∀ {l : List CT} {b : Int}, okCL l → bound (tnV y true v) (tnL y l) b = bound v l b
  | [], _, _ => rfl
  | .mk h s :: t, b, e => by
    rw [okCL, okC] at e
    rw [tnL, tn, bound, bound]
    have h1 : (CT.mk (tnH y h) (tnL y s)).h = tnH y h := rfl
    have h2 : (CT.mk h s).h = h := rfl
    rw [h1, h2, tn_firstF e.1.1 hv, tn_bound hv e.2, tn_bound hv e.2]
    rfl
theorem tn_testF {y : Int} {ch : List CT} {h : Hd} (hc : okCL ch) (e : okH h) (f : Nat) : testF (tnL y ch) (tnH y h) f = testF ch h f := by
  unfold testF
  rw [tnH_v, tnH_n, tn_dupF e]
  by_cases hv : vF h f = true
  · have h1 := okH_at e f
    rw [hv] at h1 ⊢
    rw [tn_bound h1 hc]
  · rw [if_neg hv, if_neg hv]
theorem tn_testsTo {y : Int} {ch : List CT} {h : Hd} (hc : okCL ch) (e : okH h) : ∀ f, testsTo (tnL y ch) (tnH y h) f = testsTo ch h f
  | 0 => rfl
  | f + 1 => by rw [testsTo, testsTo, tn_testsTo hc e f, tn_testF hc e]
theorem tn_keyTo (y : Int) (h : Hd) (f i : Nat) : keyTo (tnH y h) f i = keyTo h f i := by
  unfold keyTo
  rw [tnH_v, tnH_n]
  by_cases hv : i < f ∧ vF h i = false
  · rw [if_pos hv, if_pos hv, hv.2]; simp [tnV]
  · rw [if_neg hv, if_neg hv]
mutual
theorem tn_step {y : Int} : ∀ (c : CT) (ch : List CT), okCL ch → okC c → stepOf (tnL y ch) (tn y c) = stepOf ch c
  | .mk h l, ch, hc, e => by
    rw [okC] at e
    rw [tn, stepOf, stepOf]
    have hk : (tnH y h).k = h.k := rfl
    rw [hk, tn_steps l ch hc e.2, tn_keyTo, tn_keyTo, tn_keyTo, tn_testsTo hc e.1]
theorem tn_steps {y : Int} : ∀ (l ch : List CT), okCL ch → okCL l → stepsOf (tnL y ch) (tnL y l) = stepsOf ch l
  | [], _, _, _ => by rw [tnL, stepsOf, stepsOf]
  | c :: t, ch, hc, e => by
    rw [okCL] at e
    rw [tnL, stepsOf, stepsOf, tn_step c ch hc e.1]
    have h1 : tnL y ch ++ [tn y c] = tnL y (ch ++ [c]) := by rw [tnL_append]; simp [tnL]
    rw [h1, tn_steps t (ch ++ [c]) (okCL_append hc (by rw [okCL]; exact ⟨e.1, by rw [okCL]; trivial⟩)) e.2]
end
/-- Conditions with other names have the same steps. -/
theorem tn_same {y : Int} {l : List CT} (h : ∀ c ∈ l, check c 1 = 0) : stepsOf [] (tnL y l) = stepsOf [] l := tn_steps (y := y) l [] (by rw [okCL]; trivial) (ok_all h)
theorem okCL_at {rs : List (CT × Value)} {k : Nat} (h : okCL (rs.map Prod.fst)) (hk : k < rs.length) : okC (rs.getD k d0).1 := okCL_mem h (List.mem_map.2 ⟨_, getD_mem hk, rfl⟩)
theorem okV_r {b : Bool} {n : Int} (h : okV b n) (hb : b = true) : 1 ≤ n ∧ n ≤ 32 := h hb
end Go.Gx.T8
namespace Go.Gx.T8
open Go.Gx Go.Gx.T3 Go.Gx.T4
/-- A name, when the first f terms are turned. -/
def tnF (y : Int) (h : Hd) (f i : Nat) : Int := if i < f then tnV y (vF h i) (nF h i) else nF h i
theorem tnF_set {y : Int} {h : Hd} {f : Nat} (hv : vF h f = true) : tnF y h (f + 1) f = (nF h f - 1 + y) % 32 + 1 := by
  unfold tnF tnV
  rw [if_pos (by omega), if_pos hv]
theorem tnF_not {y : Int} {h : Hd} {f : Nat} (hv : vF h f = false) : tnF y h (f + 1) f = tnF y h f f := by
  unfold tnF tnV
  rw [if_pos (Nat.lt_succ_self f), if_neg (by rw [hv]; decide), if_neg (Nat.lt_irrefl f)]
theorem tnF_else {y : Int} {h : Hd} {f i : Nat} (hi : i ≠ f) : tnF y h (f + 1) i = tnF y h f i := by
  unfold tnF
  by_cases e : i < f
  · rw [if_pos e, if_pos (by omega)]
  · rw [if_neg e, if_neg (by omega)]
end Go.Gx.T8

/- Plain laws of names and symbols; no program in sight. -/
namespace Go.Gx.T1
open Go.Gx

def okb (n : Nat) : Bool := decide ((97 ≤ n ∧ n ≤ 122) ∨ (65 ≤ n ∧ n ≤ 90) ∨ (48 ≤ n ∧ n ≤ 57) ∨ n = 45 ∨ n = 95)
def okTo (s : ByteArray) (k : Nat) : Prop := ∀ i, i < k → okb (byteAt s i) = true
theorem okTo_zero (s : ByteArray) : okTo s 0 := fun _ h => by omega
theorem okTo_succ {s : ByteArray} {k : Nat} (h : okTo s k) (hk : okb (byteAt s k) = true) : okTo s (k + 1) := fun i hi => by
  by_cases e : i = k
  · subst e; exact hk
  · exact h i (by omega)
instance (s : ByteArray) (k : Nat) : Decidable (okTo s k) := Nat.decidableBallLT k (fun i _ => okb (byteAt s i) = true)
def symRight (s : ByteArray) : Bool := decide ((1 ≤ s.size ∧ s.size ≤ 32) ∧ okTo s s.size)
theorem symRight_yes {s : ByteArray} (h : 1 ≤ s.size ∧ s.size ≤ 32) (h2 : okTo s s.size) : symRight s = true := decide_eq_true ⟨h, h2⟩
theorem symRight_size {s : ByteArray} (h : ¬ (1 ≤ s.size ∧ s.size ≤ 32)) : symRight s = false := decide_eq_false (fun h2 => h h2.1)
theorem symRight_bad {s : ByteArray} {k : Nat} (hk : k < s.size) (h : okb (byteAt s k) = false) : symRight s = false := decide_eq_false (fun h2 => by
  have := h2.2 k hk
  rw [h] at this; cases this)

/-- A rune of the set is its byte. -/
theorem decode_ok {s : ByteArray} {p : Nat} (h : okb (Utf8.decode s p).1 = true) : okb (byteAt s p) = true ∧ (Utf8.decode s p).2 = 1 := by
  have h1 : (Utf8.decode s p).1 < 128 := by simp [okb] at h; omega
  have h2 := (decode_small s p).1.1 h1
  have h3 := (decode_small s p).2 h2
  rw [h3] at h ⊢
  exact ⟨h, rfl⟩
theorem decode_bad {s : ByteArray} {p : Nat} (h : okb (Utf8.decode s p).1 = false) : okb (byteAt s p) = false := by
  by_cases h2 : byteAt s p < 128
  · have h3 := (decode_small s p).2 h2
    rw [h3] at h
    exact h
  · simp [okb]; omega

def sc (s : ByteArray) : List Value := [.string s]

/-- The place of s, from 1 on; 0: it isn't there. -/
def fnd : List ByteArray → ByteArray → Nat → Nat
  | [], _, _ => 0
  | x :: t, s, i => if x = s then i + 1 else fnd t s (i + 1)

def ix : List ByteArray → Nat → List (ByteArray × Int)
  | [], _ => []
  | x :: t, i => (x, ((i + 1 : Nat) : Int)) :: ix t (i + 1)

theorem lkp_ix (s : ByteArray) : ∀ (l : List ByteArray) (i : Nat), (lkp (ix l i) s).getD 0 = ((fnd l s i : Nat) : Int) ∧ (lkp (ix l i) s).isSome = decide (0 < fnd l s i)
  | [], _ => ⟨rfl, rfl⟩
  | x :: t, i => by
    simp only [ix, lkp, fnd]
    by_cases h : x = s
    · simp [h]
    · simp only [h, if_false]; exact lkp_ix s t (i + 1)

theorem ix_snoc (s : ByteArray) : ∀ (l : List ByteArray) (i : Nat), ix (l ++ [s]) i = ix l i ++ [(s, ((i + l.length + 1 : Nat) : Int))]
  | [], i => rfl
  | x :: t, i => by
    simp only [List.cons_append, ix, ix_snoc s t (i + 1), List.length_cons]
    congr 4
    omega

theorem ix_put {l : List ByteArray} {s : ByteArray} (h : fnd l s 0 = 0) : mput (ix l 0) s ((l.length + 1 : Nat) : Int) = ix (l ++ [s]) 0 := by
  have h1 := (lkp_ix s l 0).2
  rw [h] at h1
  have h2 : lkp (ix l 0) s = none := by simpa using h1
  rw [mput_none h2, ix_snoc]
  simp

theorem fnd_le (s : ByteArray) : ∀ (l : List ByteArray) (i : Nat), fnd l s i ≤ i + l.length ∧ (fnd l s i ≠ 0 → i < fnd l s i)
  | [], i => by simp [fnd]
  | x :: t, i => by
    simp only [fnd, List.length_cons]
    split
    · omega
    · have := fnd_le s t (i + 1)
      omega

/-- Find, round by round. -/
theorem fnd_drop {l : List ByteArray} {s e : ByteArray} {k : Nat} (h : k < l.length) : fnd (l.drop k) s k = if l.getD k e = s then k + 1 else fnd (l.drop (k + 1)) s (k + 1) := by
  have h1 : l.drop k = l.getD k e :: l.drop (k + 1) := by
    rw [List.drop_eq_getElem_cons h]; simp [List.getD, h]
  rw [h1, fnd]

/-- Intern: the list behind it, the symbol, the error. -/
def intern (l : List ByteArray) (s : ByteArray) : List ByteArray × Nat × Nat :=
  if symRight s = true then (if 0 < fnd l s 0 then (l, fnd l s 0, 0) else if 4096 ≤ l.length then (l, 0, 15) else (l ++ [s], l.length + 1, 0)) else (l, 0, 1)

theorem intern_1 {l : List ByteArray} {s : ByteArray} (h : symRight s = false) : intern l s = (l, 0, 1) := by unfold intern; rw [if_neg (by rw [h]; simp)]
theorem intern_2 {l : List ByteArray} {s : ByteArray} (h : symRight s = true) (h2 : 0 < fnd l s 0) : intern l s = (l, fnd l s 0, 0) := by unfold intern; rw [if_pos h, if_pos h2]
theorem intern_3 {l : List ByteArray} {s : ByteArray} (h : symRight s = true) (h2 : ¬ 0 < fnd l s 0) (h3 : 4096 ≤ l.length) : intern l s = (l, 0, 15) := by unfold intern; rw [if_pos h, if_neg h2, if_pos h3]
theorem intern_4 {l : List ByteArray} {s : ByteArray} (h : symRight s = true) (h2 : ¬ 0 < fnd l s 0) (h3 : l.length < 4096) : intern l s = (l ++ [s], l.length + 1, 0) := by unfold intern; rw [if_pos h, if_neg h2, if_neg (by omega)]

def nameAt (l : List ByteArray) (n : Int) : ByteArray := if 1 ≤ n ∧ n ≤ (l.length : Int) then l.getD (n - 1).toNat .empty else .empty
theorem nameAt_no {l : List ByteArray} {n : Int} (h : ¬ (1 ≤ n ∧ n ≤ (l.length : Int))) : nameAt l n = .empty := if_neg h
theorem nameAt_yes {l : List ByteArray} {i : Nat} (h : i < l.length) : nameAt l ((i : Int) + 1) = l.getD i .empty := by
  unfold nameAt
  rw [if_pos (by omega)]
  congr 1
  omega

theorem intern_len (l : List ByteArray) (s : ByteArray) : (intern l s).1.length ≤ l.length + 1 := by
  unfold intern; repeat' split
  all_goals simp
theorem nameAt_at {l : List ByteArray} {j : Nat} (h1 : 1 ≤ (j : Int) - 1) (h2 : (j : Int) - 1 ≤ l.length) : nameAt l ((j : Int) - 1) = l.getD (j - 2) .empty := by
  have := nameAt_yes (l := l) (i := j - 2) (by omega)
  rw [← this]
  congr 1
  omega

/-- What was interned and is remembered: symbol and name. -/
structure Had (h : List (Int × ByteArray)) (l : List ByteArray) : Prop where
  nodup : (h.map (·.1)).Nodup
  at_ : ∀ n s, lkp h n = some s ↔ (1 ≤ n ∧ n ≤ (l.length : Int)) ∧ l.getD (n - 1).toNat .empty = s
  len : h.length = l.length
  uniq : ∀ i, i < l.length → fnd l (l.getD i .empty) 0 = i + 1

theorem Had.nil : Had [] [] := ⟨by simp, fun n s => by simp [lkp]; omega, rfl, fun i h => by simp at h⟩

theorem fnd_snoc (s x : ByteArray) : ∀ (l : List ByteArray) (i : Nat), fnd (l ++ [x]) s i = if fnd l s i = 0 then (if x = s then i + l.length + 1 else 0) else fnd l s i
  | [], i => by simp [fnd]
  | y :: t, i => by
    simp only [List.cons_append, fnd]
    by_cases h : y = s
    · simp [h]
    · simp only [h, if_false, fnd_snoc s x t (i + 1), List.length_cons]
      congr 2
      omega

theorem fnd_getD {l : List ByteArray} {s : ByteArray} : ∀ {i : Nat}, fnd l s i ≠ 0 → l.getD (fnd l s i - i - 1) .empty = s := by
  induction l with
  | nil => intro i h; simp [fnd] at h
  | cons x t ih =>
    intro i h
    simp only [fnd] at h ⊢
    by_cases hx : x = s
    · simp [hx]
    · simp only [hx, if_false] at h ⊢
      have h1 := ih h
      have h2 := (fnd_le s t (i + 1)).2 h
      have e : fnd t s (i + 1) - i - 1 = (fnd t s (i + 1) - (i + 1) - 1) + 1 := by omega
      rw [e, List.getD_cons_succ]
      exact h1

/-- One more name. -/
theorem Had.new {h : List (Int × ByteArray)} {l : List ByteArray} {s : ByteArray} (H : Had h l) (hf : ¬ 0 < fnd l s 0) : lkp h ((l.length + 1 : Nat) : Int) = none ∧ Had (mput h ((l.length + 1 : Nat) : Int) s) (l ++ [s]) := by
  have hno : lkp h ((l.length + 1 : Nat) : Int) = none := by
    cases e : lkp h ((l.length + 1 : Nat) : Int) with
    | none => rfl
    | some u => have := (H.at_ _ _).1 e; omega
  refine ⟨hno, mput_nodup H.nodup _ _, fun n u => ?_, by rw [mput_none hno]; simp [H.len], fun i hi => ?_⟩
  · rw [lkp_mput]
    by_cases hn : ((l.length + 1 : Nat) : Int) = n
    · subst hn
      have e1 : (((l.length + 1 : Nat) : Int) - 1).toNat = l.length := by omega
      rw [if_pos rfl, e1]
      simp [List.getD]
      omega
    · rw [if_neg hn, H.at_]
      have key : (1 ≤ n ∧ n ≤ (l.length : Int)) → (l ++ [s]).getD (n - 1).toNat .empty = l.getD (n - 1).toNat .empty := fun h1 => by
        simp only [List.getD]
        rw [List.getElem?_append_left (by omega)]
      constructor
      · rintro ⟨h1, h2⟩
        exact ⟨⟨h1.1, by simp; omega⟩, by rw [key h1]; exact h2⟩
      · rintro ⟨h1, h2⟩
        have h3 : 1 ≤ n ∧ n ≤ (l.length : Int) := ⟨h1.1, by have := h1.2; simp at this; omega⟩
        exact ⟨h3, by rw [← key h3]; exact h2⟩
  · rw [fnd_snoc]
    simp at hi
    by_cases hl : i < l.length
    · have e1 : (l ++ [s]).getD i .empty = l.getD i .empty := by
        simp only [List.getD]; rw [List.getElem?_append_left hl]
      rw [e1, H.uniq i hl, if_neg (by omega)]
    · have e1 : i = l.length := by omega
      subst e1
      have e2 : (l ++ [s]).getD l.length .empty = s := by simp [List.getD]
      rw [e2, if_pos (by omega), if_pos rfl]; omega

/-- A name that is there. -/
theorem Had.old {h : List (Int × ByteArray)} {l : List ByteArray} {s : ByteArray} (H : Had h l) (hf : 0 < fnd l s 0) : lkp h ((fnd l s 0 : Nat) : Int) = some s ∧ mput h ((fnd l s 0 : Nat) : Int) s = h := by
  have h1 := fnd_le s l 0
  have h2 : lkp h ((fnd l s 0 : Nat) : Int) = some s := by
    rw [H.at_]
    refine ⟨⟨by omega, by omega⟩, ?_⟩
    have := fnd_getD (l := l) (s := s) (i := 0) (by omega)
    have e : (((fnd l s 0 : Nat) : Int) - 1).toNat = fnd l s 0 - 0 - 1 := by omega
    rw [e]; exact this
  exact ⟨h2, mput_same h2⟩

/-- What is remembered is found by both ways. -/
theorem Had.says {h : List (Int × ByteArray)} {l : List ByteArray} (H : Had h l) {p : Int × ByteArray} (hp : p ∈ h) : ((fnd l p.2 0 : Nat) : Int) = p.1 ∧ (1 ≤ p.1 ∧ p.1 ≤ (l.length : Int)) ∧ nameAt l p.1 = p.2 := by
  have h1 := (H.at_ p.1 p.2).1 (lkp_mem H.nodup hp)
  obtain ⟨h2, h3⟩ := h1
  have h4 := H.uniq (p.1 - 1).toNat (by omega)
  rw [h3] at h4
  refine ⟨by omega, h2, ?_⟩
  unfold nameAt
  rw [if_pos h2, h3]

theorem intern_err {l : List ByteArray} {s : ByteArray} (h : ¬ (((intern l s).2.2 : Nat) : Int) = 0) : (intern l s).1 = l := by
  unfold intern at h ⊢
  repeat' split
  all_goals first | rfl | (exfalso; simp_all; done)
theorem Had.step {h : List (Int × ByteArray)} {l : List ByteArray} {s : ByteArray} (H : Had h l) (he : (((intern l s).2.2 : Nat) : Int) = 0) :
    Had (mput h (((intern l s).2.1 : Nat) : Int) s) (intern l s).1 ∧ ∀ x, lkp h (((intern l s).2.1 : Nat) : Int) = some x → x = s := by
  by_cases h1 : symRight s = true
  · by_cases h2 : 0 < fnd l s 0
    · rw [intern_2 h1 h2]
      obtain ⟨h3, h4⟩ := H.old h2
      simp only [h4]
      exact ⟨H, fun x hx => by rw [h3] at hx; cases hx; rfl⟩
    · by_cases h3 : 4096 ≤ l.length
      · rw [intern_3 h1 h2 h3] at he; simp at he
      · rw [intern_4 h1 h2 (by omega)]
        obtain ⟨h4, h5⟩ := H.new h2
        exact ⟨h5, fun x hx => by simp only at hx; rw [h4] at hx; cases hx⟩
  · rw [intern_1 (by simpa using h1)] at he; simp at he

end Go.Gx.T1

/- Plain laws of rules: what is wrong with one; the first conditions of one; names that are turned about; no program in sight. -/
namespace Go.Gx.T5
open Go.Gx Go.Gx.T1 Go.Gx.T3 Go.Gx.T4 Go.Gx.T8 Go.Gx.T6
def anyBad (l : List CT) : Bool := (List.range 32).any fun j => decide (out l (j + 1) = 1)
theorem anyBad_yes {l : List CT} {v : Nat} (h1 : 1 ≤ v) (h2 : v ≤ 32) (h : out l v = 1) : anyBad l = true := by
  refine List.any_eq_true.2 ⟨v - 1, List.mem_range.2 (by omega), ?_⟩
  rw [show v - 1 + 1 = v by omega]; exact decide_eq_true h
theorem anyBad_no {l : List CT} (h : ∀ v, 1 ≤ v → v < 33 → out l v ≠ 1) : anyBad l = false := by
  rw [anyBad, List.any_eq_false]
  intro j hj
  have := List.mem_range.1 hj
  simpa using h (j + 1) (by omega) (by omega)
theorem anyBad_ex {l : List CT} (h : anyBad l = true) : ∃ v, 1 ≤ v ∧ v ≤ 32 ∧ out l v = 1 := by
  obtain ⟨j, hj, h2⟩ := List.any_eq_true.1 h
  have := List.mem_range.1 hj
  exact ⟨j + 1, by omega, by omega, of_decide_eq_true h2⟩
/-- The error's number. -/
def ruleChk (s : ByteArray) (l : List CT) : Int := if symRight s = false then 1 else if l.length = 0 then 2 else if checkL l 1 ≠ 0 then checkL l 1 else if 16 < sizeL l then 7 else if anyBad l = true then 6 else 0
section
variable {s : ByteArray} {l : List CT}
theorem chk_name (h : symRight s = false) : ruleChk s l = 1 := by rw [ruleChk, if_pos h]
theorem chk_empty (h : symRight s = true) (h2 : l.length = 0) : ruleChk s l = 2 := by rw [ruleChk, if_neg (by rw [h]; decide), if_pos h2]
theorem chk_bad (h : symRight s = true) (h2 : ¬ l.length = 0) (h3 : checkL l 1 ≠ 0) : ruleChk s l = checkL l 1 := by rw [ruleChk, if_neg (by rw [h]; decide), if_neg h2, if_pos h3]
theorem chk_long (h : symRight s = true) (h2 : ¬ l.length = 0) (h3 : checkL l 1 = 0) (h4 : 16 < sizeL l) : ruleChk s l = 7 := by rw [ruleChk, if_neg (by rw [h]; decide), if_neg h2, if_neg (by rw [h3]; decide), if_pos h4]
theorem chk_scope (h : symRight s = true) (h2 : ¬ l.length = 0) (h3 : checkL l 1 = 0) (h4 : ¬ 16 < sizeL l) (h5 : anyBad l = true) : ruleChk s l = 6 := by rw [ruleChk, if_neg (by rw [h]; decide), if_neg h2, if_neg (by rw [h3]; decide), if_neg h4, if_pos h5]
theorem chk_ok (h : symRight s = true) (h2 : ¬ l.length = 0) (h3 : checkL l 1 = 0) (h4 : ¬ 16 < sizeL l) (h5 : anyBad l = false) : ruleChk s l = 0 := by rw [ruleChk, if_neg (by rw [h]; decide), if_neg h2, if_neg (by rw [h3]; decide), if_neg h4, if_neg (by rw [h5]; decide)]
theorem checkL_bounds : ∀ {l : List CT} {d : Int}, checkL l d = 0 → ∀ c ∈ l, check c d = 0
  | c :: t, d, h, x, hx => by
    have h2 := checkL_right h
    rcases List.mem_cons.1 hx with rfl | hx
    · exact h2.1
    · exact checkL_bounds h2.2 x hx
theorem checkL_all {d : Int} : ∀ {l : List CT}, (∀ c ∈ l, check c d = 0) → checkL l d = 0
  | [], _ => by rw [checkL]
  | c :: t, h => by rw [checkL, if_pos (h c (by simp))]; exact checkL_all (fun x hx => h x (by simp [hx]))
/-- A rule that is right. -/
theorem chk_zero (h : ruleChk s l = 0) : symRight s = true ∧ l.length ≠ 0 ∧ checkL l 1 = 0 ∧ sizeL l ≤ 16 ∧ anyBad l = false := by
  unfold ruleChk at h
  split at h
  · omega
  rename_i h1
  split at h
  · omega
  rename_i h2
  split at h
  · rename_i h3; exact absurd h h3
  rename_i h3
  split at h
  · omega
  rename_i h4
  split at h
  · omega
  rename_i h5
  exact ⟨by simpa using h1, h2, Decidable.not_not.1 h3, by omega, by simpa using h5⟩
end
/-! ### the first conditions -/
theorem hasL_take : ∀ {l : List CT} {n v : Nat}, hasL (l.take n) v = true → hasL l v = true
  | [], n, v, h => by simpa using h
  | c :: t, 0, v, h => by simp [hasL] at h
  | c :: t, n + 1, v, h => by
    rw [List.take_succ_cons, hasL, Bool.or_eq_true] at h
    rw [hasL, Bool.or_eq_true]
    exact h.imp id hasL_take
theorem out_take : ∀ {l : List CT} {n v : Nat}, out (l.take n) v = 1 → out l v = 1
  | [], n, v, h => by simpa using h
  | c :: t, 0, v, h => by simp [out] at h
  | c :: t, n + 1, v, h => by
    rw [List.take_succ_cons, out] at h
    rw [out]
    by_cases h1 : has c v = false
    · rw [if_pos h1] at h ⊢; exact out_take h
    rw [if_neg h1] at h ⊢
    by_cases h2 : c.h.k = 1
    · rw [if_pos h2] at h; omega
    rw [if_neg h2] at h ⊢
    by_cases h3 : hasL (t.take n) v = true
    · rw [if_pos (hasL_take h3)]
    rw [if_neg h3] at h
    by_cases h4 : hasL t v = true
    · rw [if_pos h4]
    rw [if_neg h4]; exact h
theorem chk_take {s : ByteArray} {l : List CT} {n : Nat} (h : ruleChk s l = 0) (hn : 1 ≤ n) : ruleChk s (l.take n) = 0 := by
  obtain ⟨h1, h2, h3, h4, h5⟩ := chk_zero h
  refine chk_ok h1 (by rw [List.length_take]; omega) (checkL_all fun c hc => checkL_bounds h3 c (List.mem_of_mem_take hc)) (by have := sizeL_take_le l n; omega) ?_
  cases e : anyBad (l.take n) with
  | false => rfl
  | true =>
    obtain ⟨v, a, b, c⟩ := anyBad_ex e
    rw [anyBad_yes a b (out_take c)] at h5; cases h5
/-! ### how many Pos -/
def posC (l : List CT) : Nat := l.countP fun c => decide (c.h.k = 1)
theorem posC_take {rs : List (CT × Value)} {k : Nat} (hk : k < rs.length) : posC ((rs.map Prod.fst).take (k + 1)) = posC ((rs.map Prod.fst).take k) + if (rs.getD k d0).1.h.k = 1 then 1 else 0 := by
  unfold posC
  rw [map_take (d := d0) hk, List.countP_append, List.countP_singleton]
  simp
theorem posC_le (l : List CT) : posC l ≤ l.length := List.countP_le_length
theorem posC_some (l : List CT) (n : Nat) : posC (l.take n) ≤ posC l := (List.take_sublist n l).countP_le
/-! ### names that are turned about; what is none stays -/
def tvV (y : Int) (b : Bool) (n : Int) : Int := if (b = true ∧ 1 ≤ n) ∧ n ≤ 32 then (n - 1 + y) % 32 + 1 else n
def tvH (y : Int) (h : Hd) : Hd := ⟨h.k, h.v0, tvV y h.v0 h.n0, h.v1, tvV y h.v1 h.n1, h.v2, tvV y h.v2 h.n2⟩
mutual
def tv (y : Int) : CT → CT
  | .mk h l => .mk (tvH y h) (tvL y l)
def tvL (y : Int) : List CT → List CT
  | [] => []
  | c :: t => tv y c :: tvL y t
end
theorem tv_eq (y : Int) (c : CT) : tv y c = .mk (tvH y c.h) (tvL y c.subs) := by cases c; rw [tv]; rfl
theorem tvL_append (y : Int) (a b : List CT) : tvL y (a ++ b) = tvL y a ++ tvL y b := by
  induction a with
  | nil => rfl
  | cons c t ih => simp [tvL, ih]
theorem tvL_take {y : Int} {rs : List (CT × Value)} {k : Nat} (hk : k < rs.length) : tvL y ((rs.map Prod.fst).take (k + 1)) = tvL y ((rs.map Prod.fst).take k) ++ [tv y (rs.getD k d0).1] := by
  rw [map_take (d := d0) hk, tvL_append]; simp [tvL]
theorem tvL_len (y : Int) : ∀ l : List CT, (tvL y l).length = l.length
  | [] => rfl
  | c :: t => by simp [tvL, tvL_len y t]
mutual
theorem tv_size (y : Int) : ∀ c : CT, size (tv y c) = size c
  | .mk h l => by rw [tv, size, size, tvL_size y l]
theorem tvL_size (y : Int) : ∀ l : List CT, sizeL (tvL y l) = sizeL l
  | [] => rfl
  | c :: t => by rw [tvL, sizeL, sizeL, tv_size y c, tvL_size y t]
end
def tvF (y : Int) (h : Hd) (f i : Nat) : Int := if i < f then tvV y (vF h i) (nF h i) else nF h i
theorem tvF_set {y : Int} {h : Hd} {f : Nat} (hv : (vF h f = true ∧ 1 ≤ nF h f) ∧ nF h f ≤ 32) : tvF y h (f + 1) f = (nF h f - 1 + y) % 32 + 1 := by
  unfold tvF tvV
  rw [if_pos (Nat.lt_succ_self f), if_pos hv]
theorem tvF_not {y : Int} {h : Hd} {f : Nat} (hv : ¬ ((vF h f = true ∧ 1 ≤ nF h f) ∧ nF h f ≤ 32)) : tvF y h (f + 1) f = tvF y h f f := by
  unfold tvF tvV
  rw [if_pos (Nat.lt_succ_self f), if_neg hv, if_neg (Nat.lt_irrefl f)]
theorem tvF_else {y : Int} {h : Hd} {f i : Nat} (hi : i ≠ f) : tvF y h (f + 1) i = tvF y h f i := by
  unfold tvF
  by_cases e : i < f
  · rw [if_pos e, if_pos (by omega)]
  · rw [if_neg e, if_neg (by omega)]
theorem tv_termRight (y : Int) (b : Bool) (n : Int) : termRight b (tvV y b n) = termRight b n := by
  unfold tvV
  split
  · rename_i h
    have hb := h.1.1
    subst hb
    have h2 := h.1.2
    simp only [termRight, if_true]
    exact decide_eq_decide.2 (by omega)
  · rfl
theorem tv_none (y : Int) (b : Bool) (n : Int) : (!b && decide (tvV y b n = 0)) = (!b && decide (n = 0)) := by
  cases b with
  | true => rfl
  | false => simp [tvV]
theorem tv_headOk (y : Int) (h : Hd) : headOk (tvH y h) = headOk h := by simp only [headOk, tvH, tv_termRight]
theorem tv_headNone (y : Int) (h : Hd) : headNone (tvH y h) = headNone h := by
  show (!h.v0 && decide (tvV y h.v0 h.n0 = 0) && (!h.v1 && decide (tvV y h.v1 h.n1 = 0)) && (!h.v2 && decide (tvV y h.v2 h.n2 = 0))) = (!h.v0 && decide (h.n0 = 0) && (!h.v1 && decide (h.n1 = 0)) && (!h.v2 && decide (h.n2 = 0)))
  rw [tv_none, tv_none, tv_none]
mutual
theorem tv_check (y : Int) : ∀ (c : CT) (d : Int), check (tv y c) d = check c d
  | .mk h l, d => by
    have hk : (tvH y h).k = h.k := rfl
    rw [tv, check, check, tv_headOk, tv_headNone, tv_checkL y l, tvL_len, hk]
theorem tv_checkL (y : Int) : ∀ (l : List CT) (d : Int), checkL (tvL y l) d = checkL l d
  | [], _ => by rw [tvL]
  | c :: t, d => by rw [tvL, checkL, checkL, tv_check y c, tv_checkL y t]
end
theorem tvH_ok {y : Int} {h : Hd} (e : okH h) : tvH y h = tnH y h := by
  have f : ∀ b n, okV b n → tvV y b n = tnV y b n := by
    intro b n hn
    unfold tvV tnV
    cases b with
    | false => simp
    | true => have := hn rfl; simp [this]
  unfold tvH tnH
  rw [f _ _ e.1, f _ _ e.2.1, f _ _ e.2.2]
mutual
theorem tv_ok {y : Int} : ∀ c : CT, okC c → tv y c = tn y c
  | .mk h l, e => by rw [okC] at e; rw [tv, tn, tvH_ok e.1, tvL_ok l e.2]
theorem tvL_ok {y : Int} : ∀ l : List CT, okCL l → tvL y l = tnL y l
  | [], _ => rfl
  | c :: t, e => by rw [okCL] at e; rw [tvL, tnL, tv_ok c e.1, tvL_ok t e.2]
end
/-- A name that is turned. -/
def tnN (y v : Nat) : Nat := (v - 1 + y) % 32 + 1
theorem owns_tn {y v : Nat} {b : Bool} {n : Int} (hn : okV b n) (hv : 1 ≤ v ∧ v ≤ 32) : owns b (tnV (y : Int) b n) (tnN y v) = owns b n v := by
  cases b with
  | false => simp [owns]
  | true =>
    have := hn rfl
    simp only [owns, tnV, tnN, if_true, Bool.true_and]
    exact decide_eq_decide.2 (by omega)
theorem ownTo_tn {y v : Nat} {h : Hd} (e : okH h) (hv : 1 ≤ v ∧ v ≤ 32) : ownTo (tnH y h).v0 (tnH y h).n0 (tnH y h).v1 (tnH y h).n1 (tnH y h).v2 (tnH y h).n2 (tnN y v) 3 = ownTo h.v0 h.n0 h.v1 h.n1 h.v2 h.n2 v 3 := by
  simp only [ownTo, tnH, owns_tn e.1 hv, owns_tn e.2.1 hv, owns_tn e.2.2 hv]
mutual
theorem has_tn {y v : Nat} (hv : 1 ≤ v ∧ v ≤ 32) : ∀ c : CT, okC c → has (tn y c) (tnN y v) = has c v
  | .mk h l, e => by
    rw [okC] at e
    have hk : (tnH (y : Int) h).k = h.k := rfl
    rw [tn, has, has, hasL_tn hv l e.2, ownTo_tn e.1 hv, hk]
theorem hasL_tn {y v : Nat} (hv : 1 ≤ v ∧ v ≤ 32) : ∀ l : List CT, okCL l → hasL (tnL y l) (tnN y v) = hasL l v
  | [], _ => rfl
  | c :: t, e => by rw [okCL] at e; rw [tnL, hasL, hasL, has_tn hv c e.1, hasL_tn hv t e.2]
end
mutual
theorem out1_tn {y v : Nat} (hv : 1 ≤ v ∧ v ≤ 32) : ∀ c : CT, okC c → out1 (tn y c) (tnN y v) = out1 c v
  | .mk h l, e => by rw [okC] at e; rw [tn, out1, out1, out_tn hv l e.2]
theorem out_tn {y v : Nat} (hv : 1 ≤ v ∧ v ≤ 32) : ∀ l : List CT, okCL l → out (tnL y l) (tnN y v) = out l v
  | [], _ => rfl
  | c :: t, e => by
    rw [okCL] at e
    have hk : (tn (y : Int) c).h.k = c.h.k := by rw [tn_eq]; rfl
    rw [tnL, out, out, has_tn hv c e.1, out_tn hv t e.2, hasL_tn hv t e.2, out1_tn hv c e.1, hk]
end
theorem anyBad_tn {y : Nat} {l : List CT} (h : okCL l) : anyBad (tnL y l) = anyBad l := by
  cases e : anyBad l with
  | true =>
    obtain ⟨v, a, b, c⟩ := anyBad_ex e
    refine anyBad_yes (v := tnN y v) (by unfold tnN; omega) (by unfold tnN; omega) ?_
    rw [out_tn ⟨a, b⟩ l h]; exact c
  | false =>
    refine anyBad_no fun u hu1 hu2 hx => ?_
    have hv : ∃ v, 1 ≤ v ∧ v ≤ 32 ∧ tnN y v = u := ⟨(u - 1 + (32 - y % 32)) % 32 + 1, by omega, by omega, by unfold tnN; omega⟩
    obtain ⟨v, a, b, rfl⟩ := hv
    rw [out_tn ⟨a, b⟩ l h] at hx
    rw [anyBad_yes a b hx] at e; cases e
theorem chk_tv {y : Nat} {s : ByteArray} {l : List CT} : ruleChk s (tvL (y : Int) l) = ruleChk s l := by
  unfold ruleChk
  rw [tvL_len, tv_checkL, tvL_size]
  by_cases h : checkL l 1 = 0
  · have ho := ok_checkL l 1 h
    rw [tvL_ok l ho, anyBad_tn ho]
  · rw [if_pos h, if_pos h]
end Go.Gx.T5
namespace Go.Gx.T5
open Go.Gx Go.Gx.T1 Go.Gx.T3 Go.Gx.T4 Go.Gx.T8 Go.Gx.T6
abbrev termsL (h : Hd) : List TT := [(h.v0, h.n0), (h.v1, h.n1), (h.v2, h.n2)]
theorem terms_all {h : Hd} {k : Int} {sv : Value} {G : Ghost} {v : Value} (hv : SlG G v 3 2 (fun i j => at_ [Value.int .i64 k, Value.bool h.v0, Value.int .i64 h.n0, Value.bool h.v1, Value.int .i64 h.n1, Value.bool h.v2, Value.int .i64 h.n2, sv] (1 + (i * 2 + j)))) : SlL G v 2 tmC tt0 (termsL h) := by
  refine SlG.congr hv (fun i hi j hj => ?_)
  match i, hi, j, hj with
  | 0, _, 0, _ => rfl
  | 0, _, 1, _ => rfl
  | 1, _, 0, _ => rfl
  | 1, _, 1, _ => rfl
  | 2, _, 0, _ => rfl
  | 2, _, 1, _ => rfl
theorem terms_own {h : Hd} {v : Nat} : decide (0 ≤ idxF (sameT (true, ((v : Nat) : Int))) (termsL h) 0) = ownV h v := by
  have f : ∀ b n, sameT (true, ((v : Nat) : Int)) (b, n) = owns b n v := by
    intro b n
    rw [sameT_eq, owns]
    show (decide (true = b) && decide (((v : Nat) : Int) = n)) = _
    cases b with
    | false => simp
    | true => rw [decide_eq_true (rfl : true = true)]; congr 1; exact decide_eq_decide.2 eq_comm
  rw [idxF_any]
  simp only [List.any_cons, List.any_nil, Bool.or_false, ownV, ownTo, f, Bool.or_assoc]
/-- Ways with their values. -/
abbrev WyC (G : Ghost) (z : List (List Int × Value)) : Prop := ∀ q ∈ z, SlL G q.2 1 cI 0 q.1
theorem WyC.mono {G G' : Ghost} {z : List (List Int × Value)} (h : WyC G z) (hle : GLe G G') : WyC G' z := fun q hq => (h q hq).mono hle
theorem WyC.snoc {G : Ghost} {z : List (List Int × Value)} {v : Value} {l : List Int} (h : WyC G z) (hl : SlL G v 1 cI 0 l) : WyC G (z ++ [(l, v)]) := fun q hq => by
  rcases List.mem_append.1 hq with h1 | h1
  · exact h q h1
  · rw [List.mem_singleton.1 h1]; exact hl
theorem ways_nil (v : Nat) (way : List Int) : wysF [] v way = [] := by simp [wysF, wk]
theorem ways_len (l : List CT) (v : Nat) (way : List Int) : (wysF l v way).length ≤ sizeL l := by rw [wysF, List.length_map]; exact wk_len l v 0
theorem ways_ncc {rs : List (CT × Value)} {k v : Nat} {way : List Int} (hk : k < rs.length) (h : (rs.getD k d0).1.h.k = 3) : wysF ((rs.map Prod.fst).take (k + 1)) v way = wysF ((rs.map Prod.fst).take k) v way ++ wysF (rs.getD k d0).1.subs v (way ++ [((k : Nat) : Int)]) := by
  unfold wysF
  rw [wk_take hk, wk1_ncc h, List.map_append, List.map_map]
  congr 1
  refine List.map_congr_left fun p _ => ?_
  simp
theorem ways_own {rs : List (CT × Value)} {k v : Nat} {way : List Int} (hk : k < rs.length) (h : ¬ (rs.getD k d0).1.h.k = 3) (ho : ownV (rs.getD k d0).1.h v = true) : wysF ((rs.map Prod.fst).take (k + 1)) v way = wysF ((rs.map Prod.fst).take k) v way ++ [way ++ [((k : Nat) : Int)]] := by
  unfold wysF
  rw [wk_take hk, wk1_own h ho, List.map_append]; rfl
theorem ways_no {rs : List (CT × Value)} {k v : Nat} {way : List Int} (hk : k < rs.length) (h : ¬ (rs.getD k d0).1.h.k = 3) (ho : ownV (rs.getD k d0).1.h v = false) : wysF ((rs.map Prod.fst).take (k + 1)) v way = wysF ((rs.map Prod.fst).take k) v way := by
  unfold wysF
  rw [wk_take hk, wk1_none h ho, List.append_nil]
theorem sub_size5 {rs : List (CT × Value)} {k : Nat} (hk : k < rs.length) : SizeOf.sizeOf (rs.getD k d0).1.subs < SizeOf.sizeOf (rs.map Prod.fst) := by
  have h1 : (rs.getD k d0).1 ∈ rs.map Prod.fst := List.mem_map.2 ⟨_, getD_mem hk, rfl⟩
  have h2 := List.sizeOf_lt_of_mem h1
  have h3 := size_subs (rs.getD k d0).1
  omega
theorem ways0 (l : List CT) (v : Nat) : wysF l v [] = (wk l v 0).map Prod.fst := by unfold wysF; rfl
theorem all_not {α : Type} (f : α → Bool) (l : List α) : (!(l.any fun x => !(f x))) = l.all f := by
  induction l with
  | nil => rfl
  | cons a t ih => simp only [List.any_cons, List.all_cons, Bool.not_or, Bool.not_not, ih]
/-- Whether all are in the scope, of wysF with their values. -/
theorem inPl_ways {l : List CT} {v : Nat} {qs : List (List Int × Value)} {p : List Int × Int} {t : List (List Int × Int)} (h : wk l v 0 = p :: t) (hq : wysF l v [] = qs.map Prod.fst) : inPl (wk l v 0) = qs.all fun q => begins (scopeOf p) q.1 := by
  rw [ways0] at hq
  have h2 : (wk l v 0).all (fun q => begins (scopeOf p) q.1) = ((wk l v 0).map Prod.fst).all (fun w => begins (scopeOf p) w) := by rw [List.all_map]; rfl
  have h3 : (qs.all fun q => begins (scopeOf p) q.1) = (qs.map Prod.fst).all (fun w => begins (scopeOf p) w) := by rw [List.all_map]; rfl
  rw [h3, ← hq, ← h2, h]; rfl
theorem okW_next {c : CT} {wy : List Int} {k : Nat} (hk : k < wy.length) (h : okW c (wy.drop k)) : (0 ≤ wy.getD k 0 ∧ wy.getD k 0 < (c.subs.length : Int)) ∧ okW (c.subs.getD (wy.getD k 0).toNat d0.1) (wy.drop (k + 1)) := by
  have e : wy.drop k = wy.getD k 0 :: wy.drop (k + 1) := by rw [List.drop_eq_getElem_cons hk]; simp [List.getD, hk]
  rw [e, okW] at h
  exact h
theorem desc_next {c : CT} {wy : List Int} {k : Nat} (hk : k < wy.length) : desc c (wy.drop k) = desc (c.subs.getD (wy.getD k 0).toNat d0.1) (wy.drop (k + 1)) := by
  have e : wy.drop k = wy.getD k 0 :: wy.drop (k + 1) := by rw [List.drop_eq_getElem_cons hk]; simp [List.getD, hk]
  rw [e, desc]
theorem sub_at {c : CT} {rs : List (CT × Value)} {i : Nat} (hl : c.subs = rs.map Prod.fst) : c.subs.getD i d0.1 = (rs.getD i d0).1 := by
  rw [hl]
  simp only [List.getD, List.getElem?_map]
  cases rs[i]? <;> rfl
end Go.Gx.T5
namespace Go.Gx.T5
open Go.Gx Go.Gx.T1 Go.Gx.T3 Go.Gx.T4 Go.Gx.T8 Go.Gx.T6
abbrev es5 : List Int × Value := ([], .slice none 0 0)
theorem wk_cons {l : List CT} {v : Nat} {qs : List (List Int × Value)} (h : wysF l v [] = qs.map Prod.fst) (hq : 0 < qs.length) : ∃ p t, wk l v 0 = p :: t ∧ (qs.getD 0 es5).1 = p.1 := by
  rw [ways0] at h
  cases qs with
  | nil => simp at hq
  | cons q r =>
    cases e : wk l v 0 with
    | nil => rw [e] at h; simp at h
    | cons p t =>
      rw [e] at h
      simp only [List.map_cons, List.cons.injEq] at h
      exact ⟨p, t, rfl, h.1.symm⟩
theorem wk_empty {l : List CT} {v : Nat} {qs : List (List Int × Value)} (h : wysF l v [] = qs.map Prod.fst) (hq : qs.length = 0) : wk l v 0 = [] := by
  rw [ways0, List.eq_nil_of_length_eq_zero hq] at h
  simpa using h
theorem wk_first {l : List CT} {v : Nat} {p : List Int × Int} {t : List (List Int × Int)} (h : wk l v 0 = p :: t) : ∃ (j : Nat) (wy : List Int), p.1 = (j : Int) :: wy ∧ j < l.length ∧ okW (l.getD j d0.1) wy ∧ (desc (l.getD j d0.1) wy).h.k = p.2 := by
  obtain ⟨j, w, e, hj, h1, h2⟩ := wk_at l v 0 p (by rw [h]; simp)
  obtain ⟨i, rfl⟩ : ∃ i : Nat, j = (i : Int) := ⟨j.toNat, by omega⟩
  have e2 : ((i : Int) - 0).toNat = i := by omega
  rw [e2] at h1 h2
  exact ⟨i, w, e, by omega, h1, h2⟩
theorem scope_pos {p : List Int × Int} {j : Int} {wy : List Int} (hk : p.2 = 1) (h : p.1 = j :: wy) : scopeOf p = (j :: wy).take wy.length := by
  rw [scopeOf, if_pos hk, h, List.dropLast_eq_take]; simp
theorem scope_neg {p : List Int × Int} (hk : ¬ p.2 = 1) : scopeOf p = p.1 := by rw [scopeOf, if_neg hk]
theorem begins_not (sc w : List Int) : (decide ((w.length : Int) < sc.length) || !(decide (w.take sc.length = sc))) = !(begins sc w) := by
  have e : decide ((w.length : Int) < (sc.length : Int)) = !(decide (sc.length ≤ w.length)) := by
    rw [← decide_not]; exact decide_eq_decide.2 (by omega)
  rw [begins, Bool.not_and, e]
theorem checkL_at {rs : List (CT × Value)} {k : Nat} {d : Int} (hk : k < rs.length) (h : ∀ c ∈ (rs.map Prod.fst).take k, check c d = 0) (hb : check (rs.getD k d0).1 d ≠ 0) : checkL (rs.map Prod.fst) d = check (rs.getD k d0).1 d := by
  have e : rs.map Prod.fst = (rs.map Prod.fst).take k ++ ((rs.getD k d0).1 :: (rs.map Prod.fst).drop (k + 1)) := by
    rw [← map_drop (d := d0) hk, List.take_append_drop]
  rw [e]
  generalize (rs.map Prod.fst).take k = a at h
  induction a with
  | nil => exact checkL_no hb
  | cons x t ih => rw [List.cons_append, checkL_ok (h x (by simp))]; exact ih (fun c hc => h c (by simp [hc]))
theorem inPl_bad {l : List CT} {v : Nat} (h : checkL l 1 = 0) : inPl (wk l v 0) = decide (out l v ≠ 1) := inPl_out l v 0 (flat_of_checkL l 1 h) (kindsL_of l 1 h)
theorem bad_of {l : List CT} {v : Nat} (h : checkL l 1 = 0) (hb : inPl (wk l v 0) = false) : out l v = 1 := by
  rw [inPl_bad h] at hb
  exact Decidable.not_not.1 (of_decide_eq_false hb)
theorem good_of {l : List CT} {v : Nat} (h : checkL l 1 = 0) (hb : inPl (wk l v 0) = true) : out l v ≠ 1 := by
  rw [inPl_bad h] at hb
  exact of_decide_eq_true hb
section
variable {rs : List (CT × Value)} {k v : Nat}
theorem out_skip (hk : k < rs.length) (h : has (rs.getD k d0).1 v = false) : out ((rs.map Prod.fst).drop k) v = out ((rs.map Prod.fst).drop (k + 1)) v := by
  rw [map_drop (d := d0) hk, out, if_pos h]
theorem out_pos (hk : k < rs.length) (h : has (rs.getD k d0).1 v = true) (h1 : (rs.getD k d0).1.h.k = 1) : out ((rs.map Prod.fst).drop k) v = 2 := by
  rw [map_drop (d := d0) hk, out, if_neg (by rw [h]; decide), if_pos h1]
theorem out_rest (hk : k < rs.length) (h : has (rs.getD k d0).1 v = true) (h1 : ¬ (rs.getD k d0).1.h.k = 1) (h2 : hasL ((rs.map Prod.fst).drop (k + 1)) v = true) : out ((rs.map Prod.fst).drop k) v = 1 := by
  rw [map_drop (d := d0) hk, out, if_neg (by rw [h]; decide), if_neg h1, if_pos h2]
theorem out_in (hk : k < rs.length) (h : has (rs.getD k d0).1 v = true) (h1 : ¬ (rs.getD k d0).1.h.k = 1) (h2 : hasL ((rs.map Prod.fst).drop (k + 1)) v = false) (h3 : (rs.getD k d0).1.h.k = 3) (h4 : out (rs.getD k d0).1.subs v = 1) : out ((rs.map Prod.fst).drop k) v = 1 := by
  rw [map_drop (d := d0) hk, out, if_neg (by rw [h]; decide), if_neg h1, if_neg (by rw [h2]; decide), if_pos ⟨h3, by rw [out1_eq]; exact h4⟩]
theorem out_zero (hk : k < rs.length) (h : has (rs.getD k d0).1 v = true) (h1 : ¬ (rs.getD k d0).1.h.k = 1) (h2 : hasL ((rs.map Prod.fst).drop (k + 1)) v = false) (h3 : ¬ ((rs.getD k d0).1.h.k = 3 ∧ out (rs.getD k d0).1.subs v = 1)) : out ((rs.map Prod.fst).drop k) v = 0 := by
  rw [map_drop (d := d0) hk, out, if_neg (by rw [h]; decide), if_neg h1, if_neg (by rw [h2]; decide), if_neg (by rw [out1_eq]; exact h3)]
end
def fineR (s : ByteArray) (l : List CT) : Bool := (small 21 (.mk h0 l) 5 0).1 && decide ((s.size : Int) ≤ 200) && decide (ruleChk s l = 0)
theorem small_sz {m : Nat} {l : List CT} (h : (small m (.mk h0 l) 5 0).1 = true) : sizeL l ≤ m := by
  have := small_le h
  rw [size_eq] at this
  have e : (CT.mk h0 l).subs = l := rfl
  rw [e] at this; omega
end Go.Gx.T5
namespace Go.Gx.T5
open Go.Gx Go.Gx.T1 Go.Gx.T3 Go.Gx.T4 Go.Gx.T8 Go.Gx.T6
abbrev nmr : ByteArray := ⟨#[114]⟩
abbrev L52 : List CT := [.mk ⟨1, true, 1, false, 1, false, 2⟩ [], .mk ⟨2, true, 1, false, 3, true, 2⟩ []]
abbrev L53 : List CT := [.mk ⟨1, true, 1, false, 1, false, 2⟩ [], .mk ⟨2, true, 1, false, 3, true, 2⟩ [], .mk ⟨1, true, 2, false, 1, false, 4⟩ []]
theorem nmr_right : symRight nmr = true := by decide +kernel
theorem L53_chk : ruleChk nmr L53 = 6 := chk_scope nmr_right (by decide) (by decide +kernel) (by decide +kernel) (by decide +kernel)
theorem L52_chk : ruleChk nmr L52 = 0 := chk_ok nmr_right (by decide) (by decide +kernel) (by decide +kernel) (by decide +kernel)
theorem L52_ids : posC L52 = 1 := by decide +kernel
end Go.Gx.T5
namespace Go.Gx.T5
open Go.Gx Go.Gx.T1 Go.Gx.T3 Go.Gx.T4 Go.Gx.T8 Go.Gx.T6
theorem fine_yes {nm : ByteArray} {l : List CT} (h : fineR nm l = true) : sizeL l ≤ 21 ∧ ruleChk nm l = 0 := by
  unfold fineR at h
  rw [Bool.and_eq_true, Bool.and_eq_true] at h
  exact ⟨small_sz (m := 21) h.1.1, of_decide_eq_true h.2⟩
end Go.Gx.T5
