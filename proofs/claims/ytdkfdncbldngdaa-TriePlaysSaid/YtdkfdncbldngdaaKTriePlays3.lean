/- Texts of this work, laid together: a logic of steps, plain laws, and walks of Go functions, each without a condition but those that its theorems name. -/
import Derived.Test.YtdkfdncbldngdaaKTriePlays2
import Derived.Sort.Row
import Derived.Sort.Grow
import Derived.Shelf.Slices.CompactI
import Derived.Shelf.SlIterI.Nil
import Derived.Shelf.SlSortCmp.WholeK
import Derived.Test.YtdkfdncbldngdaaRows
import Derived.Shelf.SlSortCmp.NoneTotal
/-
  GX: a row of the call's own is sorted, or its runs are made one, by the library (whose contracts come in as premises). Generic in the program.
-/
namespace Go.Gx
open Go.RowKit Go.Sort

section
variable {α : Type} [Inhabited α]

theorem putRow_heap {enc : α → Value} {w : World} {g n : Nat} {d : Array α} {cur : Array Value} {E : TypeId} {fr : Nat × Nat} (hg : w.heap[g]? = some (.cells cur E fr)) : (putRow enc w g 0 d).heap[g]? = some (.cells (putCells enc 0 d cur) E fr) := by
  show (w.heap.modify g (onCells (putCells enc 0 d)))[g]? = _
  rw [Array.getElem?_modify, if_pos rfl, hg]
  rfl
theorem putRow_other {enc : α → Value} {w : World} {g k : Nat} {d : Array α} (h : k ≠ g) : (putRow enc w g 0 d).heap[k]? = w.heap[k]? := by
  simp [putRow, mapBlock, Array.getElem?_modify, Ne.symm h]

theorem putCells_take {enc : α → Value} {d : Array α} {cur : Array Value} {m : Nat} (hm : m ≤ d.size) (hc : d.size ≤ cur.size) : (putCells enc 0 d cur).toList.take m = ((d.toList.take m).map enc) := by
  apply List.ext_getElem?
  intro i
  by_cases hi : i < m
  · have h1 : i < cur.size := by omega
    have h2 : i < d.size := by omega
    simp [List.getElem?_take, hi, putCells, h1, h2]
  · simp [List.getElem?_take, hi]
end

theorem compact_le (zs : List Int) : (Lib.compact zs).length ≤ zs.length := by
  unfold Lib.compact Lib.compactUpTo
  rw [List.length_map]
  exact Nat.le_trans (List.length_filter_le _ _) (by simp)
abbrev sortI (zs : List Int) : List Int := zs.mergeSort fun x y => decide (x ≤ y)
abbrev cI (z : Int) : List Value := [.int .i64 z]

/-- The library's contract of slices.Sort at []int. -/
def SortC (P : Program) (f : FuncId) : Prop := ∀ (blk off cap : Nat) (zs : List Int) (w : World), Holds (Value.int .i64) w blk off zs.toArray → blk < w.heap.size → zs.length < 4611686018427387904 →
  Calls P f #[.slice (some ⟨blk, off, none⟩) zs.length cap] w fun e w' => e = .returned (.tuple #[]) ∧ ∃ n os, w' = grow (putRow (Value.int .i64) (Sort.ahead w n) blk off (sortI zs).toArray) os
def SortN (P : Program) (f : FuncId) : Prop := ∀ (p : Option Addr) (cap : Nat) (w : World), Calls P f #[.slice p 0 cap] w fun e w' => e = .returned (.tuple #[]) ∧ w' = w
/-- .. and of slices.Compact. -/
def CompC (P : Program) (f : FuncId) : Prop := ∀ (blk off cap : Nat) (zs : List Int) (w : World), Holds (Value.int .i64) w blk off zs.toArray → zs.length ≤ 9223372036854775807 → zs.length ≤ cap →
  Calls P f #[.slice (some ⟨blk, off, none⟩) zs.length cap] w fun e w' => e = .returned (.slice (some ⟨blk, off, none⟩) (Lib.compact zs).length cap) ∧ ∃ q, w' = putRow (Value.int .i64) (Sort.ahead w q) blk off (Lib.compact zs ++ List.replicate (zs.length - (Lib.compact zs).length) 0).toArray
def CompN (P : Program) (f : FuncId) : Prop := ∀ (a : Option Addr) (cap : Nat) (w : World), Calls P f #[.slice a 0 cap] w fun e w' => e = .returned (.slice a 0 cap) ∧ w' = w

theorem cells_ints (zs : List Int) : zs.flatMap cI = zs.map (Value.int .i64) := by
  induction zs with
  | nil => rfl
  | cons z t ih => simp [List.flatMap_cons, ih]

section
variable {P : Program} {ops : Array Oper} {Q : Exit → Act → World → Prop} {N : Nat} {X : Nat → Prop} {w0 : World} {G : Ghost} {l : List (Nat × Value)} {L : List Asrt}
variable {rest : List Oper} {d k n : Nat} {ty : TypeId} {pos : String} {after : Array Edge} {gd : Option (Nat × Bool)} {v : Value} {E : TypeId} {zs : List Int} {f : FuncId} {xs : List Operand} {ats : Array TypeId}

theorem own_holds {w : World} {g cap : Nat} {cur : Array Value} (hg : w.heap[g]? = some (.cells cur E (0, 0))) (hc : cur.size = cap) (hn : zs.length ≤ cap) (ht : cur.toList.take zs.length = zs.map (Value.int .i64)) : Holds (Value.int .i64) w g 0 zs.toArray := by
  intro j hj
  have hj' : j < zs.length := by simpa using hj
  constructor
  · rw [cell_of_row w g (0 + j) cur E (0, 0) hg, Nat.zero_add]
    have h1 := congrArg (fun l => l[j]?) ht
    simp [List.getElem?_take, hj'] at h1
    simp [h1, hj']
  · simp [World.frozen?, hg]

theorem own_after {w : World} {g cap q : Nat} {cur : Array Value} {os : Array Obj} {zs' : List Int} {m : Nat} (hg : w.heap[g]? = some (.cells cur E (0, 0))) (hc : cur.size = cap) (hcm : cap ≤ maxLen) (hz : zs'.length ≤ cap) (hm : m ≤ zs'.length) (hmm : m ≤ maxLen) :
    (rowA (.slice (some ⟨g, 0, none⟩) m cap) E 1 m ((zs'.take m).flatMap cI)).holds (grow (putRow (Value.int .i64) (Sort.ahead w q) g 0 zs'.toArray) os) (fun b => b = g) := by
  have hg' : (Sort.ahead w q).heap[g]? = some (.cells cur E (0, 0)) := hg
  have h1 := putRow_heap (enc := Value.int .i64) (n := 0) (d := zs'.toArray) hg'
  have hlt : g < (putRow (Value.int .i64) (Sort.ahead w q) g 0 zs'.toArray).heap.size := lt_of_heap h1
  refine ⟨⟨?_, .inr ⟨g, cap, putCells (Value.int .i64) 0 zs'.toArray cur, rfl, Nat.zero_le _, ?_, by omega, hcm, ?_, ?_⟩⟩, fun b => ⟨fun h => by subst h; rfl, fun h => by simp [Value.ownBlock] at h; exact h.symm⟩, hmm⟩
  · rw [cells_ints]; simp; omega
  · show ((putRow (Value.int .i64) (Sort.ahead w q) g 0 zs'.toArray).heap ++ os)[g]? = _
    rw [Array.getElem?_append_left hlt]; exact h1
  · simp [putCells, hc]
  · rw [Nat.mul_one, putCells_take (by simpa using hm) (by simp; omega), cells_ints]

theorem since_sort {w : World} {g q : Nat} {os : Array Obj} {zs' : List Int} {F : Nat → Prop} (hF : F g) : Since F w (grow (putRow (Value.int .i64) (Sort.ahead w q) g 0 zs'.toArray) os) := by
  refine ⟨rfl, rfl, rfl, ?_, fun b hb hx => ?_⟩
  · show w.heap.size ≤ (((putRow (Value.int .i64) (Sort.ahead w q) g 0 zs'.toArray).heap ++ os)).size
    have : (putRow (Value.int .i64) (Sort.ahead w q) g 0 zs'.toArray).heap.size = w.heap.size := by
      show (w.heap.modify g _).size = _
      simp
    rw [Array.size_append]; omega
  · have hne : b ≠ g := fun e => hx (e ▸ hF)
    show ((putRow (Value.int .i64) (Sort.ahead w q) g 0 zs'.toArray).heap ++ os)[b]? = _
    have hsz : (putRow (Value.int .i64) (Sort.ahead w q) g 0 zs'.toArray).heap.size = w.heap.size := by
      show (w.heap.modify g _).size = _
      simp
    rw [Array.getElem?_append_left (by omega), putRow_other hne]
    rfl

theorem r_sort (hw : Wt ops l gd) (hd : Nat.blt d N = true) (hf : Callable P f) (hv : evs l xs = some [v]) (hL : L[k]? = some (rowA v E 1 zs.length (zs.flatMap cI))) (hs : SortC P f) (hn : SortN P f) (hlen : zs.length < 4611686018427387904)
    (h : Runs P ops Q N X w0 G rest ((d, .tuple #[]) :: l) (L.set k (rowA v E 1 (sortI zs).length ((sortI zs).flatMap cI)))) : Runs P ops Q N X w0 G (⟨some d, .call ⟨.value (.func f), xs.toArray, ats⟩, ty, pos, after, gd⟩ :: rest) l L := by
  refine Runs.step hw (fun a w hS => ?_)
  show Oper.upon P _ a _ Q _
  rw [run_call hS.fr hv hf, Oper.upon_enter]
  obtain ⟨F, ⟨⟨hlen1, hown⟩, hF, hmax⟩, _, hput⟩ := hS.mem.take hL
  have hsl : (sortI zs).length = zs.length := List.length_mergeSort zs
  by_cases hz : zs.length = 0
  · have hz' : zs = [] := List.eq_nil_of_length_eq_zero hz
    subst hz'
    have e1 : (rowA v E 1 (sortI []).length ((sortI []).flatMap cI)) = rowA v E 1 ([] : List Int).length (([] : List Int).flatMap cI) := by simp [sortI]
    rw [e1, set_same hL] at h
    have hv2 : ∃ p c, v = .slice p 0 c := by
      rcases hown with ⟨rfl, _⟩ | ⟨g, cap, cur, rfl, _⟩
      · exact ⟨_, _, rfl⟩
      · exact ⟨_, _, rfl⟩
    obtain ⟨p, c, rfl⟩ := hv2
    refine (hn p c w).mono (fun e w' hR => ?_)
    obtain ⟨rfl, rfl⟩ := hR
    exact h _ _ ⟨hS.fr.put (by simpa using hd) _, hS.mem⟩
  · rcases hown with ⟨_, h0⟩ | ⟨g, cap, cur, rfl, _, hg, hnc, hcm, hcs, htk⟩
    · exact absurd h0 hz
    · have hcs' : cur.size = cap := by simpa using hcs
      have htk' : cur.toList.take zs.length = zs.map (Value.int .i64) := by rw [← cells_ints]; simpa using htk
      refine (hs g 0 cap zs w (own_holds hg hcs' hnc htk') (lt_of_heap hg) hlen).mono (fun e w' hR => ?_)
      obtain ⟨rfl, q, os, rfl⟩ := hR
      have hFg : F g := (hF g).2 rfl
      refine h _ _ ⟨hS.fr.put (by simpa using hd) _, hput _ _ (fun b => b = g) (since_sort hFg) ?_ (fun b hb => .inl (hb ▸ hFg))⟩
      have h2 := own_after (q := q) (os := os) (zs' := sortI zs) (m := zs.length) hg hcs' hcm (by omega) (by omega) (by omega)
      rw [List.take_of_length_le (by omega)] at h2
      rw [hsl]
      exact h2

theorem r_compact (hw : Wt ops l gd) (hd : Nat.blt d N = true) (hf : Callable P f) (hv : evs l xs = some [v]) (hL : L[k]? = some (rowA v E 1 zs.length (zs.flatMap cI))) (hs : CompC P f) (hn : CompN P f) (hle : (Lib.compact zs).length ≤ zs.length)
    (h : ∀ v', Runs P ops Q N X w0 G rest ((d, v') :: l) (L.set k (rowA v' E 1 (Lib.compact zs).length ((Lib.compact zs).flatMap cI)))) : Runs P ops Q N X w0 G (⟨some d, .call ⟨.value (.func f), xs.toArray, ats⟩, ty, pos, after, gd⟩ :: rest) l L := by
  refine Runs.step hw (fun a w hS => ?_)
  show Oper.upon P _ a _ Q _
  rw [run_call hS.fr hv hf, Oper.upon_enter]
  obtain ⟨F, ⟨⟨hlen1, hown⟩, hF, hmax⟩, _, hput⟩ := hS.mem.take hL
  by_cases hz : zs.length = 0
  · have hz' : zs = [] := List.eq_nil_of_length_eq_zero hz
    subst hz'
    have hc0 : Lib.compact ([] : List Int) = [] := List.eq_nil_of_length_eq_zero (by simpa using hle)
    have h' := h v
    rw [hc0, set_same hL] at h'
    have hv2 : ∃ p c, v = .slice p 0 c := by
      rcases hown with ⟨rfl, _⟩ | ⟨g, cap, cur, rfl, _⟩
      · exact ⟨_, _, rfl⟩
      · exact ⟨_, _, rfl⟩
    obtain ⟨p, c, rfl⟩ := hv2
    refine (hn p c w).mono (fun e w' hR => ?_)
    obtain ⟨rfl, rfl⟩ := hR
    exact h' _ _ ⟨hS.fr.put (by simpa using hd) _, hS.mem⟩
  · rcases hown with ⟨_, h0⟩ | ⟨g, cap, cur, rfl, _, hg, hnc, hcm, hcs, htk⟩
    · exact absurd h0 hz
    · have hcs' : cur.size = cap := by simpa using hcs
      have htk' : cur.toList.take zs.length = zs.map (Value.int .i64) := by rw [← cells_ints]; simpa using htk
      refine (hs g 0 cap zs w (own_holds hg hcs' hnc htk') (by simpa only [maxLen] using hmax) hnc).mono (fun e w' hR => ?_)
      obtain ⟨rfl, q, rfl⟩ := hR
      have hFg : F g := (hF g).2 rfl
      have e0 : ∀ W : World, W = grow W #[] := fun W => (grow_empty W).symm
      rw [e0 (putRow _ _ _ _ _)]
      refine h _ _ _ ⟨hS.fr.put (by simpa using hd) _, hput _ _ (fun b => b = g) (since_sort hFg) ?_ (fun b hb => .inl (hb ▸ hFg))⟩
      have h2 := own_after (q := q) (os := #[]) (zs' := Lib.compact zs ++ List.replicate (zs.length - (Lib.compact zs).length) 0) (m := (Lib.compact zs).length) hg hcs' hcm (by simp; omega) (by simp) (by simp only [maxLen] at *; omega)
      rw [List.take_left' rfl] at h2
      exact h2
end
end Go.Gx

/-
  GX: the keys of a map of the call's own, sorted by the library (its contracts come in as premises). Generic in the program.
-/
namespace Go.Gx
open Go.RowKit Go.Sort Go.Maps
open Go.WideElems (Fit rd rg)

theorem sortI_perm {l l' : List Int} (h : l.Perm l') : sortI l = sortI l' := by
  unfold sortI
  refine List.Perm.eq_of_pairwise (le := fun a b : Int => decide (a ≤ b) = true) (fun a b _ _ h1 h2 => ?_) (List.pairwise_mergeSort (by intro a b c; simp; omega) (by intro a b; simp; omega) l) (List.pairwise_mergeSort (by intro a b c; simp; omega) (by intro a b; simp; omega) l') (((List.mergeSort_perm l _).trans h).trans (List.mergeSort_perm l' _).symm)
  simp at h1 h2; omega

/-- How an element reads, where nothing is asked of it. -/
def R0 : Value → Option (DataW Unit × List MemPlace) := fun _ => some (.nil, [])

section
variable {ν : Type} {P : Program} {K : TypeId}
theorem ownsMap_of {w : World} {m : Nat} {ve : ν → Value} {l : List (Int × ν)} {es : Array MapEntry} {clock : Nat} (hM : MapIs w m kI ve l es clock) (hK : P.underlying K = some (.int .i64)) (hwf : ∀ p ∈ l, (Lit.int .i64 p.1).wf = true) (hsz : l.length ≤ maxLen) :
    ∃ D0 : DataW Unit, w.ownsMap P K R0 m l.length D0 ∧ (intKeys D0).Perm (l.map Prod.fst) ∧ Maps.size D0 = l.length := by
  have hlen : es.size = l.length := by have := congrArg List.length hM.eq; simpa using this
  have hmem : ∀ x ∈ es.toList, ∃ p ∈ l, x.key = .int .i64 p.1 := by
    intro x hx
    have h1 : kv x ∈ es.toList.map kv := List.mem_map.2 ⟨x, hx, rfl⟩
    rw [hM.eq] at h1
    obtain ⟨p, hp, e⟩ := List.mem_map.1 h1
    exact ⟨p, hp, by have := congrArg Prod.fst e; exact this.symm⟩
  have hrd : ∀ x ∈ es.toList, ∃ n : Int, x.key = .int .i64 n ∧ WideElems.rd (H := Unit) P K R0 x = some (.int .i64 n, .nil) := by
    intro x hx
    obtain ⟨p, hp, e⟩ := hmem x hx
    refine ⟨p.1, e, ?_⟩
    unfold WideElems.rd
    rw [e, keyOf_int_mk hK (hwf p hp)]
    rfl
  refine ⟨_, ⟨es, clock, hM.heap, ⟨by rw [hlen]; exact hsz, hM.st, fun x hx => by obtain ⟨n, _, h⟩ := hrd x hx; exact ⟨_, h⟩⟩, by omega, rfl⟩, ?_, ?_⟩
  · show (List.map (fun p : Lit × DataW Unit => intOf p.1) _).Perm _
    refine ((Go.WideShapes.sorted_perm _).map _).trans ?_
    rw [List.map_map]
    have e1 : es.toList.map ((fun p : Lit × DataW Unit => intOf p.1) ∘ rg P K R0) = (es.toList.map kv).map (fun q : Value × Value => match q.1 with | .int _ n => n | _ => 0) := by
      rw [List.map_map]
      refine List.map_congr_left fun x hx => ?_
      obtain ⟨n, h1, h2⟩ := hrd x hx
      simp only [Function.comp, rg, h2, Option.getD_some, kv, h1]
      rfl
    rw [e1, hM.eq, List.map_map]
    exact List.Perm.refl _
  · show (List.foldr DataW.insert [] _).length = _
    rw [(Go.WideShapes.sorted_perm _).length_eq]
    simpa using hlen
end

/-- slices.Sorted(maps.Keys(m)): the second call, of what the first one made. -/
def KeysC (P : Program) (f g : FuncId) (K : TypeId) : Prop := ∀ (Bm b nn : Nat) (D0 : DataW Unit) (w : World), w.cell? ⟨Bm, 0, none⟩ = some (.map (some b)) → Bm < w.heap.size → w.ownsMap P K R0 b nn D0 → Maps.size D0 ≤ maxLen → Maps.size D0 * 8 ≤ 140737488355328 →
  Calls P f #[.func (.func g) #[] #[.pointer (some ⟨Bm, 0, none⟩)]] w fun e w' => ∃ (v : Value) (ss : List Int), e = .returned v ∧ ss.Perm (intKeys D0) ∧ w'.ownsRow w.heap.size K 1 v ss.length ((ss.mergeSort fun x y => decide (x ≤ y)).map (Value.int .i64)) ∧ Below w.heap.size w w'

section
variable {P : Program} {ops : Array Oper} {Q : Exit → Act → World → Prop} {N : Nat} {X : Nat → Prop} {w0 : World} {G : Ghost} {l : List (Nat × Value)} {L : List Asrt} {ν : Type}
variable {rest : List Oper} {d i j m Bm : Nat} {ty : TypeId} {pos : String} {after : Array Edge} {gd : Option (Nat × Bool)} {K T : TypeId} {f g : FuncId} {x : Operand} {ats : Array TypeId} {ve : ν → Value} {mv : List (Int × ν)}

theorem Mem.add {w w' : World} {A : Asrt} {F' : Nat → Prop} (h : Mem X w0 G w L) (hs : Since nX w w') (hA : A.holds w' F') (hF : ∀ b, F' b → w.heap.size ≤ b) : Mem X w0 G w' (A :: L) := by
  have h1 := h.call hs
  refine ⟨h1.since, h1.has, F', hA, fun b hb => ⟨.inl (Nat.le_trans h.since.size (hF b hb)), h.has.fresh (hF b hb)⟩, ?_⟩
  refine Sep.keep (h.sep.mono (fun b hb hu => ⟨hu, fun hf => ?_⟩)) (fun b hb _ => hs.block b hb id)
  have := hF b hf
  omega

theorem r_sorted (hw : Wt ops l gd) (hd : Nat.blt d N = true) (hf : Callable P f) (hv : evs l [x] = some [.func (.func g) #[] #[.pointer (some ⟨Bm, 0, none⟩)]]) (hL1 : L[i]? = some (mapA m kI ve mv)) (hL2 : L[j]? = some (box Bm 1 T (at_ [.map (some m)])))
    (hc : KeysC P f g K) (hK : P.underlying K = some (.int .i64)) (hwf : ∀ p ∈ mv, (Lit.int .i64 p.1).wf = true) (hlen : mv.length * 8 ≤ 140737488355328)
    (h : ∀ v, Runs P ops Q N X w0 G rest ((d, v) :: l) (rowA v K 1 (sortI (mv.map Prod.fst)).length ((sortI (mv.map Prod.fst)).flatMap cI) :: L)) : Runs P ops Q N X w0 G (⟨some d, .call ⟨.value (.func f), #[x], ats⟩, ty, pos, after, gd⟩ :: rest) l L := by
  refine Runs.step hw (fun a w hS => ?_)
  show Oper.upon P _ a _ Q _
  have hm : mv.length ≤ maxLen := by simp only [maxLen]; omega
  rw [show (#[x] : Array Operand) = [x].toArray from rfl, run_call hS.fr hv hf, Oper.upon_enter]
  obtain ⟨F1, ⟨⟨es, clock, hM⟩, _⟩, _, _⟩ := hS.mem.take hL1
  obtain ⟨F2, ⟨⟨c, hc1, hc2⟩, _⟩, _, _⟩ := hS.mem.take hL2
  obtain ⟨D0, hown, hperm, hsize⟩ := ownsMap_of (P := P) (K := K) hM hK hwf hm
  have hcell : w.cell? ⟨Bm, 0, none⟩ = some (.map (some m)) := by
    rw [cell_of_row w Bm 0 c T (0, 0) hc1]; exact hc2.get 0 (by decide)
  refine (hc Bm m _ D0 w hcell (lt_of_heap hc1) hown (by omega) (by omega)).mono (fun e w' hR => ?_)
  obtain ⟨v, ss, rfl, hss, hrow, hb⟩ := hR
  have hs : Since nX w w' := ⟨hb.os, hb.tape, hb.output, hb.size, fun k hk _ => hb.block k hk⟩
  have e1 : (ss.mergeSort fun x y => decide (x ≤ y)) = sortI (mv.map Prod.fst) := sortI_perm (hss.trans hperm)
  have e2 : ss.length = (sortI (mv.map Prod.fst)).length := by rw [← e1]; exact (List.length_mergeSort ss).symm
  rw [e1, e2, ← cells_ints] at hrow
  have hl1 : (sortI (mv.map Prod.fst)).length ≤ maxLen := by
    have : (sortI (mv.map Prod.fst)).length = mv.length := by unfold sortI; rw [List.length_mergeSort]; simp
    omega
  obtain ⟨h1, h2⟩ := hrow
  refine h v _ _ ⟨hS.fr.put (by simpa using hd) _, hS.mem.add (F' := fun b => v.ownBlock = some b) hs ⟨⟨h1, ?_⟩, fun _ => Iff.rfl, hl1⟩ ?_⟩
  · rcases h2 with h2 | ⟨g', cap, cur, e, hb', r⟩
    · exact .inl h2
    · exact .inr ⟨g', cap, cur, e, Nat.zero_le _, r⟩
  · intro b hb'
    rcases h2 with ⟨rfl, _⟩ | ⟨g', cap, cur, rfl, hb2, _⟩
    · cases hb'
    · simp [Value.ownBlock] at hb'; omega
end
end Go.Gx

/-
  GX: a method that keeps (or changes) its object and hands back memory that stays. Generic in the program.
-/
namespace Go.Gx
open Go.RowKit

theorem Sep.takeU {w : World} : ∀ {L : List Asrt} {U : Nat → Prop} {k : Nat} {A : Asrt}, Sep w L U → L[k]? = some A →
    ∃ F, A.holds w F ∧ (∀ b, F b → U b) ∧
      ∀ (U' : Nat → Prop) (w' : World) (A' : Asrt) (F' : Nat → Prop), (∀ b, b < w.heap.size → U b → ¬ F b → U' b) → A'.holds w' F' → (∀ b, F' b → U' b ∧ (F b ∨ w.heap.size ≤ b)) →
        (∀ b, b < w.heap.size → U b → ¬ F b → w'.heap[b]? = w.heap[b]?) → Sep w' (L.set k A') U'
  | [], _, _, _, _, h => by simp at h
  | A :: L, U, 0, A', ⟨F, h, hs, hL⟩, e => by
    simp at e; subst e
    refine ⟨F, h, hs, fun U' w' A'' F' hu h' hF' hk => ⟨F', h', fun b hb => (hF' b hb).1, ?_⟩⟩
    have hL1 : Sep w L (fun b => (U b ∧ ¬ F b) ∧ (U' b ∧ ¬ F' b)) := Sep.mono hL (fun b hb hub => ⟨hub, hu b hb hub.1 hub.2, fun hf => by
      rcases (hF' b hf).2 with h1 | h1
      · exact hub.2 h1
      · omega⟩)
    have hL3 := Sep.keep (w' := w') hL1 (fun b hb hu => hk b hb hu.1.1 hu.1.2)
    exact Sep.mono hL3 (fun b _ hu => hu.2)
  | A :: L, U, k + 1, A', ⟨F, h, hs, hL⟩, e => by
    simp at e
    obtain ⟨G, hg, hgs, hput⟩ := Sep.takeU hL e
    refine ⟨G, hg, fun b hb => (hgs b hb).1, fun U' w' A'' F' hu h' hF' hk => ?_⟩
    refine ⟨F, A.frame h (fun b hb => hk b (A.dom h hb) (hs b hb) (fun hg' => (hgs b hg').2 hb)), fun b hb => hu b (A.dom h hb) (hs b hb) (fun hg' => (hgs b hg').2 hb), ?_⟩
    exact hput (fun b => U' b ∧ ¬ F b) w' A'' F' (fun b hb hub hng => ⟨hu b hb hub.1 hng, hub.2⟩) h' (fun b hb => by
      obtain ⟨h0, h1⟩ := hF' b hb
      refine ⟨⟨h0, fun hf => ?_⟩, h1⟩
      rcases h1 with h1 | h1
      · exact (hgs b h1).2 hf
      · have := A.dom h hf; omega) (fun b hb hu hg' => hk b hb hu.1 hg')

def KeptG (A : Asrt) (F : Nat → Prop) (G' : Ghost) (w w' : World) : Prop := Since F w w' ∧ ∃ F', A.holds w' F' ∧ (∀ b, F' b → F b ∨ w.heap.size ≤ b) ∧ ∀ b, F' b → G' b = none

section
variable {P : Program} {ops : Array Oper} {Q : Exit → Act → World → Prop} {N : Nat} {X : Nat → Prop} {w0 : World} {G : Ghost} {l : List (Nat × Value)} {L : List Asrt}
variable {rest : List Oper} {d k : Nat} {ty : TypeId} {pos : String} {after : Array Edge} {gd : Option (Nat × Bool)}

theorem Mem.keptG {w : World} {F : Nat → Prop} {Ls : List Asrt} (h : Mem F w0 G w Ls) (Ls' : List Asrt) (hI : Imp Ls Ls') (B : Asrt) (hB : ∀ F', (starL Ls').holds w F' → B.holds w F') : KeptG B F G w0 w := by
  refine ⟨h.since, ?_⟩
  have h1 := (h.imp hI).sep
  rw [show Ls' = Ls' ++ [] by simp] at h1
  obtain ⟨F', h2, h3, _⟩ := Sep.packL Ls' h1
  exact ⟨F', hB F' h2, fun b hb => (h3 b hb).1.symm, fun b hb => (h3 b hb).2⟩

/-- A call that changes one object and hands back memory that stays. -/
theorem r_callom {f : FuncId} {xs : List Operand} {vs : List Value} {ats : Array TypeId} {A B : Asrt} {S : Ghost → Value → Prop} (hw : Wt ops l gd) (hd : Nat.blt d N = true) (hf : Callable P f) (hv : evs l xs = some vs) (hL : L[k]? = some A)
    (hc : ∀ w F, Has G w → A.holds w F → (∀ b, F b → G b = none) → Calls P f vs.toArray w (Ret fun r w' => ∃ G', GNew w F G G' ∧ Has G' w' ∧ S G' r ∧ KeptG B F G' w w'))
    (h : ∀ G' r, GNew w0 X G G' → S G' r → Runs P ops Q N X w0 G' rest ((d, r) :: l) (L.set k B)) : Runs P ops Q N X w0 G (⟨some d, .call ⟨.value (.func f), xs.toArray, ats⟩, ty, pos, after, gd⟩ :: rest) l L := by
  refine Runs.step hw (fun a w hS => ?_)
  show Oper.upon P _ a _ Q _
  rw [run_call hS.fr hv hf, Oper.upon_enter]
  obtain ⟨F, hA, hsub, hput⟩ := hS.mem.sep.takeU hL
  refine (hc w F hS.mem.has hA (fun b hb => (hsub b hb).2)).mono (fun e w' hR => ?_)
  cases e with
  | returned r =>
    obtain ⟨G', hn, hh, hr, hs, F', hB, hF', hFG'⟩ := hR
    have hn' : GNew w0 X G G' := ⟨hn.le, fun b h1 h2 => by
      rcases hn.new b h1 h2 with h3 | h3
      · exact .inl (Nat.le_trans hS.mem.since.size h3)
      · exact (hsub b h3).1⟩
    refine h G' r hn' hr _ _ ⟨hS.fr.put (by simpa using hd) _, ?_, hh, ?_⟩
    · refine ⟨hs.os.trans hS.mem.since.os, hs.tape.trans hS.mem.since.tape, hs.output.trans hS.mem.since.output, Nat.le_trans hS.mem.since.size hs.size, fun i hi hx => ?_⟩
      rw [hs.block i (Nat.lt_of_lt_of_le hi hS.mem.since.size) (fun hf => Or.elim (hsub i hf).1 (fun h1 => by omega) (fun h1 => hx h1))]
      exact hS.mem.since.block i hi hx
    · refine hput (fun b => (w0.heap.size ≤ b ∨ X b) ∧ G' b = none) w' B F' (fun b hb hu hf => ⟨hu.1, ?_⟩) hB (fun b hb => ⟨⟨?_, hFG' b hb⟩, hF' b hb⟩) (fun b hb _ hf => hs.block b hb hf)
      · cases e : G' b with
        | none => rfl
        | some o => rcases hn.new b hu.2 (by rw [e]; simp) with h3 | h3
                    · omega
                    · exact (hf h3).elim
      · rcases hF' b hb with h1 | h1
        · exact (hsub b h1).1
        · exact .inl (Nat.le_trans hS.mem.since.size h1)
  | panicked c => exact hR.elim
  | outgrown => exact hR.elim
end
end Go.Gx

/-
  GX: function values: they are made, and called. Generic in the program.
-/
namespace Go.Gx
open Go.RowKit

section
variable {P : Program} {ops : Array Oper} {Q : Exit → Act → World → Prop} {N : Nat} {X : Nat → Prop} {w0 : World} {G : Ghost} {l : List (Nat × Value)} {L : List Asrt}
variable {rest : List Oper} {ty : TypeId} {pos : String} {after : Array Edge} {gd : Option (Nat × Bool)}

theorem p_mkfunc {f : FuncId} {d : Nat} {xs : List Operand} {vs : List Value} (hv : evs l xs = some vs) : PV P N X w0 G l L ⟨some d, .makeFunc (.func f) #[] xs.toArray, ty, pos, after, gd⟩ (.func (.func f) #[] vs.toArray) := by
  intro a w hS
  have e := evs_eq hS.fr hv
  have h1 : xs.toArray.map a.eval = vs.toArray := by rw [← e]; simp
  simp only [execOp]
  rw [h1]
  simp [Go.Instr.makeFunc]

theorem fun_same {f : FuncId} {dst : Option Nat} {y : Operand} {xs : List Operand} {cs : List Value} {ats : Array TypeId} {a : Act} (hF : Fr N a l) (hy : ev l y = some (.func (.func f) #[] cs.toArray)) :
    execOp a.eval ⟨dst, .call ⟨.value y, xs.toArray, ats⟩, ty, pos, after, gd⟩ = execOp a.eval ⟨dst, .call ⟨.value (.func f), (xs ++ cs.map Operand.const).toArray, ats⟩, ty, pos, after, gd⟩ := by
  have h2 : execOp a.eval ⟨dst, .call ⟨.value (.func f), (xs ++ cs.map Operand.const).toArray, ats⟩, ty, pos, after, gd⟩ = callFunc f (#[] ++ (xs ++ cs.map Operand.const).toArray.map a.eval ++ #[]) := rfl
  have h3 : (Deferred.ofValue (.func (.func f) #[] cs.toArray) (xs.toArray.map a.eval) >>= fun t => invoke t.target t.args) = callFunc f ((#[] ++ xs.toArray.map a.eval) ++ cs.toArray) := rfl
  have h4 : execOp a.eval ⟨dst, .call ⟨.value y, xs.toArray, ats⟩, ty, pos, after, gd⟩ = (Deferred.ofValue (a.eval y) (xs.toArray.map a.eval) >>= fun t => invoke t.target t.args) := rfl
  rw [h2, h4, hF.eval hy, h3]
  have h5 : (List.map a.eval (cs.map Operand.const)) = cs := by
    rw [List.map_map]
    exact (List.map_congr_left (fun x _ => rfl)).trans (List.map_id cs)
  congr 1
  apply Array.toList_inj.1
  simp only [Array.toList_append, List.append_toArray, Array.toList_map, List.map_append, h5]
  simp

/-- A call of a function value is a call of its function with what it has caught behind the arguments. -/
theorem r_fun {f : FuncId} {dst : Option Nat} {y : Operand} {xs : List Operand} {cs : List Value} {ats : Array TypeId} (hw : Wt ops l gd) (hy : ev l y = some (.func (.func f) #[] cs.toArray))
    (h : Runs P ops Q N X w0 G (⟨dst, .call ⟨.value (.func f), (xs ++ cs.map Operand.const).toArray, ats⟩, ty, pos, after, gd⟩ :: rest) l L) :
    Runs P ops Q N X w0 G (⟨dst, .call ⟨.value y, xs.toArray, ats⟩, ty, pos, after, gd⟩ :: rest) l L := by
  intro a w hS
  have h1 := h a w hS
  unfold wpList at h1 ⊢
  rw [if_pos (hw.wanted hS.fr)] at h1 ⊢
  have e := fun_same (ty := ty) (pos := pos) (after := after) (gd := gd) (dst := dst) (xs := xs) (ats := ats) hS.fr hy
  rcases h1 with h1 | ⟨h1, h2⟩
  · left
    show Oper.upon P _ a _ Q _
    rw [e]
    exact h1
  · right
    refine ⟨?_, h2⟩
    simp only [Oper.asks] at h1 ⊢
    rw [e]
    exact h1
end
end Go.Gx

/-
  GX: what closures want: a block that they have caught; a slice held against nil; a row without elements; an object that grows by what is found. Generic in the program.
-/
namespace Go.Gx
open Go.RowKit

section
variable {P : Program} {ops : Array Oper} {Q : Exit → Act → World → Prop} {N : Nat} {X : Nat → Prop} {w0 : World} {G : Ghost} {l : List (Nat × Value)} {L : List Asrt}
variable {rest : List Oper} {d : Nat} {ty : TypeId} {pos : String} {after : Array Edge} {gd : Option (Nat × Bool)} {x y : Operand} {v : Value}

/-- A block of the call's own stays as it is from now on. -/
theorem r_freezeX {k n b E : Nat} {f : Nat → Value} (hL : L[k]? = some (box b n E f))
    (h : ∀ G', GNew w0 X G G' → RowAt G' b 0 n f → Runs P ops Q N X w0 G' rest l (L.eraseIdx k)) : Runs P ops Q N X w0 G rest l L := by
  intro a w hS
  obtain ⟨G', h1, h2, h3⟩ := hS.mem.freezeB (m := 1) (sz := n) hL (by omega) (by omega)
  obtain ⟨_, _, e, _, h4⟩ := h2
  obtain ⟨b', o, e2, h5⟩ := h4 (by omega)
  simp only [Value.slice.injEq] at e
  obtain ⟨rfl, _⟩ := e
  simp only [Option.some.injEq, Addr.mk.injEq] at e2
  obtain ⟨rfl, rfl, _⟩ := e2
  have h6 := h5 0 (by omega)
  simp only [Nat.zero_mul, Nat.add_zero, Nat.zero_add] at h6
  exact h G' h1 h6 a w ⟨hS.fr, h3⟩

theorem eqnil_run {T E : TypeId} {a : Option Addr} {n c n' c' : Nat} (hT : P.underlying T = some (.slice E)) (d : Nat) (w : World) : (Op.equalIn (d + 1) T (.slice a n c) (.slice none n' c')).run P w = .ok a.isNone w := by
  cases a <;> simp [Op.equalIn, run_underlying hT]

/-- '==' between a slice and nil. -/
theorem p_eqnil {T U E : TypeId} {a : Option Addr} {n c n' c' : Nat} (hT : P.underlying T = some (.slice E)) (hx : ev l x = some (.slice a n c)) (hy : ev l y = some (.slice none n' c')) :
    PV P N X w0 G l L ⟨some d, .binOp .eql T x y U, ty, pos, after, gd⟩ (.bool a.isNone) := by
  intro ac w hS
  have e : (Op.equal T (.slice a n c) (.slice none n' c')).run P w = .ok a.isNone w := by
    exact eqnil_run hT 9999 w
  have e2 : (binOp .eql T (.slice a n c) (.slice none n' c')).run P w = .ok (.bool a.isNone) w := by
    have h1 : binOp .eql T (.slice a n c) (.slice none n' c') = (do pure (.bool (← Op.equal T (.slice a n c) (.slice none n' c')))) := rfl
    rw [h1]; simp [e]
  have e3 : (eqGuard .eql T x y (.slice a n c) (.slice none n' c')).run P w = .ok () w := by simp [eqGuard]
  simp only [execOp, hS.fr.eval hx, hS.fr.eval hy]
  simp [e3, e2]

/-- A row without elements. -/
theorem r_bslice0 {T E : TypeId} {sz bytes : Nat} {zv : Value} (hw : Wt ops l gd) (hd : Nat.blt d N = true) (hT : P.underlying T = some (.slice E)) (hE : ElemIs P E sz bytes zv)
    (h : ∀ v, Runs P ops Q N X w0 G rest ((d, v) :: l) (rowA v E sz 0 [] :: L)) :
    Runs P ops Q N X w0 G (⟨some d, .buildSlice T 0 #[], ty, pos, after, gd⟩ :: rest) l L := by
  refine Runs.step hw (fun a w hS => ?_)
  show Oper.upon P _ a _ Q _
  obtain ⟨i, hi, hz, hs, _⟩ := hE.info
  have hr : (execOp a.eval ⟨some d, .buildSlice T 0 #[], ty, pos, after, gd⟩).run P w = .ok (.value (.slice (some ⟨w.heap.size, 0, none⟩) 0 0)) (w.alloc (.cells #[] E)) := by
    have h3 : (sizeOf E).run P w = .ok sz w := by simp [sizeOf, typeInfo, hi, hs]
    simp only [execOp]
    simp [Instr.buildSlice, run_underlying hT, h3, Instr.fill, newRow]
    have h5 : ∀ g : Nat → Value, Array.map g (Array.range 0) = #[] := fun g => Array.ext (by simp) (fun i h1 _ => by simp at h1)
    rw [h5]
  rw [hr, Oper.upon_value]
  refine h _ _ _ ⟨hS.fr.put (by simpa using hd) _, hS.mem.alloc _ _ ⟨⟨by simp, .inr ⟨w.heap.size, 0, #[], rfl, Nat.zero_le _, heap_alloc_new w _, Nat.le_refl _, Nat.zero_le _, by simp, by simp⟩⟩, fun b => ⟨fun h => ?_, fun h => ?_⟩, Nat.zero_le _⟩⟩
  · have : b = w.heap.size := h
    subst this; rfl
  · simp [Value.ownBlock] at h; exact h.symm

/-- A call that changes one object, which is told by what comes of it, and hands back memory that stays. -/
theorem r_callox {τ : Type} {k : Nat} {f : FuncId} {xs : List Operand} {vs : List Value} {ats : Array TypeId} {A : Asrt} {B : τ → Asrt} {S : Ghost → Value → τ → Prop} (hw : Wt ops l gd) (hd : Nat.blt d N = true) (hf : Callable P f) (hv : evs l xs = some vs) (hL : L[k]? = some A)
    (hc : ∀ w F, Has G w → A.holds w F → (∀ b, F b → G b = none) → Calls P f vs.toArray w (Ret fun r w' => ∃ G' z, GNew w F G G' ∧ Has G' w' ∧ S G' r z ∧ KeptG (B z) F G' w w'))
    (h : ∀ G' r z, GNew w0 X G G' → S G' r z → Runs P ops Q N X w0 G' rest ((d, r) :: l) (L.set k (B z))) : Runs P ops Q N X w0 G (⟨some d, .call ⟨.value (.func f), xs.toArray, ats⟩, ty, pos, after, gd⟩ :: rest) l L := by
  refine Runs.step hw (fun a w hS => ?_)
  show Oper.upon P _ a _ Q _
  rw [run_call hS.fr hv hf, Oper.upon_enter]
  obtain ⟨F, hA, hsub, hput⟩ := hS.mem.sep.takeU hL
  refine (hc w F hS.mem.has hA (fun b hb => (hsub b hb).2)).mono (fun e w' hR => ?_)
  cases e with
  | returned r =>
    obtain ⟨G', z, hn, hh, hr, hs, F', hB, hF', hFG'⟩ := hR
    have hn' : GNew w0 X G G' := ⟨hn.le, fun b h1 h2 => by
      rcases hn.new b h1 h2 with h3 | h3
      · exact .inl (Nat.le_trans hS.mem.since.size h3)
      · exact (hsub b h3).1⟩
    refine h G' r z hn' hr _ _ ⟨hS.fr.put (by simpa using hd) _, ?_, hh, ?_⟩
    · refine ⟨hs.os.trans hS.mem.since.os, hs.tape.trans hS.mem.since.tape, hs.output.trans hS.mem.since.output, Nat.le_trans hS.mem.since.size hs.size, fun i hi hx => ?_⟩
      rw [hs.block i (Nat.lt_of_lt_of_le hi hS.mem.since.size) (fun hf => Or.elim (hsub i hf).1 (fun h1 => by omega) (fun h1 => hx h1))]
      exact hS.mem.since.block i hi hx
    · refine hput (fun b => (w0.heap.size ≤ b ∨ X b) ∧ G' b = none) w' (B z) F' (fun b hb hu hf => ⟨hu.1, ?_⟩) hB (fun b hb => ⟨⟨?_, hFG' b hb⟩, hF' b hb⟩) (fun b hb _ hf => hs.block b hb hf)
      · cases e : G' b with
        | none => rfl
        | some o => rcases hn.new b hu.2 (by rw [e]; simp) with h3 | h3
                    · omega
                    · exact (hf h3).elim
      · rcases hF' b hb with h1 | h1
        · exact (hsub b h1).1
        · exact .inl (Nat.le_trans hS.mem.since.size h1)
  | panicked c => exact hR.elim
  | outgrown => exact hR.elim
end

section
variable {P : Program} {ops : Array Oper} {Q : Exit → Act → World → Prop} {N : Nat} {X : Nat → Prop} {w0 : World} {G : Ghost} {l : List (Nat × Value)} {L : List Asrt}
variable {rest : List Oper} {d : Nat} {ty : TypeId} {pos : String} {after : Array Edge} {gd : Option (Nat × Bool)} {x y : Operand} {v u : Value}
/-- An assertion is told in other words. -/
theorem r_conv {k : Nat} {A B : Asrt} (hL : L[k]? = some A) (hI : ∀ w F, A.holds w F → B.holds w F) (h : Runs P ops Q N X w0 G rest l (L.set k B)) : Runs P ops Q N X w0 G rest l L := by
  intro a w hS
  obtain ⟨F, hA, _, hput⟩ := hS.mem.take hL
  exact h a w ⟨hS.fr, hput w B F (Since.refl _ _) (hI w F hA) (fun b hb => .inl hb)⟩

/-- append(out, xs...): xs is a row of the call's own, too. -/
theorem r_append_o {T E : TypeId} {sz n m bytes k k2 : Nat} {zv : Value} {xs ys : List Value} (hw : Wt ops l gd) (hd : Nat.blt d N = true) (hT : P.underlying T = some (.slice E)) (hE : ElemIs P E sz bytes zv) (hz : zv.cells.size = sz) (hsz : 0 < sz)
    (hx : ev l x = some v) (hL : L[k]? = some (rowA v E sz n xs)) (hy : ev l y = some u) (hL2 : L[k2]? = some (rowA u E sz m ys)) (h1 : ∀ z ∈ ys, z.oneCell' = true) (h63 : n + m ≤ maxLen) (hbytes : (n + m) * bytes ≤ 140737488355328)
    (h : ∀ v', Runs P ops Q N X w0 G rest ((d, v') :: l) (L.set k (rowA v' E sz (n + m) (xs ++ ys)))) : Runs P ops Q N X w0 G (⟨some d, .call ⟨.builtin .append, #[x, y], #[T, T]⟩, ty, pos, after, gd⟩ :: rest) l L := by
  obtain ⟨i0, hi0, _, hs0, _⟩ := hE.info
  refine Runs.step hw (fun ac w hS => ?_)
  show Oper.upon P _ ac _ Q _
  obtain ⟨F2, hB, _⟩ := hS.mem.take hL2
  have hB' := hB
  obtain ⟨⟨hlen, hown⟩, _, _⟩ := hB
  rcases hown with ⟨rfl, rfl⟩ | ⟨g, cap, cur, rfl, _, hg, hn, hm, hcs, htk⟩
  · have hys : ys = [] := List.eq_nil_of_length_eq_zero (by simpa using hlen)
    subst hys
    have hsz' : SzIs P E sz := by simp [SzIs, hi0, hs0]
    have h' := h v
    simp only [Nat.add_zero, List.append_nil, set_self hL] at h'
    have hr := p_append_nil (P := P) (N := N) (X := X) (w0 := w0) (G := G) (ty := ty) (pos := pos) (after := after) (gd := gd) (d := d) (c := 0) hT hsz' hx hL hy ac w hS
    rw [hr, Oper.upon_value]
    exact h' _ _ ⟨hS.fr.put (by simpa using hd) v, hS.mem⟩
  · obtain ⟨v', w', hr, hS'⟩ := append_end (ty := ty) (pos := pos) (after := after) (gd := gd) (d := d) (news := ys) hT hE hz hsz hS hL hx hy hlen
      (fun j z hj => by
        have hj2 : j < m * sz := by
          have h5 : j < ys.length := by
            rcases Nat.lt_or_ge j ys.length with h6 | h6
            · exact h6
            · rw [List.getElem?_eq_none h6] at hj; cases hj
          omega
        have h7 := rowA_cell hB' rfl hj2
        rw [addr_add, Nat.zero_add, h7]
        simp [List.getD, hj])
      h1 h63 hbytes hd
    rw [hr, Oper.upon_value]
    exact h v' _ _ hS'
end

/-- A row of a call's own goes out and stays as it is. -/
theorem row_mem {w w' : World} {G : Ghost} {r : Value} {E sz n : Nat} {xs : List Value} (hG : Has G w) (h : Since nX w w' ∧ ∃ F', (rowA r E sz n xs).holds w' F' ∧ ∀ b, F' b → w.heap.size ≤ b) :
    ∃ G', GNew w nX G G' ∧ Has G' w' ∧ SlG G' r n sz (fun i j => xs.getD (i * sz + j) undef) ∧ Since nX w w' := by
  obtain ⟨hs, F', hB, hF⟩ := h
  have h1 : Mem nX w G w [] := ⟨Since.refl _ _, hG, trivial⟩
  have h2 := h1.call hs
  have hm : Mem nX w G w' [rowA r E sz n xs] := ⟨h2.since, h2.has, F', hB, fun b hb => ⟨.inl (hF b hb), hG.fresh (hF b hb)⟩, trivial⟩
  obtain ⟨G', h3, h4, h5⟩ := hm.freeze (k := 0) rfl
  exact ⟨G', h3, h5.has, h4, hs⟩

theorem Mem.pack {X : Nat → Prop} {w0 w : World} {G : Ghost} {Ls L : List Asrt} (h : Mem X w0 G w (Ls ++ L)) : Mem X w0 G w (starL Ls :: L) := by
  obtain ⟨F, h1, h2, h3⟩ := Sep.packL Ls h.sep
  exact ⟨h.since, h.has, F, h1, h2, h3⟩

/-! ### slices of slices -/
section
variable {α : Type}
/-- The cells of an element that is a slice. -/
def lC (p : α × Value) : List Value := [p.2]
/-- The value v is a slice of slices, of which each is what T says. -/
def Ls (T : Ghost → Value → α → Prop) (e : α) (G : Ghost) (v : Value) (l : List α) : Prop := ∃ rs : List (α × Value), SlL G v 1 lC (e, .slice none 0 0) rs ∧ (∀ p ∈ rs, T G p.2 p.1) ∧ l = rs.map Prod.fst
theorem Ls.mk {T : Ghost → Value → α → Prop} {e : α} {G : Ghost} {v : Value} (rs : List (α × Value)) (h : SlL G v 1 lC (e, .slice none 0 0) rs) (hp : ∀ p ∈ rs, T G p.2 p.1) : Ls T e G v (rs.map Prod.fst) := ⟨rs, h, hp, rfl⟩

/-- A variable that holds a row of slices. -/
def outA (T E : TypeId) (p : Nat) (rs : List (α × Value)) : Asrt := exA fun v : Value => starL [box p 1 T (at_ [v]), rowA v E 1 rs.length (rs.flatMap lC)]

section
variable {P : Program} {ops : Array Oper} {Q : Exit → Act → World → Prop} {N : Nat} {X : Nat → Prop} {w0 : World} {G : Ghost} {l : List (Nat × Value)} {L : List Asrt}
variable {rest : List Oper} {T E p : Nat} {rs : List (α × Value)}
theorem r_packout {v : Value} {f : Nat → Value} {n : Nat} {xs : List Value} (hf : f 0 = v) (hn : n = rs.length) (hx : xs = rs.flatMap lC) (h : Runs P ops Q N X w0 G rest l (outA T E p rs :: L)) : Runs P ops Q N X w0 G rest l (rowA v E 1 n xs :: box p 1 T f :: L) := by
  intro a w hS
  subst hn; subst hx
  have h1 : Mem X w0 G w (box p 1 T f :: rowA v E 1 rs.length (rs.flatMap lC) :: L) := by
    obtain ⟨hs, hh, F1, h1, hU1, F2, h2, hU2, hL⟩ := hS.mem
    exact ⟨hs, hh, F2, h2, fun b hb => (hU2 b hb).1, F1, h1, fun b hb => ⟨hU1 b hb, fun h3 => (hU2 b h3).2 hb⟩, hL.mono (fun b _ hb => ⟨⟨hb.1.1, hb.2⟩, hb.1.2⟩)⟩
  have h2 : Mem X w0 G w (box p 1 T (at_ [v]) :: rowA v E 1 rs.length (rs.flatMap lC) :: L) := by
    obtain ⟨hs, hh, F1, h1, hr⟩ := h1
    exact ⟨hs, hh, F1, box_congr (fun i hi => by match i, hi with | 0, _ => exact hf) _ _ h1, hr⟩
  obtain ⟨hs, hh, F, h3, hr⟩ := Mem.pack (Ls := [box p 1 T (at_ [v]), rowA v E 1 rs.length (rs.flatMap lC)]) (L := L) h2
  exact h a w ⟨hS.fr, hs, hh, F, ⟨v, h3⟩, hr⟩
theorem r_unpackout (h : ∀ v : Value, Runs P ops Q N X w0 G rest l (box p 1 T (at_ [v]) :: rowA v E 1 rs.length (rs.flatMap lC) :: L)) : Runs P ops Q N X w0 G rest l (outA T E p rs :: L) := by
  intro a w hS
  obtain ⟨hs, hh, F, ⟨v, h3⟩, hr⟩ := hS.mem
  exact h v a w ⟨hS.fr, Mem.unpack (Ls := [box p 1 T (at_ [v]), rowA v E 1 rs.length (rs.flatMap lC)]) ⟨hs, hh, F, h3, hr⟩⟩
end
end
end Go.Gx

/- Plain laws of chains of conditions; no program in sight. -/
namespace Go.Gx
theorem RowAt.congr {G : Ghost} {b o n : Nat} {f g : Nat → Value} (h : RowAt G b o n f) (e : ∀ i, i < n → f i = g i) : RowAt G b o n g := by
  obtain ⟨c, T, fr, h1, h2⟩ := h
  exact ⟨c, T, fr, h1, fun j hj => by rw [h2 j hj, e j hj]⟩
end Go.Gx
namespace Go.Gx.T6
open Go.Gx Go.Gx.T3 Go.Gx.T4 Go.Gx.T8

theorem nil_rs {α : Type} {G : Ghost} {n c : Nat} {sz : Nat} {cells : α → List Value} {e : α} {rs : List α} (h : SlL G (.slice none n c) sz cells e rs) : rs = [] := by
  obtain ⟨a, cap, e1, _, h2⟩ := h
  simp only [Value.slice.injEq] at e1
  obtain ⟨rfl, _⟩ := e1
  rcases rs with _ | ⟨x, t⟩
  · rfl
  · obtain ⟨_, _, e3, _⟩ := h2 (by simp)
    cases e3

mutual
/-- The chains of what stands in a condition, and its own. -/
def chain1 : List CT → CT → List (List CT)
  | ah, .mk h l => (if h.k = 3 then chains ah l else []) ++ [ah ++ [.mk h l]]
/-- The chains of conditions behind a beginning. -/
def chains : List CT → List CT → List (List CT)
  | _, [] => []
  | ah, c :: t => chain1 ah c ++ chains (ah ++ [c]) t
end
mutual
theorem chain1_len : ∀ (c : CT) (ah : List CT), (chain1 ah c).length ≤ size c
  | .mk h l, ah => by
    have := chains_len l ah
    rw [chain1, size]
    split <;> simp <;> omega
theorem chains_len : ∀ (l : List CT) (ah : List CT), (chains ah l).length ≤ sizeL l
  | [], _ => by simp [chains, sizeL]
  | c :: t, ah => by
    have h1 := chain1_len c ah
    have h2 := chains_len t (ah ++ [c])
    rw [chains, sizeL, List.length_append]; omega
end
/-- What is known of the chains that were found: each is a slice of conditions. -/
abbrev ChC (G : Ghost) (z : List (List CT × Value)) : Prop := ∀ q ∈ z, Cs G q.2 q.1
theorem ChC.mono {G G' : Ghost} {z : List (List CT × Value)} (h : ChC G z) (hle : GLe G G') : ChC G' z := fun q hq => (h q hq).mono hle
theorem ChC.snoc {G : Ghost} {z : List (List CT × Value)} {v : Value} {l : List CT} (h : ChC G z) (hl : Cs G v l) : ChC G (z ++ [(l, v)]) := fun q hq => by
  rcases List.mem_append.1 hq with h1 | h1
  · exact h q h1
  · rw [List.mem_singleton.1 h1]; exact hl

/-! ### alike -/
def hEq (a b : Hd) : Bool := decide (a.k = b.k) && csEq [.bool a.v0, .int .i64 a.n0, .bool a.v1, .int .i64 a.n1, .bool a.v2, .int .i64 a.n2] [.bool b.v0, .int .i64 b.n0, .bool b.v1, .int .i64 b.n1, .bool b.v2, .int .i64 b.n2]
def hRb (a b : Hd) : Bool := csEq [.int .i64 (vi a.v0), .int .i64 a.n0, .int .i64 (vi a.v1), .int .i64 a.n1, .int .i64 (vi a.v2), .int .i64 a.n2] [.int .i64 (vi b.v0), .int .i64 b.n0, .int .i64 (vi b.v1), .int .i64 b.n1, .int .i64 (vi b.v2), .int .i64 b.n2]
theorem hEq_iff (a b : Hd) : hEq a b = true ↔ a = b := by
  obtain ⟨a0, a1, a2, a3, a4, a5, a6⟩ := a
  obtain ⟨b0, b1, b2, b3, b4, b5, b6⟩ := b
  simp [hEq, csEq, cEq]
mutual
def ceq : CT → CT → Bool
  | .mk h l, .mk h' l' => hEq h h' && ceqL l l'
def ceqL : List CT → List CT → Bool
  | [], [] => true
  | c :: t, c' :: t' => ceq c c' && ceqL t t'
  | _, _ => false
end
mutual
theorem ceq_iff : ∀ (a b : CT), ceq a b = true ↔ a = b
  | .mk h l, .mk h' l' => by
    rw [ceq, Bool.and_eq_true, hEq_iff, ceqL_iff l l']
    simp
theorem ceqL_iff : ∀ (l l' : List CT), ceqL l l' = true ↔ l = l'
  | [], [] => by simp [ceqL]
  | [], _ :: _ => by simp [ceqL]
  | _ :: _, [] => by simp [ceqL]
  | c :: t, c' :: t' => by
    rw [ceqL, Bool.and_eq_true, ceq_iff c c', ceqL_iff t t']
    simp
end
/-- The chains that conditions end themselves. -/
def ownC (l : List CT) : List Int := (List.range l.length).map fun i => (sizeL (l.take (i + 1)) : Int) - 1
def ownCTo (l : List CT) (k : Nat) : List Int := (List.range k).map fun i => (sizeL (l.take (i + 1)) : Int) - 1
abbrev RhC (G : Ghost) (z : List (List CT × Value)) : Prop := ∀ q ∈ z, Rs G q.2 q.1
theorem RhC.mono {G G' : Ghost} {z : List (List CT × Value)} (h : RhC G z) (hle : GLe G G') : RhC G' z := fun q hq => (h q hq).mono hle
theorem RhC.snoc {G : Ghost} {z : List (List CT × Value)} {v : Value} {l : List CT} (h : RhC G z) (hl : Rs G v l) : RhC G (z ++ [(l, v)]) := fun q hq => by
  rcases List.mem_append.1 hq with h1 | h1
  · exact h q h1
  · rw [List.mem_singleton.1 h1]; exact hl
theorem RhC.app {G : Ghost} {z z' : List (List CT × Value)} (h : RhC G z) (h' : RhC G z') : RhC G (z ++ z') := fun q hq => by
  rcases List.mem_append.1 hq with h1 | h1
  · exact h q h1
  · exact h' q h1
end Go.Gx.T6

/-
  GX: a row of the call's own is sorted by the library with a function of the program's. Generic in the program.
-/
namespace Go.Gx
open Go.RowKit Go.Sort Go.Proofs

section
variable {α : Type} [Inhabited α]

end

/-- What a call of the library's slices.SortFunc comes to. -/
def SortFC (P : Program) {α : Type} [Inhabited α] (f g : FuncId) (enc : α → List Value) (kk : Nat) (lt : α → α → Bool) : Prop := ∀ (blk cap : Nat) (zs : List α) (w : World), HoldsK enc kk w blk 0 zs.toArray → blk < w.heap.size → zs.length < 4611686018427387904 →
  Calls P f #[.slice (some ⟨blk, 0, none⟩) zs.length cap, .func (.func g) #[] #[]] w fun e w' => e = .returned (.tuple #[]) ∧ ∃ (d' : Array α) (n : Nat) (os : Array Obj), PermIn 0 zs.toArray.size zs.toArray d' ∧ SortedIn lt 0 zs.toArray.size d' ∧ w' = sortWorldK enc kk w blk 0 n d' os
def SortFN (P : Program) (f g : FuncId) : Prop := ∀ (p : Option Addr) (cap : Nat) (w : World), Calls P f #[.slice p 0 cap, .func (.func g) #[] #[]] w fun e w' => e = .returned (.tuple #[]) ∧ w' = w

section
variable {P : Program} {ops : Array Oper} {Q : Exit → Act → World → Prop} {N : Nat} {X : Nat → Prop} {w0 : World} {G : Ghost} {l : List (Nat × Value)} {L : List Asrt}
variable {rest : List Oper} {d k : Nat} {ty : TypeId} {pos : String} {after : Array Edge} {gd : Option (Nat × Bool)} {v : Value} {E : TypeId} {f g : FuncId} {xs : List Operand} {ats : Array TypeId}
variable {α : Type} [Inhabited α] {enc : α → List Value} {kk : Nat} {lt : α → α → Bool} {zs : List α}

end
end Go.Gx

/- Plain laws of places where variables are bound; no program in sight. -/
namespace Go.Gx.T6
open Go.Gx Go.Gx.T3 Go.Gx.T4 Go.Gx.T8

/-- The place of the first one, or -1. -/
def idxF {α : Type} (pf : α → Bool) : List α → Int → Int
  | [], _ => -1
  | x :: t, k => if pf x = true then k else idxF pf t (k + 1)
/-! ### places -/
abbrev PL := Int × Int × Int
def isV (v : Int) (p : PL) : Bool := decide (p.1 = v)
/-- How many Pos there are. -/
def posN : List CT → Nat
  | [] => 0
  | c :: t => (if c.h.k = 1 then 1 else 0) + posN t
def pl1 (h : Hd) (b : Int) (out : List PL) (f : Nat) : List PL := if vF h f = true ∧ ¬ 0 ≤ idxF (isV (nF h f)) out 0 then out ++ [(nF h f, b, (f : Int))] else out
def plTo (h : Hd) (b : Int) (out : List PL) : Nat → List PL
  | 0 => out
  | f + 1 => pl1 h b (plTo h b out f) f
def places : List CT → Int → List PL → List PL
  | [], _, out => out
  | c :: t, b, out => if c.h.k = 1 then places t (b + 1) (plTo c.h b out 3) else places t b out
/-- Whose variables differ. -/
def Once (l : List PL) : Prop := l.Pairwise fun a b => a.1 ≠ b.1
def ltP (a b : PL) : Bool := decide (a.1 < b.1)
end Go.Gx.T6
namespace Go.Gx.T6
open Go.Gx Go.Gx.T3 Go.Gx.T4 Go.Gx.T8
abbrev A6 (n : Int) : CT := .mk ⟨1, false, n, false, 1, true, n⟩ []
abbrev B6 : CT := .mk ⟨3, false, 0, false, 0, false, 0⟩ [A6 2, A6 3]
abbrev L6 : List CT := [A6 1, B6, A6 4]
end Go.Gx.T6

/- Plain laws of chains: their sizes, where they stand; no program in sight. -/
namespace Go.Gx.T6
open Go.Gx Go.Gx.T3 Go.Gx.T4 Go.Gx.T8

theorem sizeL_append (a b : List CT) : sizeL (a ++ b) = sizeL a + sizeL b := by
  induction a with
  | nil => simp [sizeL]
  | cons c t ih => simp only [List.cons_append, sizeL, ih]; omega
mutual
theorem chain1_size : ∀ (c : CT) (ah : List CT), ∀ x ∈ chain1 ah c, sizeL x ≤ sizeL ah + size c
  | .mk h l, ah, x, hx => by
    rw [chain1] at hx
    rcases List.mem_append.1 hx with hx | hx
    · split at hx
      · have := chains_size l ah x hx
        rw [size]; omega
      · cases hx
    · rw [List.mem_singleton.1 hx, sizeL_append]
      simp [sizeL]
theorem chains_size : ∀ (l : List CT) (ah : List CT), ∀ x ∈ chains ah l, sizeL x ≤ sizeL ah + sizeL l
  | [], _, x, hx => by rw [chains] at hx; cases hx
  | c :: t, ah, x, hx => by
    rw [chains] at hx
    rcases List.mem_append.1 hx with hx | hx
    · have := chain1_size c ah x hx
      rw [sizeL]; omega
    · have := chains_size t (ah ++ [c]) x hx
      rw [sizeL_append] at this
      simp only [sizeL] at this ⊢
      omega
end
mutual
/-- Only Ncc have conditions in them. -/
def flatOk : CT → Bool
  | .mk h l => (decide (h.k = 3) || l.isEmpty) && flatOkL l
def flatOkL : List CT → Bool
  | [] => true
  | c :: t => flatOk c && flatOkL t
end
mutual
theorem flat_of_check : ∀ (c : CT) (d : Int), check c d = 0 → flatOk c = true
  | .mk h l, d, hc => by
    rw [check] at hc
    rw [flatOk]
    split at hc
    · omega
    · split at hc
      · rename_i h3
        split at hc
        · omega
        · split at hc
          · omega
          · rw [flat_of_checkL l _ hc, decide_eq_true h3]; rfl
      · split at hc
        · omega
        · split at hc
          · omega
          · rename_i _ _ h4
            have : l = [] := by
              rcases l with _ | ⟨a, b⟩
              · rfl
              · exact absurd (.inr (by simp)) h4
            subst this
            simp [flatOkL]
theorem flat_of_checkL : ∀ (l : List CT) (d : Int), checkL l d = 0 → flatOkL l = true
  | [], _, _ => by rw [flatOkL]
  | c :: t, d, hc => by
    rw [checkL] at hc
    split at hc
    · rename_i h
      rw [flatOkL, flat_of_check c d h, flat_of_checkL t d hc]; rfl
    · rename_i h; exact absurd hc h
end
mutual
theorem chain1_eq : ∀ (c : CT) (ah : List CT), flatOk c = true → (chain1 ah c).length = size c
  | .mk h l, ah, hc => by
    rw [flatOk, Bool.and_eq_true] at hc
    rw [chain1, size]
    split
    · rw [List.length_append, chains_eq l ah hc.2]; simp; omega
    · rename_i h3
      have : l = [] := by
        have h4 := hc.1
        rw [decide_eq_false h3, Bool.false_or] at h4
        simpa using h4
      subst this
      simp [sizeL]
theorem chains_eq : ∀ (l : List CT) (ah : List CT), flatOkL l = true → (chains ah l).length = sizeL l
  | [], _, _ => by simp [chains, sizeL]
  | c :: t, ah, h => by
    rw [flatOkL, Bool.and_eq_true] at h
    rw [chains, List.length_append, chain1_eq c ah h.1, chains_eq t _ h.2, sizeL]
end
/-! ### each but its last condition stands ahead -/
def Ahead (ah : List CT) (cs : List (List CT)) : Prop := ∀ i (hi : i < cs.length), cs[i] ≠ [] ∧ (cs[i].dropLast = ah ∨ ∃ j, ∃ (hj : j < i), cs[j]'(by omega) = cs[i].dropLast)
theorem Ahead.snoc {ah : List CT} {cs : List (List CT)} {c : CT} (h : Ahead ah cs) : Ahead ah (cs ++ [ah ++ [c]]) := by
  intro i hi
  by_cases hlt : i < cs.length
  · have h1 := h i hlt
    rw [List.getElem_append_left hlt]
    refine ⟨h1.1, h1.2.imp id ?_⟩
    rintro ⟨j, hj, e⟩
    exact ⟨j, hj, by rw [List.getElem_append_left (by omega)]; exact e⟩
  · have e : i = cs.length := by simp at hi; omega
    subst e
    simp
theorem Ahead.app {ah : List CT} {cs ds : List (List CT)} {c : CT} (h : Ahead ah (cs ++ [ah ++ [c]])) (h2 : Ahead (ah ++ [c]) ds) : Ahead ah ((cs ++ [ah ++ [c]]) ++ ds) := by
  intro i hi
  by_cases hlt : i < (cs ++ [ah ++ [c]]).length
  · have h1 := h i hlt
    rw [List.getElem_append_left hlt]
    refine ⟨h1.1, h1.2.imp id ?_⟩
    rintro ⟨j, hj, e⟩
    exact ⟨j, hj, by rw [List.getElem_append_left (by omega)]; exact e⟩
  · have hge : (cs ++ [ah ++ [c]]).length ≤ i := by omega
    have h1 := h2 (i - (cs ++ [ah ++ [c]]).length) (by simp at hi hge ⊢; omega)
    rw [List.getElem_append_right hge]
    refine ⟨h1.1, .inr ?_⟩
    rcases h1.2 with e | ⟨j, hj, e⟩
    · refine ⟨cs.length, by simp at hge; omega, ?_⟩
      rw [e]
      rw [List.getElem_append_left (by simp)]
      simp
    · refine ⟨j + (cs ++ [ah ++ [c]]).length, by omega, ?_⟩
      rw [← e, List.getElem_append_right (by omega)]
      congr 1
      omega
mutual
theorem chain1_ahead : ∀ (c : CT) (ah : List CT), ∃ cs, chain1 ah c = cs ++ [ah ++ [c]] ∧ Ahead ah (cs ++ [ah ++ [c]])
  | .mk h l, ah => by
    refine ⟨if h.k = 3 then chains ah l else [], by rw [chain1], Ahead.snoc ?_⟩
    split
    · exact chains_ahead l ah
    · intro i hi; simp at hi
theorem chains_ahead : ∀ (l : List CT) (ah : List CT), Ahead ah (chains ah l)
  | [], _ => by rw [chains]; intro i hi; simp at hi
  | c :: t, ah => by
    obtain ⟨cs, e, h⟩ := chain1_ahead c ah
    rw [chains, e]
    exact Ahead.app h (chains_ahead t (ah ++ [c]))
end
/-- Is a chain the beginning of another? -/
def hadPre (qs : List (List CT)) (x : List CT) (i : Nat) : Bool := decide (x.length = 1) || (qs.take i).any fun y => ceqL y x.dropLast
def foundTo (qs : List (List CT)) (x : List CT) (j : Nat) : Bool := decide (x.length = 1) || (qs.take j).any fun y => ceqL y x.dropLast
end Go.Gx.T6
namespace Go.Gx.T6
open Go.Gx Go.Gx.T3 Go.Gx.T4 Go.Gx.T8
abbrev e6 : List CT × Value := ([], .slice none 0 0)
theorem chain_small {l : List CT} {qs : List (List CT × Value)} {k : Nat} (hl : chains [] l = qs.map Prod.fst) (hk : k < qs.length) (hsz : sizeL l ≤ 1000) : sizeL (qs.getD k e6).1 ≤ 1000 := by
  have h1 : (qs.getD k e6).1 ∈ chains [] l := by rw [hl]; exact List.mem_map.2 ⟨_, getD_mem hk, rfl⟩
  have := chains_size l [] _ h1
  simp only [sizeL] at this
  omega
end Go.Gx.T6
namespace Go.Gx.T6
open Go.Gx Go.Gx.T3 Go.Gx.T4 Go.Gx.T8
end Go.Gx.T6

/-
  GX: results that lie in memory of the call's own alone; parts of arrays. Generic in the program.
-/
namespace Go.Gx
open Go.RowKit

/-- What is known of the memory that was laid since a world. -/
def fr (w0 : World) (G : Ghost) : Ghost := fun b => if w0.heap.size ≤ b then G b else none
theorem RowAt.fr {w0 : World} {G : Ghost} {b o n : Nat} {g : Nat → Value} (h : RowAt G b o n g) (hb : w0.heap.size ≤ b) : RowAt (fr w0 G) b o n g := by
  obtain ⟨c, T, f, h1, h2⟩ := h
  exact ⟨c, T, f, by unfold Gx.fr; rw [if_pos hb]; exact h1, h2⟩
theorem SlG.fr {w0 : World} {G : Ghost} {v : Value} {n sz : Nat} {f : Nat → Nat → Value} (h : SlG G v n sz f) (hv : ∀ b, v.ownBlock = some b → w0.heap.size ≤ b) : SlG (fr w0 G) v n sz f := by
  obtain ⟨a, cap, rfl, hc, hr⟩ := h
  refine ⟨a, cap, rfl, hc, fun hn => ?_⟩
  obtain ⟨b, o, rfl, h2⟩ := hr hn
  exact ⟨b, o, rfl, fun i hi => (h2 i hi).fr (hv b rfl)⟩
theorem RowAt.sub {G : Ghost} {b o n j m : Nat} {g : Nat → Value} (h : RowAt G b o n g) (hj : j + m ≤ n) : RowAt G b (o + j) m (fun i => g (j + i)) := by
  obtain ⟨c, T, f, h1, h2⟩ := h
  exact ⟨c, T, f, h1, fun i hi => by rw [Nat.add_assoc]; exact h2 (j + i) (by omega)⟩

section
variable {P : Program} {ops : Array Oper} {Q : Exit → Act → World → Prop} {N : Nat} {w0 : World} {G : Ghost} {l : List (Nat × Value)} {L : List Asrt}
variable {rest : List Oper} {d : Nat} {ty : TypeId} {pos : String} {after : Array Edge} {gd : Option (Nat × Bool)} {v : Value}

end

section
variable {P : Program} {N : Nat} {X : Nat → Prop} {w0 : World} {G : Ghost} {l : List (Nat × Value)} {L : List Asrt} {d : Nat} {ty : TypeId} {pos : String} {after : Array Edge} {gd : Option (Nat × Bool)} {x y : Operand}
end
end Go.Gx

/- Plain laws of compiled steps: where variables were bound, found in a sorted list of places; steps that are alike; no program in sight. -/
namespace Go.Gx.T8
open Go.Gx Go.Gx.T3 Go.Gx.T4 Go.Gx.T6

/-! ### the first alike term -/
abbrev TT := Bool × Int
def tmC (t : TT) : List Value := [.bool t.1, .int .i64 t.2]
abbrev tt0 : TT := (false, 0)
def terms (h : Hd) : List TT := [(h.v0, h.n0), (h.v1, h.n1), (h.v2, h.n2)]
def sameT (t z : TT) : Bool := csEq (tmC t) (tmC z)
/-- Where the first term ahead of term f stands that is alike; -1: none. -/
def ownG (h : Hd) (f : Nat) : Int := idxF (sameT (vF h f, nF h f)) ((terms h).take f) 0
/-! ### bound, by a list of places -/
def lkP (v : Int) (ps : List PL) : Option (Int × Int) := (ps.find? (isV v)).map Prod.snd
theorem Ss.le {G G' : Ghost} {v : Value} {l : List ST} (h : Ss G v l) (hle : GLe G G') : Ss G' v l := h.mono hle
end Go.Gx.T8
namespace Go.Gx.T8
open Go.Gx Go.Gx.T3 Go.Gx.T4 Go.Gx.T6
end Go.Gx.T8
namespace Go.Gx.T8
open Go.Gx Go.Gx.T3 Go.Gx.T4 Go.Gx.T6
end Go.Gx.T8

/- Plain laws of steps: alike, right, few; no program in sight. -/
namespace Go.Gx.T8
open Go.Gx Go.Gx.T3 Go.Gx.T4 Go.Gx.T6

theorem tC_eq (a b : TD) : csEq (tC a) (tC b) = decide (a = b) := by
  obtain ⟨a0, a1, a2⟩ := a
  obtain ⟨b0, b1, b2⟩ := b
  by_cases h0 : a0 = b0 <;> by_cases h1 : a1 = b1 <;> by_cases h2 : a2 = b2 <;> simp [tC, csEq, cEq, h0, h1, h2]
theorem take_eq_succ {α : Type} {a b : List α} {k : Nat} {d : α} (ha : k < a.length) (hb : k < b.length) (h : a.take k = b.take k) (he : a.getD k d = b.getD k d) : a.take (k + 1) = b.take (k + 1) := by
  rw [List.take_succ_eq_append_getElem ha, List.take_succ_eq_append_getElem hb, h]
  simp [List.getD, List.getElem?_eq_getElem ha, List.getElem?_eq_getElem hb] at he
  rw [he]
theorem ne_of_get {α : Type} {a b : List α} {k : Nat} {d : α} (he : a.getD k d ≠ b.getD k d) : a ≠ b := fun h => he (by rw [h])
theorem ne_of_len {α : Type} {a b : List α} (h : a.length ≠ b.length) : a ≠ b := fun e => h (by rw [e])
def kEq (a b : SH) : Bool := csEq [.int .i64 a.k0, .int .i64 a.k1, .int .i64 a.k2] [.int .i64 b.k0, .int .i64 b.k1, .int .i64 b.k2]
theorem kEq_iff (a b : SH) : kEq a b = true ↔ a.k0 = b.k0 ∧ a.k1 = b.k1 ∧ a.k2 = b.k2 := by simp [kEq, csEq, cEq, and_assoc]
mutual
def seq : ST → ST → Bool
  | .mk h l, .mk h' l' => (decide (h.k = h'.k) && kEq h h') && (decide (h.ts = h'.ts) && seqL l l')
def seqL : List ST → List ST → Bool
  | [], [] => true
  | c :: t, c' :: t' => seq c c' && seqL t t'
  | _, _ => false
end
theorem seq_eq (a b : ST) : seq a b = ((decide (a.h.k = b.h.k) && kEq a.h b.h) && (decide (a.h.ts = b.h.ts) && seqL a.subs b.subs)) := by cases a; cases b; rw [seq]; rfl
theorem seqL_len : ∀ {l l' : List ST}, l.length ≠ l'.length → seqL l l' = false
  | [], [], h => absurd rfl h
  | [], _ :: _, _ => by simp [seqL]
  | _ :: _, [], _ => by simp [seqL]
  | c :: t, c' :: t', h => by rw [seqL, seqL_len (by simpa using h), Bool.and_false]
theorem sv_drop {rs : List SVal} {k : Nat} (hk : k < rs.length) : (rs.map Prod.fst).drop k = (rs.getD k s0).1 :: (rs.map Prod.fst).drop (k + 1) := by
  rw [List.drop_eq_getElem_cons (by simpa using hk)]
  simp [List.getD, List.getElem?_eq_getElem hk]
theorem seqL_no {rs rs2 : List SVal} {k : Nat} (h1 : k < rs.length) (h2 : k < rs2.length) (h : seq (rs.getD k s0).1 (rs2.getD k s0).1 = false) : seqL ((rs.map Prod.fst).drop k) ((rs2.map Prod.fst).drop k) = false := by
  rw [sv_drop h1, sv_drop h2, seqL, h, Bool.false_and]
theorem seqL_yes {rs rs2 : List SVal} {k : Nat} (h1 : k < rs.length) (h2 : k < rs2.length) (h : seq (rs.getD k s0).1 (rs2.getD k s0).1 = true) : seqL ((rs.map Prod.fst).drop (k + 1)) ((rs2.map Prod.fst).drop (k + 1)) = seqL ((rs.map Prod.fst).drop k) ((rs2.map Prod.fst).drop k) := by
  rw [sv_drop h1, sv_drop h2, seqL, h, Bool.true_and]
mutual
theorem seq_iff : ∀ (a b : ST), seq a b = true ↔ a = b
  | .mk h l, .mk h' l' => by
    rw [seq, Bool.and_eq_true, Bool.and_eq_true, Bool.and_eq_true, decide_eq_true_iff, decide_eq_true_iff, kEq_iff, seqL_iff l l']
    obtain ⟨a, b, c, d, e⟩ := h
    obtain ⟨a', b', c', d', e'⟩ := h'
    simp only [ST.mk.injEq, SH.mk.injEq]
    constructor
    · rintro ⟨⟨h1, h2, h3, h4⟩, h5, h6⟩; exact ⟨⟨h1, h2, h3, h4, h5⟩, h6⟩
    · rintro ⟨⟨h1, h2, h3, h4, h5⟩, h6⟩; exact ⟨⟨h1, h2, h3, h4⟩, h5, h6⟩
theorem seqL_iff : ∀ (l l' : List ST), seqL l l' = true ↔ l = l'
  | [], [] => by simp [seqL]
  | [], _ :: _ => by simp [seqL]
  | _ :: _, [] => by simp [seqL]
  | c :: t, c' :: t' => by
    rw [seqL, Bool.and_eq_true, seq_iff c c', seqL_iff t t']
    simp
end
theorem seq_no {a b : ST} (h : ((¬ a.h.k = b.h.k ∨ kEq a.h b.h = false) ∨ ¬ a.h.ts.length = b.h.ts.length) ∨ ¬ a.subs.length = b.subs.length) : seq a b = false := by
  rw [seq_eq]
  rcases h with ((h | h) | h) | h
  · rw [decide_eq_false h]; rfl
  · rw [h, Bool.and_false]; rfl
  · rw [decide_eq_false (ne_of_len h), Bool.false_and, Bool.and_false]
  · rw [seqL_len h, Bool.and_false, Bool.and_false]
theorem seq_ts {a b : ST} (h : a.h.ts ≠ b.h.ts) : seq a b = false := by rw [seq_eq, decide_eq_false h, Bool.false_and, Bool.and_false]
theorem seq_sub {a b : ST} (h1 : a.h.k = b.h.k) (h2 : kEq a.h b.h = true) (h3 : a.h.ts = b.h.ts) : seq a b = seqL a.subs b.subs := by
  rw [seq_eq, decide_eq_true h1, h2, decide_eq_true h3]; rfl
theorem ssz_at {a : ST} {rs : List SVal} {i n : Nat} (h : a.subs = rs.map Prod.fst) (hi : i < rs.length) (hn : SizeOf.sizeOf a ≤ n + 1) : SizeOf.sizeOf (rs.getD i s0).1 ≤ n := by
  have h1 : (rs.getD i s0).1 ∈ a.subs := by rw [h]; exact sv_mem hi
  have h2 := List.sizeOf_lt_of_mem h1
  have h3 : SizeOf.sizeOf a.subs < SizeOf.sizeOf a := by
    cases a with
    | mk h l => simp [ST.subs]; omega
  omega
theorem s_pos (a : ST) : 0 < SizeOf.sizeOf a := by cases a; simp; omega
end Go.Gx.T8
namespace Go.Gx.T8
open Go.Gx Go.Gx.T3 Go.Gx.T4 Go.Gx.T6
abbrev L8 : List CT := [.mk ⟨1, true, 1, false, 4, true, 2⟩ [], .mk ⟨1, true, 2, false, 4, true, 1⟩ []]
abbrev S80 : ST := .mk ⟨1, 0, 4, 0, []⟩ []
abbrev S81 : ST := .mk ⟨1, 0, 4, 0, [(0, 0, 2), (2, 0, 0)]⟩ []
end Go.Gx.T8
namespace Go.Gx.T8
theorem s_subs (a : ST) : SizeOf.sizeOf a.subs < SizeOf.sizeOf a := by
  cases a with
  | mk h l => simp [ST.subs]; omega
end Go.Gx.T8
namespace Go.Gx.T8
open Go.Gx Go.Gx.T3 Go.Gx.T4 Go.Gx.T6
end Go.Gx.T8

/- Walks: what Go functions of this chapter come to, each as a function on plain data; no condition but those that each theorem names. Printed by a program of this work (gen.py). -/
namespace Go.Proofs.Ytdkfdncbldngdaa
open Go.Gx Go.Gx.T4 Go.Gx.T3 Go.Gx.T6 Go.Gx.T8 Go.Gx.T4 Go.Gx.T3 Go.Gx.T8 Go.Gx.T4 Go.Gx.T3 Go.Gx.T8 Go.Gx.T6 Go.Gx.T4 Go.Gx.T3
theorem sz35 : SzIs Try.prog 35 1 := by
 unfold SzIs
 kernel_rfl
theorem sz47 : SzIs Try.prog 47 3 := by
 unfold SzIs
 kernel_rfl
theorem sz52 : SzIs Try.prog 52 3 := by
 unfold SzIs
 kernel_rfl
theorem zr52 : ZeroIs Try.prog 52 (Value.agg #[Value.int .i64 0, Value.int .i64 0, Value.int .i64 0]) := by
 unfold ZeroIs
 kernel_rfl
theorem lf46 : leafT Try.prog 9 46 = some [3, 3, 3] := by
 kernel_rfl
theorem ef46 : eqT Try.prog 9 46 = true := by
 kernel_rfl
theorem lf47 : leafT Try.prog 9 47 = some [3, 3, 3] := by
 kernel_rfl
theorem ef47 : eqT Try.prog 9 47 = true := by
 kernel_rfl
theorem lf52 : leafT Try.prog 9 52 = some [3, 3, 3] := by
 kernel_rfl
theorem ef52 : eqT Try.prog 9 52 = true := by
 kernel_rfl
theorem lf96 : leafT Try.prog 9 96 = some [3, 3, 3] := by
 kernel_rfl
theorem ef96 : eqT Try.prog 9 96 = true := by
 kernel_rfl
theorem eg46 : Try.prog.eqGuardType Try.prog.depth 46 = false := by
 kernel_rfl
theorem eg47 : Try.prog.eqGuardType Try.prog.depth 47 = false := by
 kernel_rfl
theorem eg52 : Try.prog.eqGuardType Try.prog.depth 52 = false := by
 kernel_rfl
theorem eg96 : Try.prog.eqGuardType Try.prog.depth 96 = false := by
 kernel_rfl
theorem cl37 : Callable Try.prog 37 := callable Try.func37 (by kernel_rfl) rfl
theorem cl55 : Callable Try.prog 55 := callable Try.func55 (by kernel_rfl) rfl
theorem cl62 : Callable Try.prog 62 := callable Try.func62 (by kernel_rfl) rfl
theorem cl73 : Callable Try.prog 73 := callable Try.func73 (by kernel_rfl) rfl
theorem cl74 : Callable Try.prog 74 := callable Try.func74 (by kernel_rfl) rfl
theorem bl90_0i1_1a3 (x0 : Int) (x1 : Value) (x2 : Value) (x3 : Value) : Program.built Try.prog 90 [(0, Value.int .i64 x0), (1, Value.agg #[x1, x2, x3])] = some #[Value.int .i64 x0, x1, x2, x3, Value.slice none 0 0, Value.slice none 0 0] := by
 kernel_rfl
def CsameIs (n : Nat) : Prop := ∀ (c c2 : ST) (ta sb ta2 sb2 : Value) (G : Ghost) (w : World), SizeOf.sizeOf c ≤ n → SlL G ta 3 tC t0 c.h.ts → Ss G sb c.subs → SlL G ta2 3 tC t0 c2.h.ts → Ss G sb2 c2.subs → Has G w → Calls Try.prog 62 #[Value.agg #[Value.int .i64 c.h.k, Value.int .i64 c.h.k0, Value.int .i64 c.h.k1, Value.int .i64 c.h.k2, ta, sb], Value.agg #[Value.int .i64 c2.h.k, Value.int .i64 c2.h.k0, Value.int .i64 c2.h.k1, Value.int .i64 c2.h.k2, ta2, sb2]] w (Ret fun r w' => r = Value.bool (seq c c2) ∧ Since nX w w')
def RsameSIs (n : Nat) : Prop := ∀ (c c2 : ST) (ta sb ta2 sb2 : Value) (G : Ghost) (w : World), SizeOf.sizeOf c ≤ n → SlL G ta 3 tC t0 c.h.ts → Ss G sb c.subs → SlL G ta2 3 tC t0 c2.h.ts → Ss G sb2 c2.subs → Has G w → Calls Try.prog 55 #[Value.agg #[Value.int .i64 c.h.k, Value.int .i64 c.h.k0, Value.int .i64 c.h.k1, Value.int .i64 c.h.k2, ta, sb], Value.agg #[Value.int .i64 c2.h.k, Value.int .i64 c2.h.k0, Value.int .i64 c2.h.k1, Value.int .i64 c2.h.k2, ta2, sb2]] w (Ret fun r w' => r = Value.bool (seq c c2) ∧ Since nX w w')
def SrefIs (n : Nat) : Prop := ∀ (c : ST) (ta sb : Value) (G : Ghost) (w : World), SizeOf.sizeOf c ≤ n → ssz c ≤ 5000 → SlL G ta 3 tC t0 c.h.ts → Ss G sb c.subs → Has G w → Calls Try.prog 37 #[Value.agg #[Value.int .i64 c.h.k, Value.int .i64 c.h.k0, Value.int .i64 c.h.k1, Value.int .i64 c.h.k2, ta, sb]] w (Ret fun r w' => ∃ G', GNew w nX G G' ∧ Has G' w' ∧ (∃ ua ub, r = Value.agg #[Value.int .i64 (c).h.k, Value.int .i64 (c).h.k0, Value.int .i64 (c).h.k1, Value.int .i64 (c).h.k2, ua, ub] ∧ SlL G' ua 3 tC t0 (c).h.ts ∧ Ss G' ub (c).subs) ∧ Since nX w w')
theorem c_eqT (v v2 : Value) (a b : List TD) {G : Ghost} (hr : SlL G v 3 tC t0 a) (hr2 : SlL G v2 3 tC t0 b) (w : World) (hG : Has G w) :
    Calls Try.prog 73 #[v, v2] w (Ret fun r w' => r = Value.bool (decide (a = b)) ∧ Since nX w w') := by
 refine enter (args := [_, _]) (X := nX) (G := G) (l := [(0, v), (1, v2)]) Try.func73 rfl Try.ntmps73 hG ⟨rfl, rfl, trivial⟩ (Nat.le_of_ble_eq_true rfl) ?_
 have hbd := hr.bound
 have hbd2 := hr2.bound
 refine c_seq (c_region (r_val .none rfl (p_assign rfl) (r_nil (e_next ?_))))
 refine c_seq (c_seq (c_region (r_val .none rfl (p_move rfl) ?_)))
 refine r_val .none rfl (p_leng Try.underlying48 rfl hr) ?_
 have bd_1 := (hr).bound
 refine r_val .none rfl (p_move rfl) ?_
 refine r_val .none rfl (p_leng Try.underlying48 rfl hr2) ?_
 have bd_2 := (hr2).bound
 refine r_val .none rfl (p_ne rfl rfl) ?_
 refine r_nil (e_next ?_)
 refine c_splitd (d := 10) rfl (fun h_3 => ?_) (fun h_3 => ?_)
 · (
 first
 | (exfalso; omega)
 | (
 refine c_cond_t rfl (c_seq (c_region (r_val .none rfl (p_assign rfl) (r_nil ?_))))
 refine e_next ?_
 refine c_ret ?_
 refine e_ret_then ?_
 refine e_ret1 Try.results73 (.tmp rfl .nil) (fun w hm => ⟨?_, hm.since⟩)
 first
 | exact congrArg Value.bool (decide_eq_false (ne_of_len (by omega))).symm
 | exact congrArg Value.bool (decide_eq_false (ne_of_get hE)).symm
 | (have hk := hphi.2.2; rw [List.take_of_length_le (by omega), List.take_of_length_le (by omega)] at hk; exact congrArg Value.bool (decide_eq_true hk).symm)))
 · (
 first
 | (exfalso; omega)
 | (
 refine c_cond_f rfl (c_skip (e_next (c_seq (c_seq ?_))))
 refine c_region (r_val .none rfl (p_move rfl) ?_)
 refine r_val .none rfl (p_leng Try.underlying48 rfl hr) ?_
 have bd_4 := (hr).bound
 refine r_val .none rfl (p_move rfl) (r_nil (e_next (c_block ?_)))
 refine c_name (d := 0) rfl (fun u_5 hu_5 => ?_)
 refine c_name (d := 1) rfl (fun u_6 hu_6 => ?_)
 refine c_name (d := 12) rfl (fun u_7 hu_7 => ?_)
 refine c_loop (σ := Nat) (fun k => [(13, Value.int .i64 (k : Nat)), (0, u_5), (1, u_6), (12, u_7)]) (fun k => []) (fun _ => _) (fun k => k ≤ a.length ∧ a.length = b.length ∧ a.take k = b.take k) (fun k => a.length - k) (0) ⟨Nat.zero_le _, by omega, rfl⟩ rfl ⟨rfl, rfl, rfl, rfl, trivial⟩ (.nil) (fun k hphi => ?_)
 subst hu_5
 subst hu_6
 subst hu_7
 refine c_seq (c_region ?_)
 refine r_val .none rfl (p_lt rfl rfl) ?_
 refine r_nil (e_next (c_seq ?_))
 refine c_splitd (d := 14) rfl (fun h_8 => ?_) (fun h_8 => ?_)
 · (
 first
 | (exfalso; omega)
 | (
 refine c_cond_t rfl (c_skip (e_next (c_seq (c_block ?_))))
 refine c_seq (c_region (r_val .none rfl (p_move rfl) (r_val .none rfl (p_assign rfl) (r_nil ?_))))
 refine e_next (c_seq ?_)
 refine c_region_q mixed (by kernel_rfl) ?_
 refine q_val .none rfl (p_move rfl) ?_
 refine q_val .none rfl (p_move rfl) ?_
 refine q_iaddr_g .none rfl Try.underlying48 sz52 rfl hr rfl (by first | exact odt rfl | omega) (fun p_10 o_11 R_9 => ?_)
 refine q_val .none rfl (p_ldga0 Try.underlying52 rfl sz52 rfl R_9 (by first | exact odt rfl | omega) (rfl : _ = Value.agg #[_, _, _])) ?_
 refine q_val .none rfl (p_move rfl) ?_
 refine q_val .none rfl (p_move rfl) ?_
 refine q_iaddr_g .none rfl Try.underlying48 sz52 rfl hr2 rfl (by first | exact odt rfl | omega) (fun p_13 o_14 R_12 => ?_)
 refine q_val .none rfl (p_ldga0 Try.underlying52 rfl sz52 rfl R_12 (by first | exact odt rfl | omega) (rfl : _ = Value.agg #[_, _, _])) ?_
 refine q_val .none rfl (p_nea rfl rfl (eq_flat Try.underlying52 rfl lf52 ef52 eg52 (.cons (.int Try.underlying3) (.cons (.int Try.underlying3) (.cons (.int Try.underlying3) (.nil)))) (.cons (.int Try.underlying3) (.cons (.int Try.underlying3) (.cons (.int Try.underlying3) (.nil)))))) ?_
 refine q_nil ?_
 refine e_next ?_
 refine c_splitn (d := 24) rfl (fun h_15 => ?_) (fun h_15 => ?_)
 · (
 have hE : a.getD k t0 ≠ b.getD k t0 := of_decide_eq_false ((tC_eq _ _).symm.trans h_15)
 first
 | (exfalso; omega)
 | (
 refine c_cond_t rfl (c_seq (c_region (r_val .none rfl (p_assign rfl) (r_nil ?_))))
 refine e_next ?_
 refine c_ret ?_
 refine e_ret_block ?_
 refine e_ret_then ?_
 refine e_ret_then ?_
 refine e_ret_block ?_
 refine e_ret_then ?_
 refine e_ret1 Try.results73 (.tmp rfl .nil) (fun w hm => ⟨?_, hm.since⟩)
 first
 | exact congrArg Value.bool (decide_eq_false (ne_of_len (by omega))).symm
 | exact congrArg Value.bool (decide_eq_false (ne_of_get hE)).symm
 | (have hk := hphi.2.2; rw [List.take_of_length_le (by omega), List.take_of_length_le (by omega)] at hk; exact congrArg Value.bool (decide_eq_true hk).symm)))
 · (
 have hE : a.getD k t0 = b.getD k t0 := of_decide_eq_true ((tC_eq _ _).symm.trans h_15)
 first
 | (exfalso; omega)
 | (
 refine c_cond_f rfl (c_skip ?_)
 refine e_norm_block ?_
 refine e_next (c_region ?_)
 refine r_val .none rfl (p_add rfl rfl (by omega)) ?_
 refine r_val .none rfl (p_move rfl) (r_nil ?_)
 refine e_round (k + 1) ⟨⟨by omega, hphi.2.1, take_eq_succ (d := t0) (by omega) (by omega) hphi.2.2 hE⟩, by omega⟩ rfl ⟨rfl, rfl, rfl, rfl, trivial⟩ (.nil)))))
 · (
 first
 | (exfalso; omega)
 | (
 refine c_cond_f rfl (c_exit (e_exit_then (e_exit_then ?_)))
 refine e_exit_block ?_
 refine e_next (c_seq (c_region (r_val .none rfl (p_assign rfl) (r_nil ?_))))
 refine e_next ?_
 refine c_ret ?_
 refine e_ret1 Try.results73 (.tmp rfl .nil) (fun w hm => ⟨?_, hm.since⟩)
 first
 | exact congrArg Value.bool (decide_eq_false (ne_of_len (by omega))).symm
 | exact congrArg Value.bool (decide_eq_false (ne_of_get hE)).symm
 | (have hk := hphi.2.2; rw [List.take_of_length_le (by omega), List.take_of_length_le (by omega)] at hk; exact congrArg Value.bool (decide_eq_true hk).symm)))))
theorem c_eqfS (n : Nat) (ih : CsameIs n) (v v2 : Value) (l l2 : List ST) {G : Ghost} (hz : ∀ x ∈ l, SizeOf.sizeOf x ≤ n) (hs : Ss G v l) (hs2 : Ss G v2 l2) (w : World) (hG : Has G w) :
    Calls Try.prog 74 #[v, v2, Value.func (.func 62) #[] #[]] w (Ret fun r w' => r = Value.bool (seqL l l2) ∧ Since nX w w') := by
 refine enter (args := [_, _, _]) (X := nX) (G := G) (l := [(0, v), (1, v2), (2, Value.func (.func 62) #[] #[])]) Try.func74 rfl Try.ntmps74 hG ⟨rfl, rfl, rfl, trivial⟩ (Nat.le_of_ble_eq_true rfl) ?_
 obtain ⟨rs, hr, hrt, hrs, hl⟩ := hs.inv
 obtain ⟨rs2, hr2, hrt2, hrs2, hl2⟩ := hs2.inv
 have hbd := hr.bound
 have hbd2 := hr2.bound
 refine c_seq (c_region (r_val .none rfl (p_assign rfl) (r_nil (e_next ?_))))
 refine c_seq (c_seq (c_region (r_val .none rfl (p_move rfl) ?_)))
 refine r_val .none rfl (p_leng Try.underlying35 rfl hr) ?_
 have bd_1 := (hr).bound
 refine r_val .none rfl (p_move rfl) ?_
 refine r_val .none rfl (p_leng Try.underlying35 rfl hr2) ?_
 have bd_2 := (hr2).bound
 refine r_val .none rfl (p_ne rfl rfl) ?_
 refine r_nil (e_next ?_)
 refine c_splitd (d := 14) rfl (fun h_3 => ?_) (fun h_3 => ?_)
 · (
 first
 | (exfalso; omega)
 | (
 refine c_cond_t rfl (c_seq (c_region (r_val .none rfl (p_assign rfl) (r_nil ?_))))
 refine e_next ?_
 refine c_ret ?_
 refine e_ret_then ?_
 refine e_ret1 Try.results74 (.tmp rfl .nil) (fun w hm => ⟨?_, hm.since⟩)
 first
 | (rw [hl, hl2, seqL_len (by simp; omega)])
 | (rw [hl, hl2, ← hphi.2.2, seqL_no (by omega) (by omega) hE])
 | (rw [hl, hl2, ← hphi.2.2, List.drop_eq_nil_of_le (by simp; omega), List.drop_eq_nil_of_le (by simp; omega)]; rfl)))
 · (
 first
 | (exfalso; omega)
 | (
 refine c_cond_f rfl (c_skip (e_next (c_seq (c_seq ?_))))
 refine c_region (r_val .none rfl (p_move rfl) ?_)
 refine r_val .none rfl (p_leng Try.underlying35 rfl hr) ?_
 have bd_4 := (hr).bound
 refine r_val .none rfl (p_move rfl) (r_nil (e_next (c_block ?_)))
 refine c_name (d := 1) rfl (fun u_5 hu_5 => ?_)
 refine c_name (d := 2) rfl (fun u_6 hu_6 => ?_)
 refine c_name (d := 15) rfl (fun u_7 hu_7 => ?_)
 refine c_name (d := 16) rfl (fun u_8 hu_8 => ?_)
 refine c_loop (σ := Nat) (fun k => [(17, Value.int .i64 (k : Nat)), (1, u_5), (2, u_6), (15, u_7), (16, u_8)]) (fun k => []) (fun _ => _) (fun k => k ≤ rs.length ∧ rs.length = rs2.length ∧ seqL ((rs.map Prod.fst).drop k) ((rs2.map Prod.fst).drop k) = seqL (rs.map Prod.fst) (rs2.map Prod.fst)) (fun k => rs.length - k) (0) ⟨Nat.zero_le _, by omega, rfl⟩ rfl ⟨rfl, rfl, rfl, rfl, rfl, trivial⟩ (.nil) (fun k hphi => ?_)
 subst hu_5
 subst hu_6
 subst hu_7
 subst hu_8
 refine c_seq (c_region ?_)
 refine r_val .none rfl (p_lt rfl rfl) ?_
 refine r_nil (e_next (c_seq ?_))
 refine c_splitd (d := 18) rfl (fun h_9 => ?_) (fun h_9 => ?_)
 · (
 first
 | (exfalso; omega)
 | (
 refine c_cond_t rfl (c_skip (e_next (c_seq (c_block ?_))))
 refine c_seq (c_region (r_val .none rfl (p_move rfl) ?_))
 refine r_iaddr_g .none rfl Try.underlying35 sz50 rfl hr rfl (by first | exact odt rfl | omega) (fun p_11 o_12 R_10 => ?_)
 have ht_13 := hrt _ (getD_mem (i := k) (d := s0) (by omega))
 have hc_14 := hrs _ (getD_mem (i := k) (d := s0) (by omega))
 refine r_val .none rfl (p_ldga0 Try.underlying50 rfl sz50 rfl R_10 (by first | exact odt rfl | omega) (rfl : _ = Value.agg #[_, _, _, _, _, _])) ?_
 refine r_alloc .none rfl zr50 (IsRow.lit _) (fun b_1 => ?_)
 refine r_val .none rfl (p_assign rfl) ?_
 refine r_stw (k := 0) .none sz50 rfl rfl (IsRow.lit _) (one_lit rfl (all_cons rfl (all_cons rfl (all_cons rfl (all_cons rfl (all_cons (ht_13).one (all_cons (hc_14).one rfl))))))) rfl ?_
 refine r_nil (e_next (c_seq (c_region (r_val .none rfl (p_move rfl) ?_))))
 refine r_val .none rfl (p_move rfl) ?_
 refine r_iaddr_g .none rfl Try.underlying35 sz50 rfl hr2 rfl (by first | exact odt rfl | omega) (fun p_16 o_17 R_15 => ?_)
 have ht_18 := hrt2 _ (getD_mem (i := k) (d := s0) (by omega))
 have hc_19 := hrs2 _ (getD_mem (i := k) (d := s0) (by omega))
 refine r_val .none rfl (p_ldga0 Try.underlying50 rfl sz50 rfl R_15 (by first | exact odt rfl | omega) (rfl : _ = Value.agg #[_, _, _, _, _, _])) ?_
 refine r_alloc .none rfl zr50 (IsRow.lit _) (fun b_2 => ?_)
 refine r_stw (k := 0) .none sz50 rfl rfl (IsRow.lit _) (one_lit rfl (all_cons rfl (all_cons rfl (all_cons rfl (all_cons rfl (all_cons (ht_18).one (all_cons (hc_19).one rfl))))))) rfl ?_
 refine r_nil (e_next (c_seq (c_region (r_val .none rfl (p_move rfl) ?_))))
 refine r_val .none rfl (p_ldw (k := 1) Try.underlying50 rfl sz50 rfl rfl (rfl : _ = Value.agg #[_, _, _, _, _, _])) ?_
 refine r_val .none rfl (p_ldw (k := 0) Try.underlying50 rfl sz50 rfl rfl (rfl : _ = Value.agg #[_, _, _, _, _, _])) ?_
 refine r_fun (cs := []) .none rfl ?_
 refine r_call (vs := [_, _]) .none rfl cl62 rfl (fun w hw => ih (rs.getD k s0).1 _ _ _ _ _ _ w (hz _ (by rw [hl]; exact sv_mem (k := k) (by omega))) ht_13 hc_14 ht_18 hc_19 hw) ?_
 refine r_val .none rfl (p_not rfl) ?_
 refine r_nil (e_next ?_)
 refine c_splitn (d := 30) rfl (fun h_20 => ?_) (fun h_20 => ?_)
 · (
 have hE := h_20
 first
 | (exfalso; omega)
 | (
 refine c_cond_t rfl (c_seq (c_region (r_val .none rfl (p_assign rfl) (r_nil ?_))))
 refine e_next ?_
 refine c_ret ?_
 refine e_ret_block ?_
 refine e_ret_then ?_
 refine e_ret_then ?_
 refine e_ret_block ?_
 refine e_ret_then ?_
 refine e_ret1 Try.results74 (.tmp rfl .nil) (fun w hm => ⟨?_, hm.since⟩)
 first
 | (rw [hl, hl2, seqL_len (by simp; omega)])
 | (rw [hl, hl2, ← hphi.2.2, seqL_no (by omega) (by omega) hE])
 | (rw [hl, hl2, ← hphi.2.2, List.drop_eq_nil_of_le (by simp; omega), List.drop_eq_nil_of_le (by simp; omega)]; rfl)))
 · (
 have hE := h_20
 first
 | (exfalso; omega)
 | (
 refine c_cond_f rfl (c_skip ?_)
 refine e_norm_block ?_
 refine e_next (c_region ?_)
 refine r_val .none rfl (p_add rfl rfl (by omega)) ?_
 refine r_val .none rfl (p_move rfl) (r_nil ?_)
 refine e_round (k + 1) ⟨⟨by omega, hphi.2.1, by rw [seqL_yes (by omega) (by omega) hE]; exact hphi.2.2⟩, by omega⟩ rfl ⟨rfl, rfl, rfl, rfl, rfl, trivial⟩ (.drop (.drop (.nil)))))))
 · (
 first
 | (exfalso; omega)
 | (
 refine c_cond_f rfl (c_exit (e_exit_then (e_exit_then ?_)))
 refine e_exit_block ?_
 refine e_next (c_seq (c_region (r_val .none rfl (p_assign rfl) (r_nil ?_))))
 refine e_next ?_
 refine c_ret ?_
 refine e_ret1 Try.results74 (.tmp rfl .nil) (fun w hm => ⟨?_, hm.since⟩)
 first
 | (rw [hl, hl2, seqL_len (by simp; omega)])
 | (rw [hl, hl2, ← hphi.2.2, seqL_no (by omega) (by omega) hE])
 | (rw [hl, hl2, ← hphi.2.2, List.drop_eq_nil_of_le (by simp; omega), List.drop_eq_nil_of_le (by simp; omega)]; rfl)))))
theorem c_csame_s (n : Nat) (ih : CsameIs n) (c c2 : ST) (ta sb ta2 sb2 : Value) {G : Ghost} (hz : SizeOf.sizeOf c ≤ n + 1) (ht : SlL G ta 3 tC t0 c.h.ts) (hs : Ss G sb c.subs) (ht2 : SlL G ta2 3 tC t0 c2.h.ts) (hs2 : Ss G sb2 c2.subs) (w : World) (hG : Has G w) :
    Calls Try.prog 62 #[Value.agg #[Value.int .i64 c.h.k, Value.int .i64 c.h.k0, Value.int .i64 c.h.k1, Value.int .i64 c.h.k2, ta, sb], Value.agg #[Value.int .i64 c2.h.k, Value.int .i64 c2.h.k0, Value.int .i64 c2.h.k1, Value.int .i64 c2.h.k2, ta2, sb2]] w (Ret fun r w' => r = Value.bool (seq c c2) ∧ Since nX w w') := by
 refine enter (args := [_, _]) (X := nX) (G := G) (l := [(0, Value.agg #[Value.int .i64 c.h.k, Value.int .i64 c.h.k0, Value.int .i64 c.h.k1, Value.int .i64 c.h.k2, ta, sb]), (1, Value.agg #[Value.int .i64 c2.h.k, Value.int .i64 c2.h.k0, Value.int .i64 c2.h.k1, Value.int .i64 c2.h.k2, ta2, sb2])]) Try.func62 rfl Try.ntmps62 hG ⟨rfl, rfl, trivial⟩ (Nat.le_of_ble_eq_true rfl) ?_
 refine c_seq (c_region ?_)
 refine r_box .none rfl rfl (IsRow.lit _) (fun b_1 => ?_)
 refine r_box .none rfl rfl (IsRow.lit _) (fun b_2 => ?_)
 refine r_val .none rfl (p_assign rfl) (r_nil (e_next (c_seq (c_region ?_))))
 refine r_val .none rfl (p_field Try.underlying50 rfl sz3 rfl) ?_
 refine r_val .none rfl (p_ld (k := 1) Try.underlying3 rfl rfl rfl (by first | exact odt rfl | omega) (rfl : _ = Value.int _ _)) ?_
 refine r_val .none rfl (p_field Try.underlying50 rfl sz3 rfl) ?_
 refine r_val .none rfl (p_ld (k := 0) Try.underlying3 rfl rfl rfl (by first | exact odt rfl | omega) (rfl : _ = Value.int _ _)) ?_
 refine r_val .none rfl (p_eq rfl rfl) ?_
 refine r_val .none rfl (p_move rfl) ?_
 refine' r_and (c := 10) (d := 16) [_, _, _, _, _, _] rfl (fun h_1 Q_2 hQ_3 => ?_) (fun h_1 Q_2 hQ_3 => ?_) ?_
 rotate_left 1
 · (
 replace h_1 := of_decide_eq_true h_1
 refine r_val (.some rfl rfl) rfl (p_field Try.underlying50 rfl sz47 rfl) ?_
 refine r_val (.some rfl rfl) rfl (p_lda (k := 1) Try.underlying47 rfl sz47 rfl rfl (by first | exact odt rfl | omega) (rfl : _ = Value.agg #[_, _, _])) ?_
 refine r_val (.some rfl rfl) rfl (p_field Try.underlying50 rfl sz47 rfl) ?_
 refine r_val (.some rfl rfl) rfl (p_lda (k := 0) Try.underlying47 rfl sz47 rfl rfl (by first | exact odt rfl | omega) (rfl : _ = Value.agg #[_, _, _])) ?_
 refine r_val (.some rfl rfl) rfl (p_eqa rfl rfl (eq_flat Try.underlying47 rfl lf47 ef47 eg47 (.cons (.int Try.underlying3) (.cons (.int Try.underlying3) (.cons (.int Try.underlying3) (.nil)))) (.cons (.int Try.underlying3) (.cons (.int Try.underlying3) (.cons (.int Try.underlying3) (.nil)))))) ?_
 refine r_val .none rfl (p_pick_t rfl rfl) ?_
 refine r_nil (e_fin (d := 16) hQ_3 rfl (by repeat (first | exact .refl | refine .put rfl ?_ | refine .say rfl ?_ | refine .say2 rfl (by first | assumption | simp_all) ?_))))
 · (
 repeat (first | refine r_skip rfl (.no rfl rfl) ?_ | refine r_skip rfl (.un rfl rfl) ?_)
 refine r_val (by first | exact .none | exact .some rfl rfl) rfl (p_pick_f rfl rfl) ?_
 refine r_nil (e_fin (d := 16) hQ_3 rfl (by repeat (first | exact .refl | refine .put rfl ?_ | refine .say rfl ?_ | refine .say2 rfl (by first | assumption | simp_all) ?_))))
 refine r_val .none rfl (p_move rfl) ?_
 refine' r_and (c := 17) (d := 23) [_, _, _, _, _, _] rfl (fun h_5 Q_6 hQ_7 => ?_) (fun h_5 Q_6 hQ_7 => ?_) ?_
 rotate_left 1
 · (
 try simp only [norms] at h_5
 refine r_val (.some rfl rfl) rfl (p_field Try.underlying50 rfl sz48 rfl) ?_
 refine r_val (.some rfl rfl) rfl (p_ld (k := 1) Try.underlying48 rfl rfl rfl (by first | exact odt rfl | omega) rfl) ?_
 refine r_val (.some rfl rfl) rfl (p_field Try.underlying50 rfl sz48 rfl) ?_
 refine r_val (.some rfl rfl) rfl (p_ld (k := 0) Try.underlying48 rfl rfl rfl (by first | exact odt rfl | omega) rfl) ?_
 refine r_call (vs := [_, _]) (.some rfl rfl) rfl cl73 rfl (fun w hw => c_eqT _ _ _ _ ht ht2 w hw) ?_
 refine r_val .none rfl (p_pick_t rfl rfl) ?_
 refine r_nil (e_fin (d := 23) hQ_7 rfl (by repeat (first | exact .refl | refine .put rfl ?_ | refine .say rfl ?_ | refine .say2 rfl (by first | assumption | simp_all) ?_))))
 · (
 repeat (first | refine r_skip rfl (.no rfl rfl) ?_ | refine r_skip rfl (.un rfl rfl) ?_)
 refine r_val (by first | exact .none | exact .some rfl rfl) rfl (p_pick_f rfl rfl) ?_
 refine r_nil (e_fin (d := 23) hQ_7 rfl (by repeat (first | exact .refl | refine .put rfl ?_ | refine .say rfl ?_ | refine .say2 rfl (by first | assumption | simp_all) ?_))))
 refine r_val .none rfl (p_move rfl) ?_
 refine' r_and (c := 24) (d := 30) [_, _, _, _, _, _] rfl (fun h_9 Q_10 hQ_11 => ?_) (fun h_9 Q_10 hQ_11 => ?_) ?_
 rotate_left 1
 · (
 try simp only [norms] at h_9
 refine r_val (.some rfl rfl) rfl (p_field Try.underlying50 rfl sz35 rfl) ?_
 refine r_val (.some rfl rfl) rfl (p_ld (k := 1) Try.underlying35 rfl rfl rfl (by first | exact odt rfl | omega) rfl) ?_
 refine r_val (.some rfl rfl) rfl (p_field Try.underlying50 rfl sz35 rfl) ?_
 refine r_val (.some rfl rfl) rfl (p_ld (k := 0) Try.underlying35 rfl rfl rfl (by first | exact odt rfl | omega) rfl) ?_
 refine r_call (vs := [_, _, _]) (.some rfl rfl) rfl cl74 rfl (fun w hw => c_eqfS n ih _ _ _ _ (fun x hx => by have := List.sizeOf_lt_of_mem hx; have := s_subs c; omega) hs hs2 w hw) ?_
 refine r_val .none rfl (p_pick_t rfl rfl) ?_
 refine r_nil (e_fin (d := 30) hQ_11 rfl (by repeat (first | exact .refl | refine .put rfl ?_ | refine .say rfl ?_ | refine .say2 rfl (by first | assumption | simp_all) ?_))))
 · (
 repeat (first | refine r_skip rfl (.no rfl rfl) ?_ | refine r_skip rfl (.un rfl rfl) ?_)
 refine r_val (by first | exact .none | exact .some rfl rfl) rfl (p_pick_f rfl rfl) ?_
 refine r_nil (e_fin (d := 30) hQ_11 rfl (by repeat (first | exact .refl | refine .put rfl ?_ | refine .say rfl ?_ | refine .say2 rfl (by first | assumption | simp_all) ?_))))
 refine r_val .none rfl (p_assign rfl) (r_nil (e_next ?_))
 refine c_ret ?_
 refine e_ret1 Try.results62 (.tmp rfl .nil) (fun w hm => ⟨?_, hm.since⟩)
 rw [seq_eq]
 first
 | rfl
 | (show _ = _; congr 1; simp only [Bool.and_assoc]; rfl)
theorem c_csame_n : ∀ n, CsameIs n
 | 0 => fun c c2 ta sb ta2 sb2 G w hz _ _ _ _ _ => absurd hz (by have := s_pos c; omega)
 | n + 1 => fun c c2 ta sb ta2 sb2 G w hz ht hs ht2 hs2 hG => c_csame_s n (c_csame_n n) c c2 ta sb ta2 sb2 hz ht hs ht2 hs2 w hG
theorem c_csame (c c2 : ST) (ta sb ta2 sb2 : Value) {G : Ghost} (ht : SlL G ta 3 tC t0 c.h.ts) (hs : Ss G sb c.subs) (ht2 : SlL G ta2 3 tC t0 c2.h.ts) (hs2 : Ss G sb2 c2.subs) (w : World) (hG : Has G w) : Calls Try.prog 62 #[Value.agg #[Value.int .i64 c.h.k, Value.int .i64 c.h.k0, Value.int .i64 c.h.k1, Value.int .i64 c.h.k2, ta, sb], Value.agg #[Value.int .i64 c2.h.k, Value.int .i64 c2.h.k0, Value.int .i64 c2.h.k1, Value.int .i64 c2.h.k2, ta2, sb2]] w (Ret fun r w' => r = Value.bool (seq c c2) ∧ Since nX w w') := c_csame_n _ c c2 ta sb ta2 sb2 G w (Nat.le_refl _) ht hs ht2 hs2 hG
theorem c_sref_s (n : Nat) (ih : SrefIs n) (c : ST) (ta sb : Value) {G : Ghost} (hz : SizeOf.sizeOf c ≤ n + 1) (hsz : ssz c ≤ 5000) (ht : SlL G ta 3 tC t0 c.h.ts) (hs : Ss G sb c.subs) (w : World) (hG : Has G w) :
    Calls Try.prog 37 #[Value.agg #[Value.int .i64 c.h.k, Value.int .i64 c.h.k0, Value.int .i64 c.h.k1, Value.int .i64 c.h.k2, ta, sb]] w (Ret fun r w' => ∃ G', GNew w nX G G' ∧ Has G' w' ∧ (∃ ua ub, r = Value.agg #[Value.int .i64 (c).h.k, Value.int .i64 (c).h.k0, Value.int .i64 (c).h.k1, Value.int .i64 (c).h.k2, ua, ub] ∧ SlL G' ua 3 tC t0 (c).h.ts ∧ Ss G' ub (c).subs) ∧ Since nX w w') := by
 refine enter (args := [_]) (X := nX) (G := G) (l := [(0, Value.agg #[Value.int .i64 c.h.k, Value.int .i64 c.h.k0, Value.int .i64 c.h.k1, Value.int .i64 c.h.k2, ta, sb])]) Try.func37 rfl Try.ntmps37 hG ⟨rfl, trivial⟩ (Nat.le_of_ble_eq_true rfl) ?_
 obtain ⟨rs, hr, hrt, hrs, hl⟩ := hs.inv
 have hbd := hr.bound
 have hbd2 := ht.bound
 have hsq := ssz_eq c
 have hll := sszL_len c.subs
 have hlr : c.subs.length = rs.length := by rw [hl]; simp
 refine c_seq (c_region ?_)
 refine r_box .none rfl rfl (IsRow.lit _) (fun b_1 => ?_)
 refine r_alloc .none rfl zr90 (IsRow.lit _) (fun b_2 => ?_)
 refine r_nil (e_next (c_seq (c_region ?_)))
 refine r_val .none rfl (p_field Try.underlying50 rfl sz3 rfl) ?_
 refine r_val .none rfl (p_ld (k := 1) Try.underlying3 rfl rfl rfl (by first | exact odt rfl | omega) (rfl : _ = Value.int _ _)) ?_
 refine r_val .none rfl (p_field Try.underlying50 rfl sz47 rfl) ?_
 refine r_val .none rfl (p_lda (k := 1) Try.underlying47 rfl sz47 rfl rfl (by first | exact odt rfl | omega) (rfl : _ = Value.agg #[_, _, _])) ?_
 refine r_val .none rfl (p_build (vs := [(0, Value.int _ _), (1, Value.agg #[_, _, _])]) rfl (bl90_0i1_1a3 _ _ _ _)) ?_
 refine r_alloc .none rfl zr90 (IsRow.lit _) (fun b_3 => ?_)
 refine r_stw (k := 0) .none sz90 rfl rfl (IsRow.lit _) (one_lit rfl rfl) rfl ?_
 refine r_nil (e_next (c_seq (c_seq (c_region ?_))))
 refine r_val .none rfl (p_field Try.underlying50 rfl sz48 rfl) ?_
 refine r_val .none rfl (p_ld (k := 2) Try.underlying48 rfl rfl rfl (by first | exact odt rfl | omega) rfl) ?_
 refine r_val .none rfl (p_leng Try.underlying48 rfl ht) ?_
 have bd_1 := (ht).bound
 refine r_val .none rfl (p_move rfl) (r_nil (e_next (c_block ?_)))
 refine c_nilrow 96 3 ?_
 refine c_name (d := 1) rfl (fun u_2 hu_2 => ?_)
 refine c_name (d := 2) rfl (fun u_3 hu_3 => ?_)
 refine c_name (d := 3) rfl (fun u_4 hu_4 => ?_)
 refine c_name (d := 14) rfl (fun u_5 hu_5 => ?_)
 refine c_name (d := 15) rfl (fun u_6 hu_6 => ?_)
 refine c_nameL (k := 2) rfl (fun A_7 hA_7 => ?_)
 refine c_nameL (k := 3) rfl (fun A_8 hA_8 => ?_)
 refine c_loop (σ := Nat × Value) (fun s => [(16, Value.int .i64 (s.1 : Nat)), (1, u_2), (2, u_3), (3, u_4), (14, u_5), (15, u_6)]) (fun s => [rowA (s.2) 96 3 ((c.h.ts.take s.1)).length (((c.h.ts.take s.1)).flatMap tC), box b_3 6 90 (at_ [.int .i64 c.h.k, .int .i64 c.h.k0, .int .i64 c.h.k1, .int .i64 c.h.k2, s.2, .slice none 0 0]), A_7, A_8]) (fun _ => _) (fun s => s.1 ≤ c.h.ts.length) (fun s => c.h.ts.length - s.1) ((0, _)) (Nat.zero_le _) rfl ⟨rfl, rfl, rfl, rfl, rfl, rfl, trivial⟩ (.keep (fun _ _ h => rowA_nil rfl _ _ h) (.keep (fun _ _ h => box_congr (fun i hi => by match i, hi with | 0, _ => rfl | 1, _ => rfl | 2, _ => rfl | 3, _ => rfl | 4, _ => rfl | 5, _ => rfl) _ _ h) (.keep (fun _ _ h => h) (.keep (fun _ _ h => h) (.nil))))) (fun s hphi => ?_)
 subst hu_2
 subst hu_3
 subst hu_4
 subst hu_5
 subst hu_6
 subst hA_7
 subst hA_8
 obtain ⟨j, tv⟩ := s
 dsimp only at hphi ⊢
 refine c_row1 (k := 0) rfl (fun ov => ?_)
 refine c_rowlen (k := 0) rfl (fun l63 => ?_)
 refine c_seq (c_region ?_)
 refine r_val .none rfl (p_lt rfl rfl) ?_
 refine r_nil (e_next (c_seq ?_))
 refine c_splitd (d := 17) rfl (fun h_9 => ?_) (fun h_9 => ?_)
 · (
 first
 | (exfalso; omega)
 | (
 refine c_cond_t rfl (c_skip (e_next (c_seq (c_block ?_))))
 refine c_seq (c_region ?_)
 refine r_iaddr_g .none rfl Try.underlying48 sz52 rfl ht rfl (by first | exact odt rfl | omega) (fun p_11 o_12 R_10 => ?_)
 refine r_val .none rfl (p_ldga0 Try.underlying52 rfl sz52 rfl R_10 (by first | exact odt rfl | omega) (rfl : _ = Value.agg #[_, _, _])) ?_
 refine r_alloc .none rfl zr52 (IsRow.lit _) (fun b_4 => ?_)
 refine r_stw (k := 0) .none sz52 rfl rfl (IsRow.lit _) (one_lit rfl rfl) rfl ?_
 refine r_nil (e_next (c_region ?_))
 refine r_val .none rfl (p_field Try.underlying90 rfl sz88 rfl) ?_
 refine r_val .none rfl (p_ld (k := 2) Try.underlying88 rfl rfl rfl (by first | exact odt rfl | omega) rfl) ?_
 refine r_val .none rfl (p_field Try.underlying52 rfl sz3 rfl) ?_
 refine r_val .none rfl (p_ld (k := 0) Try.underlying3 rfl rfl rfl (by first | exact odt rfl | omega) (rfl : _ = Value.int _ _)) ?_
 refine r_val .none rfl (p_field Try.underlying52 rfl sz3 rfl) ?_
 refine r_val .none rfl (p_ld (k := 0) Try.underlying3 rfl rfl rfl (by first | exact odt rfl | omega) (rfl : _ = Value.int _ _)) ?_
 refine r_val .none rfl (p_field Try.underlying52 rfl sz3 rfl) ?_
 refine r_val .none rfl (p_ld (k := 0) Try.underlying3 rfl rfl rfl (by first | exact odt rfl | omega) (rfl : _ = Value.int _ _)) ?_
 refine r_val .none rfl (p_build (vs := [(0, Value.int _ _), (1, Value.int _ _), (2, Value.int _ _)]) rfl (bl96_0i1_1i1_2i1 _ _ _)) ?_
 refine r_bslice (vs := [(0, Value.agg #[_, _, _])]) (c := #[_, _, _]) .none rfl Try.underlying88 el96 rfl rfl rfl (bs96_10a3 _ _ _) (IsRow.lit _) (fun b_5 => ?_)
 refine r_append (k := 2) (k2 := 0) .none rfl Try.underlying88 el96 rfl (by decide) rfl rfl rfl rfl rfl (one_lit rfl rfl) (by rw [List.length_take]; simp only [maxLen]; omega) (by rw [List.length_take]; omega) (fun v_13 => ?_)
 refine r_row1 (k := 2) rfl (fun o_14 => ?_)
 refine r_val .none rfl (p_field Try.underlying90 rfl sz88 rfl) ?_
 refine r_st (k := 3) .none sz88 rfl rfl o_14 rfl (by first | exact odt rfl | omega) ?_
 refine r_nil ?_
 refine e_norm_block ?_
 refine e_next (c_region ?_)
 refine r_val .none rfl (p_add rfl rfl (by omega)) ?_
 refine r_val .none rfl (p_move rfl) (r_nil ?_)
 refine e_round ((j + 1, _)) ⟨by dsimp only; omega, by dsimp only; omega⟩ rfl ⟨rfl, rfl, rfl, rfl, rfl, rfl, trivial⟩ (.drop (.drop (.keep (fun _ _ h => rowA_snoc (ts_next (by omega)) rfl rfl rfl _ _ h) (.keep (fun _ _ h => box_congr (fun i hi => by match i, hi with | 0, _ => rfl | 1, _ => rfl | 2, _ => rfl | 3, _ => rfl | 4, _ => rfl | 5, _ => rfl) _ _ h) (.keep (fun _ _ h => h) (.keep (fun _ _ h => h) (.nil)))))))))
 · (
 first
 | (exfalso; omega)
 | (
 refine c_cond_f rfl (c_exit (e_exit_then (e_exit_then ?_)))
 refine e_exit_block ?_
 refine e_next (c_seq (c_seq (c_region ?_)))
 have hj2 : c.h.ts.take j = c.h.ts := List.take_of_length_le (by omega)
 refine r_freeze (k := 0) rfl (fun G_15 hn_16 hs_17 => ?_)
 replace ht := ht.mono hn_16.le
 replace hr := hr.mono hn_16.le
 replace hrt := fun p hm0 => (hrt p hm0).mono hn_16.le
 replace hrs := fun p hm0 => (hrs p hm0).mono hn_16.le
 have hts : SlL G_15 tv 3 tC t0 c.h.ts := SlL.of2 t0 (fun _ => rfl) (by rw [hj2]) (by rw [hj2]) hs_17
 refine r_val .none rfl (p_field Try.underlying50 rfl sz35 rfl) ?_
 refine r_val .none rfl (p_ld (k := 2) Try.underlying35 rfl rfl rfl (by first | exact odt rfl | omega) rfl) ?_
 refine r_val .none rfl (p_leng Try.underlying35 rfl hr) ?_
 have bd_18 := (hr).bound
 refine r_val .none rfl (p_move rfl) (r_nil (e_next (c_block ?_)))
 refine c_nilrow 90 6 ?_
 refine c_name (d := 2) rfl (fun u_19 hu_19 => ?_)
 refine c_name (d := 3) rfl (fun u_20 hu_20 => ?_)
 refine c_name (d := 34) rfl (fun u_21 hu_21 => ?_)
 refine c_name (d := 35) rfl (fun u_22 hu_22 => ?_)
 refine c_nameL (k := 2) rfl (fun A_23 hA_23 => ?_)
 refine c_nameL (k := 3) rfl (fun A_24 hA_24 => ?_)
 refine c_loop (σ := Nat × Value × List SVal × Ghost) (fun s => [(36, Value.int .i64 (s.1 : Nat)), (2, u_19), (3, u_20), (34, u_21), (35, u_22)]) (fun s => [rowA (s.2.1) 90 6 (s.2.2.1).length ((s.2.2.1).flatMap sC), box b_3 6 90 (at_ [.int .i64 c.h.k, .int .i64 c.h.k0, .int .i64 c.h.k1, .int .i64 c.h.k2, tv, s.2.1]), A_23, A_24]) (fun s => s.2.2.2) (fun s => s.1 ≤ rs.length ∧ s.2.2.1.map Prod.fst = (rs.map Prod.fst).take s.1 ∧ (∀ p ∈ s.2.2.1, SlL s.2.2.2 p.2.1 3 tC t0 p.1.h.ts) ∧ (∀ p ∈ s.2.2.1, Ss s.2.2.2 p.2.2 p.1.subs) ∧ GNew w nX G_15 s.2.2.2) (fun s => rs.length - s.1) ((0, _, [], _)) ⟨Nat.zero_le _, rfl, by simp, by simp, GNew.refl _ _ _⟩ rfl ⟨rfl, rfl, rfl, rfl, rfl, trivial⟩ (.keep (fun _ _ h => rowA_nil rfl _ _ h) (.keep (fun _ _ h => box_congr (fun i hi => by match i, hi with | 0, _ => rfl | 1, _ => rfl | 2, _ => rfl | 3, _ => rfl | 4, _ => rfl | 5, _ => rfl) _ _ h) (.keep (fun _ _ h => h) (.keep (fun _ _ h => h) (.nil))))) (fun s hphi => ?_)
 subst hu_19
 subst hu_20
 subst hu_21
 subst hu_22
 subst hA_23
 subst hA_24
 obtain ⟨k, v, qs, H⟩ := s
 obtain ⟨hk, hq, hqt, hqs, hgn⟩ := hphi
 dsimp only at hk hq hqt hqs hgn ⊢
 have hql : qs.length ≤ k := (by have := congrArg List.length hq; simp at this; omega)
 refine c_row1 (k := 0) rfl (fun ov => ?_)
 refine c_rowlen (k := 0) rfl (fun l63 => ?_)
 replace ht := ht.mono hgn.le
 replace hr := hr.mono hgn.le
 replace hrt := fun p hm0 => (hrt p hm0).mono hgn.le
 replace hrs := fun p hm0 => (hrs p hm0).mono hgn.le
 replace hts := hts.mono hgn.le
 refine c_seq (c_region ?_)
 refine r_val .none rfl (p_lt rfl rfl) ?_
 refine r_nil (e_next (c_seq ?_))
 refine c_splitd (d := 37) rfl (fun h_25 => ?_) (fun h_25 => ?_)
 · (
 first
 | (exfalso; omega)
 | (
 refine c_cond_t rfl (c_skip (e_next (c_seq (c_block ?_))))
 refine c_seq (c_region ?_)
 refine r_iaddr_g .none rfl Try.underlying35 sz50 rfl hr rfl (by first | exact odt rfl | omega) (fun p_27 o_28 R_26 => ?_)
 have ht_29 := hrt _ (getD_mem (i := k) (d := s0) (by omega))
 have hc_30 := hrs _ (getD_mem (i := k) (d := s0) (by omega))
 have hz8 : ssz (rs.getD k s0).1 ≤ 5000 := Nat.le_trans (sszL_mem (l := c.subs) (by rw [hl]; exact sv_mem (k := k) (by omega))) (by omega)
 refine r_val .none rfl (p_ldga0 Try.underlying50 rfl sz50 rfl R_26 (by first | exact odt rfl | omega) (rfl : _ = Value.agg #[_, _, _, _, _, _])) ?_
 refine r_alloc .none rfl zr50 (IsRow.lit _) (fun b_6 => ?_)
 refine r_stw (k := 0) .none sz50 rfl rfl (IsRow.lit _) (one_lit rfl (all_cons rfl (all_cons rfl (all_cons rfl (all_cons rfl (all_cons (ht_29).one (all_cons (hc_30).one rfl))))))) rfl ?_
 refine r_nil (e_next ?_)
 refine c_region_d (fun j => [5, 6, 7].contains j) _ mixed (.keep (fun _ _ h => h) (.keep (fun _ _ h => h) (.keep (fun _ _ h => h) (.keep (fun _ _ h => h) (.keep (fun _ _ h => h) (.nil)))))) ?_
 refine d_val1 0 rfl rfl (by kernel_rfl) (fun j hj => by have h : 7 < j := (Nat.lt_of_lt_of_le (by decide : 7 < 8) hj); simp; omega) .none rfl (p_field Try.underlying90 rfl sz29 rfl) ?_
 refine d_val1 1 rfl rfl (by kernel_rfl) (fun j hj => by have h : 7 < j := (Nat.lt_of_lt_of_le (by decide : 7 < 8) hj); simp; omega) .none rfl (p_ld (k := 2) Try.underlying29 rfl rfl rfl (by first | exact odt rfl | omega) rfl) ?_
 refine d_val1 2 rfl rfl (by kernel_rfl) (fun j hj => by have h : 7 < j := (Nat.lt_of_lt_of_le (by decide : 7 < 8) hj); simp; omega) .none rfl (p_ldw (k := 0) Try.underlying50 rfl sz50 rfl rfl (rfl : _ = Value.agg #[_, _, _, _, _, _])) ?_
 refine d_eff 3 rfl (by kernel_rfl) (fun K_31 hKK_31 hcK_31 => ?_)
 refine r_callm (vs := [_]) .none rfl cl37 rfl (fun w hw => ih (rs.getD k s0).1 _ _ _ w (ssz_at hl (by omega) hz) hz8 ht_29 hc_30 hw) (fun G_32 v_35 hn_33 hr_34 => ?_)
 replace ht := ht.mono hn_33.le
 replace hr := hr.mono hn_33.le
 replace hrt := fun p hm0 => (hrt p hm0).mono hn_33.le
 replace hrs := fun p hm0 => (hrs p hm0).mono hn_33.le
 replace hts := hts.mono hn_33.le
 replace hqt := fun p hm0 => (hqt p hm0).mono hn_33.le
 replace hqs := fun p hm0 => (hqs p hm0).mono hn_33.le
 replace R_26 := R_26.mono hn_33.le
 replace ht_29 := ht_29.mono hn_33.le
 replace hc_30 := hc_30.mono hn_33.le
 obtain ⟨u_36a, u_36b, rfl, u_36s, u_36t⟩ := hr_34
 refine r_nil (e_d (i := 3) (brk := (fun j => [5, 6, 7].contains j)) (ph' := true) hKK_31 hcK_31 rfl (fun _ => hn_33.le) (fun _ => .keep (fun _ _ h => h) (.keep (fun _ _ h => h) (.keep (fun _ _ h => h) (.keep (fun _ _ h => h) (.keep (fun _ _ h => h) (.nil)))))) ?_)
 clear hKK_31 hcK_31 K_31
 refine d_eff 4 rfl (by kernel_rfl) (fun K_37 hKK_37 hcK_37 => ?_)
 refine r_bslice (vs := [(0, Value.agg #[_, _, _, _, _, _])]) (c := #[_, _, _, _, _, _]) .none rfl Try.underlying29 el90 rfl rfl rfl (bs90_10a6 _ _ _ _ _ _) (IsRow.lit _) (fun b_7 => ?_)
 refine r_nil (e_d (i := 4) (brk := (fun j => [5, 6, 7].contains j)) (ph' := true) hKK_37 hcK_37 rfl (fun _ => hn_33.le) (fun _ => .drop (.keep (fun _ _ h => h) (.keep (fun _ _ h => h) (.keep (fun _ _ h => h) (.keep (fun _ _ h => h) (.keep (fun _ _ h => h) (.nil))))))) ?_)
 clear hKK_37 hcK_37 K_37
 refine d_eff 5 rfl (by kernel_rfl) (fun K_38 hKK_38 hcK_38 => ?_)
 refine r_append (k := 2) (k2 := 0) .none rfl Try.underlying29 el90 rfl (by decide) rfl rfl rfl rfl rfl (one_lit rfl (all_cons rfl (all_cons rfl (all_cons rfl (all_cons rfl (all_cons (u_36s).one (all_cons (u_36t).one rfl))))))) (by simp only [maxLen]; omega) (by omega) (fun v_39 => ?_)
 refine r_row1 (k := 2) rfl (fun o_40 => ?_)
 refine r_nil (e_d (i := 5) (brk := (fun j => [5, 6, 7].contains j)) (ph' := false) hKK_38 hcK_38 rfl (fun h => by cases h) (fun h => by cases h) ?_)
 clear hKK_38 hcK_38 K_38
 refine d_val2 6 rfl rfl (by kernel_rfl) .none rfl (fun _ => p_field Try.underlying90 rfl sz29 rfl) ?_
 refine d_eff 7 rfl (by kernel_rfl) (fun K_41 hKK_41 hcK_41 => ?_)
 refine r_st (k := 3) .none sz29 rfl rfl o_40 rfl (by first | exact odt rfl | omega) ?_
 refine r_nil (e_d (i := 7) (brk := (fun j => [5, 6, 7].contains j)) (ph' := false) hKK_41 hcK_41 rfl (fun h => by cases h) (fun h => by cases h) ?_)
 clear hKK_41 hcK_41 K_41
 refine d_nil (by kernel_rfl) ?_
 refine e_norm_block ?_
 refine e_next (c_region ?_)
 refine r_val .none rfl (p_add rfl rfl (by omega)) ?_
 refine r_val .none rfl (p_move rfl) (r_nil ?_)
 refine e_round ((k + 1, _, qs ++ [((rs.getD k s0).1, u_36a, u_36b)], _)) ⟨⟨by dsimp only; omega, by rw [sv_take (by omega), List.map_append, hq]; rfl, (fun p hp' => by rcases List.mem_append.1 hp' with h | h; exact hqt p h; rw [List.mem_singleton.1 h]; exact u_36s), (fun p hp' => by rcases List.mem_append.1 hp' with h | h; exact hqs p h; rw [List.mem_singleton.1 h]; exact u_36t), (hgn.trans hn_33)⟩, by dsimp only; omega⟩ rfl ⟨rfl, rfl, rfl, rfl, rfl, trivial⟩ (.drop (.drop (.keep (fun _ _ h => rowA_snoc (l := qs) (x := ((rs.getD k s0).1, u_36a, u_36b)) rfl rfl rfl rfl _ _ h) (.keep (fun _ _ h => box_congr (fun i hi => by match i, hi with | 0, _ => rfl | 1, _ => rfl | 2, _ => rfl | 3, _ => rfl | 4, _ => rfl | 5, _ => rfl) _ _ h) (.keep (fun _ _ h => h) (.keep (fun _ _ h => h) (.nil)))))))))
 · (
 first
 | (exfalso; omega)
 | (
 refine c_cond_f rfl (c_exit (e_exit_then (e_exit_then ?_)))
 refine e_exit_block ?_
 refine e_next (c_seq (c_region ?_))
 refine r_val .none rfl (p_ldw (k := 1) Try.underlying90 rfl sz90 rfl rfl (rfl : _ = Value.agg #[_, _, _, _, _, _])) ?_
 refine r_stw (k := 2) .none sz90 rfl rfl (IsRow.lit _) (one_lit rfl (all_cons rfl (all_cons rfl (all_cons rfl (all_cons rfl (all_cons (hts).one (all_cons ov rfl))))))) rfl ?_
 refine r_nil (e_next ?_)
 refine c_ret ?_
 refine e_freeze (k := 0) rfl (fun G_42 hn_43 hs_44 => ?_)
 replace ht := ht.mono hn_43.le
 replace hr := hr.mono hn_43.le
 replace hrt := fun p hm0 => (hrt p hm0).mono hn_43.le
 replace hrs := fun p hm0 => (hrs p hm0).mono hn_43.le
 replace hts := hts.mono hn_43.le
 replace hqt := fun p hm0 => (hqt p hm0).mono hn_43.le
 replace hqs := fun p hm0 => (hqs p hm0).mono hn_43.le
 refine e_ret1 Try.results37 (.cell (k := 1) rfl Try.underlying90 rfl sz90 rfl (rfl : _ = Value.agg #[_, _, _, _, _, _]) .nil) (fun w hm => ⟨_, ((hn_16.trans hgn).trans hn_43), hm.has, ?_, hm.since⟩)
 exact ⟨_, _, rfl, hts, by rw [show c.subs = qs.map Prod.fst by rw [hq, hl, List.take_of_length_le (by simp; omega)]]; exact Ss.mk qs (SlL.of s0 (fun _ => rfl) rfl hs_44) hqt hqs⟩))))
theorem c_sref_n : ∀ n, SrefIs n
 | 0 => fun c ta sb G w hz _ _ _ _ => absurd hz (by have := s_pos c; omega)
 | n + 1 => fun c ta sb G w hz hsz ht hs hG => c_sref_s n (c_sref_n n) c ta sb hz hsz ht hs w hG
theorem c_sref (c : ST) (ta sb : Value) {G : Ghost} (hsz : ssz c ≤ 5000) (ht : SlL G ta 3 tC t0 c.h.ts) (hs : Ss G sb c.subs) (w : World) (hG : Has G w) : Calls Try.prog 37 #[Value.agg #[Value.int .i64 c.h.k, Value.int .i64 c.h.k0, Value.int .i64 c.h.k1, Value.int .i64 c.h.k2, ta, sb]] w (Ret fun r w' => ∃ G', GNew w nX G G' ∧ Has G' w' ∧ (∃ ua ub, r = Value.agg #[Value.int .i64 (c).h.k, Value.int .i64 (c).h.k0, Value.int .i64 (c).h.k1, Value.int .i64 (c).h.k2, ua, ub] ∧ SlL G' ua 3 tC t0 (c).h.ts ∧ Ss G' ub (c).subs) ∧ Since nX w w') := c_sref_n _ c ta sb G w (Nat.le_refl _) hsz ht hs hG
theorem c_rsameS_s (n : Nat) (ih : RsameSIs n) (c c2 : ST) (ta sb ta2 sb2 : Value) {G : Ghost} (hz : SizeOf.sizeOf c ≤ n + 1) (ht : SlL G ta 3 tC t0 c.h.ts) (hs : Ss G sb c.subs) (ht2 : SlL G ta2 3 tC t0 c2.h.ts) (hs2 : Ss G sb2 c2.subs) (w : World) (hG : Has G w) :
    Calls Try.prog 55 #[Value.agg #[Value.int .i64 c.h.k, Value.int .i64 c.h.k0, Value.int .i64 c.h.k1, Value.int .i64 c.h.k2, ta, sb], Value.agg #[Value.int .i64 c2.h.k, Value.int .i64 c2.h.k0, Value.int .i64 c2.h.k1, Value.int .i64 c2.h.k2, ta2, sb2]] w (Ret fun r w' => r = Value.bool (seq c c2) ∧ Since nX w w') := by
 refine enter (args := [_, _]) (X := nX) (G := G) (l := [(0, Value.agg #[Value.int .i64 c.h.k, Value.int .i64 c.h.k0, Value.int .i64 c.h.k1, Value.int .i64 c.h.k2, ta, sb]), (1, Value.agg #[Value.int .i64 c2.h.k, Value.int .i64 c2.h.k0, Value.int .i64 c2.h.k1, Value.int .i64 c2.h.k2, ta2, sb2])]) Try.func55 rfl Try.ntmps55 hG ⟨rfl, rfl, trivial⟩ (Nat.le_of_ble_eq_true rfl) ?_
 obtain ⟨rs, hr, hrt, hrs, hl⟩ := hs.inv
 obtain ⟨rs2, hr2, hrt2, hrs2, hl2⟩ := hs2.inv
 have hbd := hr.bound
 have hbd2 := hr2.bound
 have hbd3 := ht.bound
 have hbd4 := ht2.bound
 have hlr : c.subs.length = rs.length := by rw [hl]; simp
 have hlr2 : c2.subs.length = rs2.length := by rw [hl2]; simp
 refine c_seq (c_region ?_)
 refine r_box .none rfl rfl (IsRow.lit _) (fun b_1 => ?_)
 refine r_box .none rfl rfl (IsRow.lit _) (fun b_2 => ?_)
 refine r_val .none rfl (p_assign rfl) (r_nil (e_next (c_seq (c_seq ?_))))
 refine c_region ?_
 refine r_val .none rfl (p_field Try.underlying90 rfl sz3 rfl) ?_
 refine r_val .none rfl (p_ld (k := 1) Try.underlying3 rfl rfl rfl (by first | exact odt rfl | omega) (rfl : _ = Value.int _ _)) ?_
 refine r_val .none rfl (p_field Try.underlying90 rfl sz3 rfl) ?_
 refine r_val .none rfl (p_ld (k := 0) Try.underlying3 rfl rfl rfl (by first | exact odt rfl | omega) (rfl : _ = Value.int _ _)) ?_
 refine r_val .none rfl (p_ne rfl rfl) ?_
 refine r_val .none rfl (p_move rfl) ?_
 refine' r_or (c := 12) (d := 18) [_, _, _, _, _, _] rfl (fun h_1 Q_2 hQ_3 => ?_) (fun h_1 Q_2 hQ_3 => ?_) ?_
 rotate_left 1
 · (
 replace h_1 := of_decide_eq_false h_1
 refine r_val (.some rfl rfl) rfl (p_field Try.underlying90 rfl sz46 rfl) ?_
 refine r_val (.some rfl rfl) rfl (p_lda (k := 1) Try.underlying46 rfl sz46 rfl rfl (by first | exact odt rfl | omega) (rfl : _ = Value.agg #[_, _, _])) ?_
 refine r_val (.some rfl rfl) rfl (p_field Try.underlying90 rfl sz46 rfl) ?_
 refine r_val (.some rfl rfl) rfl (p_lda (k := 0) Try.underlying46 rfl sz46 rfl rfl (by first | exact odt rfl | omega) (rfl : _ = Value.agg #[_, _, _])) ?_
 refine r_val (.some rfl rfl) rfl (p_nea rfl rfl (eq_flat Try.underlying46 rfl lf46 ef46 eg46 (.cons (.int Try.underlying3) (.cons (.int Try.underlying3) (.cons (.int Try.underlying3) (.nil)))) (.cons (.int Try.underlying3) (.cons (.int Try.underlying3) (.cons (.int Try.underlying3) (.nil)))))) ?_
 refine r_val .none rfl (p_pick_f rfl rfl) ?_
 refine r_nil (e_fin (d := 18) hQ_3 rfl (by repeat (first | exact .refl | refine .put rfl ?_ | refine .say rfl ?_ | refine .say2 rfl (by first | assumption | simp_all) ?_))))
 · (
 repeat (first | refine r_skip rfl (.no rfl rfl) ?_ | refine r_skip rfl (.un rfl rfl) ?_)
 refine r_val (by first | exact .none | exact .some rfl rfl) rfl (p_pick_t rfl rfl) ?_
 refine r_nil (e_fin (d := 18) hQ_3 rfl (by repeat (first | exact .refl | refine .put rfl ?_ | refine .say rfl ?_ | refine .say2 rfl (by first | assumption | simp_all) ?_))))
 refine r_val .none rfl (p_move rfl) ?_
 refine' r_or (c := 19) (d := 27) [_, _, _, _, _, _, _, _] rfl (fun h_5 Q_6 hQ_7 => ?_) (fun h_5 Q_6 hQ_7 => ?_) ?_
 rotate_left 1
 · (
 try simp only [norms] at h_5
 refine r_val (.some rfl rfl) rfl (p_field Try.underlying90 rfl sz88 rfl) ?_
 refine r_val (.some rfl rfl) rfl (p_ld (k := 1) Try.underlying88 rfl rfl rfl (by first | exact odt rfl | omega) rfl) ?_
 refine r_val (.some rfl rfl) rfl (p_leng Try.underlying88 rfl ht) ?_
 have bd_9 := (ht).bound
 refine r_val (.some rfl rfl) rfl (p_field Try.underlying90 rfl sz88 rfl) ?_
 refine r_val (.some rfl rfl) rfl (p_ld (k := 0) Try.underlying88 rfl rfl rfl (by first | exact odt rfl | omega) rfl) ?_
 refine r_val (.some rfl rfl) rfl (p_leng Try.underlying88 rfl ht2) ?_
 have bd_10 := (ht2).bound
 refine r_val (.some rfl rfl) rfl (p_ne rfl rfl) ?_
 refine r_val .none rfl (p_pick_f rfl rfl) ?_
 refine r_nil (e_fin (d := 27) hQ_7 rfl (by repeat (first | exact .refl | refine .put rfl ?_ | refine .say rfl ?_ | refine .say2 rfl (by first | assumption | simp_all) ?_))))
 · (
 repeat (first | refine r_skip rfl (.no rfl rfl) ?_ | refine r_skip rfl (.un rfl rfl) ?_)
 refine r_val (by first | exact .none | exact .some rfl rfl) rfl (p_pick_t rfl rfl) ?_
 refine r_nil (e_fin (d := 27) hQ_7 rfl (by repeat (first | exact .refl | refine .put rfl ?_ | refine .say rfl ?_ | refine .say2 rfl (by first | assumption | simp_all) ?_))))
 refine r_val .none rfl (p_move rfl) ?_
 refine' r_or (c := 28) (d := 36) [_, _, _, _, _, _, _, _] rfl (fun h_11 Q_12 hQ_13 => ?_) (fun h_11 Q_12 hQ_13 => ?_) ?_
 rotate_left 1
 · (
 try simp only [norms] at h_11
 refine r_val (.some rfl rfl) rfl (p_field Try.underlying90 rfl sz29 rfl) ?_
 refine r_val (.some rfl rfl) rfl (p_ld (k := 1) Try.underlying29 rfl rfl rfl (by first | exact odt rfl | omega) rfl) ?_
 refine r_val (.some rfl rfl) rfl (p_leng Try.underlying29 rfl hr) ?_
 have bd_15 := (hr).bound
 refine r_val (.some rfl rfl) rfl (p_field Try.underlying90 rfl sz29 rfl) ?_
 refine r_val (.some rfl rfl) rfl (p_ld (k := 0) Try.underlying29 rfl rfl rfl (by first | exact odt rfl | omega) rfl) ?_
 refine r_val (.some rfl rfl) rfl (p_leng Try.underlying29 rfl hr2) ?_
 have bd_16 := (hr2).bound
 refine r_val (.some rfl rfl) rfl (p_ne rfl rfl) ?_
 refine r_val .none rfl (p_pick_f rfl rfl) ?_
 refine r_nil (e_fin (d := 36) hQ_13 rfl (by repeat (first | exact .refl | refine .put rfl ?_ | refine .say rfl ?_ | refine .say2 rfl (by first | assumption | simp_all) ?_))))
 · (
 repeat (first | refine r_skip rfl (.no rfl rfl) ?_ | refine r_skip rfl (.un rfl rfl) ?_)
 refine r_val (by first | exact .none | exact .some rfl rfl) rfl (p_pick_t rfl rfl) ?_
 refine r_nil (e_fin (d := 36) hQ_13 rfl (by repeat (first | exact .refl | refine .put rfl ?_ | refine .say rfl ?_ | refine .say2 rfl (by first | assumption | simp_all) ?_))))
 refine r_nil (e_next ?_)
 refine c_split (d := 36) rfl (fun h_17 => ?_) (fun h_17 => ?_)
 · (
 try simp only [norms] at h_17
 have hN : ((¬ c.h.k = c2.h.k ∨ kEq c.h c2.h = false) ∨ ¬ (c.h.ts.length : Int) = c2.h.ts.length) ∨ ¬ (rs.length : Int) = rs2.length := h_17
 first
 | (exfalso; omega)
 | (
 refine c_cond_t rfl (c_seq (c_region (r_val .none rfl (p_assign rfl) (r_nil ?_))))
 refine e_next ?_
 refine c_ret ?_
 refine e_ret_then ?_
 refine e_ret1 Try.results55 (.tmp rfl .nil) (fun w hm => ⟨?_, hm.since⟩)
 first
 | exact congrArg Value.bool (seq_no (hN.imp (Or.imp_right (fun hx => by omega)) (fun hx => by omega))).symm
 | exact congrArg Value.bool (seq_ts (ne_of_get hE)).symm
 | (rw [seq_sub hN.1.1.1 hN.1.1.2 hts, hl, hl2, ← hphi.2.2, seqL_no (by omega) (by omega) hF]; done)
 | (rw [seq_sub hN.1.1.1 hN.1.1.2 hts, hl, hl2, ← hphi.2.2, List.drop_eq_nil_of_le (by simp; omega), List.drop_eq_nil_of_le (by simp; omega)]; rfl)))
 · (
 try simp only [norms] at h_17
 have hN : ((c.h.k = c2.h.k ∧ kEq c.h c2.h = true) ∧ (c.h.ts.length : Int) = c2.h.ts.length) ∧ (rs.length : Int) = rs2.length := h_17
 first
 | (exfalso; omega)
 | (
 refine c_cond_f rfl (c_skip (e_next (c_seq (c_seq ?_))))
 refine c_region ?_
 refine r_val .none rfl (p_field Try.underlying90 rfl sz88 rfl) ?_
 refine r_val .none rfl (p_ld (k := 1) Try.underlying88 rfl rfl rfl (by first | exact odt rfl | omega) rfl) ?_
 refine r_val .none rfl (p_leng Try.underlying88 rfl ht) ?_
 have bd_18 := (ht).bound
 refine r_val .none rfl (p_move rfl) (r_nil (e_next (c_block ?_)))
 refine c_name (d := 2) rfl (fun u_19 hu_19 => ?_)
 refine c_name (d := 3) rfl (fun u_20 hu_20 => ?_)
 refine c_name (d := 39) rfl (fun u_21 hu_21 => ?_)
 refine c_nameL (k := 0) rfl (fun A_22 hA_22 => ?_)
 refine c_nameL (k := 1) rfl (fun A_23 hA_23 => ?_)
 refine c_loop (σ := Nat) (fun j => [(40, Value.int .i64 (j : Nat)), (2, u_19), (3, u_20), (39, u_21)]) (fun j => [A_22, A_23]) (fun _ => _) (fun j => j ≤ c.h.ts.length ∧ c.h.ts.take j = c2.h.ts.take j) (fun j => c.h.ts.length - j) (0) ⟨Nat.zero_le _, rfl⟩ rfl ⟨rfl, rfl, rfl, rfl, trivial⟩ (.keep (fun _ _ h => h) (.keep (fun _ _ h => h) (.nil))) (fun j hphi => ?_)
 subst hu_19
 subst hu_20
 subst hu_21
 subst hA_22
 subst hA_23
 have hj := hphi
 refine c_seq (c_region ?_)
 refine r_val .none rfl (p_lt rfl rfl) ?_
 refine r_nil (e_next (c_seq ?_))
 refine c_splitd (d := 41) rfl (fun h_24 => ?_) (fun h_24 => ?_)
 · (
 first
 | (exfalso; omega)
 | (
 refine c_cond_t rfl (c_skip (e_next (c_seq (c_block ?_))))
 refine c_seq (c_region (r_val .none rfl (p_move rfl) (r_val .none rfl (p_assign rfl) (r_nil ?_))))
 refine e_next (c_seq ?_)
 refine c_region_q mixed (by kernel_rfl) ?_
 refine q_val .none rfl (p_field Try.underlying90 rfl sz88 rfl) ?_
 refine q_val .none rfl (p_ld (k := 1) Try.underlying88 rfl rfl rfl (by first | exact odt rfl | omega) rfl) ?_
 refine q_val .none rfl (p_move rfl) ?_
 refine q_iaddr_g .none rfl Try.underlying88 sz96 rfl ht rfl (by first | exact odt rfl | omega) (fun p_26 o_27 R_25 => ?_)
 refine q_val .none rfl (p_ldga0 Try.underlying96 rfl sz96 rfl R_25 (by first | exact odt rfl | omega) (rfl : _ = Value.agg #[_, _, _])) ?_
 refine q_val .none rfl (p_field Try.underlying90 rfl sz88 rfl) ?_
 refine q_val .none rfl (p_ld (k := 0) Try.underlying88 rfl rfl rfl (by first | exact odt rfl | omega) rfl) ?_
 refine q_val .none rfl (p_move rfl) ?_
 refine q_iaddr_g .none rfl Try.underlying88 sz96 rfl ht2 rfl (by first | exact odt rfl | omega) (fun p_29 o_30 R_28 => ?_)
 refine q_val .none rfl (p_ldga0 Try.underlying96 rfl sz96 rfl R_28 (by first | exact odt rfl | omega) (rfl : _ = Value.agg #[_, _, _])) ?_
 refine q_val .none rfl (p_nea rfl rfl (eq_flat Try.underlying96 rfl lf96 ef96 eg96 (.cons (.int Try.underlying3) (.cons (.int Try.underlying3) (.cons (.int Try.underlying3) (.nil)))) (.cons (.int Try.underlying3) (.cons (.int Try.underlying3) (.cons (.int Try.underlying3) (.nil)))))) ?_
 refine q_nil ?_
 refine e_next ?_
 refine c_splitn (d := 53) rfl (fun h_31 => ?_) (fun h_31 => ?_)
 · (
 have hE : c.h.ts.getD j t0 ≠ c2.h.ts.getD j t0 := of_decide_eq_false ((tC_eq _ _).symm.trans h_31)
 first
 | (exfalso; omega)
 | (
 refine c_cond_t rfl (c_seq (c_region (r_val .none rfl (p_assign rfl) (r_nil ?_))))
 refine e_next ?_
 refine c_ret ?_
 refine e_ret_block ?_
 refine e_ret_then ?_
 refine e_ret_then ?_
 refine e_ret_block ?_
 refine e_ret_then ?_
 refine e_ret1 Try.results55 (.tmp rfl .nil) (fun w hm => ⟨?_, hm.since⟩)
 first
 | exact congrArg Value.bool (seq_no (hN.imp (Or.imp_right (fun hx => by omega)) (fun hx => by omega))).symm
 | exact congrArg Value.bool (seq_ts (ne_of_get hE)).symm
 | (rw [seq_sub hN.1.1.1 hN.1.1.2 hts, hl, hl2, ← hphi.2.2, seqL_no (by omega) (by omega) hF]; done)
 | (rw [seq_sub hN.1.1.1 hN.1.1.2 hts, hl, hl2, ← hphi.2.2, List.drop_eq_nil_of_le (by simp; omega), List.drop_eq_nil_of_le (by simp; omega)]; rfl)))
 · (
 have hE : c.h.ts.getD j t0 = c2.h.ts.getD j t0 := of_decide_eq_true ((tC_eq _ _).symm.trans h_31)
 first
 | (exfalso; omega)
 | (
 refine c_cond_f rfl (c_skip ?_)
 refine e_norm_block ?_
 refine e_next (c_region ?_)
 refine r_val .none rfl (p_add rfl rfl (by omega)) ?_
 refine r_val .none rfl (p_move rfl) (r_nil ?_)
 refine e_round (j + 1) ⟨⟨by omega, take_eq_succ (d := t0) (by omega) (by omega) hphi.2 hE⟩, by omega⟩ rfl ⟨rfl, rfl, rfl, rfl, trivial⟩ (.keep (fun _ _ h => h) (.keep (fun _ _ h => h) (.nil)))))))
 · (
 first
 | (exfalso; omega)
 | (
 refine c_cond_f rfl (c_exit (e_exit_then (e_exit_then ?_)))
 refine e_exit_block ?_
 refine e_next (c_seq (c_seq (c_region ?_)))
 refine r_val .none rfl (p_field Try.underlying90 rfl sz29 rfl) ?_
 refine r_val .none rfl (p_ld (k := 1) Try.underlying29 rfl rfl rfl (by first | exact odt rfl | omega) rfl) ?_
 refine r_val .none rfl (p_leng Try.underlying29 rfl hr) ?_
 have bd_32 := (hr).bound
 refine r_val .none rfl (p_move rfl) (r_nil (e_next (c_block ?_)))
 have hts : c.h.ts = c2.h.ts := by have hk := hj.2; rw [List.take_of_length_le (by omega), List.take_of_length_le (by omega)] at hk; exact hk
 refine c_name (d := 2) rfl (fun u_33 hu_33 => ?_)
 refine c_name (d := 3) rfl (fun u_34 hu_34 => ?_)
 refine c_name (d := 57) rfl (fun u_35 hu_35 => ?_)
 refine c_nameL (k := 0) rfl (fun A_36 hA_36 => ?_)
 refine c_nameL (k := 1) rfl (fun A_37 hA_37 => ?_)
 refine c_loop (σ := Nat) (fun k => [(58, Value.int .i64 (k : Nat)), (2, u_33), (3, u_34), (57, u_35)]) (fun k => [A_36, A_37]) (fun _ => _) (fun k => k ≤ rs.length ∧ rs.length = rs2.length ∧ seqL ((rs.map Prod.fst).drop k) ((rs2.map Prod.fst).drop k) = seqL (rs.map Prod.fst) (rs2.map Prod.fst)) (fun k => rs.length - k) (0) ⟨Nat.zero_le _, by omega, rfl⟩ rfl ⟨rfl, rfl, rfl, rfl, trivial⟩ (.keep (fun _ _ h => h) (.keep (fun _ _ h => h) (.nil))) (fun k hphi => ?_)
 subst hu_33
 subst hu_34
 subst hu_35
 subst hA_36
 subst hA_37
 refine c_seq (c_region ?_)
 refine r_val .none rfl (p_lt rfl rfl) ?_
 refine r_nil (e_next (c_seq ?_))
 refine c_splitd (d := 59) rfl (fun h_38 => ?_) (fun h_38 => ?_)
 · (
 first
 | (exfalso; omega)
 | (
 refine c_cond_t rfl (c_skip (e_next (c_seq (c_block ?_))))
 refine c_seq (c_region (r_val .none rfl (p_move rfl) (r_val .none rfl (p_assign rfl) (r_nil ?_))))
 refine e_next (c_seq ?_)
 refine c_region_q mixed (by kernel_rfl) ?_
 refine q_val .none rfl (p_field Try.underlying90 rfl sz29 rfl) ?_
 refine q_val .none rfl (p_ld (k := 1) Try.underlying29 rfl rfl rfl (by first | exact odt rfl | omega) rfl) ?_
 refine q_val .none rfl (p_move rfl) ?_
 refine q_iaddr_g .none rfl Try.underlying29 sz90 rfl hr rfl (by first | exact odt rfl | omega) (fun p_40 o_41 R_39 => ?_)
 have ht_42 := hrt _ (getD_mem (i := k) (d := s0) (by omega))
 have hc_43 := hrs _ (getD_mem (i := k) (d := s0) (by omega))
 refine q_val .none rfl (p_ldga0 Try.underlying90 rfl sz90 rfl R_39 (by first | exact odt rfl | omega) (rfl : _ = Value.agg #[_, _, _, _, _, _])) ?_
 refine q_val .none rfl (p_field Try.underlying90 rfl sz29 rfl) ?_
 refine q_val .none rfl (p_ld (k := 0) Try.underlying29 rfl rfl rfl (by first | exact odt rfl | omega) rfl) ?_
 refine q_val .none rfl (p_move rfl) ?_
 refine q_iaddr_g .none rfl Try.underlying29 sz90 rfl hr2 rfl (by first | exact odt rfl | omega) (fun p_45 o_46 R_44 => ?_)
 have ht_47 := hrt2 _ (getD_mem (i := k) (d := s0) (by omega))
 have hc_48 := hrs2 _ (getD_mem (i := k) (d := s0) (by omega))
 refine q_val .none rfl (p_ldga0 Try.underlying90 rfl sz90 rfl R_44 (by first | exact odt rfl | omega) (rfl : _ = Value.agg #[_, _, _, _, _, _])) ?_
 refine q_call (vs := [_, _]) .none rfl cl55 rfl (fun w hw => ih (rs.getD k s0).1 _ _ _ _ _ _ w (ssz_at hl (by omega) hz) ht_42 hc_43 ht_47 hc_48 hw) ?_
 refine q_val .none rfl (p_not rfl) ?_
 refine q_nil ?_
 refine e_next ?_
 refine c_splitn (d := 72) rfl (fun h_49 => ?_) (fun h_49 => ?_)
 · (
 have hF := h_49
 first
 | (exfalso; omega)
 | (
 refine c_cond_t rfl (c_seq (c_region (r_val .none rfl (p_assign rfl) (r_nil ?_))))
 refine e_next ?_
 refine c_ret ?_
 refine e_ret_block ?_
 refine e_ret_then ?_
 refine e_ret_then ?_
 refine e_ret_block ?_
 refine e_ret_then ?_
 refine e_ret1 Try.results55 (.tmp rfl .nil) (fun w hm => ⟨?_, hm.since⟩)
 first
 | exact congrArg Value.bool (seq_no (hN.imp (Or.imp_right (fun hx => by omega)) (fun hx => by omega))).symm
 | exact congrArg Value.bool (seq_ts (ne_of_get hE)).symm
 | (rw [seq_sub hN.1.1.1 hN.1.1.2 hts, hl, hl2, ← hphi.2.2, seqL_no (by omega) (by omega) hF]; done)
 | (rw [seq_sub hN.1.1.1 hN.1.1.2 hts, hl, hl2, ← hphi.2.2, List.drop_eq_nil_of_le (by simp; omega), List.drop_eq_nil_of_le (by simp; omega)]; rfl)))
 · (
 have hF := h_49
 first
 | (exfalso; omega)
 | (
 refine c_cond_f rfl (c_skip ?_)
 refine e_norm_block ?_
 refine e_next (c_region ?_)
 refine r_val .none rfl (p_add rfl rfl (by omega)) ?_
 refine r_val .none rfl (p_move rfl) (r_nil ?_)
 refine e_round (k + 1) ⟨⟨by omega, hphi.2.1, by rw [seqL_yes (by omega) (by omega) hF]; exact hphi.2.2⟩, by omega⟩ rfl ⟨rfl, rfl, rfl, rfl, trivial⟩ (.keep (fun _ _ h => h) (.keep (fun _ _ h => h) (.nil)))))))
 · (
 first
 | (exfalso; omega)
 | (
 refine c_cond_f rfl (c_exit (e_exit_then (e_exit_then ?_)))
 refine e_exit_block ?_
 refine e_next (c_seq (c_region (r_val .none rfl (p_assign rfl) (r_nil ?_))))
 refine e_next ?_
 refine c_ret ?_
 refine e_ret1 Try.results55 (.tmp rfl .nil) (fun w hm => ⟨?_, hm.since⟩)
 first
 | exact congrArg Value.bool (seq_no (hN.imp (Or.imp_right (fun hx => by omega)) (fun hx => by omega))).symm
 | exact congrArg Value.bool (seq_ts (ne_of_get hE)).symm
 | (rw [seq_sub hN.1.1.1 hN.1.1.2 hts, hl, hl2, ← hphi.2.2, seqL_no (by omega) (by omega) hF]; done)
 | (rw [seq_sub hN.1.1.1 hN.1.1.2 hts, hl, hl2, ← hphi.2.2, List.drop_eq_nil_of_le (by simp; omega), List.drop_eq_nil_of_le (by simp; omega)]; rfl)))))))
theorem c_rsameS_n : ∀ n, RsameSIs n
 | 0 => fun c c2 ta sb ta2 sb2 G w hz _ _ _ _ _ => absurd hz (by have := s_pos c; omega)
 | n + 1 => fun c c2 ta sb ta2 sb2 G w hz ht hs ht2 hs2 hG => c_rsameS_s n (c_rsameS_n n) c c2 ta sb ta2 sb2 hz ht hs ht2 hs2 w hG
theorem c_rsameS (c c2 : ST) (ta sb ta2 sb2 : Value) {G : Ghost} (ht : SlL G ta 3 tC t0 c.h.ts) (hs : Ss G sb c.subs) (ht2 : SlL G ta2 3 tC t0 c2.h.ts) (hs2 : Ss G sb2 c2.subs) (w : World) (hG : Has G w) : Calls Try.prog 55 #[Value.agg #[Value.int .i64 c.h.k, Value.int .i64 c.h.k0, Value.int .i64 c.h.k1, Value.int .i64 c.h.k2, ta, sb], Value.agg #[Value.int .i64 c2.h.k, Value.int .i64 c2.h.k0, Value.int .i64 c2.h.k1, Value.int .i64 c2.h.k2, ta2, sb2]] w (Ret fun r w' => r = Value.bool (seq c c2) ∧ Since nX w w') := c_rsameS_n _ c c2 ta sb ta2 sb2 G w (Nat.le_refl _) ht hs ht2 hs2 hG
theorem c_all8 (v v2 : Value) (l l2 : List ST) {G : Ghost} (hs : Ss G v l) (hs2 : Ss G v2 l2) (w : World) (hG : Has G w) :
    Calls Try.prog 36 #[v, v2] w (Ret fun r w' => r = Value.bool (seqL l l2) ∧ Since nX w w') := by
 refine enter (args := [_, _]) (X := nX) (G := G) (l := [(0, v), (1, v2)]) Try.func36 rfl Try.ntmps36 hG ⟨rfl, rfl, trivial⟩ (Nat.le_of_ble_eq_true rfl) ?_
 obtain ⟨rs, hr, hrt, hrs, hl⟩ := hs.inv
 obtain ⟨rs2, hr2, hrt2, hrs2, hl2⟩ := hs2.inv
 have hbd := hr.bound
 have hbd2 := hr2.bound
 refine c_seq (c_region (r_val .none rfl (p_assign rfl) (r_nil (e_next ?_))))
 refine c_seq (c_seq (c_region (r_val .none rfl (p_move rfl) ?_)))
 refine r_val .none rfl (p_leng Try.underlying29 rfl hr) ?_
 have bd_1 := (hr).bound
 refine r_val .none rfl (p_move rfl) ?_
 refine r_val .none rfl (p_leng Try.underlying29 rfl hr2) ?_
 have bd_2 := (hr2).bound
 refine r_val .none rfl (p_ne rfl rfl) ?_
 refine r_nil (e_next ?_)
 refine c_splitd (d := 10) rfl (fun h_3 => ?_) (fun h_3 => ?_)
 · (
 first
 | (exfalso; omega)
 | (
 refine c_cond_t rfl (c_seq (c_region (r_val .none rfl (p_assign rfl) (r_nil ?_))))
 refine e_next ?_
 refine c_ret ?_
 refine e_ret_then ?_
 refine e_ret1 Try.results36 (.tmp rfl .nil) (fun w hm => ⟨?_, hm.since⟩)
 first
 | (rw [hl, hl2, seqL_len (by simp; omega)])
 | (rw [hl, hl2, ← hphi.2.2, seqL_no (by omega) (by omega) hE])
 | (rw [hl, hl2, ← hphi.2.2, List.drop_eq_nil_of_le (by simp; omega), List.drop_eq_nil_of_le (by simp; omega)]; rfl)))
 · (
 first
 | (exfalso; omega)
 | (
 refine c_cond_f rfl (c_skip (e_next (c_seq (c_seq ?_))))
 refine c_region (r_val .none rfl (p_move rfl) ?_)
 refine r_val .none rfl (p_leng Try.underlying29 rfl hr) ?_
 have bd_4 := (hr).bound
 refine r_val .none rfl (p_move rfl) (r_nil (e_next (c_block ?_)))
 refine c_name (d := 0) rfl (fun u_5 hu_5 => ?_)
 refine c_name (d := 1) rfl (fun u_6 hu_6 => ?_)
 refine c_name (d := 12) rfl (fun u_7 hu_7 => ?_)
 refine c_loop (σ := Nat) (fun k => [(13, Value.int .i64 (k : Nat)), (0, u_5), (1, u_6), (12, u_7)]) (fun k => []) (fun _ => _) (fun k => k ≤ rs.length ∧ rs.length = rs2.length ∧ seqL ((rs.map Prod.fst).drop k) ((rs2.map Prod.fst).drop k) = seqL (rs.map Prod.fst) (rs2.map Prod.fst)) (fun k => rs.length - k) (0) ⟨Nat.zero_le _, by omega, rfl⟩ rfl ⟨rfl, rfl, rfl, rfl, trivial⟩ (.nil) (fun k hphi => ?_)
 subst hu_5
 subst hu_6
 subst hu_7
 refine c_seq (c_region ?_)
 refine r_val .none rfl (p_lt rfl rfl) ?_
 refine r_nil (e_next (c_seq ?_))
 refine c_splitd (d := 14) rfl (fun h_8 => ?_) (fun h_8 => ?_)
 · (
 first
 | (exfalso; omega)
 | (
 refine c_cond_t rfl (c_skip (e_next (c_seq (c_block ?_))))
 refine c_seq (c_region (r_val .none rfl (p_move rfl) (r_val .none rfl (p_assign rfl) (r_nil ?_))))
 refine e_next (c_seq ?_)
 refine c_region_q mixed (by kernel_rfl) ?_
 refine q_val .none rfl (p_move rfl) ?_
 refine q_val .none rfl (p_move rfl) ?_
 refine q_iaddr_g .none rfl Try.underlying29 sz90 rfl hr rfl (by first | exact odt rfl | omega) (fun p_10 o_11 R_9 => ?_)
 have ht_12 := hrt _ (getD_mem (i := k) (d := s0) (by omega))
 have hc_13 := hrs _ (getD_mem (i := k) (d := s0) (by omega))
 refine q_val .none rfl (p_ldga0 Try.underlying90 rfl sz90 rfl R_9 (by first | exact odt rfl | omega) (rfl : _ = Value.agg #[_, _, _, _, _, _])) ?_
 refine q_val .none rfl (p_move rfl) ?_
 refine q_val .none rfl (p_move rfl) ?_
 refine q_iaddr_g .none rfl Try.underlying29 sz90 rfl hr2 rfl (by first | exact odt rfl | omega) (fun p_15 o_16 R_14 => ?_)
 have ht_17 := hrt2 _ (getD_mem (i := k) (d := s0) (by omega))
 have hc_18 := hrs2 _ (getD_mem (i := k) (d := s0) (by omega))
 refine q_val .none rfl (p_ldga0 Try.underlying90 rfl sz90 rfl R_14 (by first | exact odt rfl | omega) (rfl : _ = Value.agg #[_, _, _, _, _, _])) ?_
 refine q_call (vs := [_, _]) .none rfl cl55 rfl (fun w hw => c_rsameS (rs.getD k s0).1 _ _ _ _ _ ht_12 hc_13 ht_17 hc_18 w hw) ?_
 refine q_val .none rfl (p_not rfl) ?_
 refine q_nil ?_
 refine e_next ?_
 refine c_splitn (d := 25) rfl (fun h_19 => ?_) (fun h_19 => ?_)
 · (
 have hE := h_19
 first
 | (exfalso; omega)
 | (
 refine c_cond_t rfl (c_seq (c_region (r_val .none rfl (p_assign rfl) (r_nil ?_))))
 refine e_next ?_
 refine c_ret ?_
 refine e_ret_block ?_
 refine e_ret_then ?_
 refine e_ret_then ?_
 refine e_ret_block ?_
 refine e_ret_then ?_
 refine e_ret1 Try.results36 (.tmp rfl .nil) (fun w hm => ⟨?_, hm.since⟩)
 first
 | (rw [hl, hl2, seqL_len (by simp; omega)])
 | (rw [hl, hl2, ← hphi.2.2, seqL_no (by omega) (by omega) hE])
 | (rw [hl, hl2, ← hphi.2.2, List.drop_eq_nil_of_le (by simp; omega), List.drop_eq_nil_of_le (by simp; omega)]; rfl)))
 · (
 have hE := h_19
 first
 | (exfalso; omega)
 | (
 refine c_cond_f rfl (c_skip ?_)
 refine e_norm_block ?_
 refine e_next (c_region ?_)
 refine r_val .none rfl (p_add rfl rfl (by omega)) ?_
 refine r_val .none rfl (p_move rfl) (r_nil ?_)
 refine e_round (k + 1) ⟨⟨by omega, hphi.2.1, by rw [seqL_yes (by omega) (by omega) hE]; exact hphi.2.2⟩, by omega⟩ rfl ⟨rfl, rfl, rfl, rfl, trivial⟩ (.nil)))))
 · (
 first
 | (exfalso; omega)
 | (
 refine c_cond_f rfl (c_exit (e_exit_then (e_exit_then ?_)))
 refine e_exit_block ?_
 refine e_next (c_seq (c_region (r_val .none rfl (p_assign rfl) (r_nil ?_))))
 refine e_next ?_
 refine c_ret ?_
 refine e_ret1 Try.results36 (.tmp rfl .nil) (fun w hm => ⟨?_, hm.since⟩)
 first
 | (rw [hl, hl2, seqL_len (by simp; omega)])
 | (rw [hl, hl2, ← hphi.2.2, seqL_no (by omega) (by omega) hE])
 | (rw [hl, hl2, ← hphi.2.2, List.drop_eq_nil_of_le (by simp; omega), List.drop_eq_nil_of_le (by simp; omega)]; rfl)))))
end Go.Proofs.Ytdkfdncbldngdaa

/-
  GX: an assertion is brought to the front. Generic in the program.
-/
namespace Go.Gx
theorem Sep.front {w : World} : ∀ {L : List Asrt} {k : Nat} {A : Asrt} {U : Nat → Prop}, L[k]? = some A → Sep w L U → Sep w (A :: L.eraseIdx k) U
  | [], _, _, _, h, _ => by simp at h
  | B :: L, 0, A, U, h, hS => by
    simp at h; subst h; simpa using hS
  | B :: L, k + 1, A, U, h, ⟨F, hB, hF, hL⟩ => by
    simp at h
    obtain ⟨F2, hA, hF2, hR⟩ := Sep.front h hL
    refine ⟨F2, hA, fun b hb => (hF2 b hb).1, ?_⟩
    rw [List.eraseIdx_cons_succ]
    exact ⟨F, hB, fun b hb => ⟨hF b hb, fun h2 => (hF2 b h2).2 hb⟩, hR.mono (fun b _ hb => ⟨⟨hb.1.1, hb.2⟩, hb.1.2⟩)⟩
theorem Mem.front {X : Nat → Prop} {w0 w : World} {G : Ghost} {L : List Asrt} {k : Nat} {A : Asrt} (h : Mem X w0 G w L) (hL : L[k]? = some A) : Mem X w0 G w (A :: L.eraseIdx k) := ⟨h.since, h.has, h.sep.front hL⟩
section
variable {P : Program} {ops : Array Oper} {Q : Exit → Act → World → Prop} {N : Nat} {X : Nat → Prop} {w0 : World} {G : Ghost} {l : List (Nat × Value)} {L : List Asrt} {rest : List Oper} {k : Nat} {A : Asrt}
theorem r_front (hL : L[k]? = some A) (h : Runs P ops Q N X w0 G rest l (A :: L.eraseIdx k)) : Runs P ops Q N X w0 G rest l L := fun a w hS => h a w ⟨hS.fr, hS.mem.front hL⟩
theorem c_front {c : Code} (hL : L[k]? = some A) (h : CRuns P c Q N X w0 G l (A :: L.eraseIdx k)) : CRuns P c Q N X w0 G l L := fun a w hS => h a w ⟨hS.fr, hS.mem.front hL⟩
theorem e_front {e : Exit} (hL : L[k]? = some A) (h : ERuns Q e N X w0 G l (A :: L.eraseIdx k)) : ERuns Q e N X w0 G l L := fun a w hS => h a w ⟨hS.fr, hS.mem.front hL⟩
end
end Go.Gx
namespace Go.Gx
open Go.RowKit
section
variable {P : Program} {N : Nat} {X : Nat → Prop} {w0 : World} {G : Ghost} {l : List (Nat × Value)} {L : List Asrt} {d : Nat} {ty : TypeId} {pos : String} {after : Array Edge} {gd : Option (Nat × Bool)} {x : Operand}
end
end Go.Gx
namespace Go.Gx
open Go.RowKit
section
variable {P : Program} {N : Nat} {X : Nat → Prop} {w0 : World} {G : Ghost} {l : List (Nat × Value)} {L : List Asrt} {d : Nat} {ty : TypeId} {pos : String} {after : Array Edge} {gd : Option (Nat × Bool)} {x : Operand}
/-- A field of a value that is one cell. -/
theorem p_field1 {S : TypeId} {fs : Array Field} {fld : Field} {e : TypeDesc} {j M o : Nat} {c : Array Value} {g : Nat → Value} {u : Value} (hS' : P.underlying S = some (.struct fs)) (hf : fs[j]? = some fld) (hT : P.underlying fld.type = some e) (ha : e.aggB = false) (hm : SzIs P fld.type 1)
    (hx : ev l x = some (.agg c)) (hc : IsRow c M g) (ho : fld.offset = o) (hM : o + 1 ≤ M) (hv : g o = u) : PV P N X w0 G l L ⟨some d, .field S x j, ty, pos, after, gd⟩ u := by
  intro a w hS
  subst ho
  have h1 := hc.get fld.offset (by omega)
  simp only [execOp, hS.fr.eval hx]
  simp [Instr.field, asAgg, run_underlying hS', hf, hm.run, part, run_isAgg hT, ha, h1, ← hv]
end
end Go.Gx

/- Plain laws of chains of steps; no program in sight. -/
namespace Go.Gx.T8
open Go.Gx Go.Gx.T3 Go.Gx.T4 Go.Gx.T6
mutual
/-- The chains of what stands in a step, and its own. -/
def schain1 : List ST → ST → List (List ST)
  | ah, .mk h l => (if h.k = 3 then schains ah l else []) ++ [ah ++ [.mk h l]]
/-- The chains of steps behind a beginning. -/
def schains : List ST → List ST → List (List ST)
  | _, [] => []
  | ah, c :: t => schain1 ah c ++ schains (ah ++ [c]) t
end
theorem schain1_ncc {ah : List ST} {c : ST} (h : c.h.k = 3) : schain1 ah c = schains ah c.subs ++ [ah ++ [c]] := by
  cases c with | mk hd l => have h' : hd.k = 3 := h; rw [schain1, if_pos h']; rfl
theorem schain1_other {ah : List ST} {c : ST} (h : c.h.k ≠ 3) : schain1 ah c = [ah ++ [c]] := by
  cases c with | mk hd l => have h' : hd.k ≠ 3 := h; rw [schain1, if_neg h']; rfl
theorem schains_append (a b : List ST) : ∀ ah, schains ah (a ++ b) = schains ah a ++ schains (ah ++ a) b := by
  induction a with
  | nil => intro ah; simp [schains]
  | cons c t ih => intro ah; simp [schains, ih]
theorem schains_take {rs : List SVal} {k : Nat} {ah : List ST} (hk : k < rs.length) : schains ah ((rs.map Prod.fst).take (k + 1)) = schains ah ((rs.map Prod.fst).take k) ++ schain1 (ah ++ (rs.map Prod.fst).take k) (rs.getD k s0).1 := by
  rw [sv_take hk, schains_append]; simp [schains]
mutual
theorem schain1_len : ∀ (c : ST) (ah : List ST), (schain1 ah c).length ≤ ssz c
  | .mk h l, ah => by
    have := schains_len l ah
    rw [schain1, ssz]
    split <;> simp <;> omega
theorem schains_len : ∀ (l : List ST) (ah : List ST), (schains ah l).length ≤ sszL l
  | [], _ => by simp [schains, sszL]
  | c :: t, ah => by
    have h1 := schain1_len c ah
    have h2 := schains_len t (ah ++ [c])
    rw [schains, sszL, List.length_append]; omega
end
theorem sszL_append (a b : List ST) : sszL (a ++ b) = sszL a + sszL b := by
  induction a with
  | nil => simp [sszL]
  | cons c t ih => simp only [List.cons_append, sszL, ih]; omega
theorem sszL_take {rs : List SVal} {k : Nat} (hk : k < rs.length) : sszL ((rs.map Prod.fst).take (k + 1)) = sszL ((rs.map Prod.fst).take k) + ssz (rs.getD k s0).1 := by
  rw [sv_take hk, sszL_append]; simp [sszL]
theorem sszL_take_le : ∀ (l : List ST) (k : Nat), sszL (l.take k) ≤ sszL l
  | [], k => by simp
  | c :: t, 0 => by simp [sszL]
  | c :: t, k + 1 => by have := sszL_take_le t k; simp only [List.take_succ_cons, sszL]; omega
mutual
theorem schain1_size : ∀ (c : ST) (ah : List ST), ∀ x ∈ schain1 ah c, sszL x ≤ sszL ah + ssz c
  | .mk h l, ah, x, hx => by
    rw [schain1] at hx
    rcases List.mem_append.1 hx with hx | hx
    · split at hx
      · have := schains_size l ah x hx
        rw [ssz]; omega
      · cases hx
    · rw [List.mem_singleton.1 hx, sszL_append]
      simp [sszL]
theorem schains_size : ∀ (l : List ST) (ah : List ST), ∀ x ∈ schains ah l, sszL x ≤ sszL ah + sszL l
  | [], _, x, hx => by rw [schains] at hx; cases hx
  | c :: t, ah, x, hx => by
    rw [schains] at hx
    rcases List.mem_append.1 hx with hx | hx
    · have := schain1_size c ah x hx
      rw [sszL]; omega
    · have := schains_size t (ah ++ [c]) x hx
      rw [sszL_append] at this
      simp only [sszL] at this ⊢
      omega
end
theorem ssub_size {rs : List SVal} {k : Nat} (hk : k < rs.length) : SizeOf.sizeOf (rs.getD k s0).1.subs < SizeOf.sizeOf (rs.map Prod.fst) := by
  have h2 := List.sizeOf_lt_of_mem (sv_mem hk)
  have h3 := s_subs (rs.getD k s0).1
  omega
/-- What is known of chains of steps that were found. -/
abbrev StC (G : Ghost) (z : List (List ST × Value)) : Prop := ∀ q ∈ z, Ss G q.2 q.1
theorem StC.mono {G G' : Ghost} {z : List (List ST × Value)} (h : StC G z) (hle : GLe G G') : StC G' z := fun q hq => (h q hq).mono hle
theorem StC.snoc {G : Ghost} {z : List (List ST × Value)} {v : Value} {l : List ST} (h : StC G z) (hl : Ss G v l) : StC G (z ++ [(l, v)]) := fun q hq => by
  rcases List.mem_append.1 hq with h1 | h1
  · exact h q h1
  · rw [List.mem_singleton.1 h1]; exact hl
theorem StC.app {G : Ghost} {z z' : List (List ST × Value)} (h : StC G z) (h' : StC G z') : StC G (z ++ z') := fun q hq => by
  rcases List.mem_append.1 hq with h1 | h1
  · exact h q h1
  · exact h' q h1
theorem ss_ones {G : Ghost} {rs : List SVal} (hpt : ∀ p ∈ rs, SlL G p.2.1 3 tC t0 p.1.h.ts) (hps : ∀ p ∈ rs, Ss G p.2.2 p.1.subs) : ∀ i, i < rs.length → ∀ j, j < 6 → (at_ (sC (rs.getD i s0)) j).oneCell' = true := by
  intro i hi j hj
  have h1 := SlG.one (hpt _ (getD_mem (d := s0) hi))
  have h2 := (hps _ (getD_mem (d := s0) hi)).one
  match j, hj with
  | 0, _ => rfl
  | 1, _ => rfl
  | 2, _ => rfl
  | 3, _ => rfl
  | 4, _ => exact h1
  | 5, _ => exact h2
theorem ss_all {G : Ghost} {rs : List SVal} (hpt : ∀ p ∈ rs, SlL G p.2.1 3 tC t0 p.1.h.ts) (hps : ∀ p ∈ rs, Ss G p.2.2 p.1.subs) : ∀ u ∈ rs.flatMap sC, u.oneCell' = true := by
  intro u hu
  obtain ⟨p, h1, h2⟩ := List.mem_flatMap.1 hu
  have h3 := SlG.one (hpt p h1)
  have h4 := (hps p h1).one
  simp only [sC, List.mem_cons, List.not_mem_nil, or_false] at h2
  rcases h2 with rfl | rfl | rfl | rfl | rfl | rfl
  all_goals first | rfl | exact h3 | exact h4
theorem ss_one1 {G : Ghost} {z : List (List ST × Value)} (hz : StC G z) : ∀ i, i < z.length → ∀ j, j < 1 → (at_ (lC (z.getD i ([], .slice none 0 0))) j).oneCell' = true := by
  intro i hi j hj
  have h := (hz _ (getD_mem (d := ([], .slice none 0 0)) hi)).one
  match j, hj with
  | 0, _ => exact h
theorem ss_take {G : Ghost} {v : Value} {rs : List SVal} {k : Nat} (hk : k ≤ rs.length) (h : SlG G v k 6 (fun i => at_ (sC (rs.getD i s0)))) : SlL G v 6 sC s0 (rs.take k) := by
  unfold SlL
  rw [List.length_take, Nat.min_eq_left hk]
  refine h.congr fun i hi j _ => ?_
  simp [List.getD, List.getElem?_take, hi]
abbrev es6 : List ST × Value := ([], .slice none 0 0)
theorem schain_small {l : List ST} {qs : List (List ST × Value)} {k m : Nat} (hl : schains [] l = qs.map Prod.fst) (hk : k < qs.length) (hsz : sszL l ≤ m) : sszL (qs.getD k es6).1 ≤ m := by
  have h1 : (qs.getD k es6).1 ∈ schains [] l := by rw [hl]; exact List.mem_map.2 ⟨_, getD_mem hk, rfl⟩
  have := schains_size l [] _ h1
  simp only [sszL] at this
  omega
end Go.Gx.T8

/- Walks: what Go functions of this chapter come to, each as a function on plain data; no condition but those that each theorem names. Printed by a program of this work (gen.py). -/
namespace Go.Proofs.Ytdkfdncbldngdaa
open Go.Gx Go.Gx.T4 Go.Gx.T3 Go.Gx.T6 Go.Gx.T8 Go.Gx.T4 Go.Gx.T3 Go.Gx.T8 Go.Gx.T4 Go.Gx.T3 Go.Gx.T8 Go.Gx.T6 Go.Gx.T4 Go.Gx.T3
theorem sz41 : SzIs Try.prog 41 1 := by
 unfold SzIs
 kernel_rfl
theorem zr41 : ZeroIs Try.prog 41 (Value.slice none 0 0) := by
 unfold ZeroIs
 kernel_rfl
theorem cl61 : Callable Try.prog 61 := callable Try.func61 (by kernel_rfl) rfl
theorem cl72 : Callable Try.prog 72 := callable Try.func72 (by kernel_rfl) rfl
theorem bs35_10s3 (a0 : Option Addr) (a1 a2 : Nat) : Instr.fill (fun i => some (i * 1, 1)) ((Array.range (1 * 1)).map ((Value.slice none 0 0).cells[· % (Value.slice none 0 0).cells.size]!)) [(0, Value.slice a0 a1 a2)] = some #[Value.slice a0 a1 a2] := by
 kernel_rfl
theorem el35 : ElemIs Try.prog 35 1 24 (Value.slice none 0 0) := by
 unfold ElemIs
 kernel_rfl
def GrowSIs (n : Nat) : Prop := ∀ (va vl : Value) (ah l : List ST) (p : Nat) (z0 : List (List ST × Value)) (G : Ghost) (F : Nat → Prop) (w : World), SizeOf.sizeOf l ≤ n → ah.length + sszL l ≤ 1000 → z0.length + sszL l ≤ 9000 → Ss G va ah → Ss G vl l → StC G z0 → Has G w → (outA 41 35 p (z0)).holds w F → (∀ b, F b → G b = none) → Calls Try.prog 61 #[va, vl, Value.pointer (some ⟨p, 0, none⟩)] w (Ret fun r w' => ∃ G' z', GNew w F G G' ∧ Has G' w' ∧ (r = .tuple #[] ∧ z'.map Prod.fst = z0.map Prod.fst ++ schains ah l ∧ StC G' z') ∧ KeptG (outA 41 35 p (z')) F G' w w')
theorem c_cloneS_a (a : Option Addr) (cap : Nat) (rs : List (SVal)) {G : Ghost} (hr : SlL G (Value.slice a rs.length cap) 6 sC s0 rs) (hlen : rs.length ≤ 1000) (hpt : ∀ p ∈ rs, SlL G p.2.1 3 tC t0 p.1.h.ts) (hps : ∀ p ∈ rs, Ss G p.2.2 p.1.subs) (w : World) (hG : Has G w) :
    Calls Try.prog 72 #[Value.slice a rs.length cap] w (Ret fun r w' => Since nX w w' ∧ ∃ F', (rowA r 50 6 (rs).length ((rs).flatMap sC)).holds w' F' ∧ ∀ b, F' b → w.heap.size ≤ b) := by
 refine enter (args := [_]) (X := nX) (G := G) (l := [(0, Value.slice a rs.length cap)]) Try.func72 rfl Try.ntmps72 hG ⟨rfl, trivial⟩ (Nat.le_of_ble_eq_true rfl) ?_
 refine c_seq (c_region (r_val .none rfl (p_assign rfl) (r_nil (e_next ?_))))
 refine c_seq (c_seq (c_region (r_val .none rfl (p_move rfl) ?_)))
 refine r_val .none rfl (p_eqnil Try.underlying35 rfl rfl) ?_
 refine r_nil (e_next ?_)
 refine c_split (d := 4) rfl (fun h_1 => ?_) (fun h_1 => ?_)
 · (
 have hrs : rs = [] := by cases a with | none => exact nil_rs hr | some x => cases h_1
 refine c_cond_t rfl (c_seq (c_region (r_val .none rfl (p_assign rfl) ?_)))
 refine r_nilrow 50 6 ?_
 refine r_nil (e_next ?_)
 refine c_ret ?_
 refine e_ret_then ?_
 refine e_ret1 Try.results72 (.tmp rfl .nil) (fun w hm => hm.made [rowA (.slice none 0 0) 50 6 (rs).length ((rs).flatMap sC)] (.keep (fun _ _ h => rowA_congr (by rw [hrs]; rfl) (by rw [hrs]; rfl) _ _ h) (.nil)) _ (fun F' h => starL_one h)))
 · (
 refine c_cond_f rfl (c_skip (e_next (c_seq (c_region ?_))))
 refine r_bslice0 .none rfl Try.underlying35 el50 (fun v_2 => ?_)
 refine r_val .none rfl (p_move rfl) ?_
 refine r_append_g (k := 0) .none rfl Try.underlying35 el50 rfl (by decide) rfl rfl rfl hr (fun _ hi _ hj => ss_ones hpt hps _ hi _ hj) (by simp only [maxLen]; omega) (by omega) (fun v_3 => ?_)
 refine r_row1 (k := 0) rfl (fun o_4 => ?_)
 refine r_val .none rfl (p_assign rfl) (r_nil (e_next ?_))
 refine c_ret ?_
 refine e_ret1 Try.results72 (.tmp rfl .nil) (fun w hm => hm.made [rowA v_3 50 6 (rs).length ((rs).flatMap sC)] (.keep (fun _ _ h => rowA_congr (by omega) (by rw [flat_all (cells := sC) (fun _ => rfl)]; rfl) _ _ h) (.nil)) _ (fun F' h => starL_one h)))
theorem c_cloneS (v : Value) (rs : List (SVal)) {G : Ghost} (hr : SlL G v 6 sC s0 rs) (hlen : rs.length ≤ 1000) (hpt : ∀ p ∈ rs, SlL G p.2.1 3 tC t0 p.1.h.ts) (hps : ∀ p ∈ rs, Ss G p.2.2 p.1.subs) (w : World) (hG : Has G w) : Calls Try.prog 72 #[v] w (Ret fun r w' => Since nX w w' ∧ ∃ F', (rowA r 50 6 (rs).length ((rs).flatMap sC)).holds w' F' ∧ ∀ b, F' b → w.heap.size ≤ b) := by
 obtain ⟨a, cap, rfl⟩ := SlG.len hr
 exact c_cloneS_a a cap rs hr hlen hpt hps w hG
theorem c_growS_s (n : Nat) (ih : GrowSIs n) (va vl : Value) (ah l : List ST) (p : Nat) (z0 : List (List ST × Value)) {G : Ghost} {F : Nat → Prop} (hz : SizeOf.sizeOf l ≤ n + 1) (hsz : ah.length + sszL l ≤ 1000) (hlz : z0.length + sszL l ≤ 9000) (hsa : Ss G va ah) (hs : Ss G vl l) (hz0 : StC G z0) (w : World) (hG : Has G w) (hA : (outA 41 35 p (z0)).holds w F) (hFG : ∀ b, F b → G b = none) :
    Calls Try.prog 61 #[va, vl, Value.pointer (some ⟨p, 0, none⟩)] w (Ret fun r w' => ∃ G' z', GNew w F G G' ∧ Has G' w' ∧ (r = .tuple #[] ∧ z'.map Prod.fst = z0.map Prod.fst ++ schains ah l ∧ StC G' z') ∧ KeptG (outA 41 35 p (z')) F G' w w') := by
 refine enterO (args := [_, _, _]) (G := G) (A := outA 41 35 p (z0)) (l := [(0, va), (1, vl), (2, Value.pointer (some ⟨p, 0, none⟩))]) Try.func61 rfl Try.ntmps61 hG hA hFG ⟨rfl, rfl, rfl, trivial⟩ (Nat.le_of_ble_eq_true rfl) ?_
 obtain ⟨rs, hr, hpt, hps, rfl⟩ := hs.inv
 have hbd := hr.bound
 refine c_seq (c_region (r_val .none rfl (p_move rfl) ?_))
 refine r_val .none rfl (p_leng Try.underlying35 rfl hr) ?_
 have bd_1 := (hr).bound
 refine r_val .none rfl (p_move rfl) (r_nil (e_next (c_block ?_)))
 refine c_name (d := 2) rfl (fun u_2 hu_2 => ?_)
 refine c_name (d := 8) rfl (fun u_3 hu_3 => ?_)
 refine c_name (d := 9) rfl (fun u_4 hu_4 => ?_)
 refine c_loop (σ := Nat × Value × List (List ST × Value) × Ghost) (fun s => [(10, Value.int .i64 (s.1 : Nat)), (0, s.2.1), (2, u_2), (8, u_3), (9, u_4)]) (fun s => [outA 41 35 p (s.2.2.1)]) (fun s => s.2.2.2) (fun s => s.1 ≤ rs.length ∧ Ss s.2.2.2 s.2.1 (ah ++ (rs.map Prod.fst).take s.1) ∧ s.2.2.1.map Prod.fst = z0.map Prod.fst ++ schains ah ((rs.map Prod.fst).take s.1) ∧ StC s.2.2.2 s.2.2.1 ∧ GNew w F G s.2.2.2) (fun s => rs.length - s.1) ((0, _, z0, _)) ⟨Nat.zero_le _, by simpa using hsa, by simp [schains], hz0, GNew.refl _ _ _⟩ rfl ⟨rfl, rfl, rfl, rfl, rfl, trivial⟩ (.keep (fun _ _ h => h) (.nil)) (fun s hphi => ?_)
 subst hu_2
 subst hu_3
 subst hu_4
 obtain ⟨k, v, z, H⟩ := s
 obtain ⟨hk, hva, hzq, hzc, hgn⟩ := hphi
 dsimp only at hk hva hzq hzc hgn ⊢
 obtain ⟨es, ha, hat, hap, hal⟩ := hva.inv
 have hla : es.length = ah.length + k := by have := congrArg List.length hal; simp at this; omega
 have hzl : z.length = z0.length + (schains ah ((rs.map Prod.fst).take k)).length := by have := congrArg List.length hzq; simpa using this
 have hcl := schains_len ((rs.map Prod.fst).take k) ah
 have hst0 := sszL_take_le (rs.map Prod.fst) k
 have hll := sszL_len (rs.map Prod.fst)
 rw [List.length_map] at hll
 replace hsa := hsa.mono hgn.le
 replace hr := hr.mono hgn.le
 replace hpt := fun p hm0 => (hpt p hm0).mono hgn.le
 replace hps := fun p hm0 => (hps p hm0).mono hgn.le
 refine c_seq (c_region ?_)
 refine r_val .none rfl (p_lt rfl rfl) ?_
 refine r_nil (e_next (c_seq ?_))
 refine c_splitd (d := 11) rfl (fun h_5 => ?_) (fun h_5 => ?_)
 · (
 first
 | (exfalso; omega)
 | (
 refine c_cond_t rfl (c_skip (e_next (c_seq (c_block ?_))))
 refine c_seq (c_region ?_)
 refine r_iaddr_g .none rfl Try.underlying35 sz50 rfl hr rfl (by first | exact odt rfl | omega) (fun p_7 o_8 R_6 => ?_)
 have ht_9 := hpt _ (getD_mem (i := k) (d := s0) (by omega))
 have hc_10 := hps _ (getD_mem (i := k) (d := s0) (by omega))
 have hkl := sszL_len ((rs.map Prod.fst).take k)
 rw [List.length_take, List.length_map] at hkl
 have hsk := sszL_take (rs := rs) (k := k) (by omega)
 have hsk2 := sszL_take_le (rs.map Prod.fst) (k + 1)
 have hsq := ssz_eq (rs.getD k s0).1
 refine r_val .none rfl (p_ldga0 Try.underlying50 rfl sz50 rfl R_6 (by first | exact odt rfl | omega) (rfl : _ = Value.agg #[_, _, _, _, _, _])) ?_
 refine r_alloc .none rfl zr50 (IsRow.lit _) (fun b_1 => ?_)
 refine r_stw (k := 0) .none sz50 rfl rfl (IsRow.lit _) (one_lit rfl (all_cons rfl (all_cons rfl (all_cons rfl (all_cons rfl (all_cons (ht_9).one (all_cons (hc_10).one rfl))))))) rfl ?_
 refine r_nil (e_next (c_seq (c_seq (c_region ?_))))
 refine r_val .none rfl (p_field Try.underlying50 rfl sz3 rfl) ?_
 refine r_val .none rfl (p_ld (k := 0) Try.underlying3 rfl rfl rfl (by first | exact odt rfl | omega) (rfl : _ = Value.int _ _)) ?_
 refine r_val .none rfl (p_eq rfl rfl) ?_
 refine r_nil (e_next ?_)
 refine c_splitd (d := 16) rfl (fun h_11 => ?_) (fun h_11 => ?_)
 · (
 have hk3 := h_11
 first
 | (exfalso; omega)
 | (
 refine c_cond_t rfl (c_region (r_val .none rfl (p_move rfl) ?_))
 refine r_val .none rfl (p_field Try.underlying50 rfl sz35 rfl) ?_
 refine r_val .none rfl (p_ld (k := 0) Try.underlying35 rfl rfl rfl (by first | exact odt rfl | omega) rfl) ?_
 refine r_val .none rfl (p_move rfl) ?_
 refine r_callox (k := 1) (vs := [_, _, _]) .none rfl cl61 rfl rfl (fun w F hw hA hFG => ih _ _ _ _ _ _ _ _ w (Nat.le_of_lt_succ (Nat.lt_of_lt_of_le (ssub_size (by omega)) hz)) (by rw [List.length_append, List.length_take, List.length_map]; omega) (by omega) hva hc_10 hzc hw hA hFG) (fun G_12 v_15 z_17 hn_13 hr_14 => ?_)
 replace hsa := hsa.mono hn_13.le
 replace hr := hr.mono hn_13.le
 replace hpt := fun p hm0 => (hpt p hm0).mono hn_13.le
 replace hps := fun p hm0 => (hps p hm0).mono hn_13.le
 replace ha := ha.mono hn_13.le
 replace hat := fun p hm0 => (hat p hm0).mono hn_13.le
 replace hap := fun p hm0 => (hap p hm0).mono hn_13.le
 replace hva := hva.mono hn_13.le
 replace hzc := StC.mono hzc hn_13.le
 replace R_6 := R_6.mono hn_13.le
 replace ht_9 := ht_9.mono hn_13.le
 replace hc_10 := hc_10.mono hn_13.le
 obtain ⟨-, u_16q, u_16c⟩ := hr_14
 refine r_nil (e_next (c_seq ?_))
 refine c_region_d (fun _ => false) _ mixed (.keep (fun _ _ h => h) (.keep (fun _ _ h => h) (.nil))) ?_
 refine d_val1 0 rfl rfl (by kernel_rfl) (fun _ _ => rfl) .none rfl (p_move rfl) ?_
 refine d_val1 2 rfl rfl (by kernel_rfl) (fun _ _ => rfl) .none rfl (p_ldw (k := 0) Try.underlying50 rfl sz50 rfl rfl (rfl : _ = Value.agg #[_, _, _, _, _, _])) ?_
 refine d_eff2 1 3 rfl rfl (by kernel_rfl) (fun K_18 hKK_18 hcK_18 => ?_) (fun K_18 hKK_18 hcK_18 => ?_)
 · (
 refine r_callrow (vs := [_]) .none rfl cl72 rfl (fun w hw => c_cloneS _ es ha (by omega) hat hap w hw) (fun v_19 => ?_)
 refine r_nil (e_d (i := 1) (brk := (fun _ => false)) (ph' := true) hKK_18 hcK_18 rfl (fun _ => GLe.refl _) (fun _ => .drop (.keep (fun _ _ h => h) (.keep (fun _ _ h => h) (.nil)))) ?_)
 clear hKK_18 hcK_18 K_18
 refine d_eff 3 rfl (by kernel_rfl) (fun K_20 hKK_20 hcK_20 => ?_)
 refine r_bslice (vs := [(0, Value.agg #[_, _, _, _, _, _])]) (c := #[_, _, _, _, _, _]) .none rfl Try.underlying35 el50 rfl rfl rfl (bs50_10a6 _ _ _ _ _ _) (IsRow.lit _) (fun b_2 => ?_)
 refine r_nil (e_d (i := 3) (brk := (fun _ => false)) (ph' := true) hKK_20 hcK_20 rfl (fun _ => GLe.refl _) (fun _ => .drop (.drop (.keep (fun _ _ h => h) (.keep (fun _ _ h => h) (.nil))))) ?_)
 clear hKK_20 hcK_20 K_20
 refine d_eff 4 rfl (by kernel_rfl) (fun K_21 hKK_21 hcK_21 => ?_)
 refine r_append (k := 1) (k2 := 0) .none rfl Try.underlying35 el50 rfl (by decide) rfl rfl rfl rfl rfl (one_lit rfl (all_cons rfl (all_cons rfl (all_cons rfl (all_cons rfl (all_cons (ht_9).one (all_cons (hc_10).one rfl))))))) (by simp only [maxLen]; omega) (by omega) (fun v_22 => ?_)
 refine r_row1 (k := 1) rfl (fun o_23 => ?_)
 refine r_nil (e_d (i := 4) (brk := (fun _ => false)) (ph' := true) hKK_21 hcK_21 rfl (fun _ => GLe.refl _) (fun _ => .drop (.drop (.keep (fun _ _ h => h) (.keep (fun _ _ h => h) (.nil))))) ?_)
 clear hKK_21 hcK_21 K_21
 refine d_val1 5 rfl rfl (by kernel_rfl) (fun _ _ => rfl) .none rfl (p_assign rfl) ?_
 refine d_nil (by kernel_rfl) ?_
 refine e_next (c_region ?_)
 refine r_freeze (k := 1) rfl (fun G_24 hn_25 hs_26 => ?_)
 replace hsa := hsa.mono hn_25.le
 replace hr := hr.mono hn_25.le
 replace hpt := fun p hm0 => (hpt p hm0).mono hn_25.le
 replace hps := fun p hm0 => (hps p hm0).mono hn_25.le
 replace ha := ha.mono hn_25.le
 replace hat := fun p hm0 => (hat p hm0).mono hn_25.le
 replace hap := fun p hm0 => (hap p hm0).mono hn_25.le
 replace hva := hva.mono hn_25.le
 replace hzc := StC.mono hzc hn_25.le
 replace R_6 := R_6.mono hn_25.le
 replace ht_9 := ht_9.mono hn_25.le
 replace hc_10 := hc_10.mono hn_25.le
 replace u_16c := StC.mono u_16c hn_25.le
 have hs2 : SlL G_24 v_22 6 sC s0 (es ++ [rs.getD k s0]) := SlL.of2 s0 (fun _ => rfl) (by simp) (by rw [List.flatMap_append, List.flatMap_cons, List.flatMap_nil, List.append_nil]; rfl) hs_26
 have ht2 : ∀ p ∈ es ++ [rs.getD k s0], SlL G_24 p.2.1 3 tC t0 p.1.h.ts := fun p hp' => by rcases List.mem_append.1 hp' with h | h; exact hat p h; rw [List.mem_singleton.1 h]; exact ht_9
 have hp2 : ∀ p ∈ es ++ [rs.getD k s0], Ss G_24 p.2.2 p.1.subs := fun p hp' => by rcases List.mem_append.1 hp' with h | h; exact hap p h; rw [List.mem_singleton.1 h]; exact hc_10
 have hva2 : Ss G_24 v_22 (ah ++ (rs.map Prod.fst).take k ++ [(rs.getD k s0).1]) := by have h := Ss.mk _ hs2 ht2 hp2; rw [List.map_append, ← hal] at h; exact h
 refine r_front (k := 2) rfl ?_
 refine r_unpackout (fun ov => ?_)
 refine r_row1 (k := 1) rfl (fun o1 => ?_)
 refine r_val .none rfl (p_move rfl) (r_val .none rfl (p_move rfl) ?_)
 refine r_val .none rfl (p_nilcheck rfl) ?_
 refine r_val .none rfl (p_ld (k := 0) Try.underlying41 rfl rfl rfl (by first | exact odt rfl | omega) rfl) ?_
 refine r_val .none rfl (p_move rfl) ?_
 obtain ⟨a_27, c_28, rfl⟩ := SlG.len hs2
 refine r_bslice (vs := [(0, Value.slice _ _ _)]) (c := #[_]) .none rfl Try.underlying41 el35 rfl rfl rfl (bs35_10s3 _ _ _) (IsRow.lit _) (fun b_3 => ?_)
 refine r_append (k := 2) (k2 := 0) .none rfl Try.underlying41 el35 rfl (by decide) rfl rfl rfl rfl rfl (one_lit rfl rfl) (by first | (simp only [maxLen]; omega) | (have h9 := congrArg List.length u_16q; rw [List.length_append, List.length_map, List.length_map] at h9; have h10 := schains_len (rs.getD k s0).1.subs (ah ++ (rs.map Prod.fst).take k); simp only [maxLen]; omega)) (by first | omega | (have h9 := congrArg List.length u_16q; rw [List.length_append, List.length_map, List.length_map] at h9; have h10 := schains_len (rs.getD k s0).1.subs (ah ++ (rs.map Prod.fst).take k); omega)) (fun v_29 => ?_)
 refine r_row1 (k := 2) rfl (fun o_30 => ?_)
 refine r_val .none rfl (p_nilcheck rfl) ?_
 refine r_st (k := 1) .none sz41 rfl rfl o_30 rfl (by first | exact odt rfl | omega) ?_
 refine r_front (k := 1) rfl ?_
 refine r_front (k := 2) rfl ?_
 refine r_packout (rs := z_17 ++ [(ah ++ (rs.map Prod.fst).take k ++ [(rs.getD k s0).1], Value.slice a_27 (es ++ [rs.getD k s0]).length c_28)]) rfl (by simp) (by rw [List.flatMap_append]; rfl) ?_
 refine r_nil ?_
 refine e_norm_block ?_
 refine e_next (c_region ?_)
 refine r_val .none rfl (p_add rfl rfl (by omega)) ?_
 refine r_val .none rfl (p_move rfl) (r_nil ?_)
 refine e_round ((k + 1, _, z_17 ++ [(ah ++ (rs.map Prod.fst).take k ++ [(rs.getD k s0).1], Value.slice a_27 (es ++ [rs.getD k s0]).length c_28)], _)) ⟨⟨by dsimp only; omega, by rw [sv_take (by omega), ← List.append_assoc]; exact hva2, by rw [List.map_append, u_16q, hzq, schains_take (by omega), schain1_ncc hk3, List.append_assoc, List.append_assoc]; rfl, StC.snoc u_16c hva2, ((hgn.trans hn_13).trans hn_25)⟩, by dsimp only; omega⟩ rfl ⟨rfl, rfl, rfl, rfl, rfl, trivial⟩ (.keep (fun _ _ h => h) (.drop (.drop (.drop (.nil))))))
 · (
 refine r_bslice (vs := [(0, Value.agg #[_, _, _, _, _, _])]) (c := #[_, _, _, _, _, _]) .none rfl Try.underlying35 el50 rfl rfl rfl (bs50_10a6 _ _ _ _ _ _) (IsRow.lit _) (fun b_4 => ?_)
 refine r_nil (e_d (i := 3) (brk := (fun _ => false)) (ph' := true) hKK_18 hcK_18 rfl (fun _ => GLe.refl _) (fun _ => .drop (.keep (fun _ _ h => h) (.keep (fun _ _ h => h) (.nil)))) ?_)
 clear hKK_18 hcK_18 K_18
 refine d_eff 1 rfl (by kernel_rfl) (fun K_31 hKK_31 hcK_31 => ?_)
 refine r_callrow (vs := [_]) .none rfl cl72 rfl (fun w hw => c_cloneS _ es ha (by omega) hat hap w hw) (fun v_32 => ?_)
 refine r_nil (e_d (i := 1) (brk := (fun _ => false)) (ph' := true) hKK_31 hcK_31 rfl (fun _ => GLe.refl _) (fun _ => .drop (.drop (.keep (fun _ _ h => h) (.keep (fun _ _ h => h) (.nil))))) ?_)
 clear hKK_31 hcK_31 K_31
 refine d_eff 4 rfl (by kernel_rfl) (fun K_33 hKK_33 hcK_33 => ?_)
 refine r_append (k := 0) (k2 := 1) .none rfl Try.underlying35 el50 rfl (by decide) rfl rfl rfl rfl rfl (one_lit rfl (all_cons rfl (all_cons rfl (all_cons rfl (all_cons rfl (all_cons (ht_9).one (all_cons (hc_10).one rfl))))))) (by simp only [maxLen]; omega) (by omega) (fun v_34 => ?_)
 refine r_row1 (k := 0) rfl (fun o_35 => ?_)
 refine r_nil (e_d (i := 4) (brk := (fun _ => false)) (ph' := true) hKK_33 hcK_33 rfl (fun _ => GLe.refl _) (fun _ => .drop (.drop (.keep (fun _ _ h => h) (.keep (fun _ _ h => h) (.nil))))) ?_)
 clear hKK_33 hcK_33 K_33
 refine d_val1 5 rfl rfl (by kernel_rfl) (fun _ _ => rfl) .none rfl (p_assign rfl) ?_
 refine d_nil (by kernel_rfl) ?_
 refine e_next (c_region ?_)
 refine r_freeze (k := 0) rfl (fun G_36 hn_37 hs_38 => ?_)
 replace hsa := hsa.mono hn_37.le
 replace hr := hr.mono hn_37.le
 replace hpt := fun p hm0 => (hpt p hm0).mono hn_37.le
 replace hps := fun p hm0 => (hps p hm0).mono hn_37.le
 replace ha := ha.mono hn_37.le
 replace hat := fun p hm0 => (hat p hm0).mono hn_37.le
 replace hap := fun p hm0 => (hap p hm0).mono hn_37.le
 replace hva := hva.mono hn_37.le
 replace hzc := StC.mono hzc hn_37.le
 replace R_6 := R_6.mono hn_37.le
 replace ht_9 := ht_9.mono hn_37.le
 replace hc_10 := hc_10.mono hn_37.le
 replace u_16c := StC.mono u_16c hn_37.le
 have hs2 : SlL G_36 v_34 6 sC s0 (es ++ [rs.getD k s0]) := SlL.of2 s0 (fun _ => rfl) (by simp) (by rw [List.flatMap_append, List.flatMap_cons, List.flatMap_nil, List.append_nil]; rfl) hs_38
 have ht2 : ∀ p ∈ es ++ [rs.getD k s0], SlL G_36 p.2.1 3 tC t0 p.1.h.ts := fun p hp' => by rcases List.mem_append.1 hp' with h | h; exact hat p h; rw [List.mem_singleton.1 h]; exact ht_9
 have hp2 : ∀ p ∈ es ++ [rs.getD k s0], Ss G_36 p.2.2 p.1.subs := fun p hp' => by rcases List.mem_append.1 hp' with h | h; exact hap p h; rw [List.mem_singleton.1 h]; exact hc_10
 have hva2 : Ss G_36 v_34 (ah ++ (rs.map Prod.fst).take k ++ [(rs.getD k s0).1]) := by have h := Ss.mk _ hs2 ht2 hp2; rw [List.map_append, ← hal] at h; exact h
 refine r_front (k := 2) rfl ?_
 refine r_unpackout (fun ov => ?_)
 refine r_row1 (k := 1) rfl (fun o1 => ?_)
 refine r_val .none rfl (p_move rfl) (r_val .none rfl (p_move rfl) ?_)
 refine r_val .none rfl (p_nilcheck rfl) ?_
 refine r_val .none rfl (p_ld (k := 0) Try.underlying41 rfl rfl rfl (by first | exact odt rfl | omega) rfl) ?_
 refine r_val .none rfl (p_move rfl) ?_
 obtain ⟨a_39, c_40, rfl⟩ := SlG.len hs2
 refine r_bslice (vs := [(0, Value.slice _ _ _)]) (c := #[_]) .none rfl Try.underlying41 el35 rfl rfl rfl (bs35_10s3 _ _ _) (IsRow.lit _) (fun b_5 => ?_)
 refine r_append (k := 2) (k2 := 0) .none rfl Try.underlying41 el35 rfl (by decide) rfl rfl rfl rfl rfl (one_lit rfl rfl) (by first | (simp only [maxLen]; omega) | (have h9 := congrArg List.length u_16q; rw [List.length_append, List.length_map, List.length_map] at h9; have h10 := schains_len (rs.getD k s0).1.subs (ah ++ (rs.map Prod.fst).take k); simp only [maxLen]; omega)) (by first | omega | (have h9 := congrArg List.length u_16q; rw [List.length_append, List.length_map, List.length_map] at h9; have h10 := schains_len (rs.getD k s0).1.subs (ah ++ (rs.map Prod.fst).take k); omega)) (fun v_41 => ?_)
 refine r_row1 (k := 2) rfl (fun o_42 => ?_)
 refine r_val .none rfl (p_nilcheck rfl) ?_
 refine r_st (k := 1) .none sz41 rfl rfl o_42 rfl (by first | exact odt rfl | omega) ?_
 refine r_front (k := 1) rfl ?_
 refine r_front (k := 2) rfl ?_
 refine r_packout (rs := z_17 ++ [(ah ++ (rs.map Prod.fst).take k ++ [(rs.getD k s0).1], Value.slice a_39 (es ++ [rs.getD k s0]).length c_40)]) rfl (by simp) (by rw [List.flatMap_append]; rfl) ?_
 refine r_nil ?_
 refine e_norm_block ?_
 refine e_next (c_region ?_)
 refine r_val .none rfl (p_add rfl rfl (by omega)) ?_
 refine r_val .none rfl (p_move rfl) (r_nil ?_)
 refine e_round ((k + 1, _, z_17 ++ [(ah ++ (rs.map Prod.fst).take k ++ [(rs.getD k s0).1], Value.slice a_39 (es ++ [rs.getD k s0]).length c_40)], _)) ⟨⟨by dsimp only; omega, by rw [sv_take (by omega), ← List.append_assoc]; exact hva2, by rw [List.map_append, u_16q, hzq, schains_take (by omega), schain1_ncc hk3, List.append_assoc, List.append_assoc]; rfl, StC.snoc u_16c hva2, ((hgn.trans hn_13).trans hn_37)⟩, by dsimp only; omega⟩ rfl ⟨rfl, rfl, rfl, rfl, rfl, trivial⟩ (.keep (fun _ _ h => h) (.drop (.drop (.drop (.nil))))))))
 · (
 have hk3 := h_11
 first
 | (exfalso; omega)
 | (
 refine c_cond_f rfl (c_skip (e_next (c_seq ?_)))
 refine c_region_d (fun _ => false) _ mixed (.keep (fun _ _ h => h) (.keep (fun _ _ h => h) (.nil))) ?_
 refine d_val1 0 rfl rfl (by kernel_rfl) (fun _ _ => rfl) .none rfl (p_move rfl) ?_
 refine d_val1 2 rfl rfl (by kernel_rfl) (fun _ _ => rfl) .none rfl (p_ldw (k := 0) Try.underlying50 rfl sz50 rfl rfl (rfl : _ = Value.agg #[_, _, _, _, _, _])) ?_
 refine d_eff2 1 3 rfl rfl (by kernel_rfl) (fun K_43 hKK_43 hcK_43 => ?_) (fun K_43 hKK_43 hcK_43 => ?_)
 · (
 refine r_callrow (vs := [_]) .none rfl cl72 rfl (fun w hw => c_cloneS _ es ha (by omega) hat hap w hw) (fun v_44 => ?_)
 refine r_nil (e_d (i := 1) (brk := (fun _ => false)) (ph' := true) hKK_43 hcK_43 rfl (fun _ => GLe.refl _) (fun _ => .drop (.keep (fun _ _ h => h) (.keep (fun _ _ h => h) (.nil)))) ?_)
 clear hKK_43 hcK_43 K_43
 refine d_eff 3 rfl (by kernel_rfl) (fun K_45 hKK_45 hcK_45 => ?_)
 refine r_bslice (vs := [(0, Value.agg #[_, _, _, _, _, _])]) (c := #[_, _, _, _, _, _]) .none rfl Try.underlying35 el50 rfl rfl rfl (bs50_10a6 _ _ _ _ _ _) (IsRow.lit _) (fun b_6 => ?_)
 refine r_nil (e_d (i := 3) (brk := (fun _ => false)) (ph' := true) hKK_45 hcK_45 rfl (fun _ => GLe.refl _) (fun _ => .drop (.drop (.keep (fun _ _ h => h) (.keep (fun _ _ h => h) (.nil))))) ?_)
 clear hKK_45 hcK_45 K_45
 refine d_eff 4 rfl (by kernel_rfl) (fun K_46 hKK_46 hcK_46 => ?_)
 refine r_append (k := 1) (k2 := 0) .none rfl Try.underlying35 el50 rfl (by decide) rfl rfl rfl rfl rfl (one_lit rfl (all_cons rfl (all_cons rfl (all_cons rfl (all_cons rfl (all_cons (ht_9).one (all_cons (hc_10).one rfl))))))) (by simp only [maxLen]; omega) (by omega) (fun v_47 => ?_)
 refine r_row1 (k := 1) rfl (fun o_48 => ?_)
 refine r_nil (e_d (i := 4) (brk := (fun _ => false)) (ph' := true) hKK_46 hcK_46 rfl (fun _ => GLe.refl _) (fun _ => .drop (.drop (.keep (fun _ _ h => h) (.keep (fun _ _ h => h) (.nil))))) ?_)
 clear hKK_46 hcK_46 K_46
 refine d_val1 5 rfl rfl (by kernel_rfl) (fun _ _ => rfl) .none rfl (p_assign rfl) ?_
 refine d_nil (by kernel_rfl) ?_
 refine e_next (c_region ?_)
 refine r_freeze (k := 1) rfl (fun G_49 hn_50 hs_51 => ?_)
 replace hsa := hsa.mono hn_50.le
 replace hr := hr.mono hn_50.le
 replace hpt := fun p hm0 => (hpt p hm0).mono hn_50.le
 replace hps := fun p hm0 => (hps p hm0).mono hn_50.le
 replace ha := ha.mono hn_50.le
 replace hat := fun p hm0 => (hat p hm0).mono hn_50.le
 replace hap := fun p hm0 => (hap p hm0).mono hn_50.le
 replace hva := hva.mono hn_50.le
 replace hzc := StC.mono hzc hn_50.le
 replace R_6 := R_6.mono hn_50.le
 replace ht_9 := ht_9.mono hn_50.le
 replace hc_10 := hc_10.mono hn_50.le
 have hs2 : SlL G_49 v_47 6 sC s0 (es ++ [rs.getD k s0]) := SlL.of2 s0 (fun _ => rfl) (by simp) (by rw [List.flatMap_append, List.flatMap_cons, List.flatMap_nil, List.append_nil]; rfl) hs_51
 have ht2 : ∀ p ∈ es ++ [rs.getD k s0], SlL G_49 p.2.1 3 tC t0 p.1.h.ts := fun p hp' => by rcases List.mem_append.1 hp' with h | h; exact hat p h; rw [List.mem_singleton.1 h]; exact ht_9
 have hp2 : ∀ p ∈ es ++ [rs.getD k s0], Ss G_49 p.2.2 p.1.subs := fun p hp' => by rcases List.mem_append.1 hp' with h | h; exact hap p h; rw [List.mem_singleton.1 h]; exact hc_10
 have hva2 : Ss G_49 v_47 (ah ++ (rs.map Prod.fst).take k ++ [(rs.getD k s0).1]) := by have h := Ss.mk _ hs2 ht2 hp2; rw [List.map_append, ← hal] at h; exact h
 refine r_front (k := 2) rfl ?_
 refine r_unpackout (fun ov => ?_)
 refine r_row1 (k := 1) rfl (fun o1 => ?_)
 refine r_val .none rfl (p_move rfl) (r_val .none rfl (p_move rfl) ?_)
 refine r_val .none rfl (p_nilcheck rfl) ?_
 refine r_val .none rfl (p_ld (k := 0) Try.underlying41 rfl rfl rfl (by first | exact odt rfl | omega) rfl) ?_
 refine r_val .none rfl (p_move rfl) ?_
 obtain ⟨a_52, c_53, rfl⟩ := SlG.len hs2
 refine r_bslice (vs := [(0, Value.slice _ _ _)]) (c := #[_]) .none rfl Try.underlying41 el35 rfl rfl rfl (bs35_10s3 _ _ _) (IsRow.lit _) (fun b_7 => ?_)
 refine r_append (k := 2) (k2 := 0) .none rfl Try.underlying41 el35 rfl (by decide) rfl rfl rfl rfl rfl (one_lit rfl rfl) (by first | (simp only [maxLen]; omega) | (have h9 := congrArg List.length q; rw [List.length_append, List.length_map, List.length_map] at h9; have h10 := schains_len (rs.getD k s0).1.subs (ah ++ (rs.map Prod.fst).take k); simp only [maxLen]; omega)) (by first | omega | (have h9 := congrArg List.length q; rw [List.length_append, List.length_map, List.length_map] at h9; have h10 := schains_len (rs.getD k s0).1.subs (ah ++ (rs.map Prod.fst).take k); omega)) (fun v_54 => ?_)
 refine r_row1 (k := 2) rfl (fun o_55 => ?_)
 refine r_val .none rfl (p_nilcheck rfl) ?_
 refine r_st (k := 1) .none sz41 rfl rfl o_55 rfl (by first | exact odt rfl | omega) ?_
 refine r_front (k := 1) rfl ?_
 refine r_front (k := 2) rfl ?_
 refine r_packout (rs := z ++ [(ah ++ (rs.map Prod.fst).take k ++ [(rs.getD k s0).1], Value.slice a_52 (es ++ [rs.getD k s0]).length c_53)]) rfl (by simp) (by rw [List.flatMap_append]; rfl) ?_
 refine r_nil ?_
 refine e_norm_block ?_
 refine e_next (c_region ?_)
 refine r_val .none rfl (p_add rfl rfl (by omega)) ?_
 refine r_val .none rfl (p_move rfl) (r_nil ?_)
 refine e_round ((k + 1, _, z ++ [(ah ++ (rs.map Prod.fst).take k ++ [(rs.getD k s0).1], Value.slice a_52 (es ++ [rs.getD k s0]).length c_53)], _)) ⟨⟨by dsimp only; omega, by rw [sv_take (by omega), ← List.append_assoc]; exact hva2, by rw [List.map_append, hzq, schains_take (by omega), schain1_other hk3, List.append_assoc]; rfl, StC.snoc hzc hva2, (hgn.trans hn_50)⟩, by dsimp only; omega⟩ rfl ⟨rfl, rfl, rfl, rfl, rfl, trivial⟩ (.keep (fun _ _ h => h) (.drop (.drop (.drop (.nil))))))
 · (
 refine r_bslice (vs := [(0, Value.agg #[_, _, _, _, _, _])]) (c := #[_, _, _, _, _, _]) .none rfl Try.underlying35 el50 rfl rfl rfl (bs50_10a6 _ _ _ _ _ _) (IsRow.lit _) (fun b_8 => ?_)
 refine r_nil (e_d (i := 3) (brk := (fun _ => false)) (ph' := true) hKK_43 hcK_43 rfl (fun _ => GLe.refl _) (fun _ => .drop (.keep (fun _ _ h => h) (.keep (fun _ _ h => h) (.nil)))) ?_)
 clear hKK_43 hcK_43 K_43
 refine d_eff 1 rfl (by kernel_rfl) (fun K_56 hKK_56 hcK_56 => ?_)
 refine r_callrow (vs := [_]) .none rfl cl72 rfl (fun w hw => c_cloneS _ es ha (by omega) hat hap w hw) (fun v_57 => ?_)
 refine r_nil (e_d (i := 1) (brk := (fun _ => false)) (ph' := true) hKK_56 hcK_56 rfl (fun _ => GLe.refl _) (fun _ => .drop (.drop (.keep (fun _ _ h => h) (.keep (fun _ _ h => h) (.nil))))) ?_)
 clear hKK_56 hcK_56 K_56
 refine d_eff 4 rfl (by kernel_rfl) (fun K_58 hKK_58 hcK_58 => ?_)
 refine r_append (k := 0) (k2 := 1) .none rfl Try.underlying35 el50 rfl (by decide) rfl rfl rfl rfl rfl (one_lit rfl (all_cons rfl (all_cons rfl (all_cons rfl (all_cons rfl (all_cons (ht_9).one (all_cons (hc_10).one rfl))))))) (by simp only [maxLen]; omega) (by omega) (fun v_59 => ?_)
 refine r_row1 (k := 0) rfl (fun o_60 => ?_)
 refine r_nil (e_d (i := 4) (brk := (fun _ => false)) (ph' := true) hKK_58 hcK_58 rfl (fun _ => GLe.refl _) (fun _ => .drop (.drop (.keep (fun _ _ h => h) (.keep (fun _ _ h => h) (.nil))))) ?_)
 clear hKK_58 hcK_58 K_58
 refine d_val1 5 rfl rfl (by kernel_rfl) (fun _ _ => rfl) .none rfl (p_assign rfl) ?_
 refine d_nil (by kernel_rfl) ?_
 refine e_next (c_region ?_)
 refine r_freeze (k := 0) rfl (fun G_61 hn_62 hs_63 => ?_)
 replace hsa := hsa.mono hn_62.le
 replace hr := hr.mono hn_62.le
 replace hpt := fun p hm0 => (hpt p hm0).mono hn_62.le
 replace hps := fun p hm0 => (hps p hm0).mono hn_62.le
 replace ha := ha.mono hn_62.le
 replace hat := fun p hm0 => (hat p hm0).mono hn_62.le
 replace hap := fun p hm0 => (hap p hm0).mono hn_62.le
 replace hva := hva.mono hn_62.le
 replace hzc := StC.mono hzc hn_62.le
 replace R_6 := R_6.mono hn_62.le
 replace ht_9 := ht_9.mono hn_62.le
 replace hc_10 := hc_10.mono hn_62.le
 have hs2 : SlL G_61 v_59 6 sC s0 (es ++ [rs.getD k s0]) := SlL.of2 s0 (fun _ => rfl) (by simp) (by rw [List.flatMap_append, List.flatMap_cons, List.flatMap_nil, List.append_nil]; rfl) hs_63
 have ht2 : ∀ p ∈ es ++ [rs.getD k s0], SlL G_61 p.2.1 3 tC t0 p.1.h.ts := fun p hp' => by rcases List.mem_append.1 hp' with h | h; exact hat p h; rw [List.mem_singleton.1 h]; exact ht_9
 have hp2 : ∀ p ∈ es ++ [rs.getD k s0], Ss G_61 p.2.2 p.1.subs := fun p hp' => by rcases List.mem_append.1 hp' with h | h; exact hap p h; rw [List.mem_singleton.1 h]; exact hc_10
 have hva2 : Ss G_61 v_59 (ah ++ (rs.map Prod.fst).take k ++ [(rs.getD k s0).1]) := by have h := Ss.mk _ hs2 ht2 hp2; rw [List.map_append, ← hal] at h; exact h
 refine r_front (k := 2) rfl ?_
 refine r_unpackout (fun ov => ?_)
 refine r_row1 (k := 1) rfl (fun o1 => ?_)
 refine r_val .none rfl (p_move rfl) (r_val .none rfl (p_move rfl) ?_)
 refine r_val .none rfl (p_nilcheck rfl) ?_
 refine r_val .none rfl (p_ld (k := 0) Try.underlying41 rfl rfl rfl (by first | exact odt rfl | omega) rfl) ?_
 refine r_val .none rfl (p_move rfl) ?_
 obtain ⟨a_64, c_65, rfl⟩ := SlG.len hs2
 refine r_bslice (vs := [(0, Value.slice _ _ _)]) (c := #[_]) .none rfl Try.underlying41 el35 rfl rfl rfl (bs35_10s3 _ _ _) (IsRow.lit _) (fun b_9 => ?_)
 refine r_append (k := 2) (k2 := 0) .none rfl Try.underlying41 el35 rfl (by decide) rfl rfl rfl rfl rfl (one_lit rfl rfl) (by first | (simp only [maxLen]; omega) | (have h9 := congrArg List.length q; rw [List.length_append, List.length_map, List.length_map] at h9; have h10 := schains_len (rs.getD k s0).1.subs (ah ++ (rs.map Prod.fst).take k); simp only [maxLen]; omega)) (by first | omega | (have h9 := congrArg List.length q; rw [List.length_append, List.length_map, List.length_map] at h9; have h10 := schains_len (rs.getD k s0).1.subs (ah ++ (rs.map Prod.fst).take k); omega)) (fun v_66 => ?_)
 refine r_row1 (k := 2) rfl (fun o_67 => ?_)
 refine r_val .none rfl (p_nilcheck rfl) ?_
 refine r_st (k := 1) .none sz41 rfl rfl o_67 rfl (by first | exact odt rfl | omega) ?_
 refine r_front (k := 1) rfl ?_
 refine r_front (k := 2) rfl ?_
 refine r_packout (rs := z ++ [(ah ++ (rs.map Prod.fst).take k ++ [(rs.getD k s0).1], Value.slice a_64 (es ++ [rs.getD k s0]).length c_65)]) rfl (by simp) (by rw [List.flatMap_append]; rfl) ?_
 refine r_nil ?_
 refine e_norm_block ?_
 refine e_next (c_region ?_)
 refine r_val .none rfl (p_add rfl rfl (by omega)) ?_
 refine r_val .none rfl (p_move rfl) (r_nil ?_)
 refine e_round ((k + 1, _, z ++ [(ah ++ (rs.map Prod.fst).take k ++ [(rs.getD k s0).1], Value.slice a_64 (es ++ [rs.getD k s0]).length c_65)], _)) ⟨⟨by dsimp only; omega, by rw [sv_take (by omega), ← List.append_assoc]; exact hva2, by rw [List.map_append, hzq, schains_take (by omega), schain1_other hk3, List.append_assoc]; rfl, StC.snoc hzc hva2, (hgn.trans hn_62)⟩, by dsimp only; omega⟩ rfl ⟨rfl, rfl, rfl, rfl, rfl, trivial⟩ (.keep (fun _ _ h => h) (.drop (.drop (.drop (.nil))))))))))
 · (
 first
 | (exfalso; omega)
 | (
 refine c_cond_f rfl (c_exit (e_exit_then (e_exit_then ?_)))
 refine e_exit_block ?_
 refine e_end0 Try.results61 (fun w hm => ⟨_, z, hgn, hm.has, ⟨rfl, by rw [hzq, List.take_of_length_le (by simp; omega)], hzc⟩, hm.keptG [outA _ _ p z] (.keep (fun _ _ h => h) (.nil)) (outA _ _ p z) (fun F' h => starL_one h)⟩)))
theorem c_growS_n : ∀ n, GrowSIs n
 | 0 => fun va vl ah l p z0 G F w hz _ _ _ _ _ _ _ _ => absurd hz (by cases l <;> simp)
 | n + 1 => fun va vl ah l p z0 G F w hz hsz hlz hsa hs hz0 hG hA hFG => c_growS_s n (c_growS_n n) va vl ah l p z0 hz hsz hlz hsa hs hz0 w hG hA hFG
theorem c_growS (va vl : Value) (ah l : List ST) (p : Nat) (z0 : List (List ST × Value)) {G : Ghost} {F : Nat → Prop} (hsz : ah.length + sszL l ≤ 1000) (hlz : z0.length + sszL l ≤ 9000) (hsa : Ss G va ah) (hs : Ss G vl l) (hz0 : StC G z0) (w : World) (hG : Has G w) (hA : (outA 41 35 p (z0)).holds w F) (hFG : ∀ b, F b → G b = none) : Calls Try.prog 61 #[va, vl, Value.pointer (some ⟨p, 0, none⟩)] w (Ret fun r w' => ∃ G' z', GNew w F G G' ∧ Has G' w' ∧ (r = .tuple #[] ∧ z'.map Prod.fst = z0.map Prod.fst ++ schains ah l ∧ StC G' z') ∧ KeptG (outA 41 35 p (z')) F G' w w') := c_growS_n _ va vl ah l p z0 G F w (Nat.le_refl _) hsz hlz hsa hs hz0 hG hA hFG
theorem c_chainsS (v : Value) (l : List ST) {G : Ghost} (hsz : sszL l ≤ 1000) (hs : Ss G v l) (w : World) (hG : Has G w) :
    Calls Try.prog 32 #[v] w (Ret fun r w' => ∃ G', GNew w nX G G' ∧ Has G' w' ∧ Ls (fun G v l => Ss G v l) ([] : List ST) G' r (schains [] l) ∧ Since nX w w') := by
 refine enter (args := [_]) (X := nX) (G := G) (l := [(0, v)]) Try.func32 rfl Try.ntmps32 hG ⟨rfl, trivial⟩ (Nat.le_of_ble_eq_true rfl) ?_
 refine c_seq (c_region (r_val .none rfl (p_assign rfl) (r_nil (e_next ?_))))
 refine c_seq (c_region ?_)
 refine r_alloc .none rfl zr41 (IsRow.lit [_]) (fun b_1 => ?_)
 refine r_nil (e_next (c_seq (c_region (r_val .none rfl (p_move rfl) ?_))))
 refine r_nilrow 35 1 ?_
 refine r_packout (rs := ([] : List (List ST × Value))) rfl rfl rfl ?_
 refine r_callox (k := 0) (vs := [_, _, _]) .none rfl cl61 rfl rfl (fun w F hw hA hFG => c_growS _ _ [] _ _ [] (by simp; omega) (by simp; omega) Ss.nil hs (by simp [StC]) w hw hA hFG) (fun G_1 v_4 z_6 hn_2 hr_3 => ?_)
 replace hs := hs.mono hn_2.le
 obtain ⟨-, u_5q, u_5c⟩ := hr_3
 refine r_nil (e_next (c_seq (c_region ?_)))
 refine r_unpackout (fun ov => ?_)
 refine r_row1 (k := 1) rfl (fun o1 => ?_)
 refine r_val .none rfl (p_ld (k := 0) Try.underlying41 rfl rfl rfl (by first | exact odt rfl | omega) rfl) ?_
 refine r_val .none rfl (p_assign rfl) (r_nil (e_next ?_))
 refine c_ret ?_
 refine e_freeze (k := 1) rfl (fun G_7 hn_8 hs_9 => ?_)
 replace hs := hs.mono hn_8.le
 replace u_5c := StC.mono u_5c hn_8.le
 refine e_ret1 Try.results32 (.tmp rfl .nil) (fun w hm => ⟨_, (hn_2.trans hn_8), hm.has, ?_, hm.since⟩)
 rw [show schains [] l = z_6.map Prod.fst by rw [u_5q]; rfl]
 exact Ls.mk _ (SlL.of (([] : List ST), Value.slice none 0 0) (fun _ => rfl) rfl hs_9) u_5c
end Go.Proofs.Ytdkfdncbldngdaa

/- Walks: what Go functions of this chapter come to, each as a function on plain data; no condition but those that each theorem names. Printed by a program of this work (gen.py). -/
namespace Go.Proofs.Ytdkfdncbldngdaa
open Go.Gx Go.Gx.T4 Go.Gx.T3 Go.Gx.T6 Go.Gx.T8 Go.Gx.T4 Go.Gx.T3 Go.Gx.T8 Go.Gx.T4 Go.Gx.T3 Go.Gx.T8 Go.Gx.T6 Go.Gx.T4 Go.Gx.T3
theorem cl14 : Callable Try.prog 14 := callable Try.func14 (by kernel_rfl) rfl
theorem bs29_10s3 (a0 : Option Addr) (a1 a2 : Nat) : Instr.fill (fun i => some (i * 1, 1)) ((Array.range (1 * 1)).map ((Value.slice none 0 0).cells[· % (Value.slice none 0 0).cells.size]!)) [(0, Value.slice a0 a1 a2)] = some #[Value.slice a0 a1 a2] := by
 kernel_rfl
theorem el29 : ElemIs Try.prog 29 1 24 (Value.slice none 0 0) := by
 unfold ElemIs
 kernel_rfl
def RchSIs (n : Nat) : Prop := ∀ (va vl : Value) (es : List SVal) (l : List ST) (G : Ghost) (F : Nat → Prop) (w : World), SizeOf.sizeOf l ≤ n → es.length + sszL l ≤ 5000 → (∀ p ∈ es, SlL G p.2.1 3 tC t0 p.1.h.ts) → (∀ p ∈ es, Ss G p.2.2 p.1.subs) → Ss G vl l → Has G w → (rowA va 90 6 es.length (es.flatMap sC)).holds w F → (∀ b, F b → G b = none) → Calls Try.prog 14 #[va, vl] w (Ret fun r w' => ∃ G', GNew w F G G' ∧ Has G' w' ∧ Ls (fun G v l => Ss G v l) ([] : List ST) G' r (schains (es.map Prod.fst) l) ∧ KeptG (rowA va 90 6 es.length (es.flatMap sC)) F G' w w')
theorem c_rchS_s (n : Nat) (ih : RchSIs n) (va vl : Value) (es : List SVal) (l : List ST) {G : Ghost} {F : Nat → Prop} (hz : SizeOf.sizeOf l ≤ n + 1) (hsz : es.length + sszL l ≤ 5000) (het : ∀ p ∈ es, SlL G p.2.1 3 tC t0 p.1.h.ts) (hes : ∀ p ∈ es, Ss G p.2.2 p.1.subs) (hs : Ss G vl l) (w : World) (hG : Has G w) (hA : (rowA va 90 6 es.length (es.flatMap sC)).holds w F) (hFG : ∀ b, F b → G b = none) :
    Calls Try.prog 14 #[va, vl] w (Ret fun r w' => ∃ G', GNew w F G G' ∧ Has G' w' ∧ Ls (fun G v l => Ss G v l) ([] : List ST) G' r (schains (es.map Prod.fst) l) ∧ KeptG (rowA va 90 6 es.length (es.flatMap sC)) F G' w w') := by
 refine enterO (args := [_, _]) (G := G) (A := rowA va 90 6 es.length (es.flatMap sC)) (l := [(0, va), (1, vl)]) Try.func14 rfl Try.ntmps14 hG hA hFG ⟨rfl, rfl, trivial⟩ (Nat.le_of_ble_eq_true rfl) ?_
 obtain ⟨rs, hr, hpt, hps, rfl⟩ := hs.inv
 have hbd := hr.bound
 refine c_seq (c_region (r_val .none rfl (p_assign rfl) (r_nil (e_next ?_))))
 refine c_seq (c_region (r_val .none rfl (p_assign rfl) (r_nil (e_next ?_))))
 refine c_seq (c_seq (c_region (r_val .none rfl (p_move rfl) ?_)))
 refine r_val .none rfl (p_leng Try.underlying29 rfl hr) ?_
 have bd_1 := (hr).bound
 refine r_val .none rfl (p_move rfl) (r_nil (e_next (c_block ?_)))
 refine c_nilrow 29 1 ?_
 refine c_name (d := 0) rfl (fun u_2 hu_2 => ?_)
 refine c_name (d := 1) rfl (fun u_3 hu_3 => ?_)
 refine c_name (d := 4) rfl (fun u_4 hu_4 => ?_)
 refine c_name (d := 9) rfl (fun u_5 hu_5 => ?_)
 refine c_name (d := 10) rfl (fun u_6 hu_6 => ?_)
 refine c_nameL (k := 1) rfl (fun A_7 hA_7 => ?_)
 refine c_loop (σ := Nat × Value × List (List ST × Value) × Ghost) (fun s => [(11, Value.int .i64 (s.1 : Nat)), (5, s.2.1), (0, u_2), (1, u_3), (4, u_4), (9, u_5), (10, u_6)]) (fun s => [rowA (s.2.1) 29 1 (s.2.2.1).length ((s.2.2.1).flatMap lC), A_7]) (fun s => s.2.2.2) (fun s => s.1 ≤ rs.length ∧ s.2.2.1.map Prod.fst = schains (es.map Prod.fst) ((rs.map Prod.fst).take s.1) ∧ StC s.2.2.2 s.2.2.1 ∧ GNew w F G s.2.2.2) (fun s => rs.length - s.1) ((0, _, [], _)) ⟨Nat.zero_le _, by simp [schains], by simp [StC], GNew.refl _ _ _⟩ rfl ⟨rfl, rfl, rfl, rfl, rfl, rfl, rfl, trivial⟩ (.keep (fun _ _ h => rowA_nil rfl _ _ h) (.keep (fun _ _ h => h) (.nil))) (fun s hphi => ?_)
 subst hu_2
 subst hu_3
 subst hu_4
 subst hu_5
 subst hu_6
 subst hA_7
 obtain ⟨k, v, z, H⟩ := s
 obtain ⟨hk, hzq, hzc, hgn⟩ := hphi
 dsimp only at hk hzq hzc hgn ⊢
 have hzl : z.length = (schains (es.map Prod.fst) ((rs.map Prod.fst).take k)).length := by have := congrArg List.length hzq; simpa using this
 have hcl := schains_len ((rs.map Prod.fst).take k) (es.map Prod.fst)
 have hst0 := sszL_take_le (rs.map Prod.fst) k
 have hll := sszL_len (rs.map Prod.fst)
 rw [List.length_map] at hll
 have hm9 : (es ++ rs.take k).map Prod.fst = es.map Prod.fst ++ (rs.map Prod.fst).take k := by rw [List.map_append, List.map_take]
 refine c_row1 (k := 0) rfl (fun ov => ?_)
 refine c_rowlen (k := 0) rfl (fun l63 => ?_)
 replace hr := hr.mono hgn.le
 replace hpt := fun p hm0 => (hpt p hm0).mono hgn.le
 replace hps := fun p hm0 => (hps p hm0).mono hgn.le
 replace het := fun p hm0 => (het p hm0).mono hgn.le
 replace hes := fun p hm0 => (hes p hm0).mono hgn.le
 refine c_seq (c_region ?_)
 refine r_val .none rfl (p_lt rfl rfl) ?_
 refine r_nil (e_next (c_seq ?_))
 refine c_splitd (d := 12) rfl (fun h_8 => ?_) (fun h_8 => ?_)
 · (
 first
 | (exfalso; omega)
 | (
 refine c_cond_t rfl (c_skip (e_next (c_seq (c_block ?_))))
 refine c_seq (c_region (r_val .none rfl (p_move rfl) ?_))
 refine r_iaddr_g .none rfl Try.underlying29 sz90 rfl hr rfl (by first | exact odt rfl | omega) (fun p_10 o_11 R_9 => ?_)
 have ht_12 := hpt _ (getD_mem (i := k) (d := s0) (by omega))
 have hc_13 := hps _ (getD_mem (i := k) (d := s0) (by omega))
 have hkl := sszL_len ((rs.map Prod.fst).take k)
 rw [List.length_take, List.length_map] at hkl
 have hsk := sszL_take (rs := rs) (k := k) (by omega)
 have hsk2 := sszL_take_le (rs.map Prod.fst) (k + 1)
 have hsq := ssz_eq (rs.getD k s0).1
 refine r_val .none rfl (p_ldga0 Try.underlying90 rfl sz90 rfl R_9 (by first | exact odt rfl | omega) (rfl : _ = Value.agg #[_, _, _, _, _, _])) ?_
 refine r_alloc .none rfl zr90 (IsRow.lit _) (fun b_1 => ?_)
 refine r_val .none rfl (p_assign rfl) ?_
 refine r_stw (k := 0) .none sz90 rfl rfl (IsRow.lit _) (one_lit rfl (all_cons rfl (all_cons rfl (all_cons rfl (all_cons rfl (all_cons (ht_12).one (all_cons (hc_13).one rfl))))))) rfl ?_
 refine r_nil (e_next (c_seq (c_region (r_val .none rfl (p_assign rfl) ?_))))
 refine r_nil (e_next (c_seq (c_region (r_val .none rfl (p_move rfl) ?_))))
 refine r_val .none rfl (p_move rfl) ?_
 refine r_nilrow 90 6 ?_
 refine r_append_o (k := 0) (k2 := 3) .none rfl Try.underlying29 el90 rfl (by decide) rfl rfl rfl rfl (ss_all het hes) (by simp only [maxLen]; omega) (by omega) (fun v_15 => ?_)
 refine r_row1 (k := 0) rfl (fun o_16 => ?_)
 refine r_val .none rfl (p_assign rfl) (r_nil (e_next (c_seq (c_region ?_))))
 refine r_val .none rfl (p_move rfl) (r_val .none rfl (p_move rfl) (r_val .none rfl (p_move rfl) ?_))
 refine r_slice0 (k) .none rfl Try.underlying29 sz90 rfl hr rfl (by first | exact odt rfl | omega) (fun v_17 hs_18 => ?_)
 have hpt9_20 := ss_take (by omega) hs_18
 refine r_append_g (k := 0) .none rfl Try.underlying29 el90 rfl (by decide) rfl rfl rfl hpt9_20 (ss_ones (fun p hm0 => hpt p (List.mem_of_mem_take hm0)) (fun p hm0 => hps p (List.mem_of_mem_take hm0))) (by rw [List.length_take]; simp only [maxLen]; omega) (by rw [List.length_take]; omega) (fun v_21 => ?_)
 refine r_row1 (k := 0) rfl (fun o_22 => ?_)
 refine r_conv (B := rowA v_21 _ 6 (es ++ rs.take k).length ((es ++ rs.take k).flatMap sC)) (k := 0) rfl (fun _ _ h => rowA_congr (by simp) (by rw [List.nil_append, flat_all (cells := sC) (fun _ => rfl), List.flatMap_append]) _ _ h) ?_
 refine r_val .none rfl (p_assign rfl) (r_nil (e_next (c_seq (c_seq ?_))))
 refine c_region ?_
 refine r_val .none rfl (p_field Try.underlying90 rfl sz3 rfl) ?_
 refine r_val .none rfl (p_ld (k := 1) Try.underlying3 rfl rfl rfl (by first | exact odt rfl | omega) (rfl : _ = Value.int _ _)) ?_
 refine r_val .none rfl (p_eq rfl rfl) ?_
 refine r_nil (e_next ?_)
 refine c_splitd (d := 26) rfl (fun h_23 => ?_) (fun h_23 => ?_)
 · (
 have hk3 := h_23
 first
 | (exfalso; omega)
 | (
 refine c_cond_t rfl (c_region (r_val .none rfl (p_move rfl) (r_val .none rfl (p_move rfl) ?_)))
 refine r_val .none rfl (p_field Try.underlying90 rfl sz29 rfl) ?_
 refine r_val .none rfl (p_ld (k := 1) Try.underlying29 rfl rfl rfl (by first | exact odt rfl | omega) rfl) ?_
 refine r_callom (k := 0) (vs := [_, _]) .none rfl cl14 rfl rfl (fun w F hw hA hFG => ih _ _ _ _ _ _ w (Nat.le_of_lt_succ (Nat.lt_of_lt_of_le (ssub_size (by omega)) hz)) (by rw [List.length_append, List.length_take]; omega) (fun p hm0 => by rcases List.mem_append.1 hm0 with h | h; exact het p h; exact hpt p (List.mem_of_mem_take h)) (fun p hm0 => by rcases List.mem_append.1 hm0 with h | h; exact hes p h; exact hps p (List.mem_of_mem_take h)) hc_13 hw hA hFG) (fun G_24 v_27 hn_25 hr_26 => ?_)
 replace hr := hr.mono hn_25.le
 replace hpt := fun p hm0 => (hpt p hm0).mono hn_25.le
 replace hps := fun p hm0 => (hps p hm0).mono hn_25.le
 replace het := fun p hm0 => (het p hm0).mono hn_25.le
 replace hes := fun p hm0 => (hes p hm0).mono hn_25.le
 replace hzc := StC.mono hzc hn_25.le
 replace R_9 := R_9.mono hn_25.le
 replace ht_12 := ht_12.mono hn_25.le
 replace hc_13 := hc_13.mono hn_25.le
 replace hs_18 := hs_18.mono hn_25.le
 replace hpt9_20 := hpt9_20.mono hn_25.le
 obtain ⟨u_28z, u_28h, u_28p, u_28q⟩ := hr_26
 rw [hm9] at u_28q
 refine r_append_g (k := 2) .none rfl Try.underlying26 el29 rfl (by decide) rfl rfl rfl u_28h (ss_one1 u_28p) (by have h9 := congrArg List.length u_28q; rw [List.length_map] at h9; have h8 := schains_len (rs.getD k s0).1.subs (es.map Prod.fst ++ (rs.map Prod.fst).take k); simp only [maxLen]; omega) (by have h9 := congrArg List.length u_28q; rw [List.length_map] at h9; have h8 := schains_len (rs.getD k s0).1.subs (es.map Prod.fst ++ (rs.map Prod.fst).take k); omega) (fun v_29 => ?_)
 refine r_row1 (k := 2) rfl (fun o_30 => ?_)
 refine r_conv (B := rowA v_29 _ 1 (z ++ u_28z).length ((z ++ u_28z).flatMap lC)) (k := 2) rfl (fun _ _ h => rowA_congr (by simp) (by rw [flat_all (cells := lC) (fun _ => rfl), List.flatMap_append]) _ _ h) ?_
 refine r_val .none rfl (p_assign rfl) (r_nil (e_next (c_seq (c_region ?_))))
 refine r_val .none rfl (p_move rfl) ?_
 refine r_val .none rfl (p_ldw (k := 1) Try.underlying90 rfl sz90 rfl rfl (rfl : _ = Value.agg #[_, _, _, _, _, _])) ?_
 refine r_bslice (vs := [(0, Value.agg #[_, _, _, _, _, _])]) (c := #[_, _, _, _, _, _]) .none rfl Try.underlying29 el90 rfl rfl rfl (bs90_10a6 _ _ _ _ _ _) (IsRow.lit _) (fun b_2 => ?_)
 refine r_append (k := 1) (k2 := 0) .none rfl Try.underlying29 el90 rfl (by decide) rfl rfl rfl rfl rfl (one_lit rfl (all_cons rfl (all_cons rfl (all_cons rfl (all_cons rfl (all_cons (ht_12).one (all_cons (hc_13).one rfl))))))) (by rw [List.length_append, List.length_take]; simp only [maxLen]; omega) (by rw [List.length_append, List.length_take]; omega) (fun v_31 => ?_)
 refine r_row1 (k := 1) rfl (fun o_32 => ?_)
 refine r_val .none rfl (p_assign rfl) (r_nil (e_next (c_region (r_val .none rfl (p_move rfl) ?_))))
 refine r_val .none rfl (p_move rfl) ?_
 refine r_freeze (k := 1) rfl (fun G_33 hn_34 hs_35 => ?_)
 replace hr := hr.mono hn_34.le
 replace hpt := fun p hm0 => (hpt p hm0).mono hn_34.le
 replace hps := fun p hm0 => (hps p hm0).mono hn_34.le
 replace het := fun p hm0 => (het p hm0).mono hn_34.le
 replace hes := fun p hm0 => (hes p hm0).mono hn_34.le
 replace hzc := StC.mono hzc hn_34.le
 replace R_9 := R_9.mono hn_34.le
 replace ht_12 := ht_12.mono hn_34.le
 replace hc_13 := hc_13.mono hn_34.le
 replace hs_18 := hs_18.mono hn_34.le
 replace hpt9_20 := hpt9_20.mono hn_34.le
 replace u_28h := u_28h.mono hn_34.le
 replace u_28p := StC.mono u_28p hn_34.le
 have hs2 : SlL G_33 v_31 6 sC s0 ((es ++ rs.take k) ++ [rs.getD k s0]) := SlL.of2 s0 (fun _ => rfl) (by simp [Nat.add_assoc]) (by rw [List.flatMap_append (xs := es ++ rs.take k), List.flatMap_cons, List.flatMap_nil, List.append_nil]; rfl) hs_35
 have hva2 : Ss G_33 v_31 (es.map Prod.fst ++ (rs.map Prod.fst).take k ++ [(rs.getD k s0).1]) := by have h := Ss.mk _ hs2 (fun p hm0 => by rcases List.mem_append.1 hm0 with h | h; rcases List.mem_append.1 h with h | h; exact het p h; exact hpt p (List.mem_of_mem_take h); rw [List.mem_singleton.1 h]; exact ht_12) (fun p hm0 => by rcases List.mem_append.1 hm0 with h | h; rcases List.mem_append.1 h with h | h; exact hes p h; exact hps p (List.mem_of_mem_take h); rw [List.mem_singleton.1 h]; exact hc_13); rw [List.map_append, hm9] at h; exact h
 obtain ⟨a_36, c_37, rfl⟩ := SlG.len hs2
 refine r_bslice (vs := [(0, Value.slice _ _ _)]) (c := #[_]) .none rfl Try.underlying26 el29 rfl rfl rfl (bs29_10s3 _ _ _) (IsRow.lit _) (fun b_3 => ?_)
 refine r_append (k := 3) (k2 := 0) .none rfl Try.underlying26 el29 rfl (by decide) rfl rfl rfl rfl rfl (one_lit rfl rfl) (by first | (simp only [maxLen]; omega) | (have h9 := congrArg List.length u_28q; rw [List.length_map] at h9; have h8 := schains_len (rs.getD k s0).1.subs (es.map Prod.fst ++ (rs.map Prod.fst).take k); rw [List.length_append]; simp only [maxLen]; omega)) (by first | omega | (have h9 := congrArg List.length u_28q; rw [List.length_map] at h9; have h8 := schains_len (rs.getD k s0).1.subs (es.map Prod.fst ++ (rs.map Prod.fst).take k); rw [List.length_append]; omega)) (fun v_38 => ?_)
 refine r_row1 (k := 3) rfl (fun o_39 => ?_)
 refine r_val .none rfl (p_assign rfl) (r_nil ?_)
 refine e_norm_block ?_
 refine e_next (c_region ?_)
 refine r_val .none rfl (p_add rfl rfl (by omega)) ?_
 refine r_val .none rfl (p_move rfl) (r_nil ?_)
 refine e_round ((k + 1, _, (z ++ u_28z) ++ [(es.map Prod.fst ++ (rs.map Prod.fst).take k ++ [(rs.getD k s0).1], Value.slice a_36 ((es ++ rs.take k) ++ [rs.getD k s0]).length c_37)], _)) ⟨⟨by dsimp only; omega, by rw [schains_take (by omega), schain1_ncc hk3, List.map_append, List.map_append, hzq, ← u_28q, List.append_assoc]; rfl, StC.snoc (StC.app hzc u_28p) hva2, ((hgn.trans hn_25).trans hn_34)⟩, by dsimp only; omega⟩ rfl ⟨rfl, rfl, rfl, rfl, rfl, rfl, rfl, trivial⟩ (.drop (.drop (.drop (.keep (fun _ _ h => rowA_snoc (l := (z ++ u_28z)) (x := (es.map Prod.fst ++ (rs.map Prod.fst).take k ++ [(rs.getD k s0).1], Value.slice a_36 ((es ++ rs.take k) ++ [rs.getD k s0]).length c_37)) rfl rfl rfl rfl _ _ h) (.keep (fun _ _ h => h) (.nil))))))))
 · (
 have hk3 := h_23
 first
 | (exfalso; omega)
 | (
 refine c_cond_f rfl (c_skip (e_next (c_seq (c_region ?_))))
 refine r_val .none rfl (p_move rfl) ?_
 refine r_val .none rfl (p_ldw (k := 1) Try.underlying90 rfl sz90 rfl rfl (rfl : _ = Value.agg #[_, _, _, _, _, _])) ?_
 refine r_bslice (vs := [(0, Value.agg #[_, _, _, _, _, _])]) (c := #[_, _, _, _, _, _]) .none rfl Try.underlying29 el90 rfl rfl rfl (bs90_10a6 _ _ _ _ _ _) (IsRow.lit _) (fun b_4 => ?_)
 refine r_append (k := 1) (k2 := 0) .none rfl Try.underlying29 el90 rfl (by decide) rfl rfl rfl rfl rfl (one_lit rfl (all_cons rfl (all_cons rfl (all_cons rfl (all_cons rfl (all_cons (ht_12).one (all_cons (hc_13).one rfl))))))) (by rw [List.length_append, List.length_take]; simp only [maxLen]; omega) (by rw [List.length_append, List.length_take]; omega) (fun v_40 => ?_)
 refine r_row1 (k := 1) rfl (fun o_41 => ?_)
 refine r_val .none rfl (p_assign rfl) (r_nil (e_next (c_region (r_val .none rfl (p_move rfl) ?_))))
 refine r_val .none rfl (p_move rfl) ?_
 refine r_freeze (k := 1) rfl (fun G_42 hn_43 hs_44 => ?_)
 replace hr := hr.mono hn_43.le
 replace hpt := fun p hm0 => (hpt p hm0).mono hn_43.le
 replace hps := fun p hm0 => (hps p hm0).mono hn_43.le
 replace het := fun p hm0 => (het p hm0).mono hn_43.le
 replace hes := fun p hm0 => (hes p hm0).mono hn_43.le
 replace hzc := StC.mono hzc hn_43.le
 replace R_9 := R_9.mono hn_43.le
 replace ht_12 := ht_12.mono hn_43.le
 replace hc_13 := hc_13.mono hn_43.le
 replace hs_18 := hs_18.mono hn_43.le
 replace hpt9_20 := hpt9_20.mono hn_43.le
 have hs2 : SlL G_42 v_40 6 sC s0 ((es ++ rs.take k) ++ [rs.getD k s0]) := SlL.of2 s0 (fun _ => rfl) (by simp [Nat.add_assoc]) (by rw [List.flatMap_append (xs := es ++ rs.take k), List.flatMap_cons, List.flatMap_nil, List.append_nil]; rfl) hs_44
 have hva2 : Ss G_42 v_40 (es.map Prod.fst ++ (rs.map Prod.fst).take k ++ [(rs.getD k s0).1]) := by have h := Ss.mk _ hs2 (fun p hm0 => by rcases List.mem_append.1 hm0 with h | h; rcases List.mem_append.1 h with h | h; exact het p h; exact hpt p (List.mem_of_mem_take h); rw [List.mem_singleton.1 h]; exact ht_12) (fun p hm0 => by rcases List.mem_append.1 hm0 with h | h; rcases List.mem_append.1 h with h | h; exact hes p h; exact hps p (List.mem_of_mem_take h); rw [List.mem_singleton.1 h]; exact hc_13); rw [List.map_append, hm9] at h; exact h
 obtain ⟨a_45, c_46, rfl⟩ := SlG.len hs2
 refine r_bslice (vs := [(0, Value.slice _ _ _)]) (c := #[_]) .none rfl Try.underlying26 el29 rfl rfl rfl (bs29_10s3 _ _ _) (IsRow.lit _) (fun b_5 => ?_)
 refine r_append (k := 3) (k2 := 0) .none rfl Try.underlying26 el29 rfl (by decide) rfl rfl rfl rfl rfl (one_lit rfl rfl) (by first | (simp only [maxLen]; omega) | (have h9 := congrArg List.length q; rw [List.length_map] at h9; have h8 := schains_len (rs.getD k s0).1.subs (es.map Prod.fst ++ (rs.map Prod.fst).take k); rw [List.length_append]; simp only [maxLen]; omega)) (by first | omega | (have h9 := congrArg List.length q; rw [List.length_map] at h9; have h8 := schains_len (rs.getD k s0).1.subs (es.map Prod.fst ++ (rs.map Prod.fst).take k); rw [List.length_append]; omega)) (fun v_47 => ?_)
 refine r_row1 (k := 3) rfl (fun o_48 => ?_)
 refine r_val .none rfl (p_assign rfl) (r_nil ?_)
 refine e_norm_block ?_
 refine e_next (c_region ?_)
 refine r_val .none rfl (p_add rfl rfl (by omega)) ?_
 refine r_val .none rfl (p_move rfl) (r_nil ?_)
 refine e_round ((k + 1, _, z ++ [(es.map Prod.fst ++ (rs.map Prod.fst).take k ++ [(rs.getD k s0).1], Value.slice a_45 ((es ++ rs.take k) ++ [rs.getD k s0]).length c_46)], _)) ⟨⟨by dsimp only; omega, by rw [schains_take (by omega), schain1_other hk3, List.map_append, hzq]; rfl, StC.snoc hzc hva2, (hgn.trans hn_43)⟩, by dsimp only; omega⟩ rfl ⟨rfl, rfl, rfl, rfl, rfl, rfl, rfl, trivial⟩ (.drop (.drop (.drop (.keep (fun _ _ h => rowA_snoc (l := z) (x := (es.map Prod.fst ++ (rs.map Prod.fst).take k ++ [(rs.getD k s0).1], Value.slice a_45 ((es ++ rs.take k) ++ [rs.getD k s0]).length c_46)) rfl rfl rfl rfl _ _ h) (.keep (fun _ _ h => h) (.nil))))))))))
 · (
 first
 | (exfalso; omega)
 | (
 refine c_cond_f rfl (c_exit (e_exit_then (e_exit_then ?_)))
 refine e_exit_block ?_
 refine e_next (c_seq (c_region (r_val .none rfl (p_move rfl) (r_val .none rfl (p_assign rfl) ?_))))
 refine r_nil (e_next ?_)
 refine c_ret ?_
 refine e_freeze (k := 0) rfl (fun G_49 hn_50 hs_51 => ?_)
 replace hr := hr.mono hn_50.le
 replace hpt := fun p hm0 => (hpt p hm0).mono hn_50.le
 replace hps := fun p hm0 => (hps p hm0).mono hn_50.le
 replace het := fun p hm0 => (het p hm0).mono hn_50.le
 replace hes := fun p hm0 => (hes p hm0).mono hn_50.le
 replace hzc := StC.mono hzc hn_50.le
 refine e_ret1 Try.results14 (.tmp rfl .nil) (fun w hm => ⟨_, (hgn.trans hn_50), hm.has, ?_, hm.keptG [rowA _ 90 6 es.length (es.flatMap sC)] (.keep (fun _ _ h => h) (.nil)) _ (fun F' h => starL_one h)⟩)
 rw [show schains (es.map Prod.fst) (rs.map Prod.fst) = z.map Prod.fst by rw [hzq, List.take_of_length_le (by simp; omega)]]
 exact Ls.mk z (SlL.of (([] : List ST), Value.slice none 0 0) (fun _ => rfl) rfl hs_51) hzc))
theorem c_rchS_n : ∀ n, RchSIs n
 | 0 => fun va vl es l G F w hz _ _ _ _ _ _ _ => absurd hz (by cases l <;> simp)
 | n + 1 => fun va vl es l G F w hz hsz het hes hs hG hA hFG => c_rchS_s n (c_rchS_n n) va vl es l hz hsz het hes hs w hG hA hFG
theorem c_rchS (va vl : Value) (es : List SVal) (l : List ST) {G : Ghost} {F : Nat → Prop} (hsz : es.length + sszL l ≤ 5000) (het : ∀ p ∈ es, SlL G p.2.1 3 tC t0 p.1.h.ts) (hes : ∀ p ∈ es, Ss G p.2.2 p.1.subs) (hs : Ss G vl l) (w : World) (hG : Has G w) (hA : (rowA va 90 6 es.length (es.flatMap sC)).holds w F) (hFG : ∀ b, F b → G b = none) : Calls Try.prog 14 #[va, vl] w (Ret fun r w' => ∃ G', GNew w F G G' ∧ Has G' w' ∧ Ls (fun G v l => Ss G v l) ([] : List ST) G' r (schains (es.map Prod.fst) l) ∧ KeptG (rowA va 90 6 es.length (es.flatMap sC)) F G' w w') := c_rchS_n _ va vl es l G F w (Nat.le_refl _) hsz het hes hs hG hA hFG
end Go.Proofs.Ytdkfdncbldngdaa

/- Plain laws of tries: the document's lists and chains, and nodes; no program in sight. -/
namespace Go.Gx.T16
open Go.Gx Go.Gx.T3 Go.Gx.T4 Go.Gx.T6 Go.Gx.T8

/-! ### the document's -/
abbrev It := List ST × Bool
structure RT where
  lists : List (List ST)
  its : List It
/-- Chains are alike. -/
def ceq (a b : List ST) : Bool := seqL a b
theorem ceq_iff (a b : List ST) : ceq a b = true ↔ a = b := seqL_iff a b
theorem ceq_self (a : List ST) : ceq a a = true := (ceq_iff a a).2 rfl
theorem ceq_ne {a b : List ST} (h : a ≠ b) : ceq a b = false := by
  cases e : ceq a b with
  | false => rfl
  | true => exact absurd ((ceq_iff a b).1 e) h
/-- The numbers of those that are there and have something. -/
def numsF (p : List ST → Bool) : List It → Int → List Int
  | [], _ => []
  | x :: t, i => if x.2 = false ∧ p x.1 = true then i :: numsF p t (i + 1) else numsF p t (i + 1)
theorem numsF_append (p : List ST → Bool) : ∀ (a b : List It) (i : Int), numsF p (a ++ b) i = numsF p a i ++ numsF p b (i + a.length)
  | [], b, i => by simp [numsF]
  | x :: t, b, i => by
    rw [List.cons_append, numsF, numsF, numsF_append p t b (i + 1)]
    have e : i + 1 + (t.length : Int) = i + ((x :: t).length : Nat) := by simp; omega
    rw [e]
    split <;> simp
theorem numsF_ge {p : List ST → Bool} : ∀ {l : List It} {i k : Int}, k ∈ numsF p l i → i ≤ k ∧ k < i + l.length
  | [], i, k, h => by simp [numsF] at h
  | x :: t, i, k, h => by
    rw [numsF] at h
    split at h
    · rcases List.mem_cons.1 h with rfl | h
      · simp; omega
      · have := numsF_ge h; simp; omega
    · have := numsF_ge h; simp; omega
theorem numsF_mem {p : List ST → Bool} : ∀ {l : List It} {i k : Int}, k ∈ numsF p l i ↔ ∃ j c, k = i + (j : Nat) ∧ l[j]? = some (c, false) ∧ p c = true
  | [], i, k => by simp [numsF]
  | x :: t, i, k => by
    have ih := numsF_mem (p := p) (l := t) (i := i + 1) (k := k)
    have step : k ∈ numsF p (x :: t) i ↔ (x.2 = false ∧ p x.1 = true ∧ k = i) ∨ k ∈ numsF p t (i + 1) := by
      rw [numsF]
      split
      · rename_i h; simp [h.1, h.2]
      · rename_i h
        constructor
        · exact .inr
        · rintro (⟨h1, h2, _⟩ | h')
          · exact absurd ⟨h1, h2⟩ h
          · exact h'
    rw [step, ih]
    constructor
    · rintro (⟨h1, h2, rfl⟩ | ⟨j, c, rfl, h1, h2⟩)
      · exact ⟨0, x.1, by simp, by simp [← h1], h2⟩
      · exact ⟨j + 1, c, by push_cast; omega, by simpa using h1, h2⟩
    · rintro ⟨j, c, rfl, h1, h2⟩
      cases j with
      | zero => simp at h1; left; rw [h1]; exact ⟨rfl, h2, by simp⟩
      | succ j => right; exact ⟨j, c, by push_cast; omega, by simpa using h1, h2⟩
theorem numsF_none {p : List ST → Bool} : ∀ {l : List It} {i : Int}, (∀ x ∈ l, x.2 = false → p x.1 = false) → numsF p l i = []
  | [], _, _ => rfl
  | x :: t, i, h => by
    rw [numsF, numsF_none (l := t) (fun y hy => h y (List.mem_cons_of_mem _ hy)), if_neg]
    rintro ⟨h1, h2⟩
    rw [h x (by simp) h1] at h2; cases h2
theorem numsF_sorted {p : List ST → Bool} : ∀ {l : List It} {i : Int}, (numsF p l i).Pairwise (· < ·)
  | [], _ => List.Pairwise.nil
  | x :: t, i => by
    rw [numsF]
    split
    · refine List.Pairwise.cons (fun k hk => ?_) numsF_sorted
      have := numsF_ge hk; omega
    · exact numsF_sorted
/-- A chain's number. -/
def findF (c : List ST) : List It → Int → Int
  | [], _ => 0
  | x :: t, i => if x.2 = false ∧ ceq x.1 c = true then i else findF c t (i + 1)
def find (R : RT) (c : List ST) : Int := if c.length = 0 then 1 else findF c R.its 2
theorem findF_nums (c : List ST) : ∀ (l : List It) (i : Int), findF c l i = (numsF (ceq · c) l i).headD 0
  | [], _ => rfl
  | x :: t, i => by
    rw [findF, numsF]
    split
    · rfl
    · exact findF_nums c t (i + 1)
/-- The chain of a number. -/
def getF : List It → Int → Option (List ST)
  | [], _ => none
  | x :: t, k => if k = 0 then (if x.2 = false then some x.1 else none) else getF t (k - 1)
def getR (R : RT) (id : Int) : Option (List ST) := if id = 1 then some [] else getF R.its (id - 2)
theorem getF_iff : ∀ {l : List It} {k : Int} {c : List ST}, getF l k = some c ↔ ∃ j : Nat, k = j ∧ l[j]? = some (c, false)
  | [], k, c => by simp [getF]
  | x :: t, k, c => by
    rw [getF]
    split
    · rename_i h
      subst h
      constructor
      · intro h
        split at h
        · rename_i h1
          simp at h
          exact ⟨0, rfl, by rw [← h, ← h1]; rfl⟩
        · cases h
      · rintro ⟨j, h1, h2⟩
        obtain rfl : j = 0 := by omega
        simp at h2
        rw [h2]; simp
    · rename_i h
      rw [getF_iff (l := t)]
      constructor
      · rintro ⟨j, h1, h2⟩
        exact ⟨j + 1, by push_cast; omega, by simpa using h2⟩
      · rintro ⟨j, h1, h2⟩
        cases j with
        | zero => exact absurd h1 h
        | succ j => exact ⟨j, by push_cast at h1; omega, by simpa using h2⟩
theorem getR_iff {R : RT} {id : Int} {c : List ST} : getR R id = some c ↔ (id = 1 ∧ c = []) ∨ (id ≠ 1 ∧ ∃ j : Nat, id = j + 2 ∧ R.its[j]? = some (c, false)) := by
  unfold getR
  split
  · rename_i h
    subst h
    simp
  · rename_i h
    rw [getF_iff]
    constructor
    · rintro ⟨j, h1, h2⟩; exact .inr ⟨h, j, by omega, h2⟩
    · rintro (⟨h1, _⟩ | ⟨_, j, h1, h2⟩)
      · exact absurd h1 h
      · exact ⟨j, by omega, h2⟩
def usesOf (c : List ST) (l : List ST) : Bool := decide (c.length = 0) || (schains [] l).any (ceq · c)
def uses (R : RT) (c : List ST) : Nat := R.lists.countP (usesOf c)
def ends (R : RT) (c : List ST) : Nat := R.lists.countP (ceq · c)
theorem usesOf_iff {c l : List ST} : usesOf c l = true ↔ c = [] ∨ c ∈ schains [] l := by
  unfold usesOf
  rw [Bool.or_eq_true, decide_eq_true_eq, List.any_eq_true]
  constructor
  · rintro (h | ⟨x, h1, h2⟩)
    · exact .inl (List.eq_nil_of_length_eq_zero h)
    · rw [ceq_iff] at h2; subst h2; exact .inr h1
  · rintro (rfl | h)
    · exact .inl rfl
    · exact .inr ⟨c, h, ceq_self c⟩
def all (R : RT) : List Int := 1 :: numsF (fun _ => true) R.its 2
/-- The chain within that an Ncc's chain ends at. -/
def innerOf (c : List ST) : Option (List ST) := match c.getLast? with
  | some s => if s.h.k = 3 then some (c.dropLast ++ s.subs) else none
  | none => none
def inner (R : RT) (c : List ST) : Int := match innerOf c with
  | some e => find R e
  | none => 0
def isKid (c d : List ST) : Bool := decide (d.length = c.length + 1) && ceq d.dropLast c
theorem isKid_iff {c d : List ST} : isKid c d = true ↔ ∃ s, d = c ++ [s] := by
  unfold isKid
  rw [Bool.and_eq_true, decide_eq_true_eq, ceq_iff]
  constructor
  · rintro ⟨h1, h2⟩
    have hne : d ≠ [] := by intro e; rw [e] at h1; simp at h1
    exact ⟨d.getLast hne, by rw [← h2]; exact (List.dropLast_concat_getLast hne).symm⟩
  · rintro ⟨s, rfl⟩
    simp
def kidsR (R : RT) (c : List ST) : List Int := numsF (isKid c) R.its 2
def isOuter (c d : List ST) : Bool := match innerOf d with
  | some e => ceq e c
  | none => false
theorem isOuter_iff {c d : List ST} : isOuter c d = true ↔ innerOf d = some c := by
  unfold isOuter
  cases h : innerOf d with
  | none => simp
  | some e => simp [ceq_iff]
def outerR (R : RT) (c : List ST) : List Int := numsF (isOuter c) R.its 2
/-! ### nodes -/
structure PN where
  s : ST
  par : Int
  dep : Int
  uses : Int
  ends : Int
  inn : Int
  kids : List Int
  outer : List Int
abbrev sZ : ST := .mk ⟨0, 0, 0, 0, []⟩ []
def ndR (R : RT) (c : List ST) : PN := ⟨c.getLastD sZ, if c.length = 0 then 0 else find R c.dropLast, c.length, uses R c, ends R c, inner R c, kidsR R c, outerR R c⟩
/-- The nodes are just the document's. -/
def Inv (g : Int → Option PN) (R : RT) : Prop := ∀ id, g id = (getR R id).map (ndR R)
/-- Chains that are there: each once; what stands ahead is there, too, and what is within. -/
structure Clo (R : RT) : Prop where
  ne : ∀ x ∈ R.its, x.1 ≠ []
  once : ∀ (i j : Nat) (c : List ST), R.its[i]? = some (c, false) → R.its[j]? = some (c, false) → i = j
  up : ∀ (j : Nat) c, R.its[j]? = some (c, false) → find R c.dropLast ≠ 0 ∧ find R c.dropLast < j + 2
  inn : ∀ (j : Nat) c e, R.its[j]? = some (c, false) → innerOf c = some e → find R e ≠ 0 ∧ find R e < j + 2
theorem find_nil (R : RT) : find R [] = 1 := rfl
theorem find_some {R : RT} {c : List ST} (hne : ∀ x ∈ R.its, x.1 ≠ []) (h : find R c ≠ 0) : getR R (find R c) = some c := by
  unfold find at h ⊢
  split
  · rename_i hc
    rw [List.eq_nil_of_length_eq_zero hc]; rfl
  · rename_i hc
    rw [if_neg hc, findF_nums] at h
    rw [findF_nums]
    cases hn : numsF (ceq · c) R.its 2 with
    | nil => rw [hn] at h; exact absurd rfl h
    | cons k t =>
      have hk : k ∈ numsF (ceq · c) R.its 2 := by rw [hn]; simp
      obtain ⟨j, d, rfl, h1, h2⟩ := numsF_mem.1 hk
      rw [ceq_iff] at h2
      subst h2
      show getR R (2 + (j : Int)) = some d
      rw [getR_iff]
      exact .inr ⟨by omega, j, by omega, h1⟩
theorem find_of {R : RT} (hC : Clo R) {id : Int} {c : List ST} (h : getR R id = some c) : find R c = id := by
  rcases getR_iff.1 h with ⟨rfl, rfl⟩ | ⟨_, j, rfl, h1⟩
  · rfl
  · have hne : c ≠ [] := hC.ne _ (List.mem_of_getElem? h1)
    have hm : ((j : Int) + 2) ∈ numsF (ceq · c) R.its 2 := numsF_mem.2 ⟨j, c, by omega, h1, ceq_self c⟩
    unfold find
    rw [if_neg (fun e => hne (List.eq_nil_of_length_eq_zero e)), findF_nums]
    cases hn : numsF (ceq · c) R.its 2 with
    | nil => rw [hn] at hm; cases hm
    | cons k t =>
      have hk : k ∈ numsF (ceq · c) R.its 2 := by rw [hn]; simp
      obtain ⟨i, d, rfl, h3, h4⟩ := numsF_mem.1 hk
      rw [ceq_iff] at h4
      subst h4
      have := hC.once i j d h3 h1
      subst this
      show (2 : Int) + i = i + 2
      omega
theorem find_ne {R : RT} {c : List ST} (hc : c ≠ []) : find R c ≠ 0 ↔ (c, false) ∈ R.its := by
  unfold find
  rw [if_neg (fun e => hc (List.eq_nil_of_length_eq_zero e)), findF_nums]
  constructor
  · intro h
    cases hn : numsF (ceq · c) R.its 2 with
    | nil => rw [hn] at h; exact absurd rfl h
    | cons k t =>
      have hk : k ∈ numsF (ceq · c) R.its 2 := by rw [hn]; simp
      obtain ⟨j, d, _, h1, h2⟩ := numsF_mem.1 hk
      rw [ceq_iff] at h2; subst h2
      exact List.mem_of_getElem? h1
  · intro h
    obtain ⟨j, hj⟩ := List.getElem?_of_mem h
    have hm : (2 + (j : Int)) ∈ numsF (ceq · c) R.its 2 := numsF_mem.2 ⟨j, c, rfl, hj, ceq_self c⟩
    cases hn : numsF (ceq · c) R.its 2 with
    | nil => rw [hn] at hm; cases hm
    | cons k t =>
      have hk : k ∈ numsF (ceq · c) R.its 2 := by rw [hn]; simp
      have := numsF_ge hk
      show k ≠ 0
      omega
theorem find_nonneg (R : RT) (c : List ST) : 0 ≤ find R c ∧ find R c < 2 + R.its.length := by
  unfold find
  split
  · omega
  · rw [findF_nums]
    cases hn : numsF (ceq · c) R.its 2 with
    | nil => simp; omega
    | cons k t =>
      have hk : k ∈ numsF (ceq · c) R.its 2 := by rw [hn]; simp
      have := numsF_ge hk
      show 0 ≤ k ∧ k < _
      omega
/-! ### the program's way down -/
def belowL (g : Int → Option PN) (s : ST) : List Int → Int
  | [] => 0
  | k :: t => match g k with
    | some x => if seq x.s s = true then k else belowL g s t
    | none => belowL g s t
def below (g : Int → Option PN) (id : Int) (s : ST) : Int := match g id with
  | some x => belowL g s x.kids
  | none => 0
def fromG (g : Int → Option PN) : Int → List ST → Int
  | id, [] => id
  | id, s :: t => if below g id s = 0 then 0 else fromG g (below g id s) t
/-- Kids and steps are the document's. -/
def KInv (g : Int → Option PN) (R : RT) : Prop := ∀ id c, getR R id = some c → ∃ x, g id = some x ∧ x.kids = kidsR R c ∧ x.s = c.getLastD sZ
theorem Inv.k {g : Int → Option PN} {R : RT} (h : Inv g R) : KInv g R := fun id c hc => ⟨ndR R c, by rw [h, hc]; rfl, rfl, rfl⟩
theorem below_find {g : Int → Option PN} {R : RT} (hK : KInv g R) (hC : Clo R) {id : Int} {c : List ST} (s : ST) (h : getR R id = some c) : below g id s = find R (c ++ [s]) := by
  obtain ⟨x, hx, hk, _⟩ := hK id c h
  unfold below find
  rw [hx, if_neg (by simp), findF_nums]
  show belowL g s x.kids = _
  rw [hk]
  unfold kidsR
  have key : ∀ (l : List It) (i : Int), (∀ (j : Nat) d, l[j]? = some (d, false) → d ≠ [] ∧ ∃ x, g (i + j) = some x ∧ x.s = d.getLastD sZ) → belowL g s (numsF (isKid c) l i) = (numsF (ceq · (c ++ [s])) l i).headD 0 := by
    intro l
    induction l with
    | nil => intro i _; rfl
    | cons y t ih =>
      intro i hg
      have hg' : ∀ (j : Nat) d, t[j]? = some (d, false) → d ≠ [] ∧ ∃ x, g (i + 1 + j) = some x ∧ x.s = d.getLastD sZ := fun j d hd => by
        have := hg (j + 1) d (by simpa using hd)
        rw [show i + ((j + 1 : Nat) : Int) = i + 1 + j by push_cast; omega] at this
        exact this
      rw [numsF, numsF]
      cases hy : y.2 with
      | true =>
        rw [if_neg (by simp), if_neg (by simp)]
        exact ih (i + 1) hg'
      | false =>
        obtain ⟨d, o⟩ := y
        simp only at hy; subst hy
        obtain ⟨_, x, h1, h2⟩ := hg 0 d (by simp)
        simp only [Int.natCast_zero, Int.add_zero] at h1
        by_cases hk : isKid c d = true
        · obtain ⟨s', rfl⟩ := isKid_iff.1 hk
          have h3 : x.s = s' := by rw [h2]; simp
          simp only [true_and, hk, if_true]
          rw [belowL, h1]
          show (if seq x.s s = true then i else belowL g s _) = _
          rw [h3]
          by_cases hs : seq s' s = true
          · have hss := (seq_iff s' s).1 hs
            subst hss
            rw [if_pos hs, if_pos (ceq_self _)]; rfl
          · have hss : ¬ ceq (c ++ [s']) (c ++ [s]) = true := fun e => hs (by
              have := (ceq_iff _ _).1 e
              have h4 : s' = s := by simpa using this
              exact (seq_iff s' s).2 h4)
            rw [if_neg hs, if_neg hss]
            exact ih (i + 1) hg'
        · have hce : ¬ ceq d (c ++ [s]) = true := fun e => hk (isKid_iff.2 ⟨s, (ceq_iff _ _).1 e⟩)
          simp only [true_and, hk, hce, if_false]
          exact ih (i + 1) hg'
  refine key R.its 2 (fun j d hd => ?_)
  have hg : getR R (2 + (j : Int)) = some d := getR_iff.2 (.inr ⟨by omega, j, by omega, hd⟩)
  obtain ⟨x, h1, _, h3⟩ := hK _ _ hg
  exact ⟨hC.ne _ (List.mem_of_getElem? hd), x, h1, h3⟩
theorem find_pre {R : RT} (hC : Clo R) {a : List ST} {s : ST} (h : find R (a ++ [s]) ≠ 0) : find R a ≠ 0 := by
  obtain ⟨j, hj⟩ := List.getElem?_of_mem ((find_ne (by simp)).1 h)
  have := (hC.up j _ hj).1
  simpa using this
theorem from_find {g : Int → Option PN} {R : RT} (hK : KInv g R) (hC : Clo R) : ∀ (l : List ST) {id : Int} {c : List ST}, getR R id = some c → fromG g id l = find R (c ++ l)
  | [], id, c, h => by rw [fromG, List.append_nil, find_of hC h]
  | s :: t, id, c, h => by
    rw [fromG, below_find hK hC s h]
    have e : c ++ s :: t = c ++ [s] ++ t := by simp
    rw [e]
    by_cases hz : find R (c ++ [s]) = 0
    · rw [if_pos hz]
      refine Eq.symm (Decidable.byContradiction fun hn => ?_)
      have : ∀ (t : List ST) (a : List ST), find R (a ++ t) ≠ 0 → find R a ≠ 0 := by
        intro t
        induction t with
        | nil => intro a h; simpa using h
        | cons s' t ih =>
          intro a h
          have e : a ++ s' :: t = a ++ [s'] ++ t := by simp
          rw [e] at h
          exact find_pre hC (ih _ h)
      exact this t _ hn hz
    · rw [if_neg hz]
      exact from_find hK hC t (find_some hC.ne hz)
end Go.Gx.T16

/-
  GX: calls that read what is known of the call's own memory and change nothing. Generic in the program.
-/
namespace Go.Gx
open Go.RowKit Go.Maps Go.Sort

section
variable {P : Program} {ops : Array Oper} {Q : Exit → Act → World → Prop} {N : Nat} {X : Nat → Prop} {w0 : World} {G : Ghost} {l : List (Nat × Value)} {L : List Asrt}
variable {rest : List Oper} {d i j : Nat} {ty : TypeId} {pos : String} {after : Array Edge} {gd : Option (Nat × Bool)} {v : Value} {f : FuncId} {xs : List Operand} {vs : List Value} {ats : Array TypeId} {A1 A2 : Asrt}

end

/-- slices.Collect(maps.Keys(m)) at a map without entries. -/
def Coll0 (P : Program) (f g : FuncId) (K : TypeId) : Prop := ∀ (Bm b nn : Nat) (D0 : DataW Unit) (w : World), w.cell? ⟨Bm, 0, none⟩ = some (.map (some b)) → Bm < w.heap.size → w.ownsMap P K R0 b nn D0 → Maps.size D0 = 0 →
  Calls P f #[.func (.func g) #[] #[.pointer (some ⟨Bm, 0, none⟩)]] w fun e w' => e = .returned (.slice none 0 0) ∧ Below w.heap.size w w'

end Go.Gx

/-
  GX: strings in order; rows of one-cell elements that the library sorts by a function; the keys of a map of strings. Generic in the program.
-/
namespace Go.Gx
open Go.RowKit Go.Sort Go.Maps Go.Proofs
/-- Bytes, lexically. -/
def bLt (a b : ByteArray) : Bool := Op.bytesLess a.toList b.toList
section
variable {P : Program} {N : Nat} {X : Nat → Prop} {w0 : World} {G : Ghost} {l : List (Nat × Value)} {L : List Asrt}
variable {d : Nat} {ty : TypeId} {pos : String} {after : Array Edge} {gd : Option (Nat × Bool)} {x y : Operand} {T U : TypeId} {a b : ByteArray}
end
/-! ### a row of the call's own, sorted -/
abbrev cS (s : ByteArray) : List Value := [.string s]
section
variable {α : Type} [Inhabited α] {enc : α → Value}
omit [Inhabited α] in
theorem cells_one (zs : List α) : zs.flatMap (fun a => [enc a]) = zs.map enc := by
  induction zs with
  | nil => rfl
  | cons a t ih => simp [ih]
/-- What a call of the library that sorts comes to. -/
def Sort1C (P : Program) (f g : FuncId) (enc : α → Value) (srt : List α → List α) : Prop := ∀ (blk cap : Nat) (zs : List α) (w : World), Holds enc w blk 0 zs.toArray → blk < w.heap.size → zs.length < 4611686018427387904 →
  Calls P f #[.slice (some ⟨blk, 0, none⟩) zs.length cap, .func (.func g) #[] #[]] w fun e w' => e = .returned (.tuple #[]) ∧ ∃ n os, w' = grow (putRow enc (Sort.ahead w n) blk 0 (srt zs).toArray) os
def Sort1N (P : Program) (f g : FuncId) : Prop := ∀ (p : Option Addr) (cap : Nat) (w : World), Calls P f #[.slice p 0 cap, .func (.func g) #[] #[]] w fun e w' => e = .returned (.tuple #[]) ∧ w' = w
variable {P : Program} {ops : Array Oper} {Q : Exit → Act → World → Prop} {N : Nat} {X : Nat → Prop} {w0 : World} {G : Ghost} {l : List (Nat × Value)} {L : List Asrt}
variable {rest : List Oper} {d k n : Nat} {ty : TypeId} {pos : String} {after : Array Edge} {gd : Option (Nat × Bool)} {v : Value} {E : TypeId} {zs : List α} {f g : FuncId} {xs : List Operand} {ats : Array TypeId}
theorem own_holds1 {w : World} {g cap : Nat} {cur : Array Value} (hg : w.heap[g]? = some (.cells cur E (0, 0))) (hc : cur.size = cap) (hn : zs.length ≤ cap) (ht : cur.toList.take zs.length = zs.map enc) : Holds enc w g 0 zs.toArray := by
  intro j hj
  have hj' : j < zs.length := by simpa using hj
  constructor
  · rw [cell_of_row w g (0 + j) cur E (0, 0) hg, Nat.zero_add]
    have h1 := congrArg (fun l => l[j]?) ht
    simp [List.getElem?_take, hj'] at h1
    simp [h1, hj']
  · simp [World.frozen?, hg]
theorem own_after1 {w : World} {g cap q : Nat} {cur : Array Value} {os : Array Obj} {zs' : List α} (hg : w.heap[g]? = some (.cells cur E (0, 0))) (hc : cur.size = cap) (hcm : cap ≤ maxLen) (hz : zs'.length ≤ cap) :
    (rowA (.slice (some ⟨g, 0, none⟩) zs'.length cap) E 1 zs'.length (zs'.flatMap fun a => [enc a])).holds (grow (putRow enc (Sort.ahead w q) g 0 zs'.toArray) os) (fun b => b = g) := by
  have hg' : (Sort.ahead w q).heap[g]? = some (.cells cur E (0, 0)) := hg
  have h1 := putRow_heap (enc := enc) (n := 0) (d := zs'.toArray) hg'
  have hlt : g < (putRow enc (Sort.ahead w q) g 0 zs'.toArray).heap.size := lt_of_heap h1
  refine ⟨⟨?_, .inr ⟨g, cap, putCells enc 0 zs'.toArray cur, rfl, Nat.zero_le _, ?_, by omega, hcm, ?_, ?_⟩⟩, fun b => ⟨fun h => by subst h; rfl, fun h => by simp [Value.ownBlock] at h; exact h.symm⟩, by omega⟩
  · rw [cells_one]; simp
  · show ((putRow enc (Sort.ahead w q) g 0 zs'.toArray).heap ++ os)[g]? = _
    rw [Array.getElem?_append_left hlt]; exact h1
  · simp [putCells, hc]
  · rw [Nat.mul_one, putCells_take (by simp) (by simp; omega), cells_one]
    congr 1
    exact List.take_length
theorem since_sort1 {w : World} {g q : Nat} {os : Array Obj} {zs' : List α} {F : Nat → Prop} (hF : F g) : Since F w (grow (putRow enc (Sort.ahead w q) g 0 zs'.toArray) os) := by
  refine ⟨rfl, rfl, rfl, ?_, fun b hb hx => ?_⟩
  · show w.heap.size ≤ (((putRow enc (Sort.ahead w q) g 0 zs'.toArray).heap ++ os)).size
    have : (putRow enc (Sort.ahead w q) g 0 zs'.toArray).heap.size = w.heap.size := by
      show (w.heap.modify g _).size = _
      simp
    rw [Array.size_append]; omega
  · have hne : b ≠ g := fun e => hx (e ▸ hF)
    show ((putRow enc (Sort.ahead w q) g 0 zs'.toArray).heap ++ os)[b]? = _
    have hsz : (putRow enc (Sort.ahead w q) g 0 zs'.toArray).heap.size = w.heap.size := by
      show (w.heap.modify g _).size = _
      simp
    rw [Array.getElem?_append_left (by omega), putRow_other hne]
    rfl
end
/-! ### the keys of a map of strings -/
section
variable {ν : Type} {P : Program} {K : TypeId}
end
/-- slices.Collect(maps.Keys(m)): the second call, of what the first one made. -/
def CollC (P : Program) (f g : FuncId) (K : TypeId) : Prop := ∀ (Bm b nn : Nat) (D0 : DataW Unit) (w : World), w.cell? ⟨Bm, 0, none⟩ = some (.map (some b)) → Bm < w.heap.size → w.ownsMap P K R0 b nn D0 → Maps.size D0 ≤ maxLen → Maps.size D0 * 16 ≤ 140737488355328 →
  Calls P f #[.func (.func g) #[] #[.pointer (some ⟨Bm, 0, none⟩)]] w fun e w' => ∃ (v : Value) (ss : List (List UInt8)), e = .returned v ∧ ss.Perm (strKeys D0) ∧ w'.ownsRow w.heap.size K 1 v ss.length (ss.map fun l => Value.string ⟨l.toArray⟩) ∧ Below w.heap.size w w'
section
variable {P : Program} {ops : Array Oper} {Q : Exit → Act → World → Prop} {N : Nat} {X : Nat → Prop} {w0 : World} {G : Ghost} {l : List (Nat × Value)} {L : List Asrt}
variable {rest : List Oper} {d i j k n sz : Nat} {ty : TypeId} {pos : String} {after : Array Edge} {gd : Option (Nat × Bool)} {f : FuncId} {xs : List Operand} {vs : List Value} {ats : Array TypeId} {A1 A2 : Asrt} {E E' : TypeId} {r0 : Value} {zs : List Value}
variable {τ : Type} {S : τ → Prop} {R : Value → τ → Asrt}
end
/-! ### strings sorted by bytes -/
def cmpB (a b : ByteArray) : Int := if bLt a b = true then -1 else if bLt b a = true then 1 else 0
def sortB (zs : List ByteArray) : List ByteArray := zs.mergeSort fun x y => !(ltOf cmpB) y x
end Go.Gx

/-
  GX: objects that a map leads to: the map's list bears what each object is, and one assertion holds them all; one of them is taken out and put back. Generic in the program.
-/
namespace Go.Gx
open Go.RowKit
/-- Two assertions say the same. -/
def Asrt.Eqv (A B : Asrt) : Prop := ∀ w F, A.holds w F ↔ B.holds w F
theorem Asrt.Eqv.rfl {A : Asrt} : A.Eqv A := fun _ _ => Iff.rfl
theorem Asrt.Eqv.symm {A B : Asrt} (h : A.Eqv B) : B.Eqv A := fun w F => (h w F).symm
theorem Asrt.Eqv.trans {A B C : Asrt} (h : A.Eqv B) (k : B.Eqv C) : A.Eqv C := fun w F => (h w F).trans (k w F)
theorem star_congr {A A' B B' : Asrt} (h : A.Eqv A') (k : B.Eqv B') : (star A B).Eqv (star A' B') := fun w _ =>
  ⟨fun ⟨F1, F2, h1, h2, h3, h4⟩ => ⟨F1, F2, (h w F1).1 h1, (k w F2).1 h2, h3, h4⟩, fun ⟨F1, F2, h1, h2, h3, h4⟩ => ⟨F1, F2, (h w F1).2 h1, (k w F2).2 h2, h3, h4⟩⟩
theorem star_comm (A B : Asrt) : (star A B).Eqv (star B A) := by
  have key : ∀ (A B : Asrt) w F, (star A B).holds w F → (star B A).holds w F := fun A B w F ⟨F1, F2, h1, h2, h3, h4⟩ =>
    ⟨F2, F1, h2, h1, fun b hb ha => h3 b ha hb, fun b => (h4 b).trans Or.comm⟩
  exact fun w F => ⟨key A B w F, key B A w F⟩
theorem star_assoc (A B C : Asrt) : (star A (star B C)).Eqv (star (star A B) C) := fun w F => by
  constructor
  · rintro ⟨F1, F2, h1, ⟨F3, F4, h5, h6, h7, h8⟩, h3, h4⟩
    refine ⟨fun b => F1 b ∨ F3 b, F4, ⟨F1, F3, h1, h5, fun b ha hb => h3 b ha ((h8 b).2 (.inl hb)), fun _ => Iff.rfl⟩, h6, ?_, fun b => ?_⟩
    · rintro b (hb | hb) hc
      · exact h3 b hb ((h8 b).2 (.inr hc))
      · exact h7 b hb hc
    · rw [h4 b, h8 b, or_assoc]
  · rintro ⟨F1, F2, ⟨F3, F4, h5, h6, h7, h8⟩, h2, h3, h4⟩
    refine ⟨F3, fun b => F4 b ∨ F2 b, h5, ⟨F4, F2, h6, h2, fun b ha hb => h3 b ((h8 b).2 (.inr ha)) hb, fun _ => Iff.rfl⟩, ?_, fun b => ?_⟩
    · rintro b hb (hc | hc)
      · exact h7 b hb hc
      · exact h3 b ((h8 b).2 (.inl hb)) hc
    · rw [h4 b, h8 b, or_assoc]
theorem star_swap (A B C : Asrt) : (star A (star B C)).Eqv (star B (star A C)) :=
  (star_assoc A B C).trans ((star_congr (star_comm A B) .rfl).trans (star_assoc B A C).symm)
theorem Sep.one {w : World} {A B : Asrt} {L : List Asrt} {U : Nat → Prop} (h : ∀ F, A.holds w F → B.holds w F) : Sep w (A :: L) U → Sep w (B :: L) U :=
  fun ⟨F, h1, h2, h3⟩ => ⟨F, h F h1, h2, h3⟩
theorem Sep.unstar {w : World} {A B : Asrt} {L : List Asrt} {U : Nat → Prop} : Sep w (star A B :: L) U → Sep w (A :: B :: L) U := by
  rintro ⟨F, ⟨F1, F2, h1, h2, h3, h4⟩, h5, h6⟩
  refine ⟨F1, h1, fun b hb => h5 b ((h4 b).2 (.inl hb)), F2, h2, fun b hb => ⟨h5 b ((h4 b).2 (.inr hb)), fun ha => h3 b ha hb⟩, Sep.mono h6 (fun b _ hu => ⟨⟨hu.1, fun ha => hu.2 ((h4 b).2 (.inl ha))⟩, fun hb => hu.2 ((h4 b).2 (.inr hb))⟩)⟩
theorem Sep.restar {w : World} {A B : Asrt} {L : List Asrt} {U : Nat → Prop} : Sep w (A :: B :: L) U → Sep w (star A B :: L) U := by
  rintro ⟨F1, h1, h2, F2, h3, h4, h5⟩
  refine ⟨fun b => F1 b ∨ F2 b, ⟨F1, F2, h1, h3, fun b ha hb => (h4 b hb).2 ha, fun _ => Iff.rfl⟩, ?_, Sep.mono h5 (fun b _ hu => ⟨hu.1.1, ?_⟩)⟩
  · rintro b (hb | hb)
    · exact h2 b hb
    · exact (h4 b hb).1
  · rintro (hb | hb)
    · exact hu.1.2 hb
    · exact hu.2 hb
section
variable {κ ν : Type} [DecidableEq κ]
/-- All objects of a list. -/
def hoard (F : κ × ν → Asrt) (l : List (κ × ν)) : Asrt := starL (l.map F)
theorem hoard_pick (F : κ × ν → Asrt) : ∀ {l : List (κ × ν)} {k : κ} {v : ν}, lkp l k = some v → (hoard F l).Eqv (star (F (k, v)) (hoard F (mdel l k)))
  | [], _, _, h => by simp [lkp] at h
  | p :: t, k, v, h => by
    obtain ⟨pk, pv⟩ := p
    rw [lkp] at h
    rw [mdel]
    by_cases e : pk = k
    · simp only [e, if_true, Option.some.injEq] at h ⊢
      rw [h]; exact .rfl
    · simp only [e, if_false] at h ⊢
      exact (star_congr (Asrt.Eqv.rfl (A := F (pk, pv))) (hoard_pick F h)).trans (star_swap _ _ _)
theorem hoard_put (F : κ × ν → Asrt) : ∀ {l : List (κ × ν)} {k : κ} {u : ν} (v : ν), lkp l k = some u → (star (F (k, v)) (hoard F (mdel l k))).Eqv (hoard F (mput l k v))
  | [], _, _, _, h => by simp [lkp] at h
  | p :: t, k, u, v, h => by
    obtain ⟨pk, pv⟩ := p
    rw [lkp] at h
    rw [mdel, mput]
    by_cases e : pk = k
    · simp only [e, if_true]; exact .rfl
    · simp only [e, if_false] at h ⊢
      exact (star_swap _ _ _).trans (star_congr (Asrt.Eqv.rfl (A := F (pk, pv))) (hoard_put F v h))
theorem hoard_new (F : κ × ν → Asrt) : ∀ {l : List (κ × ν)} {k : κ} (v : ν), lkp l k = none → (star (F (k, v)) (hoard F l)).Eqv (hoard F (mput l k v))
  | [], _, _, _ => .rfl
  | p :: t, k, v, h => by
    obtain ⟨pk, pv⟩ := p
    rw [lkp] at h
    rw [mput]
    by_cases e : pk = k
    · rw [if_pos e] at h; cases h
    · simp only [e, if_false] at h ⊢
      exact (star_swap _ _ _).trans (star_congr (Asrt.Eqv.rfl (A := F (pk, pv))) (hoard_new F v h))
section
variable {X : Nat → Prop} {w0 w : World} {G : Ghost} {L : List Asrt} {F : κ × ν → Asrt} {l : List (κ × ν)} {k : κ} {u v : ν}
theorem Mem.focus (hk : lkp l k = some v) (h : Mem X w0 G w (hoard F l :: L)) : Mem X w0 G w (F (k, v) :: hoard F (mdel l k) :: L) :=
  ⟨h.since, h.has, (h.sep.one (fun f => (hoard_pick F hk w f).1)).unstar⟩
theorem Mem.unfocus (hk : lkp l k = some u) (h : Mem X w0 G w (F (k, v) :: hoard F (mdel l k) :: L)) : Mem X w0 G w (hoard F (mput l k v) :: L) :=
  ⟨h.since, h.has, h.sep.restar.one (fun f => (hoard_put F v hk w f).1)⟩
theorem Mem.fnew (hk : lkp l k = none) (h : Mem X w0 G w (F (k, v) :: hoard F l :: L)) : Mem X w0 G w (hoard F (mput l k v) :: L) :=
  ⟨h.since, h.has, h.sep.restar.one (fun f => (hoard_new F v hk w f).1)⟩
variable {P : Program} {ops : Array Oper} {Q : Exit → Act → World → Prop} {N : Nat} {fr : List (Nat × Value)} {rest : List Oper} {c : Code} {e : Exit}
end
/-! ### what a map's list says besides -/
omit [DecidableEq κ] in
theorem mapA_recast {m : Nat} {ke : κ → Value} {ve : ν → Value} {l l' : List (κ × ν)} (h : l.map (enc ke ve) = l'.map (enc ke ve)) {w : World} {F : Nat → Prop} (hb : (mapA m ke ve l).holds w F) : (mapA m ke ve l').holds w F := by
  obtain ⟨⟨es, c, hM⟩, hF⟩ := hb
  exact ⟨⟨es, c, ⟨hM.heap, hM.st, hM.eq.trans h⟩⟩, hF⟩
theorem mput_enc {ke : κ → Value} {ve : ν → Value} {l : List (κ × ν)} {k : κ} {u v : ν} (hk : lkp l k = some u) (hv : ve u = ve v) : l.map (enc ke ve) = (mput l k v).map (enc ke ve) := by
  induction l with
  | nil => simp [lkp] at hk
  | cons p t ih =>
    rw [lkp] at hk
    rw [mput]
    by_cases e : p.1 = k
    · rw [if_pos e] at hk ⊢
      simp only [Option.some.injEq] at hk
      simp [enc, hk, hv, e]
    · rw [if_neg e] at hk ⊢
      simp [ih hk]
/-- The same map, what one of its values leads to told anew. -/
theorem mapA_retell {m : Nat} {ke : κ → Value} {ve : ν → Value} {l : List (κ × ν)} {k : κ} {u v : ν} (hk : lkp l k = some u) (hv : ve u = ve v) {w : World} {F : Nat → Prop} (hb : (mapA m ke ve l).holds w F) : (mapA m ke ve (mput l k v)).holds w F :=
  mapA_recast (mput_enc hk hv) hb
end
section
variable {κ : Type} {P : Program} {N : Nat} {X : Nat → Prop} {w0 : World} {G : Ghost} {l : List (Nat × Value)} {L : List Asrt}
variable {d i : Nat} {ty : TypeId} {pos : String} {after : Array Edge} {gd : Option (Nat × Bool)} {x y : Operand} {T K E U : TypeId}
end
section
variable {P : Program} {ops : Array Oper} {Q : Exit → Act → World → Prop} {N : Nat} {X : Nat → Prop} {w0 : World} {G : Ghost} {l : List (Nat × Value)} {L : List Asrt}
variable {rest : List Oper} {d i : Nat} {ty : TypeId} {pos : String} {after : Array Edge} {gd : Option (Nat × Bool)} {x y : Operand} {T K E : TypeId}
end
end Go.Gx

/-
  GX: a function value that was handed in is called; an object of no blocks. Generic in the program.
-/
namespace Go.Gx
open Go.RowKit
/-- Nothing. -/
def empA : Asrt where
  holds _ F := ∀ b, ¬ F b
  frame := fun h _ => h
  dom := fun h hb => (h _ hb).elim
theorem evs_app {l : List (Nat × Value)} {cs : List Value} : ∀ {xs : List Operand} {us : List Value}, evs l xs = some us → evs l (xs ++ cs.map Operand.const) = some (us ++ cs)
  | [], us, h => by
    simp only [evs, Option.some.injEq] at h
    subst h
    rw [List.nil_append, List.nil_append]
    induction cs with
    | nil => rfl
    | cons c t ih => simp [evs, ih, ev]
  | x :: xs, us, h => by
    simp only [List.cons_append]
    unfold evs at h ⊢
    cases hx : ev l x with
    | none => simp [hx] at h
    | some u =>
      cases hr : evs l xs with
      | none => simp [hx, hr] at h
      | some r =>
        simp [hx, hr] at h
        subst h
        simp [evs_app hr]
section
variable {P : Program} {ops : Array Oper} {Q : Exit → Act → World → Prop} {N : Nat} {X : Nat → Prop} {w0 : World} {G : Ghost} {l : List (Nat × Value)} {L : List Asrt}
variable {rest : List Oper} {d : Nat} {ty : TypeId} {pos : String} {after : Array Edge} {gd : Option (Nat × Bool)}
end
section
variable {P : Program} {ops : Array Oper} {Q : Exit → Act → World → Prop} {N : Nat} {X : Nat → Prop} {w0 : World} {G : Ghost} {l l0 : List (Nat × Value)} {L : List Asrt}
variable {brk : Nat → Bool} {G0 : Ghost} {L0 : List Asrt} {n : Nat} {listed : Array Bool} {o o' o2 : Oper}
end
section
variable {P : Program} {ops : Array Oper} {brk : Nat → Bool} {G0 : Ghost} {L0 : List Asrt} {Q : Exit → Act → World → Prop} {N : Nat} {X : Nat → Prop} {w0 : World} {G : Ghost} {l : List (Nat × Value)} {L : List Asrt}
variable {d n : Nat} {listed : Array Bool} {ty : TypeId} {pos : String} {after : Array Edge} {gd : Option (Nat × Bool)} {v : Value} {T E : TypeId} {m sz : Nat} {q : IntKind} {f : Nat → Nat → Value} {x o : Operand}
end
section
variable {P : Program} {ops : Array Oper} {brk : Nat → Bool} {G0 : Ghost} {L0 : List Asrt} {Q : Exit → Act → World → Prop} {N : Nat} {X : Nat → Prop} {w0 : World} {G : Ghost} {l : List (Nat × Value)} {L : List Asrt} {ph : Bool} {m : Nat} {listed : Array Bool}
end
end Go.Gx
namespace Go.Gx
open Go.RowKit
section
variable {P : Program} {ops : Array Oper} {Q : Exit → Act → World → Prop} {N : Nat} {X : Nat → Prop} {w0 : World} {G : Ghost} {l : List (Nat × Value)} {L : List Asrt}
variable {rest : List Oper} {d : Nat} {ty : TypeId} {pos : String} {after : Array Edge} {gd : Option (Nat × Bool)}
end
/-- What is known of one block. -/
def oneG (b : Nat) (o : Obj) : Ghost := fun x => if x = b then some o else none
/-- A row that is known beside one block and lies elsewhere. -/
theorem RowAt.other {w : World} {G : Ghost} {b p o n : Nat} {ob : Obj} {g : Nat → Value} (hn : GNew w nX (oneG b ob) G) (h : RowAt G p o n g) (hne : p ≠ b) : RowAt (Gx.fr w G) p o n g := by
  refine h.fr ?_
  obtain ⟨c, T, f, h1, _⟩ := h
  have h2 : oneG b ob p = none := by unfold oneG; rw [if_neg hne]
  rcases hn.new p h2 (by rw [h1]; simp) with h3 | h3
  · exact h3
  · exact h3.elim
end Go.Gx

/-
  GX: rows of the call's own that are written in place, cut, cleared, turned; packs of assertions. Generic in the program.
-/
namespace Go.Gx
open Go.RowKit Go.Sort
/-- A list, written anew from place i on. -/
def putL (xs : List Value) (i : Nat) (vs : List Value) : List Value := xs.take i ++ vs ++ xs.drop (i + vs.length)
theorem putL_length {xs : List Value} {i : Nat} {vs : List Value} (h : i + vs.length ≤ xs.length) : (putL xs i vs).length = xs.length := by
  simp [putL]; omega
theorem putL_get {xs : List Value} {i : Nat} {vs : List Value} (h : i + vs.length ≤ xs.length) (k : Nat) : (putL xs i vs)[k]? = if i ≤ k ∧ k < i + vs.length then vs[k - i]? else xs[k]? := by
  unfold putL
  have hi : (xs.take i).length = i := by simp; omega
  by_cases h1 : k < i
  · rw [if_neg (by omega), List.append_assoc, List.getElem?_append_left (by omega), List.getElem?_take, if_pos h1]
  · by_cases h2 : k < i + vs.length
    · rw [if_pos (by omega), List.append_assoc, List.getElem?_append_right (by omega), hi, List.getElem?_append_left (by omega)]
    · rw [if_neg (by omega), List.getElem?_append_right (by simp; omega), List.getElem?_drop]
      congr 1
      simp; omega
theorem putL_flat {α : Type} {cells : α → List Value} {sz : Nat} (hc : ∀ x, (cells x).length = sz) : ∀ (l : List α) (i : Nat) (a : α), i < l.length → putL (l.flatMap cells) (i * sz) (cells a) = (l.set i a).flatMap cells
  | [], _, _, h => by simp at h
  | x :: t, 0, a, _ => by
    simp only [putL, Nat.zero_mul, List.take_zero, List.nil_append, Nat.zero_add, List.set_cons_zero, List.flatMap_cons]
    rw [hc a, ← hc x, List.drop_left]
  | x :: t, i + 1, a, h => by
    have ih := putL_flat hc t i a (by simpa using h)
    simp only [List.set_cons_succ, List.flatMap_cons, ← ih]
    unfold putL
    have e1 : (i + 1) * sz = (cells x).length + i * sz := by rw [hc x, Nat.add_mul]; omega
    rw [e1, List.take_append, List.take_of_length_le (by omega), List.drop_append, List.drop_eq_nil_of_le (by omega), List.nil_append]
    simp only [Nat.add_sub_cancel_left, List.append_assoc]
    congr 4
    omega
section
variable {P : Program} {ops : Array Oper} {Q : Exit → Act → World → Prop} {N : Nat} {X : Nat → Prop} {w0 : World} {G : Ghost} {l : List (Nat × Value)} {L : List Asrt}
variable {rest : List Oper} {d k : Nat} {ty : TypeId} {pos : String} {after : Array Edge} {gd : Option (Nat × Bool)} {x y : Operand} {v u : Value} {T E : TypeId} {n sz i b cap : Nat} {xs vs : List Value} {q : IntKind}
theorem rowA_write {w : World} {F : Nat → Prop} (h : (rowA v E sz n xs).holds w F) (hv : v = .slice (some ⟨b, 0, none⟩) n cap) (hi : i + vs.length ≤ n * sz) (h1 : ∀ z ∈ vs, z.oneCell' = true) :
    ∃ w', (storeCells ⟨b, i, none⟩ vs 0).run P w = .ok () w' ∧ (rowA v E sz n (putL xs i vs)).holds w' F ∧ Since F w w' := by
  obtain ⟨⟨hlen, hown⟩, hF, hmax⟩ := h
  rcases hown with ⟨rfl, _⟩ | ⟨g, cap', cur, rfl, _, hg, hnc, hcm, hcs, htk⟩
  · cases hv
  cases hv
  have hle : n * sz ≤ cap * sz := Nat.mul_le_mul_right _ hnc
  have hB : BoxAt w b (cap * sz) E (fun k => cur.toList.getD k undef) := ⟨cur, hg, hcs, fun k hk => by
    have : k < cur.size := by omega
    simp [List.getD, this]⟩
  obtain ⟨w', hr, ⟨c, hc1, hc2⟩, hs⟩ := run_storeCells_box (P := P) vs i 0 w b (cap * sz) E _ hB (by omega) h1
  refine ⟨w', hr, ⟨⟨by rw [putL_length (by omega)]; exact hlen, .inr ⟨b, cap, c, rfl, Nat.zero_le _, hc1, hnc, hcm, hc2.size, ?_⟩⟩, hF, hmax⟩, ⟨hs.os, hs.tape, hs.output, hs.size, fun k hk hx => hs.block k hk (fun e => hx ((hF k).2 (by subst e; rfl)))⟩⟩
  apply List.ext_getElem?
  intro k
  rw [putL_get (by omega)]
  by_cases hk : k < n * sz
  · have h2 := hc2.get k (by omega)
    rw [List.getElem?_take, if_pos hk, Array.getElem?_toList, h2, updR_eq]
    by_cases h3 : i ≤ k ∧ k < i + vs.length
    · rw [if_pos (by omega), if_pos h3, Nat.add_zero]
      exact (at_get vs (k - i) (by omega)).symm
    · rw [if_neg (by omega), if_neg h3]
      have h4 := congrArg (fun z : List Value => z[k]?) htk
      simp only [List.getElem?_take, if_pos hk] at h4
      rw [← h4]
      have : k < cur.size := by omega
      simp [List.getD, this]
  · rw [List.getElem?_take, if_neg hk, if_neg (by omega), List.getElem?_eq_none (by omega)]
/-- A store into a row of the call's own. -/
theorem r_sto (hw : Wt ops l gd) (hs : SzIs P T vs.length) (hx : ev l x = some (.pointer (some ⟨b, i, none⟩))) (hy : ev l y = some u) (hu : u.cells = vs.toArray) (h1 : ∀ z ∈ vs, z.oneCell' = true) (hL : L[k]? = some (rowA v E sz n xs)) (hv : v = .slice (some ⟨b, 0, none⟩) n cap) (hi : i + vs.length ≤ n * sz)
    (h : Runs P ops Q N X w0 G rest l (L.set k (rowA v E sz n (putL xs i vs)))) : Runs P ops Q N X w0 G (⟨none, .store T x y, ty, pos, after, gd⟩ :: rest) l L := by
  refine Runs.step hw (fun a w hS => ?_)
  show Oper.upon P _ a _ Q _
  obtain ⟨F, hA, _, hput⟩ := hS.mem.take hL
  obtain ⟨w', hr, hB, hs'⟩ := rowA_write (P := P) hA hv hi h1
  have hr : (execOp a.eval ⟨none, .store T x y, ty, pos, after, gd⟩).run P w = .ok .skip w' := by
    simp only [execOp, hS.fr.eval hx, hS.fr.eval hy]
    simp [Instr.storeAt, Instr.sureAddr, storeVar, hs.run, hu, hr]
  rw [hr, Oper.upon_skip]
  exact h _ _ ⟨hS.fr, hput _ _ F hs' hB (fun b hb => .inl hb)⟩
/-- A store of an element. -/
theorem r_stoe {α : Type} {cells : α → List Value} {zs : List α} (a : α) (hc : ∀ x, (cells x).length = sz) (hw : Wt ops l gd) (hs : SzIs P T sz) (hx : ev l x = some (.pointer (some ⟨b, i * sz, none⟩))) (hy : ev l y = some u) (hu : u.cells = (cells a).toArray) (h1 : ∀ z ∈ cells a, z.oneCell' = true) (hL : L[k]? = some (rowA v E sz zs.length (zs.flatMap cells))) (hv : v = .slice (some ⟨b, 0, none⟩) zs.length cap) (hi : i < zs.length)
    (h : Runs P ops Q N X w0 G rest l (L.set k (rowA v E sz (zs.set i a).length ((zs.set i a).flatMap cells)))) : Runs P ops Q N X w0 G (⟨none, .store T x y, ty, pos, after, gd⟩ :: rest) l L := by
  have hm : i * sz + sz ≤ zs.length * sz := by rw [← Nat.succ_mul]; exact Nat.mul_le_mul_right _ hi
  refine r_sto (vs := cells a) hw (by rw [hc]; exact hs) hx hy hu h1 hL hv (by rw [hc]; exact hm) ?_
  rw [putL_flat hc zs i a hi]
  rw [List.length_set] at h
  exact h
/-- s[a:b] of a row of the call's own, as a value. -/
theorem p_slice_o {a m : Nat} {q' : IntKind} (hT : P.underlying T = some (.slice E)) (hE : SzIs P E sz) (hx : ev l x = some v) (hv : v = .slice (some ⟨b, 0, none⟩) n cap) (hn : n ≤ cap) (lo hi : Option Operand)
    (hlo : match lo with | none => a = 0 | some o => ev l o = some (.int q (a : Nat))) (hhi : match hi with | none => m = n | some o => ev l o = some (.int q' (m : Nat))) (ham : a ≤ m) (hmn : m ≤ n) :
    PV P N X w0 G l L ⟨some d, .slice T x lo hi none, ty, pos, after, gd⟩ (.slice (if cap = a then some ⟨b, 0, none⟩ else some ⟨b, a * sz, none⟩) (m - a) (cap - a)) := by
  intro ac w hS
  subst hv
  have hbc : (0 : Int) ≤ (m : Int) ∧ (m : Int) ≤ (cap : Int) := by omega
  have hab' : (0 : Int) ≤ (a : Int) ∧ (a : Int) ≤ (m : Int) := by omega
  have hp : ∀ (o : Option Addr), (o = some ⟨b, 0, none⟩) → (if cap = a then o else o.map (·.add (a * sz))) = (if cap = a then some ⟨b, 0, none⟩ else some ⟨b, a * sz, none⟩) := by rintro _ rfl; simp [addr_add]
  have hrun : (Instr.sliceAt T (.slice (some ⟨b, 0, none⟩) n cap) (lo.map ac.eval) (hi.map ac.eval) none).run P w = .ok (.slice (if cap = a then some ⟨b, 0, none⟩ else some ⟨b, a * sz, none⟩) (m - a) (cap - a)) w := by
    cases lo with
    | none =>
      simp only at hlo
      subst hlo
      cases hi with
      | none =>
        simp only at hhi
        subst hhi
        simp [Instr.sliceAt, Instr.slice, run_underlying hT, Instr.sliceBounds, hE.run, addr_add]
      | some o =>
        simp only at hhi
        simp [Instr.sliceAt, Instr.slice, run_underlying hT, Instr.sliceBounds, Instr.sliceBound, asIntOf, hS.fr.eval hhi, hE.run, show m ≤ cap by omega, addr_add]
    | some o2 =>
      simp only at hlo
      cases hi with
      | none =>
        simp only at hhi
        subst hhi
        simp [Instr.sliceAt, Instr.slice, run_underlying hT, Instr.sliceBounds, Instr.sliceBound, asIntOf, hS.fr.eval hlo, hE.run, ham, addr_add]
      | some o =>
        simp only at hhi
        simp [Instr.sliceAt, Instr.slice, run_underlying hT, Instr.sliceBounds, Instr.sliceBound, asIntOf, hS.fr.eval hlo, hS.fr.eval hhi, hE.run, ham, show m ≤ cap by omega, addr_add]
  simp only [execOp, hS.fr.eval hx]
  simp [hrun]
theorem rowA_cap {w : World} {F : Nat → Prop} (h : (rowA v E sz n xs).holds w F) (hv : v = .slice (some ⟨b, 0, none⟩) n cap) : n ≤ cap := by
  obtain ⟨⟨_, hown⟩, _⟩ := h
  rcases hown with ⟨rfl, _⟩ | ⟨g, cap', cur, rfl, _, hg, hnc, _⟩
  · cases hv
  · cases hv; exact hnc
/-- A row with elements has a block. -/
theorem r_rowblk (hL : L[k]? = some (rowA v E sz n xs)) (hn : 0 < n) (h : ∀ b cap, v = .slice (some ⟨b, 0, none⟩) n cap → n ≤ cap → Runs P ops Q N X w0 G rest l L) : Runs P ops Q N X w0 G rest l L := by
  intro a w hS
  obtain ⟨F, hA, _, _⟩ := hS.mem.take hL
  obtain ⟨b, cap, hv⟩ := rowA_slice hA hn
  exact h b cap hv (rowA_cap hA hv) a w hS
/-- The beginning of a row takes the row's place. -/
theorem rowA_cut {w : World} {F : Nat → Prop} {m : Nat} (h : (rowA v E sz n xs).holds w F) (hv : v = .slice (some ⟨b, 0, none⟩) n cap) (hm : m ≤ n) : (rowA (.slice (some ⟨b, 0, none⟩) m cap) E sz m (xs.take (m * sz))).holds w F := by
  obtain ⟨⟨hlen, hown⟩, hF, hmax⟩ := h
  have hle : m * sz ≤ n * sz := Nat.mul_le_mul_right _ hm
  rcases hown with ⟨rfl, _⟩ | ⟨g, cap', cur, rfl, _, hg, hnc, hcm, hcs, htk⟩
  · cases hv
  · cases hv
    refine ⟨⟨by rw [List.length_take]; omega, .inr ⟨b, cap, cur, rfl, Nat.zero_le _, hg, by omega, hcm, hcs, ?_⟩⟩, hF, by omega⟩
    rw [← htk, List.take_take, Nat.min_eq_left hle]
theorem r_cut {m : Nat} (hL : L[k]? = some (rowA v E sz n xs)) (hv : v = .slice (some ⟨b, 0, none⟩) n cap) (hm : m ≤ n)
    (h : Runs P ops Q N X w0 G rest l (L.set k (rowA (.slice (some ⟨b, 0, none⟩) m cap) E sz m (xs.take (m * sz))))) : Runs P ops Q N X w0 G rest l L := by
  intro a w hS
  obtain ⟨F, hA, _, hput⟩ := hS.mem.take hL
  exact h a w ⟨hS.fr, hput w _ F (Since.refl _ _) (rowA_cut hA hv hm) (fun b hb => .inl hb)⟩
/-- clear(s[a:]) of a row of the call's own: what stands ahead stays. -/
theorem r_clear {a c' bytes : Nat} {zv : Value} {p : Option Addr} (hw : Wt ops l gd) (hT : P.underlying T = some (.slice E)) (hE : ElemIs P E sz bytes zv) (hz : zv.cells.size = sz) (h1 : ∀ z ∈ zv.cells.toList, z.oneCell' = true) (hpos : 0 < sz)
    (hx : ev l x = some (.slice p (n - a) c')) (hp : a < n → p = some ⟨b, a * sz, none⟩) (ha : a ≤ n) (hL : L[k]? = some (rowA v E sz n xs)) (hv : v = .slice (some ⟨b, 0, none⟩) n cap)
    (h : ∀ ys, ys.take (a * sz) = xs.take (a * sz) → Runs P ops Q N X w0 G rest l (L.set k (rowA v E sz n ys))) : Runs P ops Q N X w0 G (⟨none, .call ⟨.builtin .clear, #[x], #[T]⟩, ty, pos, after, gd⟩ :: rest) l L := by
  refine Runs.step hw (fun ac w hS => ?_)
  show Oper.upon P _ ac _ Q _
  obtain ⟨F, hA, _, hput⟩ := hS.mem.take hL
  obtain ⟨inf, hi1, hi2, hi3, hi4⟩ := hE.info
  have hzr : (zeroValue E).run P w = .ok zv w := ZeroIs.run (by unfold ZeroIs; rw [hi1]; exact hi2) w
  rcases Nat.lt_or_ge a n with han | han
  · have hpp := hp han
    subst hpp
    have hlen := hA.1.1
    have hm : a * sz + (n - a) * sz = n * sz := by rw [← Nat.add_mul]; congr 1; omega
    let vs := (Builtin.zeroCells zv.cells (n - a)).toList
    have hvl : vs.length = (n - a) * sz := by simp [vs, Builtin.zeroCells, hz]
    have hones : ∀ z ∈ vs, z.oneCell' = true := by
      intro z hz'
      simp only [vs, Builtin.zeroCells, Array.toList_map, List.mem_map, Array.mem_toList_iff, Array.mem_range] at hz'
      obtain ⟨j, _, rfl⟩ := hz'
      have hlt : j % zv.cells.size < zv.cells.size := Nat.mod_lt _ (by omega)
      rw [getElem!_pos zv.cells _ hlt]
      exact h1 _ (by simp)
    obtain ⟨w', hr, hB, hs'⟩ := rowA_write (P := P) (i := a * sz) (vs := vs) hA hv (by rw [hvl]; omega) hones
    have hr2 : (execOp ac.eval ⟨none, .call ⟨.builtin .clear, #[x], #[T]⟩, ty, pos, after, gd⟩).run P w = .ok (.value (.tuple #[])) w' := by
      obtain ⟨m, hm⟩ : ∃ m, n - a = m + 1 := ⟨n - a - 1, by omega⟩
      have hr' : (storeCells ⟨b, a * sz, none⟩ (Builtin.zeroCells zv.cells (m + 1)).toList).run P w = .ok () w' := by rw [← hm]; exact hr
      have hr3 : (Builtin.clear_ #[T] ty #[.slice (some ⟨b, a * sz, none⟩) (n - a) c']).run P w = .ok (.tuple #[]) w' := by
        rw [hm]
        simp [Builtin.clear_, run_underlying hT, hzr, hr']
      simp [execOp, resolve, invoke, builtin, hS.fr.eval hx, hr3]
    rw [hr2, Oper.upon_value]
    refine h (putL xs (a * sz) vs) ?_ _ _ ⟨hS.fr, hput _ _ F hs' hB (fun b hb => .inl hb)⟩
    unfold putL
    rw [List.append_assoc, List.take_append_of_le_length (by simp; omega), List.take_take, Nat.min_self]
  · have e : n - a = 0 := by omega
    rw [e] at hx
    have hr2 : (execOp ac.eval ⟨none, .call ⟨.builtin .clear, #[x], #[T]⟩, ty, pos, after, gd⟩).run P w = .ok (.value (.tuple #[])) w := by
      cases p <;> simp [execOp, resolve, invoke, builtin, Builtin.clear_, hS.fr.eval hx, run_underlying hT]
    rw [hr2, Oper.upon_value]
    have e2 : L.set k (rowA v E sz n xs) = L := set_self hL
    have h' := h xs rfl
    rw [e2] at h'
    exact h' _ _ ⟨hS.fr, hS.mem⟩
/-- s[:m] of a row of the call's own, as a value. -/
theorem p_slice_o0 {m : Nat} {q' : IntKind} {o : Operand} (hT : P.underlying T = some (.slice E)) (hE : SzIs P E sz) (hx : ev l x = some v) (hv : v = .slice (some ⟨b, 0, none⟩) n cap) (hn : n ≤ cap) (hhi : ev l o = some (.int q' (m : Nat))) (hmn : m ≤ n) :
    PV P N X w0 G l L ⟨some d, .slice T x none (some o) none, ty, pos, after, gd⟩ (.slice (some ⟨b, 0, none⟩) m cap) := by
  have h := p_slice_o (P := P) (N := N) (X := X) (w0 := w0) (G := G) (L := L) (d := d) (ty := ty) (pos := pos) (after := after) (gd := gd) (q := .i64) (q' := q') (a := 0) (m := m) hT hE hx hv hn none (some o) rfl hhi (Nat.zero_le _) hmn
  simpa using h
/-- A function value that was handed in is called: it changes one object. -/
theorem r_yieldo {f : FuncId} {xs : List Operand} {us cs : List Value} {ats : Array TypeId} {A B : Asrt} {z : Operand} {r : Value} (hw : Wt ops l gd) (hd : Nat.blt d N = true) (hy : ev l z = some (.func (.func f) #[] cs.toArray)) (hx : evs l xs = some us) (hf : Callable P f) (hL : L[k]? = some A)
    (hc : ∀ w F, Has G w → A.holds w F → (∀ b, F b → G b = none) → Calls P f (us ++ cs).toArray w (Ret fun r' w' => r' = r ∧ Kept B F w w'))
    (h : Runs P ops Q N X w0 G rest ((d, r) :: l) (L.set k B)) : Runs P ops Q N X w0 G (⟨some d, .call ⟨.value z, xs.toArray, ats⟩, ty, pos, after, gd⟩ :: rest) l L :=
  r_fun hw hy (r_callo (vs := us ++ cs) hw hd hf (evs_app hx) hL hc h)
/-! ### packs -/
theorem r_pack (Ls : List Asrt) (h : Runs P ops Q N X w0 G rest l (starL Ls :: L)) : Runs P ops Q N X w0 G rest l (Ls ++ L) :=
  fun a w hS => h a w ⟨hS.fr, hS.mem.pack⟩
theorem r_unpack {Ls : List Asrt} (h : Runs P ops Q N X w0 G rest l (Ls ++ L)) : Runs P ops Q N X w0 G rest l (starL Ls :: L) :=
  fun a w hS => h a w ⟨hS.fr, hS.mem.unpack⟩
theorem r_unex {α : Type} {A : α → Asrt} (h : ∀ x, Runs P ops Q N X w0 G rest l (A x :: L)) : Runs P ops Q N X w0 G rest l (exA A :: L) := by
  intro a w hS
  obtain ⟨x, hm⟩ := hS.mem.unex
  exact h x a w ⟨hS.fr, hm⟩
theorem r_unand {p : Prop} {A : Asrt} (h : p → Runs P ops Q N X w0 G rest l (A :: L)) : Runs P ops Q N X w0 G rest l (andA p A :: L) := by
  intro a w hS
  obtain ⟨hp, hm⟩ := hS.mem.unand
  exact h hp a w ⟨hS.fr, hm⟩
end
/-! ### what a function takes out of a list, one by one -/
section
variable {α σ : Type}
def dels (p : α → σ → Bool × σ) : List α → σ → List α × σ
  | [], s => ([], s)
  | x :: t, s => (if (p x s).1 = true then (dels p t (p x s).2).1 else x :: (dels p t (p x s).2).1, (dels p t (p x s).2).2)
theorem dels_append (p : α → σ → Bool × σ) : ∀ (a b : List α) (s : σ), dels p (a ++ b) s = ((dels p a s).1 ++ (dels p b (dels p a s).2).1, (dels p b (dels p a s).2).2)
  | [], b, s => by simp [dels]
  | x :: t, b, s => by
    simp only [List.cons_append, dels, dels_append p t b]
    split <;> simp
theorem dels_next (p : α → σ → Bool × σ) (e : α) {l : List α} {j : Nat} (hj : j < l.length) (s : σ) : dels p (l.take (j + 1)) s = ((dels p (l.take j) s).1 ++ (if (p (l.getD j e) (dels p (l.take j) s).2).1 = true then [] else [l.getD j e]), (p (l.getD j e) (dels p (l.take j) s).2).2) := by
  have h : l.take (j + 1) = l.take j ++ [l.getD j e] := by rw [List.take_succ_eq_append_getElem hj]; simp [List.getD, hj]
  rw [h, dels_append]
  simp only [dels]
/-- The first thing that is taken out. -/
def ixD (p : α → σ → Bool × σ) : List α → Nat → σ → Int × σ
  | [], _, s => (-1, s)
  | x :: t, j, s => if (p x s).1 = true then ((j : Int), (p x s).2) else ixD p t (j + 1) (p x s).2
theorem ixD_none (p : α → σ → Bool × σ) : ∀ (l : List α) (j : Nat) (s : σ), (ixD p l j s).1 = -1 → dels p l s = (l, (ixD p l j s).2)
  | [], _, _, _ => rfl
  | x :: t, j, s, h => by
    rw [ixD] at h ⊢
    split at h
    · omega
    · rename_i h1
      rw [if_neg h1, dels, if_neg h1, ixD_none p t (j + 1) _ h]
theorem ixD_some (p : α → σ → Bool × σ) : ∀ (l : List α) (j : Nat) (s : σ), ¬ (ixD p l j s).1 = -1 → ∃ i, (ixD p l j s).1 = ((j + i : Nat) : Int) ∧ i < l.length ∧ dels p (l.take (i + 1)) s = (l.take i, (ixD p l j s).2)
  | [], _, _, h => absurd rfl h
  | x :: t, j, s, h => by
    rw [ixD] at h ⊢
    split at h
    · rename_i h1
      exact ⟨0, by rw [if_pos h1]; simp, by simp, by rw [if_pos h1]; simp [dels, h1]⟩
    · rename_i h1
      obtain ⟨i, h2, h3, h4⟩ := ixD_some p t (j + 1) _ h
      refine ⟨i + 1, by rw [if_neg h1, h2]; congr 1; omega, by simp; omega, ?_⟩
      rw [if_neg h1, List.take_succ_cons, dels, if_neg h1, h4]; rfl
theorem ixD_some0 (p : α → σ → Bool × σ) (l : List α) (s : σ) (h : ¬ (ixD p l 0 s).1 = -1) : ∃ i : Nat, (ixD p l 0 s).1 = (i : Int) ∧ i < l.length ∧ dels p (l.take (i + 1)) s = (l.take i, (ixD p l 0 s).2) := by
  obtain ⟨i, h1, h2, h3⟩ := ixD_some p l 0 s h
  exact ⟨i, by rw [h1, Nat.zero_add], h2, h3⟩
theorem flatMap_take {cells : α → List Value} {sz : Nat} (hc : ∀ x, (cells x).length = sz) : ∀ (l : List α) (i : Nat), (l.flatMap cells).take (i * sz) = (l.take i).flatMap cells
  | [], i => by simp
  | x :: t, 0 => by simp
  | x :: t, i + 1 => by
    have e1 : (i + 1) * sz = (cells x).length + i * sz := by rw [hc x, Nat.add_mul]; omega
    rw [List.take_succ_cons, List.flatMap_cons, List.flatMap_cons, e1, List.take_append, List.take_of_length_le (by omega), Nat.add_sub_cancel_left, flatMap_take hc t i]
theorem ixD_no {p : α → σ → Bool × σ} {l : List α} {j : Nat} {s : σ} (e : α) (hj : j < l.length) (h : ¬ (p (l.getD j e) s).1 = true) : ixD p (l.drop j) j s = ixD p (l.drop (j + 1)) (j + 1) (p (l.getD j e) s).2 := by
  have e1 : l.getD j e = l[j] := by simp [List.getD, hj]
  rw [List.drop_eq_getElem_cons hj, ixD, ← e1, if_neg h]
theorem ixD_yes {p : α → σ → Bool × σ} {l : List α} {j : Nat} {s : σ} (e : α) (hj : j < l.length) (h : (p (l.getD j e) s).1 = true) : ixD p (l.drop j) j s = ((j : Int), (p (l.getD j e) s).2) := by
  have e1 : l.getD j e = l[j] := by simp [List.getD, hj]
  rw [List.drop_eq_getElem_cons hj, ixD, ← e1, if_pos h]
theorem set_take {l : List α} {i : Nat} {a : α} (hi : i < l.length) : (l.set i a).take (i + 1) = l.take i ++ [a] := by
  rw [List.take_succ_eq_append_getElem (by simpa using hi)]
  rw [List.take_set_of_le (Nat.le_refl _)]
  simp
theorem set_drop {l : List α} {i j : Nat} {a : α} (h : i < j) : (l.set i a).drop j = l.drop j := by
  rw [List.drop_set, if_pos h]
theorem drop_getD {l m : List α} {j : Nat} (e : α) (h : l.drop j = m.drop j) : l.getD j e = m.getD j e := by
  have h1 := congrArg (fun z : List α => z[0]?) h
  simp only [List.getElem?_drop, Nat.add_zero] at h1
  simp [List.getD, h1]
theorem drop_next {l m : List α} {j : Nat} (h : l.drop j = m.drop j) : l.drop (j + 1) = m.drop (j + 1) := by
  have h1 := congrArg (List.drop 1) h
  simpa [List.drop_drop, Nat.add_comm] using h1
/-- What a function that was handed in comes to: it changes one object. -/
def HCL (P : Program) (g : FuncId) (cs : List Value) (val : α → Value) (A : σ → Asrt) (p : α → σ → Bool × σ) (G : Ghost) : Prop := ∀ x s w F, Has G w → (A s).holds w F → (∀ b, F b → G b = none) → Calls P g ([val x] ++ cs).toArray w (Ret fun r w' => r = .bool (p x s).1 ∧ Kept (A (p x s).2) F w w')
theorem HCL.mono {P : Program} {g : FuncId} {cs : List Value} {val : α → Value} {A : σ → Asrt} {p : α → σ → Bool × σ} {G G' : Ghost} (h : HCL P g cs val A p G) (hle : GLe G G') : HCL P g cs val A p G' :=
  fun x s w F hG hA hF => h x s w F (fun b o e => hG b o (hle b o e)) hA (fun b hb => by
    cases e : G b with
    | none => rfl
    | some o => have := hle b o e; rw [hF b hb] at this; cases this)
/-- A function that asks nothing of a state: a filter. -/
theorem dels_pure (p : α → Bool) : ∀ (l : List α), (dels (fun x (_ : Unit) => (p x, ())) l ()).1 = l.filter (fun x => !p x)
  | [] => rfl
  | x :: t => by
    have ih := dels_pure p t
    simp only [dels, List.filter_cons]
    cases h : p x <;> simp [ih]
end
end Go.Gx

/-
  GX: maps of maps and of objects: what a look-up comes to where the key is there, and where it isn't; inner maps taken out and put back; sorted keys of a nil map. Generic in the program.
-/
namespace Go.Gx
open Go.RowKit Go.Sort Go.Maps
section
variable {κ ν : Type} [DecidableEq κ]
theorem lkp_map {μ : Type} (f : ν → μ) (l : List (κ × ν)) (k : κ) : lkp (l.map fun p => (p.1, f p.2)) k = (lkp l k).map f := by
  induction l with
  | nil => rfl
  | cons p t ih =>
    simp only [List.map_cons, lkp]
    split
    · rfl
    · exact ih
theorem mput_map {μ : Type} (f : ν → μ) (l : List (κ × ν)) (k : κ) (v : ν) : (mput l k v).map (fun p => (p.1, f p.2)) = mput (l.map fun p => (p.1, f p.2)) k (f v) := by
  induction l with
  | nil => rfl
  | cons p t ih =>
    simp only [List.map_cons, mput]
    split
    · rfl
    · simp [ih]
theorem mdel_map {μ : Type} (f : ν → μ) (l : List (κ × ν)) (k : κ) : (mdel l k).map (fun p => (p.1, f p.2)) = mdel (l.map fun p => (p.1, f p.2)) k := by
  induction l with
  | nil => rfl
  | cons p t ih =>
    simp only [List.map_cons, mdel]
    split
    · rfl
    · simp [ih]
/-- The zero value besides. -/
def veO (ve : ν → Value) (zv : Value) : Option ν → Value
  | none => zv
  | some v => ve v
omit [DecidableEq κ] in
theorem MapIs.opt {w : World} {m : Nat} {ke : κ → Value} {ve : ν → Value} {l : List (κ × ν)} {es : Array MapEntry} {clock : Nat} (zv : Value) (h : MapIs w m ke ve l es clock) : MapIs w m ke (veO ve zv) (l.map fun p => (p.1, some p.2)) es clock :=
  ⟨h.heap, h.st, by rw [h.eq, List.map_map]; rfl⟩
variable {P : Program} {K : TypeId} {ke : κ → Value} {ve : ν → Value} {N : Nat} {X : Nat → Prop} {w0 : World} {G : Ghost} {l : List (Nat × Value)} {L : List Asrt}
variable {d i m : Nat} {ty : TypeId} {pos : String} {after : Array Edge} {gd : Option (Nat × Bool)} {x y : Operand} {T E : TypeId} {mv : List (κ × ν)} {k : κ} {a : ν} {zv : Value}
theorem p_lookup_yes (hT : P.underlying T = some (.map K E)) (hk : KeyT P K ke) (hz : ZeroIs P E zv) (hx : ev l x = some (.map (some m))) (hL : L[i]? = some (mapA m ke ve mv)) (hy : ev l y = some (ke k)) (ha : lkp mv k = some a) :
    PV P N X w0 G l L ⟨some d, .lookup T x y false, ty, pos, after, gd⟩ (ve a) := by
  intro ac w hS
  obtain ⟨F, ⟨⟨es, clock, hM⟩, _⟩, _, _⟩ := hS.mem.take hL
  have h := run_lookup hT hk (ve := veO ve zv) none hz (hM.opt zv) (k := k) false
  rw [lkp_map, ha] at h
  simp only [execOp, hS.fr.eval hx, hS.fr.eval hy]
  simp [veO] at h
  simp [h]
theorem p_lookup_no (hT : P.underlying T = some (.map K E)) (hk : KeyT P K ke) (hz : ZeroIs P E zv) (hx : ev l x = some (.map (some m))) (hL : L[i]? = some (mapA m ke ve mv)) (hy : ev l y = some (ke k)) (ha : lkp mv k = none) :
    PV P N X w0 G l L ⟨some d, .lookup T x y false, ty, pos, after, gd⟩ zv := by
  intro ac w hS
  obtain ⟨F, ⟨⟨es, clock, hM⟩, _⟩, _, _⟩ := hS.mem.take hL
  have h := run_lookup hT hk (ve := veO ve zv) none hz (hM.opt zv) (k := k) false
  rw [lkp_map, ha] at h
  simp only [execOp, hS.fr.eval hx, hS.fr.eval hy]
  simp [veO] at h
  simp [h]
end
/-! ### maps of maps of numbers -/
abbrev NM := Nat × List (Int × Int)
def veN (v : NM) : Value := .map (some v.1)
def FN {κ : Type} (p : κ × NM) : Asrt := mapA p.2.1 kI kI p.2.2
/-- What a map of maps holds. -/
def eraN {κ : Type} (l : List (κ × NM)) : List (κ × List (Int × Int)) := l.map fun p => (p.1, p.2.2)
section
variable {κ : Type} [DecidableEq κ]
variable {P : Program} {ops : Array Oper} {Q : Exit → Act → World → Prop} {N : Nat} {X : Nat → Prop} {w0 : World} {G : Ghost} {fr : List (Nat × Value)} {L : List Asrt} {rest : List Oper} {c : Code} {e : Exit}
variable {l : List (κ × NM)} {k : κ} {m : Nat} {h h' : List (Int × Int)} {u : NM}
omit [DecidableEq κ] in
theorem Mem.hnil {μ : Type} (F : κ × μ → Asrt) {w : World} (H : Mem X w0 G w L) : Mem X w0 G w (hoard F [] :: L) := ⟨H.since, H.has, (fun _ => False), ⟨trivial, fun _ hb => hb⟩, fun _ hb => hb.elim, H.sep.mono (fun _ _ hb => ⟨hb, id⟩)⟩
omit [DecidableEq κ] in
theorem e_hnil {μ : Type} (F : κ × μ → Asrt) (H : ERuns Q e N X w0 G fr (hoard F [] :: L)) : ERuns Q e N X w0 G fr L := fun a w hS => H a w ⟨hS.fr, hS.mem.hnil F⟩
omit [DecidableEq κ] in
theorem r_hnil {μ : Type} (F : κ × μ → Asrt) (H : Runs P ops Q N X w0 G rest fr (hoard F [] :: L)) : Runs P ops Q N X w0 G rest fr L := fun a w hS => H a w ⟨hS.fr, hS.mem.hnil F⟩
end
/-! ### sorted keys of a nil map -/
def KeysNil (P : Program) (f g : FuncId) (K : TypeId) : Prop := ∀ (Bm : Nat) (w : World), w.cell? ⟨Bm, 0, none⟩ = some (.map none) → Bm < w.heap.size →
  Calls P f #[.func (.func g) #[] #[.pointer (some ⟨Bm, 0, none⟩)]] w fun e w' => ∃ v, e = .returned v ∧ w'.ownsRow w.heap.size K 1 v 0 [] ∧ Below w.heap.size w w'
section
variable {P : Program} {ops : Array Oper} {Q : Exit → Act → World → Prop} {N : Nat} {X : Nat → Prop} {w0 : World} {G : Ghost} {l : List (Nat × Value)} {L : List Asrt}
variable {rest : List Oper} {d j Bm : Nat} {ty : TypeId} {pos : String} {after : Array Edge} {gd : Option (Nat × Bool)} {K T : TypeId} {f g : FuncId} {x : Operand} {ats : Array TypeId}
end
end Go.Gx

/-
  GX: make([]T, n) of a few elements; shifts and masks of small numbers; a call that hands back a row beside an object. Generic in the program.
-/
namespace Go.Gx
open Go.RowKit
section
variable {P : Program} {ops : Array Oper} {Q : Exit → Act → World → Prop} {N : Nat} {X : Nat → Prop} {w0 : World} {G : Ghost} {l : List (Nat × Value)} {L : List Asrt}
variable {rest : List Oper} {d k : Nat} {ty : TypeId} {pos : String} {after : Array Edge} {gd : Option (Nat × Bool)} {x y : Operand} {T U E : TypeId} {sz bytes : Nat}
/-- A call that changes one object, told by what it hands back. -/
theorem r_callor {f : FuncId} {xs : List Operand} {vs : List Value} {ats : Array TypeId} {A : Asrt} {B : Value → Asrt} (hw : Wt ops l gd) (hd : Nat.blt d N = true) (hf : Callable P f) (hv : evs l xs = some vs) (hL : L[k]? = some A)
    (hc : ∀ w F, Has G w → A.holds w F → (∀ b, F b → G b = none) → Calls P f vs.toArray w (Ret fun r w' => Kept (B r) F w w'))
    (h : ∀ r, Runs P ops Q N X w0 G rest ((d, r) :: l) (L.set k (B r))) : Runs P ops Q N X w0 G (⟨some d, .call ⟨.value (.func f), xs.toArray, ats⟩, ty, pos, after, gd⟩ :: rest) l L := by
  refine Runs.step hw (fun a w hS => ?_)
  show Oper.upon P _ a _ Q _
  rw [run_call hS.fr hv hf, Oper.upon_enter]
  obtain ⟨F, hA, hG, hput⟩ := hS.mem.take hL
  refine (hc w F hS.mem.has hA hG).mono (fun e w' hR => ?_)
  cases e with
  | returned r =>
    obtain ⟨hs, F', hB, hF'⟩ := hR
    exact h r _ _ ⟨hS.fr.put (by simpa using hd) _, hput w' _ F' hs hB hF'⟩
  | panicked c => exact hR.elim
  | outgrown => exact hR.elim
end
end Go.Gx
namespace Go.Gx
open Go.RowKit
section
variable {P : Program} {ops : Array Oper} {brk : Nat → Bool} {G0 : Ghost} {L0 : List Asrt} {Q : Exit → Act → World → Prop} {N : Nat} {X : Nat → Prop} {w0 : World} {G : Ghost} {l l' : List (Nat × Value)} {L L' : List Asrt} {n : Nat} {listed : Array Bool}
variable {d d' : Nat} {ty ty' : TypeId} {pos pos' : String} {after after' : Array Edge} {gd gd' : Option (Nat × Bool)} {T T' : TypeId} {v v' : Value} {m m' : Nat} {f f' : Nat → Value}
end
end Go.Gx

/- A call that changes an object, while a row of the caller's own is seen by it. -/
namespace Go.Gx
open Go.RowKit
theorem with_row {P : Program} {f : FuncId} {vs : Array Value} {v : Value} {E : TypeId} {sz n : Nat} {xs : List Value} {A : Asrt} {B : Value → Asrt} {R : Value → Prop} {G : Ghost} {w : World} {F : Nat → Prop}
    (hc : ∀ (G' : Ghost) (F' : Nat → Prop), GLe G G' → SlG G' v n sz (fun i j => xs.getD (i * sz + j) undef) → Has G' w → A.holds w F' → (∀ b, F' b → G' b = none) → Calls P f vs w (Ret fun r w' => R r ∧ Kept (B r) F' w w'))
    (hG : Has G w) (hA : (starL [rowA v E sz n xs, A]).holds w F) (hF : ∀ b, F b → G b = none) : Calls P f vs w (Ret fun r w' => R r ∧ Kept (starL [rowA v E sz n xs, B r]) F w w') := by
  obtain ⟨F1, F2, hrow, ⟨FA, F0, hAA, hnil, _, h2⟩, hdis, h1⟩ := hA
  have hM : Mem F1 w G w [rowA v E sz n xs] := ⟨Since.refl _ _, hG, F1, hrow, fun b hb => ⟨.inr hb, hF b ((h1 b).2 (.inl hb))⟩, trivial⟩
  obtain ⟨G', hn, hs, hM2⟩ := hM.freeze (k := 0) rfl
  have hFA : ∀ b, FA b → F2 b := fun b hb => (h2 b).2 (.inl hb)
  have hnone : ∀ b, FA b → G' b = none := fun b hb => by
    cases e : G' b with
    | none => rfl
    | some o =>
      rcases hn.new b (hF b ((h1 b).2 (.inr (hFA b hb)))) (by rw [e]; simp) with h | h
      · have := A.dom hAA hb; omega
      · exact absurd (hFA b hb) (hdis b h)
  refine (hc G' FA hn.le hs hM2.has hAA hnone).mono (fun e w' hR => ?_)
  cases e with
  | returned r =>
    obtain ⟨hr, hsn, F', hB, hF'⟩ := hR
    refine ⟨hr, ⟨hsn.os, hsn.tape, hsn.output, hsn.size, fun k hk hn2 => hsn.block k hk (fun hfa => hn2 ((h1 k).2 (.inr (hFA k hfa))))⟩, fun b => F1 b ∨ F' b, ⟨F1, F', ?_, ⟨F', fun _ => False, hB, ⟨trivial, fun _ h => h⟩, fun _ _ h => h, fun b => ⟨.inl, fun h => h.elim id False.elim⟩⟩, fun b hb hb2 => ?_, fun b => Iff.rfl⟩, fun b hb => ?_⟩
    · exact Asrt.frame _ hrow (fun b hb => hsn.block b (Asrt.dom _ hrow hb) (fun hfa => hdis b hb (hFA b hfa)))
    · rcases hF' b hb2 with h | h
      · exact hdis b hb (hFA b h)
      · have := Asrt.dom _ hrow hb; omega
    · rcases hb with hb | hb
      · exact .inl ((h1 b).2 (.inl hb))
      · rcases hF' b hb with h | h
        · exact .inl ((h1 b).2 (.inr (hFA b h)))
        · exact .inr h
  | panicked c => exact hR.elim
  | outgrown => exact hR.elim
end Go.Gx

/- Trees of tokens in memory: a map that leads to tokens, and two maps of maps. Generic in the program and in what a place is. -/
namespace Go.Gx
open Go.RowKit
/-! ### what is seen by a call while it is another's own -/
theorem with_seen {P : Program} {f : FuncId} {vs : Array Value} {H A : Asrt} {B : Value → Asrt} {R : Value → Prop} {S : Ghost → Prop} {G : Ghost} {w : World} {F : Nat → Prop}
    (hfr : ∀ F1, Mem F1 w G w [H] → ∃ G', GNew w F1 G G' ∧ S G' ∧ Has G' w)
    (hc : ∀ (G' : Ghost) (F' : Nat → Prop), GLe G G' → S G' → Has G' w → A.holds w F' → (∀ b, F' b → G' b = none) → Calls P f vs w (Ret fun r w' => R r ∧ Kept (B r) F' w w'))
    (hG : Has G w) (hA : (starL [H, A]).holds w F) (hF : ∀ b, F b → G b = none) : Calls P f vs w (Ret fun r w' => R r ∧ Kept (starL [H, B r]) F w w') := by
  obtain ⟨F1, F2, hrow, ⟨FA, F0, hAA, hnil, _, h2⟩, hdis, h1⟩ := hA
  have hM : Mem F1 w G w [H] := ⟨Since.refl _ _, hG, F1, hrow, fun b hb => ⟨.inr hb, hF b ((h1 b).2 (.inl hb))⟩, trivial⟩
  obtain ⟨G', hn, hs, hM2⟩ := hfr F1 hM
  have hFA : ∀ b, FA b → F2 b := fun b hb => (h2 b).2 (.inl hb)
  have hnone : ∀ b, FA b → G' b = none := fun b hb => by
    cases e : G' b with
    | none => rfl
    | some o =>
      rcases hn.new b (hF b ((h1 b).2 (.inr (hFA b hb)))) (by rw [e]; simp) with h | h
      · have := A.dom hAA hb; omega
      · exact absurd (hFA b hb) (hdis b h)
  refine (hc G' FA hn.le hs hM2 hAA hnone).mono (fun e w' hR => ?_)
  cases e with
  | returned r =>
    obtain ⟨hr, hsn, F', hB, hF'⟩ := hR
    refine ⟨hr, ⟨hsn.os, hsn.tape, hsn.output, hsn.size, fun k hk hn2 => hsn.block k hk (fun hfa => hn2 ((h1 k).2 (.inr (hFA k hfa))))⟩, fun b => F1 b ∨ F' b, ⟨F1, F', ?_, ⟨F', fun _ => False, hB, ⟨trivial, fun _ h => h⟩, fun _ _ h => h, fun b => ⟨.inl, fun h => h.elim id False.elim⟩⟩, fun b hb hb2 => ?_, fun b => Iff.rfl⟩, fun b hb => ?_⟩
    · exact Asrt.frame _ hrow (fun b hb => hsn.block b (Asrt.dom _ hrow hb) (fun hfa => hdis b hb (hFA b hfa)))
    · rcases hF' b hb2 with h | h
      · exact hdis b hb (hFA b h)
      · have := Asrt.dom _ hrow hb; omega
    · rcases hb with hb | hb
      · exact .inl ((h1 b).2 (.inl hb))
      · rcases hF' b hb with h | h
        · exact .inl ((h1 b).2 (.inr (hFA b h)))
        · exact .inr h
  | panicked c => exact hR.elim
  | outgrown => exact hR.elim
theorem star_tt (A : Asrt) : (star A (pureA True)).Eqv A := fun w F => by
  constructor
  · rintro ⟨F1, F2, h1, ⟨_, h2⟩, h3, h4⟩
    have e : F = F1 := by funext b; exact propext ⟨fun h => ((h4 b).1 h).elim id (fun h => (h2 b h).elim), fun h => (h4 b).2 (.inl h)⟩
    rw [e]; exact h1
  · intro h
    exact ⟨F, fun _ => False, h, ⟨trivial, fun _ h => h⟩, fun _ _ h => h, fun b => ⟨.inl, fun h => h.elim id False.elim⟩⟩
theorem starL_oneE {A : Asrt} : (starL [A]).Eqv A := star_tt A
theorem starL_two {A B : Asrt} : (starL [A, B]).Eqv (star A B) := star_congr .rfl (star_tt B)
theorem Kept.imp {A B : Asrt} {F : Nat → Prop} {w w' : World} (h : Kept A F w w') (hi : ∀ w F, A.holds w F → B.holds w F) : Kept B F w w' :=
  ⟨h.1, by obtain ⟨F', h1, h2⟩ := h.2; exact ⟨F', hi _ _ h1, h2⟩⟩
theorem star_flip {A B : Asrt} : (starL [A, B]).Eqv (starL [B, A]) := starL_two.trans ((star_comm A B).trans starL_two.symm)
/-! ### tokens -/
structure Tk (α : Type) where
  pla : α
  par : Int
  fac : Int
  kids : List Int
abbrev TB (α : Type) := Nat × Value × Tk α
def veB {α : Type} (v : TB α) : Value := .pointer (some ⟨v.1, 0, none⟩)
def tkC {α : Type} (ke : α → Value) (v : TB α) : List Value := [ke v.2.2.pla, .int .i64 v.2.2.par, .int .i64 v.2.2.fac, v.2.1]
def tkA {α : Type} (T E : TypeId) (ke : α → Value) (v : TB α) : Asrt := starL [box v.1 4 T (at_ (tkC ke v)), rowA v.2.1 E 1 v.2.2.kids.length (v.2.2.kids.flatMap cI)]
def FT {α : Type} (T E : TypeId) (ke : α → Value) (p : Int × TB α) : Asrt := tkA T E ke p.2
def TokAt {α : Type} (G : Ghost) (ke : α → Value) (v : TB α) : Prop := RowAt G v.1 0 4 (at_ (tkC ke v)) ∧ SlL G v.2.1 1 cI (0 : Int) v.2.2.kids
theorem TokAt.mono {α : Type} {G G' : Ghost} {ke : α → Value} {v : TB α} (h : TokAt G ke v) (hle : GLe G G') : TokAt G' ke v := ⟨h.1.mono hle, h.2.mono hle⟩
section
variable {P : Program} {ops : Array Oper} {Q : Exit → Act → World → Prop} {N : Nat} {X : Nat → Prop} {w0 w : World} {G : Ghost} {fr : List (Nat × Value)} {L : List Asrt} {rest : List Oper} {c : Code} {e : Exit}
theorem Mem.freezeX {k n b E : Nat} {f : Nat → Value} (hm : Mem X w0 G w L) (hL : L[k]? = some (box b n E f)) : ∃ G', GNew w0 X G G' ∧ RowAt G' b 0 n f ∧ Mem X w0 G' w (L.eraseIdx k) := by
  obtain ⟨G', h1, h2, h3⟩ := hm.freezeB (m := 1) (sz := n) hL (by omega) (by omega)
  obtain ⟨_, _, e, _, h4⟩ := h2
  obtain ⟨b', o, e2, h5⟩ := h4 (by omega)
  simp only [Value.slice.injEq] at e
  obtain ⟨rfl, _⟩ := e
  simp only [Option.some.injEq, Addr.mk.injEq] at e2
  obtain ⟨rfl, rfl, _⟩ := e2
  have h6 := h5 0 (by omega)
  simp only [Nat.zero_mul, Nat.add_zero, Nat.zero_add] at h6
  exact ⟨G', h1, h6, h3⟩
variable {α : Type} {T E : TypeId} {ke : α → Value}
def mdels {κ ν : Type} [DecidableEq κ] (l : List (κ × ν)) (ks : List κ) : List (κ × ν) := ks.foldl mdel l
theorem lkp_mdel_ne {κ ν : Type} [DecidableEq κ] {l : List (κ × ν)} {k k' : κ} (h : ¬ k = k') : lkp (mdel l k) k' = lkp l k' := by
  induction l with
  | nil => rfl
  | cons p t ih =>
    simp only [mdel]
    split
    · rename_i e; simp [lkp, e, h]
    · simp only [lkp, ih]
end
/-! ### maps of maps -/
def nestA {κ : Type} (ke : κ → Value) (m : Nat) (c : List (κ × List (Int × Int))) : Asrt := exA fun l : List (κ × NM) => andA (c = eraN l) (starL [mapA m ke veN l, hoard FN l])
def nput {κ : Type} [DecidableEq κ] (c : List (κ × List (Int × Int))) (k : κ) (id : Int) : List (κ × List (Int × Int)) := mput c k (mput ((lkp c k).getD []) id 1)
def ndrop {κ : Type} [DecidableEq κ] (c : List (κ × List (Int × Int))) (k : κ) (id : Int) : List (κ × List (Int × Int)) :=
  if (mdel ((lkp c k).getD []) id).length = 0 then mdel c k else mput c k (mdel ((lkp c k).getD []) id)
/-! ### the tree -/
structure TS (τ α : Type) where
  toks : List (Int × τ)
  pl : List (α × List (Int × Int))
  fc : List (Int × List (Int × Int))
  last : Int
def eraT {α : Type} (l : List (Int × TB α)) : List (Int × Tk α) := l.map fun p => (p.1, p.2.2.2)
section
variable {α : Type} (T TT E : TypeId) (ke : α → Value) (p : Nat)
def treeC {τ : Type} (s : TS τ α) (z : Nat × Nat × Nat) : List Value := [.map (some z.1), .map (some z.2.1), .map (some z.2.2), .int .i64 s.last]
def treeL (s : TS (TB α) α) (z : Nat × Nat × Nat) : List Asrt := [box p 4 T (at_ (treeC s z)), mapA z.1 kI veB s.toks, nestA ke z.2.1 s.pl, nestA kI z.2.2 s.fc]
/-- All but the tokens. -/
def treeR (s : TS (TB α) α) : Asrt := exA fun z : Nat × Nat × Nat => starL (treeL T ke p s z)
def treeE (s : TS (Tk α) α) : Asrt := exA fun l : List (Int × TB α) => andA (s.toks = eraT l) (starL [treeR T ke p ⟨l, s.pl, s.fc, s.last⟩, hoard (FT TT E ke) l])
end
section
variable {α : Type} {T TT E : TypeId} {ke : α → Value} {p : Nat}
variable {P : Program} {ops : Array Oper} {Q : Exit → Act → World → Prop} {N : Nat} {X : Nat → Prop} {w0 w : World} {G : Ghost} {fr : List (Nat × Value)} {L : List Asrt} {rest : List Oper} {c : Code} {e : Exit}
end
end Go.Gx

/- Trees of tokens in memory: looking one up, a row turned about, maps of maps opened and shut. Generic in the program. -/
namespace Go.Gx
open Go.RowKit Go.Sort Go.Lib
section
variable {κ ν : Type} [DecidableEq κ] {P : Program} {K : TypeId} {ke : κ → Value} {ve : ν → Value} {N : Nat} {X : Nat → Prop} {w0 : World} {G : Ghost} {l : List (Nat × Value)} {L : List Asrt}
variable {d i m : Nat} {ty : TypeId} {pos : String} {after : Array Edge} {gd : Option (Nat × Bool)} {x y : Operand} {T E : TypeId} {mv : List (κ × ν)} {k : κ} {zv : Value}
end
section
variable {κ : Type} {ke : κ → Value} {m : Nat} {c0 : List (κ × List (Int × Int))} {l : List (κ × NM)}
variable {P : Program} {ops : Array Oper} {Q : Exit → Act → World → Prop} {N : Nat} {X : Nat → Prop} {w0 w : World} {G : Ghost} {fr : List (Nat × Value)} {L : List Asrt} {rest : List Oper} {c : Code} {e : Exit}
end
section
variable {P : Program} {ops : Array Oper} {Q : Exit → Act → World → Prop} {N : Nat} {X : Nat → Prop} {w0 : World} {G : Ghost} {l : List (Nat × Value)} {L : List Asrt} {rest : List Oper} {d k : Nat} {ty : TypeId} {pos : String} {after : Array Edge} {gd : Option (Nat × Bool)}
end
/-! ### a row of the call's own, turned about -/
def Rev1C (P : Program) {α : Type} [Inhabited α] (f : FuncId) (enc : α → Value) : Prop := ∀ (blk cap : Nat) (zs : List α) (w : World), Holds enc w blk 0 zs.toArray → zs.length ≤ 9223372036854775807 →
  Calls P f #[.slice (some ⟨blk, 0, none⟩) zs.length cap] w fun e w' => e = .returned (.tuple #[]) ∧ ∃ n, w' = putRow enc (Sort.ahead w n) blk 0 zs.reverse.toArray
def Rev1N (P : Program) (f : FuncId) : Prop := ∀ (p : Option Addr) (cap : Nat) (w : World), Calls P f #[.slice p 0 cap] w fun e w' => e = .returned (.tuple #[]) ∧ w' = w
section
variable {α : Type} [Inhabited α] {enc : α → Value}
variable {P : Program} {ops : Array Oper} {Q : Exit → Act → World → Prop} {N : Nat} {X : Nat → Prop} {w0 : World} {G : Ghost} {l : List (Nat × Value)} {L : List Asrt}
variable {rest : List Oper} {d k n : Nat} {ty : TypeId} {pos : String} {after : Array Edge} {gd : Option (Nat × Bool)} {v : Value} {E : TypeId} {zs : List α} {f g : FuncId} {xs : List Operand} {ats : Array TypeId}
omit [Inhabited α] in
theorem grow_none (w : World) : grow w #[] = w := by
  show ({ w with heap := w.heap ++ #[] } : World) = w
  rw [Array.append_empty]
theorem r_rev1 (hw : Wt ops l gd) (hd : Nat.blt d N = true) (hf : Callable P f) (hv : evs l xs = some [v]) (hL : L[k]? = some (rowA v E 1 zs.length (zs.flatMap fun a => [enc a]))) (hs : Rev1C P f enc) (hn : Rev1N P f) (hlen : zs.length < 4611686018427387904)
    (h : Runs P ops Q N X w0 G rest ((d, .tuple #[]) :: l) (L.set k (rowA v E 1 zs.reverse.length (zs.reverse.flatMap fun a => [enc a])))) : Runs P ops Q N X w0 G (⟨some d, .call ⟨.value (.func f), xs.toArray, ats⟩, ty, pos, after, gd⟩ :: rest) l L := by
  refine Runs.step hw (fun a w hS => ?_)
  show Oper.upon P _ a _ Q _
  rw [run_call hS.fr hv hf, Oper.upon_enter]
  obtain ⟨F, ⟨⟨hlen1, hown⟩, hF, hmax⟩, _, hput⟩ := hS.mem.take hL
  by_cases hz : zs.length = 0
  · have hz' : zs = [] := List.eq_nil_of_length_eq_zero hz
    subst hz'
    rw [List.reverse_nil, set_same hL] at h
    have hv2 : ∃ p c, v = .slice p 0 c := by
      rcases hown with ⟨rfl, _⟩ | ⟨g, cap, cur, rfl, _⟩
      · exact ⟨_, _, rfl⟩
      · exact ⟨_, _, rfl⟩
    obtain ⟨p, c, rfl⟩ := hv2
    refine (hn p c w).mono (fun e w' hR => ?_)
    obtain ⟨rfl, rfl⟩ := hR
    exact h _ _ ⟨hS.fr.put (by simpa using hd) _, hS.mem⟩
  · rcases hown with ⟨_, h0⟩ | ⟨g, cap, cur, rfl, _, hg, hnc, hcm, hcs, htk⟩
    · exact absurd h0 hz
    · have hcs' : cur.size = cap := by simpa using hcs
      have htk' : cur.toList.take zs.length = zs.map enc := by rw [← cells_one]; simpa using htk
      refine (hs g cap zs w (own_holds1 hg hcs' hnc htk') (by omega)).mono (fun e w' hR => ?_)
      obtain ⟨rfl, q, rfl⟩ := hR
      have hFg : F g := (hF g).2 rfl
      rw [← grow_none (putRow enc (Sort.ahead w q) g 0 zs.reverse.toArray)]
      refine h _ _ ⟨hS.fr.put (by simpa using hd) _, hput _ _ (fun b => b = g) (since_sort1 hFg) ?_ (fun b hb => .inl (hb ▸ hFg))⟩
      have h2 := own_after1 (enc := enc) (q := q) (os := #[]) (zs' := zs.reverse) hg hcs' hcm (by simpa using hnc)
      rw [List.length_reverse] at h2 ⊢
      exact h2
end
section
variable {α : Type}
end
section
variable {α : Type} {T TT E : TypeId} {ke : α → Value} {p : Nat}
variable {P : Program} {ops : Array Oper} {Q : Exit → Act → World → Prop} {N : Nat} {X : Nat → Prop} {w0 w : World} {G : Ghost} {fr : List (Nat × Value)} {L : List Asrt} {rest : List Oper} {c : Code} {e : Exit}
theorem r_drop0 {A : Asrt} (H : Runs P ops Q N X w0 G rest fr L) : Runs P ops Q N X w0 G rest fr (A :: L) := fun a w hS => H a w ⟨hS.fr, hS.mem.imp (.drop (Imp.refl _))⟩
variable {l : List (Int × TB α)} {k : Int} {u v : TB α}
end
end Go.Gx

/- Nodes in memory: a map that leads to boxes with two rows of numbers each; what a call sees of them, and one taken out and put back. Generic in the program and in what else a node has. -/
namespace Go.Gx
open Go.RowKit
/-- A node's cells: those ahead of its rows, between them, behind them. -/
structure NK (σ : Type) where
  T : TypeId
  E : TypeId
  n : Nat
  cells : σ → Value → Value → List Value
  kids : σ → List Int
  outer : σ → List Int
abbrev NB (σ : Type) := Nat × Value × Value × σ
def veN2 {σ : Type} (v : NB σ) : Value := .pointer (some ⟨v.1, 0, none⟩)
def ndL {σ : Type} (K : NK σ) (v : NB σ) : List Asrt := [box v.1 K.n K.T (at_ (K.cells v.2.2.2 v.2.1 v.2.2.1)), rowA v.2.1 K.E 1 (K.kids v.2.2.2).length ((K.kids v.2.2.2).flatMap cI), rowA v.2.2.1 K.E 1 (K.outer v.2.2.2).length ((K.outer v.2.2.2).flatMap cI)]
def ndA {σ : Type} (K : NK σ) (v : NB σ) : Asrt := starL (ndL K v)
def FK {σ : Type} (K : NK σ) (p : Int × NB σ) : Asrt := ndA K p.2
def NodeAt {σ : Type} (K : NK σ) (G : Ghost) (v : NB σ) : Prop := RowAt G v.1 0 K.n (at_ (K.cells v.2.2.2 v.2.1 v.2.2.1)) ∧ SlL G v.2.1 1 cI (0 : Int) (K.kids v.2.2.2) ∧ SlL G v.2.2.1 1 cI (0 : Int) (K.outer v.2.2.2)
theorem NodeAt.mono {σ : Type} {K : NK σ} {G G' : Ghost} {v : NB σ} (h : NodeAt K G v) (hle : GLe G G') : NodeAt K G' v := ⟨h.1.mono hle, h.2.1.mono hle, h.2.2.mono hle⟩
/-- What is known of nodes, but for where they lie. -/
def eraK {σ : Type} (l : List (Int × NB σ)) : List (Int × σ) := l.map fun p => (p.1, p.2.2.2.2)
theorem eraK_lkp {σ : Type} (l : List (Int × NB σ)) (k : Int) : lkp (eraK l) k = (lkp l k).map (·.2.2.2) := lkp_map (fun v : NB σ => v.2.2.2) l k
theorem eraK_len {σ : Type} (l : List (Int × NB σ)) : (eraK l).length = l.length := by simp [eraK]
theorem eraK_mput {σ : Type} (l : List (Int × NB σ)) (k : Int) (v : NB σ) : eraK (mput l k v) = mput (eraK l) k v.2.2.2 := mput_map (fun v : NB σ => v.2.2.2) l k v
theorem eraK_mdel {σ : Type} (l : List (Int × NB σ)) (k : Int) : eraK (mdel l k) = mdel (eraK l) k := mdel_map (fun v : NB σ => v.2.2.2) l k
theorem eraK_some {σ : Type} {l : List (Int × NB σ)} {k : Int} {x : σ} (h : lkp (eraK l) k = some x) : ∃ b kv ov, lkp l k = some (b, kv, ov, x) := by
  rw [eraK_lkp] at h
  obtain ⟨⟨b, kv, ov, y⟩, h1, h2⟩ := Option.map_eq_some_iff.1 h
  exact ⟨b, kv, ov, by rw [h1]; simp only at h2; rw [h2]⟩
section
variable {σ : Type} {K : NK σ}
variable {P : Program} {ops : Array Oper} {Q : Exit → Act → World → Prop} {N : Nat} {X : Nat → Prop} {w0 w : World} {G : Ghost} {fr : List (Nat × Value)} {L : List Asrt} {rest : List Oper} {c : Code} {e : Exit}
theorem Mem.freezeN2 {v : NB σ} (hm : Mem X w0 G w (ndA K v :: L)) : ∃ G', GNew w0 X G G' ∧ NodeAt K G' v ∧ Mem X w0 G' w L := by
  have h0 := hm.unpack
  obtain ⟨G1, n1, r1, h1⟩ := h0.freezeX (k := 0) rfl
  obtain ⟨G2, n2, r2, h2⟩ := h1.freeze (k := 0) rfl
  obtain ⟨G3, n3, r3, h3⟩ := h2.freeze (k := 0) rfl
  exact ⟨G3, (n1.trans n2).trans n3, ⟨r1.mono (GLe.trans n2.le n3.le), (SlL.of (cells := cI) (0 : Int) (fun _ => rfl) rfl r2).mono n3.le, SlL.of (cells := cI) (0 : Int) (fun _ => rfl) rfl r3⟩, h3⟩
theorem Mem.freezeHK : ∀ {l : List (Int × NB σ)} {G : Ghost}, Mem X w0 G w (hoard (FK K) l :: L) → ∃ G', GNew w0 X G G' ∧ (∀ q ∈ l, NodeAt K G' q.2) ∧ Mem X w0 G' w L
  | [], G, hm => ⟨G, GNew.refl _ _ _, by simp, hm.imp (.drop (Imp.refl _))⟩
  | q :: t, G, hm => by
    have h0 : Mem X w0 G w (ndA K q.2 :: hoard (FK K) t :: L) := ⟨hm.since, hm.has, Sep.unstar hm.sep⟩
    obtain ⟨G1, n1, r1, h1⟩ := h0.freezeN2
    obtain ⟨G2, n2, r2, h2⟩ := Mem.freezeHK h1
    refine ⟨G2, n1.trans n2, fun x hx => ?_, h2⟩
    rcases List.mem_cons.1 hx with rfl | hx
    · exact r1.mono n2.le
    · exact r2 x hx
end
/-! ### the trie -/
structure KS (τ : Type) where
  nodes : List (Int × τ)
  last : Int
section
variable {σ : Type} (K : NK σ) (T : TypeId) (p : Nat)
def trC {τ : Type} (s : KS τ) (z : Nat) : List Value := [.map (some z), .int .i64 s.last]
def trL (s : KS (NB σ)) (z : Nat) : List Asrt := [box p 2 T (at_ (trC s z)), mapA z kI veN2 s.nodes]
/-- All but the nodes. -/
def trR (s : KS (NB σ)) : Asrt := exA fun z : Nat => starL (trL T p s z)
def trE (s : KS σ) : Asrt := exA fun l : List (Int × NB σ) => andA (s.nodes = eraK l) (starL [trR T p ⟨l, s.last⟩, hoard (FK K) l])
end
section
variable {σ : Type} {K : NK σ} {T : TypeId} {p : Nat}
variable {P : Program} {ops : Array Oper} {Q : Exit → Act → World → Prop} {N : Nat} {X : Nat → Prop} {w0 w : World} {G : Ghost} {fr : List (Nat × Value)} {L : List Asrt} {rest : List Oper} {c : Code} {e : Exit}
theorem Mem.shutK {s : KS (NB σ)} (z : Nat) (h : Mem X w0 G w (trL T p s z ++ L)) : Mem X w0 G w (trR T p s :: L) := by
  obtain ⟨F, h1, h2, h3⟩ := Sep.packL (trL T p s z) h.sep
  exact ⟨h.since, h.has, F, ⟨z, h1⟩, h2, h3⟩
theorem Mem.openK {s : KS (NB σ)} (h : Mem X w0 G w (trR T p s :: L)) : ∃ z, Mem X w0 G w (trL T p s z ++ L) := by
  obtain ⟨z, hz⟩ := h.unex
  exact ⟨z, hz.unpack⟩
theorem r_openK {s : KS (NB σ)} (H : ∀ z : Nat, Runs P ops Q N X w0 G rest fr (box p 2 T (at_ (trC s z)) :: mapA z kI veN2 s.nodes :: L)) : Runs P ops Q N X w0 G rest fr (trR T p s :: L) := fun a w hS => by
  obtain ⟨z, hz⟩ := hS.mem.openK
  exact H z a w ⟨hS.fr, hz⟩
theorem c_openK {s : KS (NB σ)} (H : ∀ z : Nat, CRuns P c Q N X w0 G fr (box p 2 T (at_ (trC s z)) :: mapA z kI veN2 s.nodes :: L)) : CRuns P c Q N X w0 G fr (trR T p s :: L) := fun a w hS => by
  obtain ⟨z, hz⟩ := hS.mem.openK
  exact H z a w ⟨hS.fr, hz⟩
theorem r_shutK {s : KS (NB σ)} (z : Nat) (H : Runs P ops Q N X w0 G rest fr (trR T p s :: L)) : Runs P ops Q N X w0 G rest fr (box p 2 T (at_ (trC s z)) :: mapA z kI veN2 s.nodes :: L) := fun a w hS => H a w ⟨hS.fr, hS.mem.shutK z⟩
theorem trie_see0 {f : FuncId} {vs : Array Value} {R : Value → Prop} {F : Nat → Prop} {s : KS σ}
    (hc : ∀ (l : List (Int × NB σ)) (G' : Ghost) (F' : Nat → Prop), s.nodes = eraK l → GLe G G' → (∀ q ∈ l, NodeAt K G' q.2) → Has G' w → (trR T p ⟨l, s.last⟩).holds w F' → (∀ b, F' b → G' b = none) →
      Calls P f vs w (Ret fun r w' => R r ∧ Kept (trR T p ⟨l, s.last⟩) F' w w'))
    (hG : Has G w) (hA : (trE K T p s).holds w F) (hF : ∀ b, F b → G b = none) : Calls P f vs w (Ret fun r w' => R r ∧ Kept (trE K T p s) F w w') := by
  obtain ⟨l, hl, hA⟩ := hA
  refine (with_seen (H := hoard (FK K) l) (S := fun G' => ∀ q ∈ l, NodeAt K G' q.2) (R := R) (B := fun r => trR T p ⟨l, s.last⟩) (fun F1 hM => ?_) (fun G' F' hle hs hG' hA' hF' => hc l G' F' hl hle hs hG' hA' hF') hG ((star_flip w F).1 hA) hF).mono (fun e w' hR => ?_)
  · obtain ⟨G', h1, h2, h3⟩ := hM.freezeHK
    exact ⟨G', h1, h2, h3.has⟩
  · cases e with
    | returned r => exact ⟨hR.1, hR.2.imp (fun w F h => ⟨l, hl, (star_flip w F).1 h⟩)⟩
    | panicked c => exact hR.elim
    | outgrown => exact hR.elim
theorem shut_rowK {Z : Asrt} {s : KS (NB σ)} (z : Nat) {w : World} {F : Nat → Prop} (h : (starL (Z :: trL T p s z)).holds w F) : (starL [Z, trR T p s]).holds w F := by
  obtain ⟨F1, F2, h1, h2, h3⟩ := h
  exact ⟨F1, F2, h1, (starL_oneE w F2).2 ⟨z, h2⟩, h3⟩
variable {l : List (Int × NB σ)} {k : Int} {u v : NB σ}
theorem r_fnode (hk : lkp l k = some v) (H : Runs P ops Q N X w0 G rest fr (box v.1 K.n K.T (at_ (K.cells v.2.2.2 v.2.1 v.2.2.1)) :: rowA v.2.1 K.E 1 (K.kids v.2.2.2).length ((K.kids v.2.2.2).flatMap cI) :: rowA v.2.2.1 K.E 1 (K.outer v.2.2.2).length ((K.outer v.2.2.2).flatMap cI) :: hoard (FK K) (mdel l k) :: L)) : Runs P ops Q N X w0 G rest fr (hoard (FK K) l :: L) := fun a w hS =>
  H a w ⟨hS.fr, (hS.mem.focus hk).unpack⟩
theorem Mem.nodeIn (h : Mem X w0 G w (box v.1 K.n K.T (at_ (K.cells v.2.2.2 v.2.1 v.2.2.1)) :: rowA v.2.1 K.E 1 (K.kids v.2.2.2).length ((K.kids v.2.2.2).flatMap cI) :: rowA v.2.2.1 K.E 1 (K.outer v.2.2.2).length ((K.outer v.2.2.2).flatMap cI) :: L)) : Mem X w0 G w (FK K (k, v) :: L) := by
  obtain ⟨F, h1, h2, h3⟩ := Sep.packL (ndL K v) h.sep
  exact ⟨h.since, h.has, F, h1, h2, h3⟩
theorem Mem.nodeBack (hk : lkp l k = some u) (h : Mem X w0 G w (box v.1 K.n K.T (at_ (K.cells v.2.2.2 v.2.1 v.2.2.1)) :: rowA v.2.1 K.E 1 (K.kids v.2.2.2).length ((K.kids v.2.2.2).flatMap cI) :: rowA v.2.2.1 K.E 1 (K.outer v.2.2.2).length ((K.outer v.2.2.2).flatMap cI) :: hoard (FK K) (mdel l k) :: L)) : Mem X w0 G w (hoard (FK K) (mput l k v) :: L) :=
  (Mem.nodeIn (k := k) h).unfocus hk
theorem r_nodeBack (hk : lkp l k = some u) (H : Runs P ops Q N X w0 G rest fr (hoard (FK K) (mput l k v) :: L)) : Runs P ops Q N X w0 G rest fr (box v.1 K.n K.T (at_ (K.cells v.2.2.2 v.2.1 v.2.2.1)) :: rowA v.2.1 K.E 1 (K.kids v.2.2.2).length ((K.kids v.2.2.2).flatMap cI) :: rowA v.2.2.1 K.E 1 (K.outer v.2.2.2).length ((K.outer v.2.2.2).flatMap cI) :: hoard (FK K) (mdel l k) :: L) := fun a w hS => H a w ⟨hS.fr, hS.mem.nodeBack hk⟩
end
end Go.Gx
