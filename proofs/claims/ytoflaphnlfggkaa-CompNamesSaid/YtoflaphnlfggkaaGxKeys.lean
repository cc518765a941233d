/-
  GX: the keys of a map of the call's own, sorted by the library (its contracts come in as premises). Generic in the program.
-/
import Derived.Test.YtoflaphnlfggkaaGxSort
import Derived.Test.YtoflaphnlfggkaaGxRange
import Derived.Shelf.SlIterI.Nil
namespace Go.Gx
open Go.RowKit Go.Sort Go.Maps
open Go.WideElems (Fit rd rg)

theorem sortI_perm {l l' : List Int} (h : l.Perm l') : sortI l = sortI l' := by
  unfold sortI
  refine List.Perm.eq_of_pairwise (le := fun a b : Int => decide (a ≤ b) = true) (fun a b _ _ h1 h2 => ?_) (List.pairwise_mergeSort (by intro a b c; simp; omega) (by intro a b; simp; omega) l) (List.pairwise_mergeSort (by intro a b c; simp; omega) (by intro a b; simp; omega) l') (((List.mergeSort_perm l _).trans h).trans (List.mergeSort_perm l' _).symm)
  simp at h1 h2; omega

/-- How an element reads, where nothing is asked of it. -/
def R0 : Value → Option (DataW Unit × List MemPlace) := fun _ => some (.nil, [])

section
variable {ν : Type} {P : Program} {K : TypeId}
theorem ownsMap_of {w : World} {m : Nat} {ve : ν → Value} {l : List (Int × ν)} {es : Array MapEntry} {clock : Nat} (hM : MapIs w m kI ve l es clock) (hK : P.underlying K = some (.int .i64)) (hwf : ∀ p ∈ l, (Lit.int .i64 p.1).wf = true) (hsz : l.length ≤ maxLen) :
    ∃ D0 : DataW Unit, w.ownsMap P K R0 m l.length D0 ∧ (intKeys D0).Perm (l.map Prod.fst) ∧ Maps.size D0 = l.length := by
  have hlen : es.size = l.length := by have := congrArg List.length hM.eq; simpa using this
  have hmem : ∀ x ∈ es.toList, ∃ p ∈ l, x.key = .int .i64 p.1 := by
    intro x hx
    have h1 : kv x ∈ es.toList.map kv := List.mem_map.2 ⟨x, hx, rfl⟩
    rw [hM.eq] at h1
    obtain ⟨p, hp, e⟩ := List.mem_map.1 h1
    exact ⟨p, hp, by have := congrArg Prod.fst e; exact this.symm⟩
  have hrd : ∀ x ∈ es.toList, ∃ n : Int, x.key = .int .i64 n ∧ rd (H := Unit) P K R0 x = some (.int .i64 n, .nil) := by
    intro x hx
    obtain ⟨p, hp, e⟩ := hmem x hx
    refine ⟨p.1, e, ?_⟩
    unfold rd
    rw [e, keyOf_int_mk hK (hwf p hp)]
    rfl
  refine ⟨_, ⟨es, clock, hM.heap, ⟨by rw [hlen]; exact hsz, hM.st, fun x hx => by obtain ⟨n, _, h⟩ := hrd x hx; exact ⟨_, h⟩⟩, by omega, rfl⟩, ?_, ?_⟩
  · show (List.map (fun p : Lit × DataW Unit => intOf p.1) _).Perm _
    refine ((Go.WideShapes.sorted_perm _).map _).trans ?_
    rw [List.map_map]
    have e1 : es.toList.map ((fun p : Lit × DataW Unit => intOf p.1) ∘ rg P K R0) = (es.toList.map kv).map (fun q : Value × Value => match q.1 with | .int _ n => n | _ => 0) := by
      rw [List.map_map]
      refine List.map_congr_left fun x hx => ?_
      obtain ⟨n, h1, h2⟩ := hrd x hx
      simp only [Function.comp, rg, h2, Option.getD_some, kv, h1]
      rfl
    rw [e1, hM.eq, List.map_map]
    exact List.Perm.refl _
  · show (List.foldr DataW.insert [] _).length = _
    rw [(Go.WideShapes.sorted_perm _).length_eq]
    simpa using hlen
end

/-- slices.Sorted(maps.Keys(m)): the second call, of what the first one made. -/
def KeysC (P : Program) (f g : FuncId) (K : TypeId) : Prop := ∀ (Bm b nn : Nat) (D0 : DataW Unit) (w : World), w.cell? ⟨Bm, 0, none⟩ = some (.map (some b)) → Bm < w.heap.size → w.ownsMap P K R0 b nn D0 → Maps.size D0 ≤ maxLen → Maps.size D0 * 8 ≤ 140737488355328 →
  Calls P f #[.func (.func g) #[] #[.pointer (some ⟨Bm, 0, none⟩)]] w fun e w' => ∃ (v : Value) (ss : List Int), e = .returned v ∧ ss.Perm (intKeys D0) ∧ w'.ownsRow w.heap.size K 1 v ss.length ((ss.mergeSort fun x y => decide (x ≤ y)).map (Value.int .i64)) ∧ Below w.heap.size w w'

section
variable {P : Program} {ops : Array Oper} {Q : Exit → Act → World → Prop} {N : Nat} {X : Nat → Prop} {w0 : World} {G : Ghost} {l : List (Nat × Value)} {L : List Asrt} {ν : Type}
variable {rest : List Oper} {d i j m Bm : Nat} {ty : TypeId} {pos : String} {after : Array Edge} {gd : Option (Nat × Bool)} {K T : TypeId} {f g : FuncId} {x : Operand} {ats : Array TypeId} {ve : ν → Value} {mv : List (Int × ν)}

theorem Mem.add {w w' : World} {A : Asrt} {F' : Nat → Prop} (h : Mem X w0 G w L) (hs : Since nX w w') (hA : A.holds w' F') (hF : ∀ b, F' b → w.heap.size ≤ b) : Mem X w0 G w' (A :: L) := by
  have h1 := h.call hs
  refine ⟨h1.since, h1.has, F', hA, fun b hb => ⟨.inl (Nat.le_trans h.since.size (hF b hb)), h.has.fresh (hF b hb)⟩, ?_⟩
  refine Sep.keep (h.sep.mono (fun b hb hu => ⟨hu, fun hf => ?_⟩)) (fun b hb _ => hs.block b hb id)
  have := hF b hf
  omega

theorem r_sorted (hw : Wt ops l gd) (hd : Nat.blt d N = true) (hf : Callable P f) (hv : evs l [x] = some [.func (.func g) #[] #[.pointer (some ⟨Bm, 0, none⟩)]]) (hL1 : L[i]? = some (mapA m kI ve mv)) (hL2 : L[j]? = some (box Bm 1 T (at_ [.map (some m)])))
    (hc : KeysC P f g K) (hK : P.underlying K = some (.int .i64)) (hwf : ∀ p ∈ mv, (Lit.int .i64 p.1).wf = true) (hlen : mv.length * 8 ≤ 140737488355328)
    (h : ∀ v, Runs P ops Q N X w0 G rest ((d, v) :: l) (rowA v K 1 (sortI (mv.map Prod.fst)).length ((sortI (mv.map Prod.fst)).flatMap cI) :: L)) : Runs P ops Q N X w0 G (⟨some d, .call ⟨.value (.func f), #[x], ats⟩, ty, pos, after, gd⟩ :: rest) l L := by
  refine Runs.step hw (fun a w hS => ?_)
  show Oper.upon P _ a _ Q _
  have hm : mv.length ≤ maxLen := by simp only [maxLen]; omega
  rw [show (#[x] : Array Operand) = [x].toArray from rfl, run_call hS.fr hv hf, Oper.upon_enter]
  obtain ⟨F1, ⟨⟨es, clock, hM⟩, _⟩, _, _⟩ := hS.mem.take hL1
  obtain ⟨F2, ⟨⟨c, hc1, hc2⟩, _⟩, _, _⟩ := hS.mem.take hL2
  obtain ⟨D0, hown, hperm, hsize⟩ := ownsMap_of (P := P) (K := K) hM hK hwf hm
  have hcell : w.cell? ⟨Bm, 0, none⟩ = some (.map (some m)) := by
    rw [cell_of_row w Bm 0 c T (0, 0) hc1]; exact hc2.get 0 (by decide)
  refine (hc Bm m _ D0 w hcell (lt_of_heap hc1) hown (by omega) (by omega)).mono (fun e w' hR => ?_)
  obtain ⟨v, ss, rfl, hss, hrow, hb⟩ := hR
  have hs : Since nX w w' := ⟨hb.os, hb.tape, hb.output, hb.size, fun k hk _ => hb.block k hk⟩
  have e1 : (ss.mergeSort fun x y => decide (x ≤ y)) = sortI (mv.map Prod.fst) := sortI_perm (hss.trans hperm)
  have e2 : ss.length = (sortI (mv.map Prod.fst)).length := by rw [← e1]; exact (List.length_mergeSort ss).symm
  rw [e1, e2, ← cells_ints] at hrow
  have hl1 : (sortI (mv.map Prod.fst)).length ≤ maxLen := by
    have : (sortI (mv.map Prod.fst)).length = mv.length := by unfold sortI; rw [List.length_mergeSort]; simp
    omega
  obtain ⟨h1, h2⟩ := hrow
  refine h v _ _ ⟨hS.fr.put (by simpa using hd) _, hS.mem.add (F' := fun b => v.ownBlock = some b) hs ⟨⟨h1, ?_⟩, fun _ => Iff.rfl, hl1⟩ ?_⟩
  · rcases h2 with h2 | ⟨g', cap, cur, e, hb', r⟩
    · exact .inl h2
    · exact .inr ⟨g', cap, cur, e, Nat.zero_le _, r⟩
  · intro b hb'
    rcases h2 with ⟨rfl, _⟩ | ⟨g', cap, cur, rfl, hb2, _⟩
    · cases hb'
    · simp [Value.ownBlock] at hb'; omega
end
end Go.Gx
