/- Texts of this work, laid together: a logic of steps, plain laws, and walks of Go functions, each without a condition but those that its theorems name. -/
import Derived.Test.YtdcaehepmkhciaaKAlphaPlays1
import Derived.Test.YtdcaehepmkhciaaRows
import Derived.Shelf.Small.Bits
import Derived.Shelf.Small.Wraps
import Derived.Shelf.Strconv.Itoa0
import Derived.Shelf.Sort.Plain
import Derived.Shelf.Slices.Reverse
import Derived.Ground.Names2Prog
import Derived.Shelf.Slices.Clone
import Derived.Shelf.Slices.SearchI
import Derived.Shelf.Slices.Cells
import Derived.Shelf.Slices.In.SortNone
import Derived.Ground.SlgnProg
import Derived.Shelf.SlicesE.Clone
import Derived.Shelf.SlGeneric
import Derived.Ground.GgzProg
import Derived.Shelf.SlIterI.Nil
import Derived.Test.YtdcaehepmkhciaaProg
/-
  GX: rows of the call's own that are written in place, cut, cleared, turned; packs of assertions. Generic in the program.
-/
namespace Go.Gx
open Go.RowKit Go.Sort
/-- A list, written anew from place i on. -/
def putL (xs : List Value) (i : Nat) (vs : List Value) : List Value := xs.take i ++ vs ++ xs.drop (i + vs.length)
theorem putL_length {xs : List Value} {i : Nat} {vs : List Value} (h : i + vs.length ≤ xs.length) : (putL xs i vs).length = xs.length := by
  simp [putL]; omega
theorem putL_get {xs : List Value} {i : Nat} {vs : List Value} (h : i + vs.length ≤ xs.length) (k : Nat) : (putL xs i vs)[k]? = if i ≤ k ∧ k < i + vs.length then vs[k - i]? else xs[k]? := by
  unfold putL
  have hi : (xs.take i).length = i := by simp; omega
  by_cases h1 : k < i
  · rw [if_neg (by omega), List.append_assoc, List.getElem?_append_left (by omega), List.getElem?_take, if_pos h1]
  · by_cases h2 : k < i + vs.length
    · rw [if_pos (by omega), List.append_assoc, List.getElem?_append_right (by omega), hi, List.getElem?_append_left (by omega)]
    · rw [if_neg (by omega), List.getElem?_append_right (by simp; omega), List.getElem?_drop]
      congr 1
      simp; omega
theorem putL_flat {α : Type} {cells : α → List Value} {sz : Nat} (hc : ∀ x, (cells x).length = sz) : ∀ (l : List α) (i : Nat) (a : α), i < l.length → putL (l.flatMap cells) (i * sz) (cells a) = (l.set i a).flatMap cells
  | [], _, _, h => by simp at h
  | x :: t, 0, a, _ => by
    simp only [putL, Nat.zero_mul, List.take_zero, List.nil_append, Nat.zero_add, List.set_cons_zero, List.flatMap_cons]
    rw [hc a, ← hc x, List.drop_left]
  | x :: t, i + 1, a, h => by
    have ih := putL_flat hc t i a (by simpa using h)
    simp only [List.set_cons_succ, List.flatMap_cons, ← ih]
    unfold putL
    have e1 : (i + 1) * sz = (cells x).length + i * sz := by rw [hc x, Nat.add_mul]; omega
    rw [e1, List.take_append, List.take_of_length_le (by omega), List.drop_append, List.drop_eq_nil_of_le (by omega), List.nil_append]
    simp only [Nat.add_sub_cancel_left, List.append_assoc]
    congr 4
    omega
section
variable {P : Program} {ops : Array Oper} {Q : Exit → Act → World → Prop} {N : Nat} {X : Nat → Prop} {w0 : World} {G : Ghost} {l : List (Nat × Value)} {L : List Asrt}
variable {rest : List Oper} {d k : Nat} {ty : TypeId} {pos : String} {after : Array Edge} {gd : Option (Nat × Bool)} {x y : Operand} {v u : Value} {T E : TypeId} {n sz i b cap : Nat} {xs vs : List Value} {q : IntKind}
theorem rowA_write {w : World} {F : Nat → Prop} (h : (rowA v E sz n xs).holds w F) (hv : v = .slice (some ⟨b, 0, none⟩) n cap) (hi : i + vs.length ≤ n * sz) (h1 : ∀ z ∈ vs, z.oneCell' = true) :
    ∃ w', (storeCells ⟨b, i, none⟩ vs 0).run P w = .ok () w' ∧ (rowA v E sz n (putL xs i vs)).holds w' F ∧ Since F w w' := by
  obtain ⟨⟨hlen, hown⟩, hF, hmax⟩ := h
  rcases hown with ⟨rfl, _⟩ | ⟨g, cap', cur, rfl, _, hg, hnc, hcm, hcs, htk⟩
  · cases hv
  cases hv
  have hle : n * sz ≤ cap * sz := Nat.mul_le_mul_right _ hnc
  have hB : BoxAt w b (cap * sz) E (fun k => cur.toList.getD k undef) := ⟨cur, hg, hcs, fun k hk => by
    have : k < cur.size := by omega
    simp [List.getD, this]⟩
  obtain ⟨w', hr, ⟨c, hc1, hc2⟩, hs⟩ := run_storeCells_box (P := P) vs i 0 w b (cap * sz) E _ hB (by omega) h1
  refine ⟨w', hr, ⟨⟨by rw [putL_length (by omega)]; exact hlen, .inr ⟨b, cap, c, rfl, Nat.zero_le _, hc1, hnc, hcm, hc2.size, ?_⟩⟩, hF, hmax⟩, ⟨hs.os, hs.tape, hs.output, hs.size, fun k hk hx => hs.block k hk (fun e => hx ((hF k).2 (by subst e; rfl)))⟩⟩
  apply List.ext_getElem?
  intro k
  rw [putL_get (by omega)]
  by_cases hk : k < n * sz
  · have h2 := hc2.get k (by omega)
    rw [List.getElem?_take, if_pos hk, Array.getElem?_toList, h2, updR_eq]
    by_cases h3 : i ≤ k ∧ k < i + vs.length
    · rw [if_pos (by omega), if_pos h3, Nat.add_zero]
      exact (at_get vs (k - i) (by omega)).symm
    · rw [if_neg (by omega), if_neg h3]
      have h4 := congrArg (fun z : List Value => z[k]?) htk
      simp only [List.getElem?_take, if_pos hk] at h4
      rw [← h4]
      have : k < cur.size := by omega
      simp [List.getD, this]
  · rw [List.getElem?_take, if_neg hk, if_neg (by omega), List.getElem?_eq_none (by omega)]
/-- A store into a row of the call's own. -/
theorem r_sto (hw : Wt ops l gd) (hs : SzIs P T vs.length) (hx : ev l x = some (.pointer (some ⟨b, i, none⟩))) (hy : ev l y = some u) (hu : u.cells = vs.toArray) (h1 : ∀ z ∈ vs, z.oneCell' = true) (hL : L[k]? = some (rowA v E sz n xs)) (hv : v = .slice (some ⟨b, 0, none⟩) n cap) (hi : i + vs.length ≤ n * sz)
    (h : Runs P ops Q N X w0 G rest l (L.set k (rowA v E sz n (putL xs i vs)))) : Runs P ops Q N X w0 G (⟨none, .store T x y, ty, pos, after, gd⟩ :: rest) l L := by
  refine Runs.step hw (fun a w hS => ?_)
  show Oper.upon P _ a _ Q _
  obtain ⟨F, hA, _, hput⟩ := hS.mem.take hL
  obtain ⟨w', hr, hB, hs'⟩ := rowA_write (P := P) hA hv hi h1
  have hr : (execOp a.eval ⟨none, .store T x y, ty, pos, after, gd⟩).run P w = .ok .skip w' := by
    simp only [execOp, hS.fr.eval hx, hS.fr.eval hy]
    simp [Instr.storeAt, Instr.sureAddr, storeVar, hs.run, hu, hr]
  rw [hr, Oper.upon_skip]
  exact h _ _ ⟨hS.fr, hput _ _ F hs' hB (fun b hb => .inl hb)⟩
/-- A store of an element. -/
theorem r_stoe {α : Type} {cells : α → List Value} {zs : List α} (a : α) (hc : ∀ x, (cells x).length = sz) (hw : Wt ops l gd) (hs : SzIs P T sz) (hx : ev l x = some (.pointer (some ⟨b, i * sz, none⟩))) (hy : ev l y = some u) (hu : u.cells = (cells a).toArray) (h1 : ∀ z ∈ cells a, z.oneCell' = true) (hL : L[k]? = some (rowA v E sz zs.length (zs.flatMap cells))) (hv : v = .slice (some ⟨b, 0, none⟩) zs.length cap) (hi : i < zs.length)
    (h : Runs P ops Q N X w0 G rest l (L.set k (rowA v E sz (zs.set i a).length ((zs.set i a).flatMap cells)))) : Runs P ops Q N X w0 G (⟨none, .store T x y, ty, pos, after, gd⟩ :: rest) l L := by
  have hm : i * sz + sz ≤ zs.length * sz := by rw [← Nat.succ_mul]; exact Nat.mul_le_mul_right _ hi
  refine r_sto (vs := cells a) hw (by rw [hc]; exact hs) hx hy hu h1 hL hv (by rw [hc]; exact hm) ?_
  rw [putL_flat hc zs i a hi]
  rw [List.length_set] at h
  exact h
/-- s[a:b] of a row of the call's own, as a value. -/
theorem p_slice_o {a m : Nat} {q' : IntKind} (hT : P.underlying T = some (.slice E)) (hE : SzIs P E sz) (hx : ev l x = some v) (hv : v = .slice (some ⟨b, 0, none⟩) n cap) (hn : n ≤ cap) (lo hi : Option Operand)
    (hlo : match lo with | none => a = 0 | some o => ev l o = some (.int q (a : Nat))) (hhi : match hi with | none => m = n | some o => ev l o = some (.int q' (m : Nat))) (ham : a ≤ m) (hmn : m ≤ n) :
    PV P N X w0 G l L ⟨some d, .slice T x lo hi none, ty, pos, after, gd⟩ (.slice (if cap = a then some ⟨b, 0, none⟩ else some ⟨b, a * sz, none⟩) (m - a) (cap - a)) := by
  intro ac w hS
  subst hv
  have hbc : (0 : Int) ≤ (m : Int) ∧ (m : Int) ≤ (cap : Int) := by omega
  have hab' : (0 : Int) ≤ (a : Int) ∧ (a : Int) ≤ (m : Int) := by omega
  have hp : ∀ (o : Option Addr), (o = some ⟨b, 0, none⟩) → (if cap = a then o else o.map (·.add (a * sz))) = (if cap = a then some ⟨b, 0, none⟩ else some ⟨b, a * sz, none⟩) := by rintro _ rfl; simp [addr_add]
  have hrun : (Instr.sliceAt T (.slice (some ⟨b, 0, none⟩) n cap) (lo.map ac.eval) (hi.map ac.eval) none).run P w = .ok (.slice (if cap = a then some ⟨b, 0, none⟩ else some ⟨b, a * sz, none⟩) (m - a) (cap - a)) w := by
    cases lo with
    | none =>
      simp only at hlo
      subst hlo
      cases hi with
      | none =>
        simp only at hhi
        subst hhi
        simp [Instr.sliceAt, Instr.slice, run_underlying hT, Instr.sliceBounds, hE.run, addr_add]
      | some o =>
        simp only at hhi
        simp [Instr.sliceAt, Instr.slice, run_underlying hT, Instr.sliceBounds, Instr.sliceBound, asIntOf, hS.fr.eval hhi, hE.run, show m ≤ cap by omega, addr_add]
    | some o2 =>
      simp only at hlo
      cases hi with
      | none =>
        simp only at hhi
        subst hhi
        simp [Instr.sliceAt, Instr.slice, run_underlying hT, Instr.sliceBounds, Instr.sliceBound, asIntOf, hS.fr.eval hlo, hE.run, ham, addr_add]
      | some o =>
        simp only at hhi
        simp [Instr.sliceAt, Instr.slice, run_underlying hT, Instr.sliceBounds, Instr.sliceBound, asIntOf, hS.fr.eval hlo, hS.fr.eval hhi, hE.run, ham, show m ≤ cap by omega, addr_add]
  simp only [execOp, hS.fr.eval hx]
  simp [hrun]
theorem rowA_cap {w : World} {F : Nat → Prop} (h : (rowA v E sz n xs).holds w F) (hv : v = .slice (some ⟨b, 0, none⟩) n cap) : n ≤ cap := by
  obtain ⟨⟨_, hown⟩, _⟩ := h
  rcases hown with ⟨rfl, _⟩ | ⟨g, cap', cur, rfl, _, hg, hnc, _⟩
  · cases hv
  · cases hv; exact hnc
/-- A row with elements has a block. -/
theorem r_rowblk (hL : L[k]? = some (rowA v E sz n xs)) (hn : 0 < n) (h : ∀ b cap, v = .slice (some ⟨b, 0, none⟩) n cap → n ≤ cap → Runs P ops Q N X w0 G rest l L) : Runs P ops Q N X w0 G rest l L := by
  intro a w hS
  obtain ⟨F, hA, _, _⟩ := hS.mem.take hL
  obtain ⟨b, cap, hv⟩ := rowA_slice hA hn
  exact h b cap hv (rowA_cap hA hv) a w hS
/-- The beginning of a row takes the row's place. -/
theorem rowA_cut {w : World} {F : Nat → Prop} {m : Nat} (h : (rowA v E sz n xs).holds w F) (hv : v = .slice (some ⟨b, 0, none⟩) n cap) (hm : m ≤ n) : (rowA (.slice (some ⟨b, 0, none⟩) m cap) E sz m (xs.take (m * sz))).holds w F := by
  obtain ⟨⟨hlen, hown⟩, hF, hmax⟩ := h
  have hle : m * sz ≤ n * sz := Nat.mul_le_mul_right _ hm
  rcases hown with ⟨rfl, _⟩ | ⟨g, cap', cur, rfl, _, hg, hnc, hcm, hcs, htk⟩
  · cases hv
  · cases hv
    refine ⟨⟨by rw [List.length_take]; omega, .inr ⟨b, cap, cur, rfl, Nat.zero_le _, hg, by omega, hcm, hcs, ?_⟩⟩, hF, by omega⟩
    rw [← htk, List.take_take, Nat.min_eq_left hle]
theorem r_cut {m : Nat} (hL : L[k]? = some (rowA v E sz n xs)) (hv : v = .slice (some ⟨b, 0, none⟩) n cap) (hm : m ≤ n)
    (h : Runs P ops Q N X w0 G rest l (L.set k (rowA (.slice (some ⟨b, 0, none⟩) m cap) E sz m (xs.take (m * sz))))) : Runs P ops Q N X w0 G rest l L := by
  intro a w hS
  obtain ⟨F, hA, _, hput⟩ := hS.mem.take hL
  exact h a w ⟨hS.fr, hput w _ F (Since.refl _ _) (rowA_cut hA hv hm) (fun b hb => .inl hb)⟩
/-- clear(s[a:]) of a row of the call's own: what stands ahead stays. -/
theorem r_clear {a c' bytes : Nat} {zv : Value} {p : Option Addr} (hw : Wt ops l gd) (hT : P.underlying T = some (.slice E)) (hE : ElemIs P E sz bytes zv) (hz : zv.cells.size = sz) (h1 : ∀ z ∈ zv.cells.toList, z.oneCell' = true) (hpos : 0 < sz)
    (hx : ev l x = some (.slice p (n - a) c')) (hp : a < n → p = some ⟨b, a * sz, none⟩) (ha : a ≤ n) (hL : L[k]? = some (rowA v E sz n xs)) (hv : v = .slice (some ⟨b, 0, none⟩) n cap)
    (h : ∀ ys, ys.take (a * sz) = xs.take (a * sz) → Runs P ops Q N X w0 G rest l (L.set k (rowA v E sz n ys))) : Runs P ops Q N X w0 G (⟨none, .call ⟨.builtin .clear, #[x], #[T]⟩, ty, pos, after, gd⟩ :: rest) l L := by
  refine Runs.step hw (fun ac w hS => ?_)
  show Oper.upon P _ ac _ Q _
  obtain ⟨F, hA, _, hput⟩ := hS.mem.take hL
  obtain ⟨inf, hi1, hi2, hi3, hi4⟩ := hE.info
  have hzr : (zeroValue E).run P w = .ok zv w := ZeroIs.run (by unfold ZeroIs; rw [hi1]; exact hi2) w
  rcases Nat.lt_or_ge a n with han | han
  · have hpp := hp han
    subst hpp
    have hlen := hA.1.1
    have hm : a * sz + (n - a) * sz = n * sz := by rw [← Nat.add_mul]; congr 1; omega
    let vs := (Builtin.zeroCells zv.cells (n - a)).toList
    have hvl : vs.length = (n - a) * sz := by simp [vs, Builtin.zeroCells, hz]
    have hones : ∀ z ∈ vs, z.oneCell' = true := by
      intro z hz'
      simp only [vs, Builtin.zeroCells, Array.toList_map, List.mem_map, Array.mem_toList_iff, Array.mem_range] at hz'
      obtain ⟨j, _, rfl⟩ := hz'
      have hlt : j % zv.cells.size < zv.cells.size := Nat.mod_lt _ (by omega)
      rw [getElem!_pos zv.cells _ hlt]
      exact h1 _ (by simp)
    obtain ⟨w', hr, hB, hs'⟩ := rowA_write (P := P) (i := a * sz) (vs := vs) hA hv (by rw [hvl]; omega) hones
    have hr2 : (execOp ac.eval ⟨none, .call ⟨.builtin .clear, #[x], #[T]⟩, ty, pos, after, gd⟩).run P w = .ok (.value (.tuple #[])) w' := by
      obtain ⟨m, hm⟩ : ∃ m, n - a = m + 1 := ⟨n - a - 1, by omega⟩
      have hr' : (storeCells ⟨b, a * sz, none⟩ (Builtin.zeroCells zv.cells (m + 1)).toList).run P w = .ok () w' := by rw [← hm]; exact hr
      have hr3 : (Builtin.clear_ #[T] ty #[.slice (some ⟨b, a * sz, none⟩) (n - a) c']).run P w = .ok (.tuple #[]) w' := by
        rw [hm]
        simp [Builtin.clear_, run_underlying hT, hzr, hr']
      simp [execOp, resolve, invoke, builtin, hS.fr.eval hx, hr3]
    rw [hr2, Oper.upon_value]
    refine h (putL xs (a * sz) vs) ?_ _ _ ⟨hS.fr, hput _ _ F hs' hB (fun b hb => .inl hb)⟩
    unfold putL
    rw [List.append_assoc, List.take_append_of_le_length (by simp; omega), List.take_take, Nat.min_self]
  · have e : n - a = 0 := by omega
    rw [e] at hx
    have hr2 : (execOp ac.eval ⟨none, .call ⟨.builtin .clear, #[x], #[T]⟩, ty, pos, after, gd⟩).run P w = .ok (.value (.tuple #[])) w := by
      cases p <;> simp [execOp, resolve, invoke, builtin, Builtin.clear_, hS.fr.eval hx, run_underlying hT]
    rw [hr2, Oper.upon_value]
    have e2 : L.set k (rowA v E sz n xs) = L := set_self hL
    have h' := h xs rfl
    rw [e2] at h'
    exact h' _ _ ⟨hS.fr, hS.mem⟩
/-- s[:m] of a row of the call's own, as a value. -/
theorem p_slice_o0 {m : Nat} {q' : IntKind} {o : Operand} (hT : P.underlying T = some (.slice E)) (hE : SzIs P E sz) (hx : ev l x = some v) (hv : v = .slice (some ⟨b, 0, none⟩) n cap) (hn : n ≤ cap) (hhi : ev l o = some (.int q' (m : Nat))) (hmn : m ≤ n) :
    PV P N X w0 G l L ⟨some d, .slice T x none (some o) none, ty, pos, after, gd⟩ (.slice (some ⟨b, 0, none⟩) m cap) := by
  have h := p_slice_o (P := P) (N := N) (X := X) (w0 := w0) (G := G) (L := L) (d := d) (ty := ty) (pos := pos) (after := after) (gd := gd) (q := .i64) (q' := q') (a := 0) (m := m) hT hE hx hv hn none (some o) rfl hhi (Nat.zero_le _) hmn
  simpa using h
/-- A function value that was handed in is called: it changes one object. -/
theorem r_yieldo {f : FuncId} {xs : List Operand} {us cs : List Value} {ats : Array TypeId} {A B : Asrt} {z : Operand} {r : Value} (hw : Wt ops l gd) (hd : Nat.blt d N = true) (hy : ev l z = some (.func (.func f) #[] cs.toArray)) (hx : evs l xs = some us) (hf : Callable P f) (hL : L[k]? = some A)
    (hc : ∀ w F, Has G w → A.holds w F → (∀ b, F b → G b = none) → Calls P f (us ++ cs).toArray w (Ret fun r' w' => r' = r ∧ Kept B F w w'))
    (h : Runs P ops Q N X w0 G rest ((d, r) :: l) (L.set k B)) : Runs P ops Q N X w0 G (⟨some d, .call ⟨.value z, xs.toArray, ats⟩, ty, pos, after, gd⟩ :: rest) l L :=
  r_fun hw hy (r_callo (vs := us ++ cs) hw hd hf (evs_app hx) hL hc h)
/-- A method value. -/
theorem p_mkfuncb {f : FuncId} {xs : List Operand} {vs : List Value} (hv : evs l xs = some vs) : PV P N X w0 G l L ⟨some d, .makeFunc (.func f) xs.toArray #[], ty, pos, after, gd⟩ (.func (.func f) vs.toArray #[]) := by
  intro a w hS
  have e := evs_eq hS.fr hv
  have h1 : xs.toArray.map a.eval = vs.toArray := by rw [← e]; simp
  simp only [execOp]
  rw [h1]
  simp [Go.Instr.makeFunc]
theorem funb_same {f : FuncId} {dst : Option Nat} {z : Operand} {xs : List Operand} {rs : List Value} {ats : Array TypeId} {a : Act} (hF : Fr N a l) (hy : ev l z = some (.func (.func f) rs.toArray #[])) :
    execOp a.eval ⟨dst, .call ⟨.value z, xs.toArray, ats⟩, ty, pos, after, gd⟩ = execOp a.eval ⟨dst, .call ⟨.value (.func f), (rs.map Operand.const ++ xs).toArray, ats⟩, ty, pos, after, gd⟩ := by
  have h2 : execOp a.eval ⟨dst, .call ⟨.value (.func f), (rs.map Operand.const ++ xs).toArray, ats⟩, ty, pos, after, gd⟩ = callFunc f (#[] ++ (rs.map Operand.const ++ xs).toArray.map a.eval ++ #[]) := rfl
  have h3 : (Deferred.ofValue (.func (.func f) rs.toArray #[]) (xs.toArray.map a.eval) >>= fun t => invoke t.target t.args) = callFunc f ((rs.toArray ++ xs.toArray.map a.eval) ++ #[]) := rfl
  have h4 : execOp a.eval ⟨dst, .call ⟨.value z, xs.toArray, ats⟩, ty, pos, after, gd⟩ = (Deferred.ofValue (a.eval z) (xs.toArray.map a.eval) >>= fun t => invoke t.target t.args) := rfl
  rw [h2, h4, hF.eval hy, h3]
  have h5 : (List.map a.eval (rs.map Operand.const)) = rs := by
    rw [List.map_map]
    exact (List.map_congr_left (fun x _ => rfl)).trans (List.map_id rs)
  congr 1
  apply Array.toList_inj.1
  simp only [Array.toList_append, List.append_toArray, Array.toList_map, List.map_append, h5]
  simp
/-- A call of a method value is a call of its function with what it was bound to ahead of the arguments. -/
theorem r_funb {f : FuncId} {dst : Option Nat} {z : Operand} {xs : List Operand} {rs : List Value} {ats : Array TypeId} (hw : Wt ops l gd) (hy : ev l z = some (.func (.func f) rs.toArray #[]))
    (h : Runs P ops Q N X w0 G (⟨dst, .call ⟨.value (.func f), (rs.map Operand.const ++ xs).toArray, ats⟩, ty, pos, after, gd⟩ :: rest) l L) :
    Runs P ops Q N X w0 G (⟨dst, .call ⟨.value z, xs.toArray, ats⟩, ty, pos, after, gd⟩ :: rest) l L := by
  intro a w hS
  have h1 := h a w hS
  unfold wpList at h1 ⊢
  rw [if_pos (hw.wanted hS.fr)] at h1 ⊢
  have e := funb_same (ty := ty) (pos := pos) (after := after) (gd := gd) (dst := dst) (xs := xs) (ats := ats) hS.fr hy
  rcases h1 with h1 | ⟨h1, h2⟩
  · left
    show Oper.upon P _ a _ Q _
    rw [e]
    exact h1
  · right
    refine ⟨?_, h2⟩
    simp only [Oper.asks] at h1 ⊢
    rw [e]
    exact h1
/-! ### packs -/
theorem r_pack (Ls : List Asrt) (h : Runs P ops Q N X w0 G rest l (starL Ls :: L)) : Runs P ops Q N X w0 G rest l (Ls ++ L) :=
  fun a w hS => h a w ⟨hS.fr, hS.mem.pack⟩
theorem r_unpack {Ls : List Asrt} (h : Runs P ops Q N X w0 G rest l (Ls ++ L)) : Runs P ops Q N X w0 G rest l (starL Ls :: L) :=
  fun a w hS => h a w ⟨hS.fr, hS.mem.unpack⟩
theorem r_unex {α : Type} {A : α → Asrt} (h : ∀ x, Runs P ops Q N X w0 G rest l (A x :: L)) : Runs P ops Q N X w0 G rest l (exA A :: L) := by
  intro a w hS
  obtain ⟨x, hm⟩ := hS.mem.unex
  exact h x a w ⟨hS.fr, hm⟩
end
/-! ### what a function takes out of a list, one by one -/
section
variable {α σ : Type}
def dels (p : α → σ → Bool × σ) : List α → σ → List α × σ
  | [], s => ([], s)
  | x :: t, s => (if (p x s).1 = true then (dels p t (p x s).2).1 else x :: (dels p t (p x s).2).1, (dels p t (p x s).2).2)
theorem dels_append (p : α → σ → Bool × σ) : ∀ (a b : List α) (s : σ), dels p (a ++ b) s = ((dels p a s).1 ++ (dels p b (dels p a s).2).1, (dels p b (dels p a s).2).2)
  | [], b, s => by simp [dels]
  | x :: t, b, s => by
    simp only [List.cons_append, dels, dels_append p t b]
    split <;> simp
theorem dels_next (p : α → σ → Bool × σ) (e : α) {l : List α} {j : Nat} (hj : j < l.length) (s : σ) : dels p (l.take (j + 1)) s = ((dels p (l.take j) s).1 ++ (if (p (l.getD j e) (dels p (l.take j) s).2).1 = true then [] else [l.getD j e]), (p (l.getD j e) (dels p (l.take j) s).2).2) := by
  have h : l.take (j + 1) = l.take j ++ [l.getD j e] := by rw [List.take_succ_eq_append_getElem hj]; simp [List.getD, hj]
  rw [h, dels_append]
  simp only [dels]
/-- The first thing that is taken out. -/
def ixD (p : α → σ → Bool × σ) : List α → Nat → σ → Int × σ
  | [], _, s => (-1, s)
  | x :: t, j, s => if (p x s).1 = true then ((j : Int), (p x s).2) else ixD p t (j + 1) (p x s).2
theorem ixD_none (p : α → σ → Bool × σ) : ∀ (l : List α) (j : Nat) (s : σ), (ixD p l j s).1 = -1 → dels p l s = (l, (ixD p l j s).2)
  | [], _, _, _ => rfl
  | x :: t, j, s, h => by
    rw [ixD] at h ⊢
    split at h
    · omega
    · rename_i h1
      rw [if_neg h1, dels, if_neg h1, ixD_none p t (j + 1) _ h]
theorem ixD_some (p : α → σ → Bool × σ) : ∀ (l : List α) (j : Nat) (s : σ), ¬ (ixD p l j s).1 = -1 → ∃ i, (ixD p l j s).1 = ((j + i : Nat) : Int) ∧ i < l.length ∧ dels p (l.take (i + 1)) s = (l.take i, (ixD p l j s).2)
  | [], _, _, h => absurd rfl h
  | x :: t, j, s, h => by
    rw [ixD] at h ⊢
    split at h
    · rename_i h1
      exact ⟨0, by rw [if_pos h1]; simp, by simp, by rw [if_pos h1]; simp [dels, h1]⟩
    · rename_i h1
      obtain ⟨i, h2, h3, h4⟩ := ixD_some p t (j + 1) _ h
      refine ⟨i + 1, by rw [if_neg h1, h2]; congr 1; omega, by simp; omega, ?_⟩
      rw [if_neg h1, List.take_succ_cons, dels, if_neg h1, h4]; rfl
theorem ixD_some0 (p : α → σ → Bool × σ) (l : List α) (s : σ) (h : ¬ (ixD p l 0 s).1 = -1) : ∃ i : Nat, (ixD p l 0 s).1 = (i : Int) ∧ i < l.length ∧ dels p (l.take (i + 1)) s = (l.take i, (ixD p l 0 s).2) := by
  obtain ⟨i, h1, h2, h3⟩ := ixD_some p l 0 s h
  exact ⟨i, by rw [h1, Nat.zero_add], h2, h3⟩
theorem flatMap_take {cells : α → List Value} {sz : Nat} (hc : ∀ x, (cells x).length = sz) : ∀ (l : List α) (i : Nat), (l.flatMap cells).take (i * sz) = (l.take i).flatMap cells
  | [], i => by simp
  | x :: t, 0 => by simp
  | x :: t, i + 1 => by
    have e1 : (i + 1) * sz = (cells x).length + i * sz := by rw [hc x, Nat.add_mul]; omega
    rw [List.take_succ_cons, List.flatMap_cons, List.flatMap_cons, e1, List.take_append, List.take_of_length_le (by omega), Nat.add_sub_cancel_left, flatMap_take hc t i]
theorem ixD_no {p : α → σ → Bool × σ} {l : List α} {j : Nat} {s : σ} (e : α) (hj : j < l.length) (h : ¬ (p (l.getD j e) s).1 = true) : ixD p (l.drop j) j s = ixD p (l.drop (j + 1)) (j + 1) (p (l.getD j e) s).2 := by
  have e1 : l.getD j e = l[j] := by simp [List.getD, hj]
  rw [List.drop_eq_getElem_cons hj, ixD, ← e1, if_neg h]
theorem ixD_yes {p : α → σ → Bool × σ} {l : List α} {j : Nat} {s : σ} (e : α) (hj : j < l.length) (h : (p (l.getD j e) s).1 = true) : ixD p (l.drop j) j s = ((j : Int), (p (l.getD j e) s).2) := by
  have e1 : l.getD j e = l[j] := by simp [List.getD, hj]
  rw [List.drop_eq_getElem_cons hj, ixD, ← e1, if_pos h]
theorem set_take {l : List α} {i : Nat} {a : α} (hi : i < l.length) : (l.set i a).take (i + 1) = l.take i ++ [a] := by
  rw [List.take_succ_eq_append_getElem (by simpa using hi)]
  rw [List.take_set_of_le (Nat.le_refl _)]
  simp
theorem set_drop {l : List α} {i j : Nat} {a : α} (h : i < j) : (l.set i a).drop j = l.drop j := by
  rw [List.drop_set, if_pos h]
theorem drop_getD {l m : List α} {j : Nat} (e : α) (h : l.drop j = m.drop j) : l.getD j e = m.getD j e := by
  have h1 := congrArg (fun z : List α => z[0]?) h
  simp only [List.getElem?_drop, Nat.add_zero] at h1
  simp [List.getD, h1]
theorem drop_next {l m : List α} {j : Nat} (h : l.drop j = m.drop j) : l.drop (j + 1) = m.drop (j + 1) := by
  have h1 := congrArg (List.drop 1) h
  simpa [List.drop_drop, Nat.add_comm] using h1
/-- What a function that was handed in comes to: it changes one object. -/
def HCL (P : Program) (g : FuncId) (cs : List Value) (val : α → Value) (A : σ → Asrt) (p : α → σ → Bool × σ) (G : Ghost) : Prop := ∀ x s w F, Has G w → (A s).holds w F → (∀ b, F b → G b = none) → Calls P g ([val x] ++ cs).toArray w (Ret fun r w' => r = .bool (p x s).1 ∧ Kept (A (p x s).2) F w w')
theorem HCL.mono {P : Program} {g : FuncId} {cs : List Value} {val : α → Value} {A : σ → Asrt} {p : α → σ → Bool × σ} {G G' : Ghost} (h : HCL P g cs val A p G) (hle : GLe G G') : HCL P g cs val A p G' :=
  fun x s w F hG hA hF => h x s w F (fun b o e => hG b o (hle b o e)) hA (fun b hb => by
    cases e : G b with
    | none => rfl
    | some o => have := hle b o e; rw [hF b hb] at this; cases this)
/-- A function that asks nothing of a state: a filter. -/
theorem dels_pure (p : α → Bool) : ∀ (l : List α), (dels (fun x (_ : Unit) => (p x, ())) l ()).1 = l.filter (fun x => !p x)
  | [] => rfl
  | x :: t => by
    have ih := dels_pure p t
    simp only [dels, List.filter_cons]
    cases h : p x <;> simp [ih]
end
end Go.Gx

/-
  GX: maps of maps and of objects: what a look-up comes to where the key is there, and where it isn't; inner maps taken out and put back; sorted keys of a nil map. Generic in the program.
-/
namespace Go.Gx
open Go.RowKit Go.Sort Go.Maps
section
variable {κ ν : Type} [DecidableEq κ]
theorem lkp_map {μ : Type} (f : ν → μ) (l : List (κ × ν)) (k : κ) : lkp (l.map fun p => (p.1, f p.2)) k = (lkp l k).map f := by
  induction l with
  | nil => rfl
  | cons p t ih =>
    simp only [List.map_cons, lkp]
    split
    · rfl
    · exact ih
theorem mput_map {μ : Type} (f : ν → μ) (l : List (κ × ν)) (k : κ) (v : ν) : (mput l k v).map (fun p => (p.1, f p.2)) = mput (l.map fun p => (p.1, f p.2)) k (f v) := by
  induction l with
  | nil => rfl
  | cons p t ih =>
    simp only [List.map_cons, mput]
    split
    · rfl
    · simp [ih]
theorem mdel_map {μ : Type} (f : ν → μ) (l : List (κ × ν)) (k : κ) : (mdel l k).map (fun p => (p.1, f p.2)) = mdel (l.map fun p => (p.1, f p.2)) k := by
  induction l with
  | nil => rfl
  | cons p t ih =>
    simp only [List.map_cons, mdel]
    split
    · rfl
    · simp [ih]
/-- The zero value besides. -/
def veO (ve : ν → Value) (zv : Value) : Option ν → Value
  | none => zv
  | some v => ve v
omit [DecidableEq κ] in
theorem MapIs.opt {w : World} {m : Nat} {ke : κ → Value} {ve : ν → Value} {l : List (κ × ν)} {es : Array MapEntry} {clock : Nat} (zv : Value) (h : MapIs w m ke ve l es clock) : MapIs w m ke (veO ve zv) (l.map fun p => (p.1, some p.2)) es clock :=
  ⟨h.heap, h.st, by rw [h.eq, List.map_map]; rfl⟩
variable {P : Program} {K : TypeId} {ke : κ → Value} {ve : ν → Value} {N : Nat} {X : Nat → Prop} {w0 : World} {G : Ghost} {l : List (Nat × Value)} {L : List Asrt}
variable {d i m : Nat} {ty : TypeId} {pos : String} {after : Array Edge} {gd : Option (Nat × Bool)} {x y : Operand} {T E : TypeId} {mv : List (κ × ν)} {k : κ} {a : ν} {zv : Value}
theorem p_lookup_yes (hT : P.underlying T = some (.map K E)) (hk : KeyT P K ke) (hz : ZeroIs P E zv) (hx : ev l x = some (.map (some m))) (hL : L[i]? = some (mapA m ke ve mv)) (hy : ev l y = some (ke k)) (ha : lkp mv k = some a) :
    PV P N X w0 G l L ⟨some d, .lookup T x y false, ty, pos, after, gd⟩ (ve a) := by
  intro ac w hS
  obtain ⟨F, ⟨⟨es, clock, hM⟩, _⟩, _, _⟩ := hS.mem.take hL
  have h := run_lookup hT hk (ve := veO ve zv) none hz (hM.opt zv) (k := k) false
  rw [lkp_map, ha] at h
  simp only [execOp, hS.fr.eval hx, hS.fr.eval hy]
  simp [veO] at h
  simp [h]
theorem p_lookup_no (hT : P.underlying T = some (.map K E)) (hk : KeyT P K ke) (hz : ZeroIs P E zv) (hx : ev l x = some (.map (some m))) (hL : L[i]? = some (mapA m ke ve mv)) (hy : ev l y = some (ke k)) (ha : lkp mv k = none) :
    PV P N X w0 G l L ⟨some d, .lookup T x y false, ty, pos, after, gd⟩ zv := by
  intro ac w hS
  obtain ⟨F, ⟨⟨es, clock, hM⟩, _⟩, _, _⟩ := hS.mem.take hL
  have h := run_lookup hT hk (ve := veO ve zv) none hz (hM.opt zv) (k := k) false
  rw [lkp_map, ha] at h
  simp only [execOp, hS.fr.eval hx, hS.fr.eval hy]
  simp [veO] at h
  simp [h]
end
/-! ### maps of maps of numbers -/
abbrev NM := Nat × List (Int × Int)
def veN (v : NM) : Value := .map (some v.1)
def FN {κ : Type} (p : κ × NM) : Asrt := mapA p.2.1 kI kI p.2.2
/-- What a map of maps holds. -/
def eraN {κ : Type} (l : List (κ × NM)) : List (κ × List (Int × Int)) := l.map fun p => (p.1, p.2.2)
section
variable {κ : Type} [DecidableEq κ]
theorem eraN_lkp (l : List (κ × NM)) (k : κ) : lkp (eraN l) k = (lkp l k).map (·.2) := lkp_map _ l k
theorem eraN_mput (l : List (κ × NM)) (k : κ) (v : NM) : eraN (mput l k v) = mput (eraN l) k v.2 := mput_map _ l k v
theorem eraN_mdel (l : List (κ × NM)) (k : κ) : eraN (mdel l k) = mdel (eraN l) k := mdel_map _ l k
theorem eraN_none {l : List (κ × NM)} {k : κ} (h : lkp l k = none) : lkp (eraN l) k = none := by rw [eraN_lkp, h]; rfl
theorem eraN_some {l : List (κ × NM)} {k : κ} {m : Nat} {h : List (Int × Int)} (hk : lkp l k = some (m, h)) : lkp (eraN l) k = some h := by rw [eraN_lkp, hk]; rfl
variable {P : Program} {ops : Array Oper} {Q : Exit → Act → World → Prop} {N : Nat} {X : Nat → Prop} {w0 : World} {G : Ghost} {fr : List (Nat × Value)} {L : List Asrt} {rest : List Oper} {c : Code} {e : Exit}
variable {l : List (κ × NM)} {k : κ} {m : Nat} {h h' : List (Int × Int)} {u : NM}
theorem c_nfocus (hk : lkp l k = some (m, h)) (H : CRuns P c Q N X w0 G fr (mapA m kI kI h :: hoard FN (mdel l k) :: L)) : CRuns P c Q N X w0 G fr (hoard FN l :: L) := c_focus hk H
theorem e_nunfocus (hk : lkp l k = some u) (H : ERuns Q e N X w0 G fr (hoard FN (mput l k (m, h')) :: L)) : ERuns Q e N X w0 G fr (mapA m kI kI h' :: hoard FN (mdel l k) :: L) := e_unfocus (m, h') hk H
theorem e_nnew (hk : lkp l k = none) (H : ERuns Q e N X w0 G fr (hoard FN (mput l k (m, h')) :: L)) : ERuns Q e N X w0 G fr (mapA m kI kI h' :: hoard FN l :: L) := e_fnew (m, h') hk H
theorem Mem.fdel {μ : Type} {F : κ × μ → Asrt} {l : List (κ × μ)} {w : World} (H : Mem X w0 G w (hoard F l :: L)) : Mem X w0 G w (hoard F (mdel l k) :: L) := by
  cases hk : lkp l k with
  | none => rw [mdel_none hk]; exact H
  | some v => exact H.flose hk
theorem e_fdel {μ : Type} {F : κ × μ → Asrt} {l : List (κ × μ)} (H : ERuns Q e N X w0 G fr (hoard F (mdel l k) :: L)) : ERuns Q e N X w0 G fr (hoard F l :: L) := fun a w hS => H a w ⟨hS.fr, hS.mem.fdel⟩
omit [DecidableEq κ] in
theorem Mem.hnil {μ : Type} (F : κ × μ → Asrt) {w : World} (H : Mem X w0 G w L) : Mem X w0 G w (hoard F [] :: L) := ⟨H.since, H.has, (fun _ => False), ⟨trivial, fun _ hb => hb⟩, fun _ hb => hb.elim, H.sep.mono (fun _ _ hb => ⟨hb, id⟩)⟩
omit [DecidableEq κ] in
theorem e_hnil {μ : Type} (F : κ × μ → Asrt) (H : ERuns Q e N X w0 G fr (hoard F [] :: L)) : ERuns Q e N X w0 G fr L := fun a w hS => H a w ⟨hS.fr, hS.mem.hnil F⟩
theorem eraN_out {k : κ} (hk : lkp (eraN l) k = none) : lkp l k = none := by
  rw [eraN_lkp] at hk
  cases e : lkp l k with
  | none => rfl
  | some v => rw [e] at hk; cases hk
theorem mput_again {μ : Type} (l : List (κ × μ)) (k : κ) (a b : μ) : mput (mput l k a) k b = mput l k b := by
  induction l with
  | nil => simp [mput]
  | cons p t ih =>
    simp only [mput]
    by_cases h : p.1 = k
    · simp [h, mput]
    · simp [h, mput, ih]
/-- The inner map that is put back is told in the outer one, too. -/
theorem retellN {q : Nat} {ke : κ → Value} (hk : lkp l k = some (m, h)) {w : World} {F : Nat → Prop} (hb : (mapA q ke veN l).holds w F) : (mapA q ke veN (mput l k (m, h'))).holds w F := mapA_retell (v := (m, h')) hk rfl hb
theorem retellNew {q : Nat} {ke : κ → Value} {w : World} {F : Nat → Prop} (hb : (mapA q ke veN (mput l k (m, h))).holds w F) : (mapA q ke veN (mput l k (m, h'))).holds w F := by
  have h1 := retellN (h' := h') (l := mput l k (m, h)) (k := k) (m := m) (h := h) (by rw [lkp_mput, if_pos rfl]) hb
  rwa [mput_again] at h1
end
/-! ### sorted keys of a nil map -/
def KeysNil (P : Program) (f g : FuncId) (K : TypeId) : Prop := ∀ (Bm : Nat) (w : World), w.cell? ⟨Bm, 0, none⟩ = some (.map none) → Bm < w.heap.size →
  Calls P f #[.func (.func g) #[] #[.pointer (some ⟨Bm, 0, none⟩)]] w fun e w' => ∃ v, e = .returned v ∧ w'.ownsRow w.heap.size K 1 v 0 [] ∧ Below w.heap.size w w'
section
variable {P : Program} {ops : Array Oper} {Q : Exit → Act → World → Prop} {N : Nat} {X : Nat → Prop} {w0 : World} {G : Ghost} {l : List (Nat × Value)} {L : List Asrt}
variable {rest : List Oper} {d j Bm : Nat} {ty : TypeId} {pos : String} {after : Array Edge} {gd : Option (Nat × Bool)} {K T : TypeId} {f g : FuncId} {x : Operand} {ats : Array TypeId}
theorem r_sorted_nil (hw : Wt ops l gd) (hd : Nat.blt d N = true) (hf : Callable P f) (hv : evs l [x] = some [.func (.func g) #[] #[.pointer (some ⟨Bm, 0, none⟩)]]) (hL2 : L[j]? = some (box Bm 1 T (at_ [.map none])))
    (hc : KeysNil P f g K)
    (h : ∀ v, Runs P ops Q N X w0 G rest ((d, v) :: l) (rowA v K 1 ([] : List Int).length (([] : List Int).flatMap cI) :: L)) : Runs P ops Q N X w0 G (⟨some d, .call ⟨.value (.func f), #[x], ats⟩, ty, pos, after, gd⟩ :: rest) l L := by
  refine Runs.step hw (fun a w hS => ?_)
  show Oper.upon P _ a _ Q _
  rw [show (#[x] : Array Operand) = [x].toArray from rfl, run_call hS.fr hv hf, Oper.upon_enter]
  obtain ⟨F2, ⟨⟨c, hc1, hc2⟩, _⟩, _, _⟩ := hS.mem.take hL2
  have hcell : w.cell? ⟨Bm, 0, none⟩ = some (.map none) := by
    rw [cell_of_row w Bm 0 c T (0, 0) hc1]; exact hc2.get 0 (by decide)
  refine (hc Bm w hcell (lt_of_heap hc1)).mono (fun e w' hR => ?_)
  obtain ⟨v, rfl, ⟨h1, h2⟩, hb⟩ := hR
  have hs : Since nX w w' := ⟨hb.os, hb.tape, hb.output, hb.size, fun k hk _ => hb.block k hk⟩
  refine h v _ _ ⟨hS.fr.put (by simpa using hd) _, hS.mem.add (F' := fun b => v.ownBlock = some b) hs ⟨⟨h1, ?_⟩, fun _ => Iff.rfl, Nat.zero_le _⟩ (fun b hb' => ?_)⟩
  · rcases h2 with h2 | ⟨g, cap, cur, e, h3, h4⟩
    · exact .inl h2
    · exact .inr ⟨g, cap, cur, e, Nat.zero_le _, h4⟩
  · rcases h2 with ⟨rfl, _⟩ | ⟨g, cap, cur, rfl, h3, _⟩
    · cases hb'
    · simp only [Value.ownBlock, Option.some.injEq] at hb'; subst hb'; exact h3
end
end Go.Gx

/- Walks: what Go functions of this chapter come to, each as a function on plain data; no condition but those that each theorem names. Printed by a program of this work (gen.py). -/
namespace Go.Proofs.Ytdcaehepmkhciaa
open Go.Gx Go.Gx
theorem mixed : Try.prog.follows .mixedOrders = true := by
 kernel_rfl
theorem sz3 : SzIs Try.prog 3 1 := by
 unfold SzIs
 kernel_rfl
theorem sz61 : SzIs Try.prog 61 3 := by
 unfold SzIs
 kernel_rfl
theorem zr61 : ZeroIs Try.prog 61 (Value.agg #[Value.int .i64 0, Value.int .i64 0, Value.int .i64 0]) := by
 unfold ZeroIs
 kernel_rfl
theorem cl104 : Callable Try.prog 104 := callable Try.func104 (by kernel_rfl) rfl
theorem el3 : ElemIs Try.prog 3 1 8 (Value.int .i64 0) := by
 unfold ElemIs
 kernel_rfl
theorem el61 : ElemIs Try.prog 61 3 24 (Value.agg #[Value.int .i64 0, Value.int .i64 0, Value.int .i64 0]) := by
 unfold ElemIs
 kernel_rfl
theorem c_ixT (v : Value) (zs : List (Tri)) (g : Nat) (cs : List Value) {σ : Type} (A : σ → Asrt) (p : Tri → σ → Bool × σ) (s0 : σ) {G : Ghost} {F : Nat → Prop} (hcg : Callable Try.prog g) (hcl : HCL Try.prog g cs (fun x : Tri => kT x) A p G) (w : World) (hG : Has G w) (hA : (starL [rowA v 61 3 (zs).length ((zs).flatMap triL), A (s0)]).holds w F) (hFG : ∀ b, F b → G b = none) :
  Calls Try.prog 104 #[v, Value.func (.func g) #[] cs.toArray] w (Ret fun r w' => r = Value.int .i64 (ixD p zs 0 s0).1 ∧ Kept (starL [rowA v 61 3 (zs).length ((zs).flatMap triL), A ((ixD p zs 0 s0).2)]) F w w') := by
 refine enterO (args := [_, _]) (G := G) (A := starL [rowA v 61 3 (zs).length ((zs).flatMap triL), A (s0)]) (l := [(0, v), (1, Value.func (.func g) #[] cs.toArray)]) Try.func104 rfl Try.ntmps104 hG hA hFG ⟨rfl, rfl, trivial⟩ (Nat.le_of_ble_eq_true rfl) ?_
 refine c_unpack ?_
 refine c_rowlen (k := 0) rfl (fun hbd => ?_)
 refine c_seq ?_
 refine c_region ?_
 refine r_val .none rfl (p_assign rfl) ?_
 refine r_nil ?_
 refine e_next ?_
 refine c_seq ?_
 refine c_seq ?_
 refine c_region ?_
 refine r_val .none rfl (p_move rfl) ?_
 refine r_val .none rfl (p_leno (k := 0) Try.underlying56 rfl rfl) ?_
 refine r_val .none rfl (p_move rfl) ?_
 refine r_nil ?_
 refine e_next ?_
 refine c_block ?_
 refine c_name (d := 0) rfl (fun u_1 hu_1 => ?_)
 refine c_name (d := 1) rfl (fun u_2 hu_2 => ?_)
 refine c_name (d := 7) rfl (fun u_3 hu_3 => ?_)
 refine c_nameL (k := 0) rfl (fun A_4 hA_4 => ?_)
 refine c_loop (σ := Nat × σ) (fun s => [(8, Value.int .i64 (s.1 : Nat)), (0, u_1), (1, u_2), (7, u_3)]) (fun s => [A_4, A s.2]) (fun _ => _) (fun s => s.1 ≤ zs.length ∧ ixD p (zs.drop s.1) s.1 s.2 = ixD p zs 0 s0) (fun s => zs.length - s.1) ((0, s0)) ⟨Nat.zero_le _, rfl⟩ rfl ⟨rfl, rfl, rfl, rfl, trivial⟩ (.keep (fun _ _ h => h) (.keep (fun _ _ h => h) (.nil))) (fun s hphi => ?_)
 subst hu_1
 subst hu_2
 subst hu_3
 subst hA_4
 obtain ⟨j, t⟩ := s
 obtain ⟨hj, hix⟩ := hphi
 dsimp only at hj hix ⊢
 refine c_seq ?_
 refine c_region ?_
 refine r_val .none rfl (p_lt rfl rfl) ?_
 refine r_nil ?_
 refine e_next ?_
 refine c_seq ?_
 refine c_splitd (d := 9) rfl (fun h_5 => ?_) (fun h_5 => ?_)
 ·
  first
   | (exfalso; omega)
   | (
    refine c_cond_t rfl ?_
    refine c_skip ?_
    refine e_next ?_
    refine c_seq ?_
    refine c_block ?_
    refine c_seq ?_
    refine c_region ?_
    refine r_val .none rfl (p_move rfl) ?_
    refine r_val .none rfl (p_assign rfl) ?_
    refine r_nil ?_
    refine e_next ?_
    refine c_seq ?_
    refine c_region ?_
    refine r_val .none rfl (p_move rfl) ?_
    refine r_val .none rfl (p_move rfl) ?_
    refine r_val .none rfl (p_move rfl) ?_
    refine r_iaddr_o (k := 0) .none rfl Try.underlying56 sz61 rfl rfl rfl (by first | exact of_decide_eq_true rfl | omega) (fun p_6 c_7 hv_8 => ?_)
    refine r_val .none rfl (p_ldoa0 (k := 0) Try.underlying61 rfl sz61 rfl hv_8 rfl (by first | exact of_decide_eq_true rfl | omega) (by first | exact of_decide_eq_true rfl | omega) (fun c hc => flatMap_get (cells := triL) (fun _ => rfl) (0, 0, 0) _ _ _ (by first | exact of_decide_eq_true rfl | omega) (by first | exact of_decide_eq_true rfl | omega)) (rfl : _ = Value.agg #[_, _, _])) ?_
    refine r_yieldo (k := 1) (us := [_]) .none rfl rfl rfl hcg rfl (fun w F hw hA hFG => hcl (zs.getD j (0, 0, 0)) t w F hw hA hFG) ?_
    refine r_nil ?_
    refine e_next ?_
    refine c_split (d := 16) rfl (fun h_9 => ?_) (fun h_9 => ?_)
    ·
     have hE := h_9
     first
      | (exfalso; omega)
      | (
       refine c_cond_t rfl ?_
       refine c_seq ?_
       refine c_region ?_
       refine r_val .none rfl (p_move rfl) ?_
       refine r_val .none rfl (p_assign rfl) ?_
       refine r_nil ?_
       refine e_next ?_
       refine c_ret ?_
       refine e_ret_block ?_
       refine e_ret_then ?_
       refine e_ret_then ?_
       refine e_ret_block ?_
       refine e_ret_then ?_
       refine e_ret1 Try.results104 (.tmp rfl .nil) (fun w hm => ?_)
       first
       | (rw [← hix, ixD_yes (0, 0, 0) (by omega) hE]; exact ⟨rfl, hm.kept [_, _] (.keep (fun _ _ h => h) (.keep (fun _ _ h => h) (.nil))) _ (fun F' h => h)⟩)
       | (rw [← hix, List.drop_eq_nil_of_le (by omega)]; exact ⟨rfl, hm.kept [_, _] (.keep (fun _ _ h => h) (.keep (fun _ _ h => h) (.nil))) _ (fun F' h => h)⟩)
       )
    ·
     have hE := h_9
     first
      | (exfalso; omega)
      | (
       refine c_cond_f rfl ?_
       refine c_skip ?_
       refine e_norm_block ?_
       refine e_next ?_
       refine c_region ?_
       refine r_val .none rfl (p_add rfl rfl (by omega)) ?_
       refine r_val .none rfl (p_move rfl) ?_
       refine r_nil ?_
       refine e_round ((j + 1, (p (zs.getD j (0, 0, 0)) t).2)) ⟨⟨by dsimp only; omega, by rw [← hix]; exact (ixD_no (0, 0, 0) (by omega) (by rw [hE]; simp)).symm⟩, by dsimp only; omega⟩ rfl ⟨rfl, rfl, rfl, rfl, trivial⟩ (.keep (fun _ _ h => h) (.keep (fun _ _ h => h) (.nil)))
       )
    )
 ·
  first
   | (exfalso; omega)
   | (
    refine c_cond_f rfl ?_
    refine c_exit ?_
    refine e_exit_then ?_
    refine e_exit_then ?_
    refine e_exit_block ?_
    refine e_next ?_
    refine c_seq ?_
    refine c_region ?_
    refine r_val .none rfl (p_assign rfl) ?_
    refine r_nil ?_
    refine e_next ?_
    refine c_ret ?_
    refine e_ret1 Try.results104 (.tmp rfl .nil) (fun w hm => ?_)
    first
    | (rw [← hix, ixD_yes (0, 0, 0) (by omega) hE]; exact ⟨rfl, hm.kept [_, _] (.keep (fun _ _ h => h) (.keep (fun _ _ h => h) (.nil))) _ (fun F' h => h)⟩)
    | (rw [← hix, List.drop_eq_nil_of_le (by omega)]; exact ⟨rfl, hm.kept [_, _] (.keep (fun _ _ h => h) (.keep (fun _ _ h => h) (.nil))) _ (fun F' h => h)⟩)
    )
theorem c_delT (v : Value) (zs : List (Tri)) (g : Nat) (cs : List Value) {σ : Type} (A : σ → Asrt) (p : Tri → σ → Bool × σ) (s0 : σ) {G : Ghost} {F : Nat → Prop} (hcg : Callable Try.prog g) (hcl : HCL Try.prog g cs (fun x : Tri => kT x) A p G) (w : World) (hG : Has G w) (hA : (starL [rowA v 61 3 (zs).length ((zs).flatMap triL), A (s0)]).holds w F) (hFG : ∀ b, F b → G b = none) :
  Calls Try.prog 82 #[v, Value.func (.func g) #[] cs.toArray] w (Ret fun r w' => Kept (starL [rowA r 61 3 ((dels p zs s0).1).length (((dels p zs s0).1).flatMap triL), A ((dels p zs s0).2)]) F w w') := by
 refine enterO (args := [_, _]) (G := G) (A := starL [rowA v 61 3 (zs).length ((zs).flatMap triL), A (s0)]) (l := [(0, v), (1, Value.func (.func g) #[] cs.toArray)]) Try.func82 rfl Try.ntmps82 hG hA hFG ⟨rfl, rfl, trivial⟩ (Nat.le_of_ble_eq_true rfl) ?_
 refine c_unpack ?_
 refine c_rowlen (k := 0) rfl (fun hbd => ?_)
 refine c_seq ?_
 refine c_region ?_
 refine r_val .none rfl (p_assign rfl) ?_
 refine r_nil ?_
 refine e_next ?_
 refine c_seq ?_
 refine c_region ?_
 refine r_val .none rfl (p_move rfl) ?_
 refine r_val .none rfl (p_move rfl) ?_
 refine r_pack [_, _] ?_
 refine r_callo (k := 0) (vs := [_, _]) .none rfl cl104 rfl rfl (fun w F hw hA hFG => c_ixT v zs g cs A p s0 hcg hcl w hw hA hFG) ?_
 refine r_unpack ?_
 refine r_val .none rfl (p_assign rfl) ?_
 refine r_nil ?_
 refine e_next ?_
 refine c_seq ?_
 refine c_seq ?_
 refine c_region ?_
 refine r_val .none rfl (p_move rfl) ?_
 refine r_val .none rfl (p_eq rfl rfl) ?_
 refine r_nil ?_
 refine e_next ?_
 refine c_splitd (d := 12) rfl (fun h_1 => ?_) (fun h_1 => ?_)
 ·
  have hnone := ixD_none p zs 0 s0 h_1
  skip
  first
   | (exfalso; omega)
   | (
    refine c_cond_t rfl ?_
    refine c_seq ?_
    refine c_region ?_
    refine r_val .none rfl (p_move rfl) ?_
    refine r_val .none rfl (p_assign rfl) ?_
    refine r_nil ?_
    refine e_next ?_
    refine c_ret ?_
    refine e_ret_then ?_
    refine e_ret1 Try.results82 (.tmp rfl .nil) (fun w hm => ?_)
    exact hm.kept [_, _] (.keep (fun _ _ h => rowA_congr (by rw [hnone]) (by rw [hnone]) _ _ h) (.keep (fun _ _ h => by rw [hnone]; exact h) (.nil))) _ (fun F' h => h)
    )
 ·
  obtain ⟨i0, hi0, hil, hds⟩ := ixD_some0 p zs s0 h_1
  rw [hi0]
  first
   | (exfalso; omega)
   | (
    refine c_cond_f rfl ?_
    refine c_skip ?_
    refine e_next ?_
    refine c_seq ?_
    refine c_seq ?_
    refine c_region ?_
    refine r_val .none rfl (p_move rfl) ?_
    refine r_val .none rfl (p_add rfl rfl (by omega)) ?_
    refine r_val .none rfl (p_assign rfl) ?_
    refine r_nil ?_
    refine e_next ?_
    refine c_block ?_
    refine c_name (d := 0) rfl (fun u_2 hu_2 => ?_)
    refine c_name (d := 1) rfl (fun u_3 hu_3 => ?_)
    refine c_name (d := 4) rfl (fun u_4 hu_4 => ?_)
    refine c_loop (σ := Nat × List (Tri)) (fun s => [(6, Value.int .i64 (s.1 : Nat)), (5, Value.int .i64 ((dels p (zs.take s.1) s0).1.length : Nat)), (0, u_2), (1, u_3), (4, u_4)]) (fun s => [rowA (v) 61 3 (s.2).length ((s.2).flatMap triL), A (dels p (zs.take s.1) s0).2]) (fun _ => _) (fun s => (s.1 ≤ zs.length ∧ s.2.length = zs.length ∧ (dels p (zs.take s.1) s0).1.length < s.1) ∧ s.2.take (dels p (zs.take s.1) s0).1.length = (dels p (zs.take s.1) s0).1 ∧ s.2.drop s.1 = zs.drop s.1) (fun s => zs.length - s.1) ((i0 + 1, zs)) ⟨⟨by omega, rfl, by rw [hds]; simp; omega⟩, by rw [hds]; simp, rfl⟩ rfl ⟨rfl, (congrArg (fun n : Nat => some (Value.int .i64 (n : Int))) (by rw [hds]; simp; omega)), rfl, rfl, rfl, trivial⟩ (.keep (fun _ _ h => h) (.keep (fun _ _ h => by rw [hds]; exact h) (.nil))) (fun s hphi => ?_)
    subst hu_2
    subst hu_3
    subst hu_4
    obtain ⟨j, ys⟩ := s
    obtain ⟨⟨hj, hyl, hlt⟩, hty, hdr⟩ := hphi
    dsimp only at hj hyl hlt hty hdr ⊢
    refine c_seq ?_
    refine c_seq ?_
    refine c_region ?_
    refine r_val .none rfl (p_move rfl) ?_
    refine r_val .none rfl (p_move rfl) ?_
    refine r_val .none rfl (p_leno (k := 0) Try.underlying56 rfl rfl) ?_
    refine r_val .none rfl (p_lt rfl rfl) ?_
    refine r_nil ?_
    refine e_next ?_
    refine c_splitd (d := 19) rfl (fun h_5 => ?_) (fun h_5 => ?_)
    ·
     first
      | (exfalso; omega)
      | (
       refine c_cond_t rfl ?_
       refine c_skip ?_
       refine e_next ?_
       refine c_seq ?_
       refine c_block ?_
       refine c_seq ?_
       refine c_region ?_
       refine r_val .none rfl (p_move rfl) ?_
       refine r_val .none rfl (p_move rfl) ?_
       refine r_iaddr_o (k := 0) .none rfl Try.underlying56 sz61 rfl rfl rfl (by first | exact of_decide_eq_true rfl | omega) (fun p_6 c_7 hv_8 => ?_)
       refine r_val .none rfl (p_ldoa0 (k := 0) Try.underlying61 rfl sz61 rfl hv_8 rfl (by first | exact of_decide_eq_true rfl | omega) (by first | exact of_decide_eq_true rfl | omega) (fun c hc => flatMap_get (cells := triL) (fun _ => rfl) (0, 0, 0) _ _ _ (by first | exact of_decide_eq_true rfl | omega) (by first | exact of_decide_eq_true rfl | omega)) (rfl : _ = Value.agg #[_, _, _])) ?_
       rw [drop_getD (0, 0, 0) hdr]
       refine r_alloc .none rfl zr61 (IsRow.lit _) (fun b_1 => ?_)
       refine r_stw (k := 0) .none sz61 rfl rfl (IsRow.lit _) (one_lit rfl rfl) rfl ?_
       refine r_nil ?_
       refine e_next ?_
       refine c_seq ?_
       refine c_region ?_
       refine r_val .none rfl (p_move rfl) ?_
       refine r_val .none rfl (p_ldw (k := 0) Try.underlying61 rfl sz61 rfl rfl (rfl : _ = Value.agg #[_, _, _])) ?_
       refine r_yieldo (k := 2) (us := [_]) .none rfl rfl rfl hcg rfl (fun w F hw hA hFG => hcl (zs.getD j (0, 0, 0)) _ w F hw hA hFG) ?_
       refine r_val .none rfl (p_not rfl) ?_
       refine r_nil ?_
       refine e_next ?_
       refine c_splitn (d := 29) rfl (fun h_9 => ?_) (fun h_9 => ?_)
       ·
        have hE := h_9
        have hnx := dels_next p (0, 0, 0) (l := zs) (j := j) (by omega) s0
        rw [hE, if_neg (by simp)] at hnx
        first
         | (exfalso; omega)
         | (
          refine c_cond_t rfl ?_
          refine c_seq ?_
          refine c_region ?_
          refine r_val .none rfl (p_move rfl) ?_
          refine r_val .none rfl (p_move rfl) ?_
          refine r_val .none rfl (p_ldw (k := 0) Try.underlying61 rfl sz61 rfl rfl (rfl : _ = Value.agg #[_, _, _])) ?_
          refine r_iaddr_o (k := 1) .none rfl Try.underlying56 sz61 rfl rfl rfl (by first | exact of_decide_eq_true rfl | omega) (fun p_10 c_11 hv_12 => ?_)
          refine r_stoe (k := 1) (cells := triL) (zs.getD j (0, 0, 0)) (fun _ => rfl) .none sz61 rfl rfl rfl (by simp [triL, Value.oneCell']) rfl hv_12 (by omega) ?_
          refine r_nil ?_
          refine e_next ?_
          refine c_region ?_
          refine r_val .none rfl (p_move rfl) ?_
          refine r_val .none rfl (p_add rfl rfl (by omega)) ?_
          refine r_val .none rfl (p_assign rfl) ?_
          refine r_nil ?_
          refine e_norm_block ?_
          refine e_next ?_
          refine c_region ?_
          refine r_val .none rfl (p_move rfl) ?_
          refine r_val .none rfl (p_add rfl rfl (by omega)) ?_
          refine r_val .none rfl (p_assign rfl) ?_
          refine r_nil ?_
          refine e_round ((j + 1, ys.set (dels p (zs.take j) s0).1.length (zs.getD j (0, 0, 0)))) ⟨⟨⟨by dsimp only; omega, by dsimp only; rw [List.length_set]; exact hyl, by dsimp only; rw [hnx]; simp; omega⟩, by dsimp only; rw [hnx, List.length_append, List.length_singleton, set_take (by omega), hty], by dsimp only; rw [set_drop (by omega)]; exact drop_next hdr⟩, by dsimp only; omega⟩ rfl ⟨rfl, (congrArg (fun n : Nat => some (Value.int .i64 (n : Int))) (by rw [hnx]; first | done | simp)), rfl, rfl, rfl, trivial⟩ (.drop (.keep (fun _ _ h => h) (.keep (fun _ _ h => by dsimp only; rw [hnx]; first | done | exact h) (.nil))))
          )
       ·
        have hE := h_9
        have hnx := dels_next p (0, 0, 0) (l := zs) (j := j) (by omega) s0
        rw [hE, if_pos rfl, List.append_nil] at hnx
        first
         | (exfalso; omega)
         | (
          refine c_cond_f rfl ?_
          refine c_skip ?_
          refine e_norm_block ?_
          refine e_next ?_
          refine c_region ?_
          refine r_val .none rfl (p_move rfl) ?_
          refine r_val .none rfl (p_add rfl rfl (by omega)) ?_
          refine r_val .none rfl (p_assign rfl) ?_
          refine r_nil ?_
          refine e_round ((j + 1, ys)) ⟨⟨⟨by dsimp only; omega, hyl, by dsimp only; rw [hnx]; dsimp only; omega⟩, by dsimp only; rw [hnx]; first | done | exact hty, drop_next hdr⟩, by dsimp only; omega⟩ rfl ⟨rfl, (congrArg (fun n : Nat => some (Value.int .i64 (n : Int))) (by rw [hnx]; first | done | simp)), rfl, rfl, rfl, trivial⟩ (.drop (.keep (fun _ _ h => h) (.keep (fun _ _ h => by dsimp only; rw [hnx]; first | done | exact h) (.nil))))
          )
       )
    ·
     first
      | (exfalso; omega)
      | (
       refine c_cond_f rfl ?_
       refine c_exit ?_
       refine e_exit_then ?_
       refine e_exit_then ?_
       refine e_exit_block ?_
       refine e_next ?_
       refine c_seq ?_
       refine c_region ?_
       refine r_rowblk (k := 0) rfl (by omega) (fun blk cap hv hcap => ?_)
       refine r_val .none rfl (p_move rfl) ?_
       refine r_val .none rfl (p_move rfl) ?_
       refine r_val .none rfl (p_slice_o (a := (dels p (zs.take j) s0).1.length) (m := ys.length) (q := .i64) (q' := .i64) Try.underlying56 sz61 rfl hv hcap (some (.tmp 37)) none rfl rfl (by omega) (Nat.le_refl _)) ?_
       refine r_clear (k := 0) (a := (dels p (zs.take j) s0).1.length) .none Try.underlying56 el61 rfl (by decide) (by decide) rfl (fun h => by rw [if_neg (by omega)]) (by omega) rfl hv (fun ys2 hy2 => ?_)
       refine r_nil ?_
       refine e_next ?_
       refine c_seq ?_
       refine c_region ?_
       refine r_val .none rfl (p_move rfl) ?_
       refine r_val .none rfl (p_move rfl) ?_
       refine r_val .none rfl (p_slice_o0 (m := (dels p (zs.take j) s0).1.length) Try.underlying56 sz61 rfl hv hcap rfl (by omega)) ?_
       refine r_cut (k := 0) (m := (dels p (zs.take j) s0).1.length) rfl hv (by omega) ?_
       refine r_val .none rfl (p_assign rfl) ?_
       refine r_nil ?_
       refine e_next ?_
       refine c_ret ?_
       refine e_ret1 Try.results82 (.tmp rfl .nil) (fun w hm => ?_)
       have htk : zs.take j = zs := List.take_of_length_le (by omega)
       exact hm.kept [_, _] (.keep (fun _ _ h => rowA_congr (by rw [htk]) (by rw [hy2, flatMap_take (cells := triL) (fun _ => rfl), hty, htk]) _ _ h) (.keep (fun _ _ h => by rw [htk] at h; exact h) (.nil))) _ (fun F' h => h)
       )
    )
end Go.Proofs.Ytdcaehepmkhciaa

/- Plain laws of counting; no program in sight. -/
namespace Go.Gx.T10
open Go.Gx

section
variable {κ : Type} [DecidableEq κ]
def cnt (l : List (κ × Int)) (k : κ) : Int := (lkp l k).getD 0
def tAdd (l : List (κ × Int)) (k : κ) : List (κ × Int) := mput l k (cnt l k + 1)
def tDrop (l : List (κ × Int)) (k : κ) : List (κ × Int) := if cnt l k = 0 then l else if cnt l k = 1 then mdel l k else mput l k (cnt l k - 1)

theorem mdel_mput (l : List (κ × Int)) (k : κ) (v : Int) : mdel (mput l k v) k = mdel l k := by
  induction l with
  | nil => simp [mput, mdel]
  | cons p t ih =>
    simp only [mput, mdel]
    by_cases h : p.1 = k
    · simp [h, mdel]
    · simp [h, mdel, ih]
theorem mput_mput (l : List (κ × Int)) (k : κ) (u v : Int) : mput (mput l k u) k v = mput l k v := by
  induction l with
  | nil => simp [mput]
  | cons p t ih =>
    simp only [mput]
    by_cases h : p.1 = k
    · simp [h, mput]
    · simp [h, mput, ih]
theorem cnt_mput (l : List (κ × Int)) (k k' : κ) (v : Int) : cnt (mput l k v) k' = if k = k' then v else cnt l k' := by
  unfold cnt; rw [lkp_mput]; split <;> rfl
theorem drop_zero {l : List (κ × Int)} {k : κ} (h : cnt l k = 0) : tDrop l k = l := by rw [tDrop, if_pos h]
theorem drop_one {l : List (κ × Int)} {k : κ} (h : cnt l k = 1) : tDrop l k = mdel l k := by rw [tDrop, if_neg (by omega), if_pos h]
theorem drop_more {l : List (κ × Int)} {k : κ} (h0 : ¬ cnt l k = 0) (h : ¬ cnt l k = 1) : tDrop l k = mput l k (cnt l k - 1) := by rw [tDrop, if_neg h0, if_neg h]

/-- How often k is there. -/
def num (ns : List κ) (k : κ) : Nat := ns.count k
theorem num_def (ns : List κ) (k : κ) : num ns k = ns.count k := rfl
theorem num_le (ns : List κ) (k : κ) : num ns k ≤ ns.length := List.count_le_length
/-- What is counted: the counts are of the multiset ns, each key once, none with 0. -/
structure Tal (l : List (κ × Int)) (ns : List κ) : Prop where
  nodup : (l.map (·.1)).Nodup
  pos : ∀ p ∈ l, 1 ≤ p.2
  eq : ∀ k, cnt l k = (num ns k : Int)

theorem Tal.nil : Tal ([] : List (κ × Int)) [] := ⟨by simp, by simp, fun k => by simp [cnt, lkp, num]⟩

theorem mem_mput {l : List (κ × Int)} {k : κ} {v : Int} {p : κ × Int} (h : p ∈ mput l k v) : p = (k, v) ∨ p ∈ l := by
  induction l with
  | nil => simp [mput] at h; exact .inl h
  | cons q t ih =>
    rw [mput] at h
    split at h
    · rcases List.mem_cons.1 h with h | h
      · exact .inl h
      · exact .inr (by simp [h])
    · rcases List.mem_cons.1 h with h | h
      · exact .inr (by simp [h])
      · exact (ih h).imp id (fun h => by simp [h])

theorem Tal.add {l : List (κ × Int)} {ns : List κ} (h : Tal l ns) (k : κ) : Tal (tAdd l k) (ns ++ [k]) := by
  refine ⟨mput_nodup h.nodup _ _, fun p hp => ?_, fun k' => ?_⟩
  · rcases mem_mput hp with rfl | hp
    · have := h.eq k; show 1 ≤ cnt l k + 1; omega
    · exact h.pos p hp
  · rw [tAdd, cnt_mput, num_def, List.count_append]
    by_cases e : k = k'
    · subst e
      have e2 := h.eq k
      rw [num_def] at e2
      simp [List.count_cons]; omega
    · have e2 := h.eq k'
      simp [List.count_cons, e]; exact e2

theorem Tal.drop {l : List (κ × Int)} {ns : List κ} {k : κ} (h : Tal l (ns ++ [k])) : Tal (tDrop l k) ns := by
  have hk := h.eq k
  rw [num_def, List.count_append] at hk
  simp only [List.count_cons_self, List.count_nil, Nat.zero_add] at hk
  have hoth : ∀ k', ¬ k = k' → cnt l k' = (ns.count k' : Int) := fun k' e => by
    have e2 := h.eq k'
    rw [num_def, List.count_append] at e2
    simp [List.count_cons, e] at e2
    exact e2
  by_cases h1 : cnt l k = 1
  · rw [drop_one h1]
    refine ⟨mdel_nodup h.nodup k, fun p hp => h.pos p ((mdel_sub l k).subset hp), fun k' => ?_⟩
    rw [num_def]
    show (lkp (mdel l k) k').getD 0 = _
    rw [lkp_mdel h.nodup]
    by_cases e : k = k'
    · subst e
      simp; omega
    · rw [if_neg e]; exact hoth k' e
  · rw [drop_more (by omega) h1]
    refine ⟨mput_nodup h.nodup _ _, fun p hp => ?_, fun k' => ?_⟩
    · rcases mem_mput hp with rfl | hp
      · show 1 ≤ cnt l k - 1; omega
      · exact h.pos p hp
    · rw [cnt_mput, num_def]
      by_cases e : k = k'
      · subst e; rw [if_pos rfl]; omega
      · rw [if_neg e]; exact hoth k' e

end
theorem Tal.bd {κ : Type} [DecidableEq κ] {l : List (κ × Int)} {ns : List κ} (h : Tal l ns) (hn : ns.length ≤ 4611686018427387904) (k : κ) : 0 ≤ cnt l k ∧ cnt l k ≤ 4611686018427387904 := by
  have h1 := h.eq k
  have h2 := num_le ns k
  omega

theorem take_next {κ : Type} {ns : List κ} {i : Nat} (e : κ) (h : i < ns.length) : ns.take (i + 1) = ns.take i ++ [ns.getD i e] := by
  rw [List.take_succ_eq_append_getElem h]; simp [List.getD, h]

theorem Tal.back {κ : Type} [DecidableEq κ] {l : List (κ × Int)} {ns : List κ} {i : Nat} {e : κ} (h : Tal l (ns.take (ns.length - i))) (hi : i < ns.length) : Tal (tDrop l (ns.getD (ns.length - 1 - i) e)) (ns.take (ns.length - (i + 1))) ∧ 1 ≤ cnt l (ns.getD (ns.length - 1 - i) e) := by
  have e1 : ns.length - i = (ns.length - 1 - i) + 1 := by omega
  rw [e1, take_next e (by omega)] at h
  have e2 : ns.length - (i + 1) = ns.length - 1 - i := by omega
  rw [e2]
  refine ⟨h.drop, ?_⟩
  have := h.eq (ns.getD (ns.length - 1 - i) e)
  rw [num_def, List.count_append] at this
  simp at this
  simp
  omega
end Go.Gx.T10

/- Plain laws of the memory of facts; no program in sight. -/
namespace Go.Gx.T11
open Go.Gx

def triRight (t : Tri) : Bool := decide ((1 ≤ t.1 ∧ t.1 ≤ 4096) ∧ (1 ≤ t.2.1 ∧ t.2.1 ≤ 4096) ∧ 1 ≤ t.2.2 ∧ t.2.2 ≤ 4096)
def zT : Tri := (0, 0, 0)

/-- Add: the facts behind it, the last id, the answer's id and error. -/
def wAdd (l : List (Int × Tri)) (lim last : Int) (t : Tri) : (List (Int × Tri) × Int) × Int × Int :=
  if triRight t = true then (if lim ≤ (l.length : Int) then ((l, last), 0, 11) else ((mput l (last + 1) t, last + 1), last + 1, 0)) else ((l, last), 0, 4)
/-- k facts, all alike, with the ids 1 to k. -/
def full (t : Tri) : Nat → List (Int × Tri)
  | 0 => []
  | k + 1 => full t k ++ [((k : Int) + 1, t)]
end Go.Gx.T11
namespace Go.Gx.T11
open Go.Gx
/-- A fact: its id and its triple. -/
abbrev FD := Int × Tri
def fC (f : FD) : List Value := .int .i64 f.1 :: triL f.2
def facts (l : List (Int × Tri)) : List FD := (sortI (l.map Prod.fst)).map fun i => (i, (lkp l i).getD zT)
end Go.Gx.T11
namespace Go.Gx.T11
open Go.Gx
/-- What is so of the facts behind so many calls: ids are 1 to the last one. -/
structure Ids (l : List (Int × Tri)) (last : Int) (j : Nat) : Prop where
  keys : ∀ q ∈ l, 1 ≤ q.1 ∧ q.1 ≤ last
  len : l.length ≤ j
  lo : 0 ≤ last
  hi : last ≤ j
  nd : (l.map (·.1)).Nodup
theorem Ids.nil : Ids [] 0 0 := ⟨by simp, Nat.le_refl _, by omega, by omega, by simp⟩
theorem Ids.skip {l : List (Int × Tri)} {last : Int} {j : Nat} (h : Ids l last j) : Ids l last (j + 1) := ⟨h.keys, by have := h.len; omega, h.lo, by have := h.hi; omega, h.nd⟩
theorem Ids.free {l : List (Int × Tri)} {last : Int} {j : Nat} (h : Ids l last j) : lkp l (last + 1) = none := by
  rw [lkp_none]; intro p hp e
  have := (h.keys p hp).2; omega
theorem Ids.add {l : List (Int × Tri)} {last : Int} {j : Nat} (h : Ids l last j) (t : Tri) : Ids (mput l (last + 1) t) (last + 1) (j + 1) := by
  refine ⟨fun q hq => ?_, ?_, by have := h.lo; omega, by have := h.hi; omega, mput_nodup h.nd _ _⟩
  · rw [mput_none h.free] at hq
    rcases List.mem_append.1 hq with hq | hq
    · have := h.keys q hq; omega
    · rw [List.mem_singleton.1 hq]; have := h.lo; dsimp only; omega
  · rw [mput_len, h.free]; have := h.len; simp; omega
theorem Ids.wf {l : List (Int × Tri)} {last : Int} {j : Nat} (h : Ids l last j) (hj : j ≤ 2000) : ∀ q ∈ l, (Lit.int .i64 q.1).wf = true := fun q hq => by
  have h1 := h.keys q hq
  have h2 := h.hi
  exact wf_mk (by omega)
end Go.Gx.T11
namespace Go.Gx
/-- A small number's cell. -/
def cU (a : Nat) : List Value := [.int .u8 ((a % 256 : Nat) : Int)]
end Go.Gx

/-
  GX: make([]T, n) of a few elements; shifts and masks of small numbers; a call that hands back a row beside an object. Generic in the program.
-/
namespace Go.Gx
open Go.RowKit
section
variable {P : Program} {ops : Array Oper} {Q : Exit → Act → World → Prop} {N : Nat} {X : Nat → Prop} {w0 : World} {G : Ghost} {l : List (Nat × Value)} {L : List Asrt}
variable {rest : List Oper} {d k : Nat} {ty : TypeId} {pos : String} {after : Array Edge} {gd : Option (Nat × Bool)} {x y : Operand} {T U E : TypeId} {sz bytes : Nat}
theorem p_shr {m n z : Int} (hx : ev l x = some (.int .i64 m)) (hy : ev l y = some (.int .i64 n)) (hn : 0 ≤ n) (hz : m.fdiv (2 ^ (min n.toNat 64)) = z) :
    PV P N X w0 G l L ⟨some d, .binOp .shr T x y U, ty, pos, after, gd⟩ (.int .i64 z) := by
  intro a w hS
  subst hz
  simp only [execOp, hS.fr.eval hx, hS.fr.eval hy]
  simp [eqGuard, binOp, Op.shift, show ¬ n < 0 by omega, IntKind.bits]
theorem p_and {m n z : Int} (hx : ev l x = some (.int .i64 m)) (hy : ev l y = some (.int .i64 n)) (hz : ∀ w, (binOp .and T (.int .i64 m) (.int .i64 n)).run P w = .ok (.int .i64 z) w) :
    PV P N X w0 G l L ⟨some d, .binOp .and T x y U, ty, pos, after, gd⟩ (.int .i64 z) := by
  intro a w hS
  simp only [execOp, hS.fr.eval hx, hS.fr.eval hy]
  simp [eqGuard, hz w]
theorem r_mkslice {m n : Nat} {zv : Value} {f : Nat → Value} (hw : Wt ops l gd) (hd : Nat.blt d N = true) (hT : P.underlying T = some (.slice E)) (hE : ElemIs P E sz bytes zv)
    (hx : ev l x = some (.int .i64 (m : Nat))) (hy : ev l y = some (.int .i64 (m : Nat))) (hb : bytes * m ≤ 1000) (hm1 : m ≤ 1000) (hm : 0 < m * sz) (hc : IsRow ((Array.range (m * sz)).map (zv.cells[· % zv.cells.size]!)) n f)
    (h : ∀ b, Runs P ops Q N X w0 G rest ((d, .slice (some ⟨b, 0, none⟩) m m) :: l) (box b n E f :: L)) :
    Runs P ops Q N X w0 G (⟨some d, .makeSlice T x y, ty, pos, after, gd⟩ :: rest) l L := by
  refine Runs.step hw (fun a w hS => ?_)
  show Oper.upon P _ a _ Q _
  obtain ⟨i, hi, hz, hs, hbt⟩ := hE.info
  have hr : (execOp a.eval ⟨some d, .makeSlice T x y, ty, pos, after, gd⟩).run P w = .ok (.value (.slice (some ⟨w.heap.size, 0, none⟩) m m)) (w.alloc (.cells ((Array.range (m * sz)).map (zv.cells[· % zv.cells.size]!)) E)) := by
    have h2 : execOp a.eval ⟨some d, .makeSlice T x y, ty, pos, after, gd⟩ = (do pure (Next.value (← Instr.makeSlice T (a.eval x) (a.eval y))) : Sem Next) := rfl
    rw [h2, hS.fr.eval hx, hS.fr.eval hy]
    have h3 : (sizeOf E).run P w = .ok sz w := by simp [sizeOf, typeInfo, hi, hs]
    have h4 : (zeroValue E).run P w = .ok zv w := by simp [zeroValue, typeInfo, hi, hz]
    have hwr : IntKind.i64.wrap (m : Int) = m := wrap_in (by omega)
    have hbm : (bytes : Int) * (m : Int) ≤ 1000 := by have h9 := Int.ofNat_le.2 hb; rw [Int.natCast_mul] at h9; exact h9
    have hroom : ∀ w', (askRoom (m * i.bytes)).run P w' = .ok () w' := by
      intro w'
      have h9 : (1000 : Nat) ≤ roomBytes := Nat.le_of_ble_eq_true rfl
      have : ¬ m * i.bytes > roomBytes := by rw [hbt, Nat.mul_comm]; omega
      rw [askRoom, if_neg this]; rfl
    have h5 : (typeInfo E).run P w = .ok i w := by simp [typeInfo, hi]
    have c1 : ¬ (m : Int) < 0 := by omega
    have c2 : ¬ (281474976710656 : Int) < (i.bytes : Int) * (m : Int) := by rw [hbt]; omega
    simp [Instr.makeSlice, run_underlying hT, asInt, asIntOf, h5, hwr, c1, c2, hroom, h3, h4, show ¬ m * sz = 0 by omega, newRow]
  rw [hr, Oper.upon_value]
  exact h _ _ _ ⟨hS.fr.put (by simpa using hd) _, hS.mem.alloc _ _ (box_new w E hc)⟩
/-- A call that changes one object, told by what it hands back. -/
theorem r_callor {f : FuncId} {xs : List Operand} {vs : List Value} {ats : Array TypeId} {A : Asrt} {B : Value → Asrt} (hw : Wt ops l gd) (hd : Nat.blt d N = true) (hf : Callable P f) (hv : evs l xs = some vs) (hL : L[k]? = some A)
    (hc : ∀ w F, Has G w → A.holds w F → (∀ b, F b → G b = none) → Calls P f vs.toArray w (Ret fun r w' => Kept (B r) F w w'))
    (h : ∀ r, Runs P ops Q N X w0 G rest ((d, r) :: l) (L.set k (B r))) : Runs P ops Q N X w0 G (⟨some d, .call ⟨.value (.func f), xs.toArray, ats⟩, ty, pos, after, gd⟩ :: rest) l L := by
  refine Runs.step hw (fun a w hS => ?_)
  show Oper.upon P _ a _ Q _
  rw [run_call hS.fr hv hf, Oper.upon_enter]
  obtain ⟨F, hA, hG, hput⟩ := hS.mem.take hL
  refine (hc w F hS.mem.has hA hG).mono (fun e w' hR => ?_)
  cases e with
  | returned r =>
    obtain ⟨hs, F', hB, hF'⟩ := hR
    exact h r _ _ ⟨hS.fr.put (by simpa using hd) _, hput w' _ F' hs hB hF'⟩
  | panicked c => exact hR.elim
  | outgrown => exact hR.elim
end
end Go.Gx
namespace Go.Gx
open Go.RowKit
section
variable {P : Program} {ops : Array Oper} {brk : Nat → Bool} {G0 : Ghost} {L0 : List Asrt} {Q : Exit → Act → World → Prop} {N : Nat} {X : Nat → Prop} {w0 : World} {G : Ghost} {l l' : List (Nat × Value)} {L L' : List Asrt} {n : Nat} {listed : Array Bool}
variable {d d' : Nat} {ty ty' : TypeId} {pos pos' : String} {after after' : Array Edge} {gd gd' : Option (Nat × Bool)} {T T' : TypeId} {v v' : Value} {m m' : Nat} {f f' : Nat → Value}
end
end Go.Gx

/- Plain laws of memories; no program in sight. -/
namespace Go.Gx
theorem starL_one1 {A : Asrt} {w : World} {F : Nat → Prop} (h : (starL [A]).holds w F) : A.holds w F := by
  obtain ⟨F1, F2, h1, ⟨_, h2⟩, h3, h4⟩ := h
  have : F1 = F := funext fun b => propext ⟨fun hb => (h4 b).2 (.inl hb), fun hb => ((h4 b).1 hb).elim id (fun hb => (h2 b hb).elim)⟩
  rw [← this]; exact h1
theorem mk_lit {c : Array Value} {L : List Value} (h : c = L.toArray) : IsRow c L.length (at_ L) := h ▸ IsRow.lit L
theorem box_rowA {b n m sz : Nat} {E : TypeId} {f : Nat → Value} (hm : m = n * sz) (hn : n ≤ 1000) {w : World} {F : Nat → Prop} (h : (box b m E f).holds w F) : (rowA (.slice (some ⟨b, 0, none⟩) n n) E sz n (row f 0 (n * sz))).holds w F := by
  obtain ⟨⟨c, h1, h2⟩, hF⟩ := h
  subst hm
  refine ⟨⟨row_length _ _ _, .inr ⟨b, n, c, rfl, Nat.zero_le _, h1, Nat.le_refl _, by simp only [maxLen]; omega, h2.size, ?_⟩⟩, fun k => ⟨fun h => by rw [(hF k).1 h]; rfl, fun h => by simp [Value.ownBlock] at h; exact (hF k).2 h.symm⟩, by simp only [maxLen]; omega⟩
  have e := h2.eq
  rw [e]
  simp [List.take_of_length_le, row_length]
end Go.Gx
namespace Go.Gx.T12
open Go.Gx Go.Gx.T10 Go.Gx.T11
abbrev SC := List (Tri × List (Int × Int))
def hasK (t k : Tri) : Bool := decide ((k.1 = 0 ∨ k.1 = t.1) ∧ (k.2.1 = 0 ∨ k.2.1 = t.2.1) ∧ (k.2.2 = 0 ∨ k.2.2 = t.2.2))
/-- All keys of a triple. -/
def allK (t : Tri) : List Tri := [(0, 0, 0), (t.1, 0, 0), (0, t.2.1, 0), (t.1, t.2.1, 0), (0, 0, t.2.2), (t.1, 0, t.2.2), (0, t.2.1, t.2.2), (t.1, t.2.1, t.2.2)]
/-- The facts with a key, noted. -/
def fillC (k : Tri) (fs : List FD) (h : List (Int × Int)) : List (Int × Int) := fs.foldl (fun h f => if hasK f.2 k = true then mput h f.1 1 else h) h
theorem fillC_next {k : Tri} {fs : List FD} {j : Nat} (e : FD) (hj : j < fs.length) (h : List (Int × Int)) : fillC k (fs.take (j + 1)) h = if hasK (fs.getD j e).2 k = true then mput (fillC k (fs.take j) h) (fs.getD j e).1 1 else fillC k (fs.take j) h := by
  unfold fillC; rw [take_next e hj, List.foldl_append]; rfl
def wantC (c : SC) (k : Tri) (fs : List FD) (n : Int) : SC := if n = 0 then mput c k (fillC k fs []) else c
def dropC (c : SC) (k : Tri) (n : Int) : SC := if n = 1 then mdel c k else c
def putC (c : SC) (k : Tri) (id : Int) : Bool × SC := match lkp c k with
  | none => (false, c)
  | some h => if 0 < (lkp h id).getD 0 then (false, c) else (true, mput c k (mput h id 1))
def takeC (c : SC) (k : Tri) (id : Int) : Bool × SC := match lkp c k with
  | none => (false, c)
  | some h => if (lkp h id).getD 0 = 0 then (false, c) else (true, mput c k (mdel h id))
theorem putC_none {c : SC} {k : Tri} {id : Int} (h : lkp c k = none) : putC c k id = (false, c) := by rw [putC, h]
theorem putC_in {c : SC} {k : Tri} {id : Int} {h : List (Int × Int)} (hk : lkp c k = some h) (hi : 0 < (lkp h id).getD 0) : putC c k id = (false, c) := by rw [putC, hk]; exact if_pos hi
theorem putC_new {c : SC} {k : Tri} {id : Int} {h : List (Int × Int)} (hk : lkp c k = some h) (hi : ¬ 0 < (lkp h id).getD 0) : putC c k id = (true, mput c k (mput h id 1)) := by rw [putC, hk]; exact if_neg hi
theorem takeC_none {c : SC} {k : Tri} {id : Int} (h : lkp c k = none) : takeC c k id = (false, c) := by rw [takeC, h]
theorem takeC_out {c : SC} {k : Tri} {id : Int} {h : List (Int × Int)} (hk : lkp c k = some h) (hi : (lkp h id).getD 0 = 0) : takeC c k id = (false, c) := by rw [takeC, hk]; exact if_pos hi
theorem takeC_in {c : SC} {k : Tri} {id : Int} {h : List (Int × Int)} (hk : lkp c k = some h) (hi : ¬ (lkp h id).getD 0 = 0) : takeC c k id = (true, mput c k (mdel h id)) := by rw [takeC, hk]; exact if_neg hi
def itemsC (c : SC) (k : Tri) : List Int := sortI (((lkp c k).getD []).map Prod.fst)
def touched (u : List (Tri × Int)) (t : Tri) : List Tri := (allK t).filter fun k => !decide (cnt u k = 0)
/-- What a fact touches, where something is done. -/
def doneC (q : SC → Tri → Int → Bool × SC) (u : List (Tri × Int)) (c : SC) (f : FD) : List Tri × SC := dels (fun k c => (!(q c k f.1).1, (q c k f.1).2)) (touched u f.2) c
end Go.Gx.T12
namespace Go.Gx.T12
open Go.Gx Go.Gx.T10 Go.Gx.T11
theorem hwf_of {c : SC} {k : Tri} {h0 : List (Int × Int)} (e : lkp c k = some h0) (hw : ∀ q ∈ h0, (Lit.int .i64 q.1).wf = true) (hl : h0.length ≤ 5000) : ∀ h, lkp c k = some h → (∀ q ∈ h, (Lit.int .i64 q.1).wf = true) ∧ h.length ≤ 5000 := by
  intro h e'; rw [e] at e'; cases e'; exact ⟨hw, hl⟩
theorem dels_count {α σ : Type} (p : α → σ → Bool × σ) (I : Nat → σ → Prop) : ∀ (l : List α) (m : Nat) (s : σ), (∀ x ∈ l, ∀ m s, I m s → I (m + 1) (p x s).2) → I m s → I (m + l.length) (dels p l s).2
  | [], m, s, _, hi => hi
  | x :: t, m, s, h, hi => by
    have h1 := dels_count p I t (m + 1) (p x s).2 (fun y hy => h y (by simp [hy])) (h x (by simp) m s hi)
    simp only [dels, List.length_cons]
    rw [show m + (t.length + 1) = m + 1 + t.length by omega]; exact h1
theorem allK_len (t : Tri) : (allK t).length = 8 := rfl
theorem touched_len (u : List (Tri × Int)) (t : Tri) : (touched u t).length ≤ 8 := Nat.le_trans (List.length_filter_le _ _) (Nat.le_of_eq (allK_len t))
theorem touched_mem {u : List (Tri × Int)} {t k : Tri} (h : k ∈ touched u t) : ¬ cnt u k = 0 := by
  have := (List.mem_filter.1 h).2
  simpa using this
/-! ### a memory that is wanted some times, and dropped as often -/
def uK (o k : Tri) (i : Nat) : List (Tri × Int) := if i = 0 then [(o, 1)] else [(o, 1), (k, (i : Int))]
def cK (c : SC) (k : Tri) (i : Nat) : SC := if i = 0 then c else mput c k []
/-- Just one memory, whose facts are few. -/
def OneM (o : Tri) (j n : Nat) (c : SC) : Prop := ∃ h, c = [(o, h)] ∧ (∀ q ∈ h, 1 ≤ q.1 ∧ q.1 ≤ (j : Int)) ∧ h.length ≤ n
theorem OneM.start (o : Tri) : OneM o 0 0 (wantC [] o [] (cnt [] o)) := ⟨[], by simp [wantC, cnt, lkp, mput, fillC], by simp, by simp⟩
theorem OneM.add {o t : Tri} {j n : Nat} {c : SC} (h : OneM o j n c) (k : Tri) : OneM o (j + 1) (n + 8) (doneC putC (uK o k 0) c ((j : Int) + 1, t)).2 := by
  have h0 : OneM o (j + 1) n c := by
    obtain ⟨g, e, h1, h2⟩ := h
    exact ⟨g, e, fun q hq => by have := h1 q hq; omega, h2⟩
  have h3 := dels_count (fun x c => (!(putC c x ((j : Int) + 1)).1, (putC c x ((j : Int) + 1)).2)) (fun n c => OneM o (j + 1) n c) (touched (uK o k 0) t) n c (fun x hx m s hi => by
    have hx2 : x = o := by
      have h9 := touched_mem hx
      by_cases e : x = o
      · exact e
      · exfalso; apply h9; simp [uK, cnt, lkp, show ¬ o = x from fun e2 => e e2.symm]
    obtain ⟨g, rfl, h1, h2⟩ := hi
    subst hx2
    have hk : lkp [(x, g)] x = some g := by simp [lkp]
    by_cases hin : 0 < (lkp g ((j : Int) + 1)).getD 0
    · rw [putC_in hk hin]; exact ⟨g, rfl, h1, by omega⟩
    · rw [putC_new hk hin]
      refine ⟨mput g ((j : Int) + 1) 1, by simp [mput], fun q hq => ?_, by rw [mput_len]; split <;> omega⟩
      rcases mem_mput hq with rfl | hq
      · dsimp only; omega
      · exact h1 q hq) h0
  obtain ⟨g, e, h4, h5⟩ := h3
  have := touched_len (uK o k 0) t
  exact ⟨g, e, h4, by omega⟩
theorem OneM.wf {o : Tri} {j n : Nat} {c : SC} (h : OneM o j n c) (hj : j ≤ 1000) (hn : n ≤ 5000) : ∀ h, lkp c o = some h → (∀ q ∈ h, (Lit.int .i64 q.1).wf = true) ∧ h.length ≤ 5000 := by
  obtain ⟨g, rfl, h1, h2⟩ := h
  exact hwf_of (h0 := g) (by simp [lkp]) (fun q hq => wf_mk (by have := h1 q hq; omega)) (by omega)
theorem OneM.none {o k : Tri} {j n : Nat} {c : SC} (h : OneM o j n c) (hk : ¬ o = k) : lkp c k = none := by
  obtain ⟨g, rfl, _⟩ := h
  simp [lkp, hk]
theorem items_none {c : SC} {k : Tri} (h : lkp c k = none) : itemsC c k = [] := by unfold itemsC sortI; rw [h]; simp
def keyR (k : Tri) : Bool := decide ((0 ≤ k.1 ∧ k.1 ≤ 4096) ∧ (0 ≤ k.2.1 ∧ k.2.1 ≤ 4096) ∧ 0 ≤ k.2.2 ∧ k.2.2 ≤ 4096)
theorem ints_eq {a b : List Int} (hl : a.length = b.length) (h : ∀ i, i < a.length → a.getD i 0 = b.getD i 0) : a = b := by
  apply List.ext_getElem? 
  intro i
  by_cases hi : i < a.length
  · have := h i hi
    simp [List.getD, hi, show i < b.length by omega] at this
    rw [List.getElem?_eq_getElem hi, List.getElem?_eq_getElem (by omega), this]
  · rw [List.getElem?_eq_none (by omega), List.getElem?_eq_none (by omega)]
end Go.Gx.T12
namespace Go.Gx.T12
open Go.Gx Go.Gx.T10 Go.Gx.T11
def awD : List Tri × SC := doneC putC (tAdd [] (0, 2, 0)) (wantC [] (0, 2, 0) [] (cnt [] (0, 2, 0))) (9, 1, 2, 3)
theorem awD_c : awD.2 = [((0, 2, 0), [(9, 1)])] := by decide +kernel
theorem items_awake : itemsC (doneC putC (tAdd [] (0, 2, 0)) (wantC [] (0, 2, 0) [] (cnt [] (0, 2, 0))) (9, 1, 2, 3)).2 (0, 2, 0) = [9] := by
  show itemsC awD.2 (0, 2, 0) = [9]
  rw [awD_c]
  simp [itemsC, lkp, sortI]
end Go.Gx.T12

/- Walks: what Go functions of this chapter come to, each as a function on plain data; no condition but those that each theorem names. Printed by a program of this work (gen.py). -/
namespace Go.Proofs.Ytdcaehepmkhciaa
open Go.Gx Go.Gx Go.Gx.T10 Go.Gx.T12 Go.Gx.T10 Go.Gx.T11

theorem c_khas (t k : Tri)  (w : World)  :
  Calls Try.prog 71 #[kT t, kT k] w (Ret fun r w' => r = Value.bool (hasK t k) ∧ Since nX w w') := by
 refine enter (args := [_, _]) (X := nX) (G := (fun _ => none)) (l := [(0, kT t), (1, kT k)]) Try.func71 rfl Try.ntmps71 (fun _ _ h => by cases h) ⟨rfl, rfl, trivial⟩ (Nat.le_of_ble_eq_true rfl) ?_
 refine c_seq ?_
 refine c_region ?_
 refine r_box .none rfl rfl (IsRow.lit _) (fun b_1 => ?_)
 refine r_box .none rfl rfl (IsRow.lit _) (fun b_2 => ?_)
 refine r_val .none rfl (p_assign rfl) ?_
 refine r_nil ?_
 refine e_next ?_
 refine c_seq ?_
 refine c_seq ?_
 refine c_region ?_
 refine r_val .none rfl (p_ldw (k := 0) Try.underlying61 rfl sz61 rfl rfl (rfl : _ = Value.agg #[_, _, _])) ?_
 refine r_val .none rfl (p_move rfl) ?_
 refine r_nil ?_
 refine e_next ?_
 refine c_block ?_
 refine c_unroll 4 ?_
 refine l_round (n := 3) ?_
 refine c_seq ?_
 refine c_region ?_
 refine r_val .none rfl (p_lt rfl rfl) ?_
 refine r_say (d := 9) (v := Value.bool true) rfl ?_
 refine r_nil ?_
 refine e_next ?_
 refine c_seq ?_
 refine c_cond_t rfl ?_
 refine c_skip ?_
 refine e_next ?_
 refine c_seq ?_
 refine c_block ?_
 refine c_seq ?_
 refine c_region ?_
 refine r_val .none rfl (p_move rfl) ?_
 refine r_val .none rfl (p_index (k := 0) Try.underlying61 Try.underlying3 rfl sz3 rfl (IsRow.lit _) rfl (by first | exact of_decide_eq_true rfl | omega) (rfl : _ = Value.int _ _)) ?_
 refine r_val .none rfl (p_assign rfl) ?_
 refine r_val .none rfl (p_assign rfl) ?_
 refine r_nil ?_
 refine e_next ?_
 refine c_seq ?_
 refine c_region ?_
 refine r_val .none rfl (p_move rfl) ?_
 refine r_val .none rfl (p_ne rfl rfl) ?_
 refine r_val .none rfl (p_move rfl) ?_
 refine r_splitd (d := 14) rfl (fun h_1 => ?_) (fun h_1 => ?_)
 ·
  first
   | (exfalso; omega)
   | (
    refine r_val (.some rfl rfl) rfl (p_move rfl) ?_
    refine r_val (.some rfl rfl) rfl (p_move rfl) ?_
    refine r_val (.some rfl rfl) rfl (p_iaddr (k := 0) Try.underlying61 sz3 rfl rfl (by first | exact of_decide_eq_true rfl | omega)) ?_
    refine r_val (.some rfl rfl) rfl (p_ld (k := 1) Try.underlying3 rfl rfl rfl (by first | exact of_decide_eq_true rfl | omega) (rfl : _ = Value.int _ _)) ?_
    refine r_val (.some rfl rfl) rfl (p_ne rfl rfl) ?_
    refine r_val .none rfl (p_pick_t rfl rfl) ?_
    refine r_nil ?_
    refine e_next ?_
    refine c_splitd (d := 20) rfl (fun h_2 => ?_) (fun h_2 => ?_)
    ·
     first
      | (exfalso; omega)
      | (
       refine c_cond_t rfl ?_
       refine c_seq ?_
       refine c_region ?_
       refine r_val .none rfl (p_assign rfl) ?_
       refine r_nil ?_
       refine e_next ?_
       refine c_ret ?_
       refine e_ret_block ?_
       refine e_ret_then ?_
       refine e_ret_then ?_
       refine e_ret_block ?_
       refine e_ret_then ?_
       refine e_ret1 Try.results71 (.tmp rfl .nil) (fun w hm => ⟨?_, hm.since⟩)
       (simp [hasK, triL, at_] at *; try omega)
       )
    ·
     first
      | (exfalso; omega)
      | (
       refine c_cond_f rfl ?_
       refine c_skip ?_
       refine e_norm_block ?_
       refine e_next ?_
       refine c_region ?_
       refine r_val .none rfl (p_add rfl rfl (by omega)) ?_
       refine r_val .none rfl (p_move rfl) ?_
       refine r_nil ?_
       refine e_again ?_
       refine l_round (n := 2) ?_
       refine c_seq ?_
       refine c_region ?_
       refine r_val .none rfl (p_lt rfl rfl) ?_
       refine r_say (d := 9) (v := Value.bool true) rfl ?_
       refine r_nil ?_
       refine e_next ?_
       refine c_seq ?_
       refine c_cond_t rfl ?_
       refine c_skip ?_
       refine e_next ?_
       refine c_seq ?_
       refine c_block ?_
       refine c_seq ?_
       refine c_region ?_
       refine r_val .none rfl (p_move rfl) ?_
       refine r_val .none rfl (p_index (k := 1) Try.underlying61 Try.underlying3 rfl sz3 rfl (IsRow.lit _) rfl (by first | exact of_decide_eq_true rfl | omega) (rfl : _ = Value.int _ _)) ?_
       refine r_val .none rfl (p_assign rfl) ?_
       refine r_val .none rfl (p_assign rfl) ?_
       refine r_nil ?_
       refine e_next ?_
       refine c_seq ?_
       refine c_region ?_
       refine r_val .none rfl (p_move rfl) ?_
       refine r_val .none rfl (p_ne rfl rfl) ?_
       refine r_val .none rfl (p_move rfl) ?_
       refine r_splitd (d := 14) rfl (fun h_3 => ?_) (fun h_3 => ?_)
       ·
        first
         | (exfalso; omega)
         | (
          refine r_val (.some rfl rfl) rfl (p_move rfl) ?_
          refine r_val (.some rfl rfl) rfl (p_move rfl) ?_
          refine r_val (.some rfl rfl) rfl (p_iaddr (k := 1) Try.underlying61 sz3 rfl rfl (by first | exact of_decide_eq_true rfl | omega)) ?_
          refine r_val (.some rfl rfl) rfl (p_ld (k := 1) Try.underlying3 rfl rfl rfl (by first | exact of_decide_eq_true rfl | omega) (rfl : _ = Value.int _ _)) ?_
          refine r_val (.some rfl rfl) rfl (p_ne rfl rfl) ?_
          refine r_val .none rfl (p_pick_t rfl rfl) ?_
          refine r_nil ?_
          refine e_next ?_
          refine c_splitd (d := 20) rfl (fun h_4 => ?_) (fun h_4 => ?_)
          ·
           first
            | (exfalso; omega)
            | (
             refine c_cond_t rfl ?_
             refine c_seq ?_
             refine c_region ?_
             refine r_val .none rfl (p_assign rfl) ?_
             refine r_nil ?_
             refine e_next ?_
             refine c_ret ?_
             refine e_ret_block ?_
             refine e_ret_then ?_
             refine e_ret_then ?_
             refine e_ret_block ?_
             refine e_ret_then ?_
             refine e_ret1 Try.results71 (.tmp rfl .nil) (fun w hm => ⟨?_, hm.since⟩)
             (simp [hasK, triL, at_] at *; try omega)
             )
          ·
           first
            | (exfalso; omega)
            | (
             refine c_cond_f rfl ?_
             refine c_skip ?_
             refine e_norm_block ?_
             refine e_next ?_
             refine c_region ?_
             refine r_val .none rfl (p_add rfl rfl (by omega)) ?_
             refine r_val .none rfl (p_move rfl) ?_
             refine r_nil ?_
             refine e_again ?_
             refine l_round (n := 1) ?_
             refine c_seq ?_
             refine c_region ?_
             refine r_val .none rfl (p_lt rfl rfl) ?_
             refine r_say (d := 9) (v := Value.bool true) rfl ?_
             refine r_nil ?_
             refine e_next ?_
             refine c_seq ?_
             refine c_cond_t rfl ?_
             refine c_skip ?_
             refine e_next ?_
             refine c_seq ?_
             refine c_block ?_
             refine c_seq ?_
             refine c_region ?_
             refine r_val .none rfl (p_move rfl) ?_
             refine r_val .none rfl (p_index (k := 2) Try.underlying61 Try.underlying3 rfl sz3 rfl (IsRow.lit _) rfl (by first | exact of_decide_eq_true rfl | omega) (rfl : _ = Value.int _ _)) ?_
             refine r_val .none rfl (p_assign rfl) ?_
             refine r_val .none rfl (p_assign rfl) ?_
             refine r_nil ?_
             refine e_next ?_
             refine c_seq ?_
             refine c_region ?_
             refine r_val .none rfl (p_move rfl) ?_
             refine r_val .none rfl (p_ne rfl rfl) ?_
             refine r_val .none rfl (p_move rfl) ?_
             refine r_splitd (d := 14) rfl (fun h_5 => ?_) (fun h_5 => ?_)
             ·
              first
               | (exfalso; omega)
               | (
                refine r_val (.some rfl rfl) rfl (p_move rfl) ?_
                refine r_val (.some rfl rfl) rfl (p_move rfl) ?_
                refine r_val (.some rfl rfl) rfl (p_iaddr (k := 2) Try.underlying61 sz3 rfl rfl (by first | exact of_decide_eq_true rfl | omega)) ?_
                refine r_val (.some rfl rfl) rfl (p_ld (k := 1) Try.underlying3 rfl rfl rfl (by first | exact of_decide_eq_true rfl | omega) (rfl : _ = Value.int _ _)) ?_
                refine r_val (.some rfl rfl) rfl (p_ne rfl rfl) ?_
                refine r_val .none rfl (p_pick_t rfl rfl) ?_
                refine r_nil ?_
                refine e_next ?_
                refine c_splitd (d := 20) rfl (fun h_6 => ?_) (fun h_6 => ?_)
                ·
                 first
                  | (exfalso; omega)
                  | (
                   refine c_cond_t rfl ?_
                   refine c_seq ?_
                   refine c_region ?_
                   refine r_val .none rfl (p_assign rfl) ?_
                   refine r_nil ?_
                   refine e_next ?_
                   refine c_ret ?_
                   refine e_ret_block ?_
                   refine e_ret_then ?_
                   refine e_ret_then ?_
                   refine e_ret_block ?_
                   refine e_ret_then ?_
                   refine e_ret1 Try.results71 (.tmp rfl .nil) (fun w hm => ⟨?_, hm.since⟩)
                   (simp [hasK, triL, at_] at *; try omega)
                   )
                ·
                 first
                  | (exfalso; omega)
                  | (
                   refine c_cond_f rfl ?_
                   refine c_skip ?_
                   refine e_norm_block ?_
                   refine e_next ?_
                   refine c_region ?_
                   refine r_val .none rfl (p_add rfl rfl (by omega)) ?_
                   refine r_val .none rfl (p_move rfl) ?_
                   refine r_nil ?_
                   refine e_again ?_
                   refine l_round (n := 0) ?_
                   refine c_seq ?_
                   refine c_region ?_
                   refine r_val .none rfl (p_lt rfl rfl) ?_
                   refine r_say (d := 9) (v := Value.bool false) rfl ?_
                   refine r_nil ?_
                   refine e_next ?_
                   refine c_seq ?_
                   refine c_cond_f rfl ?_
                   refine c_exit ?_
                   refine e_exit_then ?_
                   refine e_exit_then ?_
                   refine e_exit_block ?_
                   refine e_next ?_
                   refine c_seq ?_
                   refine c_region ?_
                   refine r_val .none rfl (p_assign rfl) ?_
                   refine r_nil ?_
                   refine e_next ?_
                   refine c_ret ?_
                   refine e_ret1 Try.results71 (.tmp rfl .nil) (fun w hm => ⟨?_, hm.since⟩)
                   (simp [hasK, triL, at_] at *; try omega)
                   )
                )
             ·
              first
               | (exfalso; omega)
               | (
                refine r_skip rfl (.no rfl rfl) ?_
                refine r_skip rfl (.no rfl rfl) ?_
                refine r_skip rfl (.no rfl rfl) ?_
                refine r_skip rfl (.no rfl rfl) ?_
                refine r_skip rfl (.no rfl rfl) ?_
                refine r_val .none rfl (p_pick_f rfl rfl) ?_
                refine r_nil ?_
                refine e_next ?_
                refine c_cond_f rfl ?_
                refine c_skip ?_
                refine e_norm_block ?_
                refine e_next ?_
                refine c_region ?_
                refine r_val .none rfl (p_add rfl rfl (by omega)) ?_
                refine r_val .none rfl (p_move rfl) ?_
                refine r_nil ?_
                refine e_again ?_
                refine l_round (n := 0) ?_
                refine c_seq ?_
                refine c_region ?_
                refine r_val .none rfl (p_lt rfl rfl) ?_
                refine r_say (d := 9) (v := Value.bool false) rfl ?_
                refine r_nil ?_
                refine e_next ?_
                refine c_seq ?_
                refine c_cond_f rfl ?_
                refine c_exit ?_
                refine e_exit_then ?_
                refine e_exit_then ?_
                refine e_exit_block ?_
                refine e_next ?_
                refine c_seq ?_
                refine c_region ?_
                refine r_val .none rfl (p_assign rfl) ?_
                refine r_nil ?_
                refine e_next ?_
                refine c_ret ?_
                refine e_ret1 Try.results71 (.tmp rfl .nil) (fun w hm => ⟨?_, hm.since⟩)
                (simp [hasK, triL, at_] at *; try omega)
                )
             )
          )
       ·
        first
         | (exfalso; omega)
         | (
          refine r_skip rfl (.no rfl rfl) ?_
          refine r_skip rfl (.no rfl rfl) ?_
          refine r_skip rfl (.no rfl rfl) ?_
          refine r_skip rfl (.no rfl rfl) ?_
          refine r_skip rfl (.no rfl rfl) ?_
          refine r_val .none rfl (p_pick_f rfl rfl) ?_
          refine r_nil ?_
          refine e_next ?_
          refine c_cond_f rfl ?_
          refine c_skip ?_
          refine e_norm_block ?_
          refine e_next ?_
          refine c_region ?_
          refine r_val .none rfl (p_add rfl rfl (by omega)) ?_
          refine r_val .none rfl (p_move rfl) ?_
          refine r_nil ?_
          refine e_again ?_
          refine l_round (n := 1) ?_
          refine c_seq ?_
          refine c_region ?_
          refine r_val .none rfl (p_lt rfl rfl) ?_
          refine r_say (d := 9) (v := Value.bool true) rfl ?_
          refine r_nil ?_
          refine e_next ?_
          refine c_seq ?_
          refine c_cond_t rfl ?_
          refine c_skip ?_
          refine e_next ?_
          refine c_seq ?_
          refine c_block ?_
          refine c_seq ?_
          refine c_region ?_
          refine r_val .none rfl (p_move rfl) ?_
          refine r_val .none rfl (p_index (k := 2) Try.underlying61 Try.underlying3 rfl sz3 rfl (IsRow.lit _) rfl (by first | exact of_decide_eq_true rfl | omega) (rfl : _ = Value.int _ _)) ?_
          refine r_val .none rfl (p_assign rfl) ?_
          refine r_val .none rfl (p_assign rfl) ?_
          refine r_nil ?_
          refine e_next ?_
          refine c_seq ?_
          refine c_region ?_
          refine r_val .none rfl (p_move rfl) ?_
          refine r_val .none rfl (p_ne rfl rfl) ?_
          refine r_val .none rfl (p_move rfl) ?_
          refine r_splitd (d := 14) rfl (fun h_7 => ?_) (fun h_7 => ?_)
          ·
           first
            | (exfalso; omega)
            | (
             refine r_val (.some rfl rfl) rfl (p_move rfl) ?_
             refine r_val (.some rfl rfl) rfl (p_move rfl) ?_
             refine r_val (.some rfl rfl) rfl (p_iaddr (k := 2) Try.underlying61 sz3 rfl rfl (by first | exact of_decide_eq_true rfl | omega)) ?_
             refine r_val (.some rfl rfl) rfl (p_ld (k := 1) Try.underlying3 rfl rfl rfl (by first | exact of_decide_eq_true rfl | omega) (rfl : _ = Value.int _ _)) ?_
             refine r_val (.some rfl rfl) rfl (p_ne rfl rfl) ?_
             refine r_val .none rfl (p_pick_t rfl rfl) ?_
             refine r_nil ?_
             refine e_next ?_
             refine c_splitd (d := 20) rfl (fun h_8 => ?_) (fun h_8 => ?_)
             ·
              first
               | (exfalso; omega)
               | (
                refine c_cond_t rfl ?_
                refine c_seq ?_
                refine c_region ?_
                refine r_val .none rfl (p_assign rfl) ?_
                refine r_nil ?_
                refine e_next ?_
                refine c_ret ?_
                refine e_ret_block ?_
                refine e_ret_then ?_
                refine e_ret_then ?_
                refine e_ret_block ?_
                refine e_ret_then ?_
                refine e_ret1 Try.results71 (.tmp rfl .nil) (fun w hm => ⟨?_, hm.since⟩)
                (simp [hasK, triL, at_] at *; try omega)
                )
             ·
              first
               | (exfalso; omega)
               | (
                refine c_cond_f rfl ?_
                refine c_skip ?_
                refine e_norm_block ?_
                refine e_next ?_
                refine c_region ?_
                refine r_val .none rfl (p_add rfl rfl (by omega)) ?_
                refine r_val .none rfl (p_move rfl) ?_
                refine r_nil ?_
                refine e_again ?_
                refine l_round (n := 0) ?_
                refine c_seq ?_
                refine c_region ?_
                refine r_val .none rfl (p_lt rfl rfl) ?_
                refine r_say (d := 9) (v := Value.bool false) rfl ?_
                refine r_nil ?_
                refine e_next ?_
                refine c_seq ?_
                refine c_cond_f rfl ?_
                refine c_exit ?_
                refine e_exit_then ?_
                refine e_exit_then ?_
                refine e_exit_block ?_
                refine e_next ?_
                refine c_seq ?_
                refine c_region ?_
                refine r_val .none rfl (p_assign rfl) ?_
                refine r_nil ?_
                refine e_next ?_
                refine c_ret ?_
                refine e_ret1 Try.results71 (.tmp rfl .nil) (fun w hm => ⟨?_, hm.since⟩)
                (simp [hasK, triL, at_] at *; try omega)
                )
             )
          ·
           first
            | (exfalso; omega)
            | (
             refine r_skip rfl (.no rfl rfl) ?_
             refine r_skip rfl (.no rfl rfl) ?_
             refine r_skip rfl (.no rfl rfl) ?_
             refine r_skip rfl (.no rfl rfl) ?_
             refine r_skip rfl (.no rfl rfl) ?_
             refine r_val .none rfl (p_pick_f rfl rfl) ?_
             refine r_nil ?_
             refine e_next ?_
             refine c_cond_f rfl ?_
             refine c_skip ?_
             refine e_norm_block ?_
             refine e_next ?_
             refine c_region ?_
             refine r_val .none rfl (p_add rfl rfl (by omega)) ?_
             refine r_val .none rfl (p_move rfl) ?_
             refine r_nil ?_
             refine e_again ?_
             refine l_round (n := 0) ?_
             refine c_seq ?_
             refine c_region ?_
             refine r_val .none rfl (p_lt rfl rfl) ?_
             refine r_say (d := 9) (v := Value.bool false) rfl ?_
             refine r_nil ?_
             refine e_next ?_
             refine c_seq ?_
             refine c_cond_f rfl ?_
             refine c_exit ?_
             refine e_exit_then ?_
             refine e_exit_then ?_
             refine e_exit_block ?_
             refine e_next ?_
             refine c_seq ?_
             refine c_region ?_
             refine r_val .none rfl (p_assign rfl) ?_
             refine r_nil ?_
             refine e_next ?_
             refine c_ret ?_
             refine e_ret1 Try.results71 (.tmp rfl .nil) (fun w hm => ⟨?_, hm.since⟩)
             (simp [hasK, triL, at_] at *; try omega)
             )
          )
       )
    )
 ·
  first
   | (exfalso; omega)
   | (
    refine r_skip rfl (.no rfl rfl) ?_
    refine r_skip rfl (.no rfl rfl) ?_
    refine r_skip rfl (.no rfl rfl) ?_
    refine r_skip rfl (.no rfl rfl) ?_
    refine r_skip rfl (.no rfl rfl) ?_
    refine r_val .none rfl (p_pick_f rfl rfl) ?_
    refine r_nil ?_
    refine e_next ?_
    refine c_cond_f rfl ?_
    refine c_skip ?_
    refine e_norm_block ?_
    refine e_next ?_
    refine c_region ?_
    refine r_val .none rfl (p_add rfl rfl (by omega)) ?_
    refine r_val .none rfl (p_move rfl) ?_
    refine r_nil ?_
    refine e_again ?_
    refine l_round (n := 2) ?_
    refine c_seq ?_
    refine c_region ?_
    refine r_val .none rfl (p_lt rfl rfl) ?_
    refine r_say (d := 9) (v := Value.bool true) rfl ?_
    refine r_nil ?_
    refine e_next ?_
    refine c_seq ?_
    refine c_cond_t rfl ?_
    refine c_skip ?_
    refine e_next ?_
    refine c_seq ?_
    refine c_block ?_
    refine c_seq ?_
    refine c_region ?_
    refine r_val .none rfl (p_move rfl) ?_
    refine r_val .none rfl (p_index (k := 1) Try.underlying61 Try.underlying3 rfl sz3 rfl (IsRow.lit _) rfl (by first | exact of_decide_eq_true rfl | omega) (rfl : _ = Value.int _ _)) ?_
    refine r_val .none rfl (p_assign rfl) ?_
    refine r_val .none rfl (p_assign rfl) ?_
    refine r_nil ?_
    refine e_next ?_
    refine c_seq ?_
    refine c_region ?_
    refine r_val .none rfl (p_move rfl) ?_
    refine r_val .none rfl (p_ne rfl rfl) ?_
    refine r_val .none rfl (p_move rfl) ?_
    refine r_splitd (d := 14) rfl (fun h_9 => ?_) (fun h_9 => ?_)
    ·
     first
      | (exfalso; omega)
      | (
       refine r_val (.some rfl rfl) rfl (p_move rfl) ?_
       refine r_val (.some rfl rfl) rfl (p_move rfl) ?_
       refine r_val (.some rfl rfl) rfl (p_iaddr (k := 1) Try.underlying61 sz3 rfl rfl (by first | exact of_decide_eq_true rfl | omega)) ?_
       refine r_val (.some rfl rfl) rfl (p_ld (k := 1) Try.underlying3 rfl rfl rfl (by first | exact of_decide_eq_true rfl | omega) (rfl : _ = Value.int _ _)) ?_
       refine r_val (.some rfl rfl) rfl (p_ne rfl rfl) ?_
       refine r_val .none rfl (p_pick_t rfl rfl) ?_
       refine r_nil ?_
       refine e_next ?_
       refine c_splitd (d := 20) rfl (fun h_10 => ?_) (fun h_10 => ?_)
       ·
        first
         | (exfalso; omega)
         | (
          refine c_cond_t rfl ?_
          refine c_seq ?_
          refine c_region ?_
          refine r_val .none rfl (p_assign rfl) ?_
          refine r_nil ?_
          refine e_next ?_
          refine c_ret ?_
          refine e_ret_block ?_
          refine e_ret_then ?_
          refine e_ret_then ?_
          refine e_ret_block ?_
          refine e_ret_then ?_
          refine e_ret1 Try.results71 (.tmp rfl .nil) (fun w hm => ⟨?_, hm.since⟩)
          (simp [hasK, triL, at_] at *; try omega)
          )
       ·
        first
         | (exfalso; omega)
         | (
          refine c_cond_f rfl ?_
          refine c_skip ?_
          refine e_norm_block ?_
          refine e_next ?_
          refine c_region ?_
          refine r_val .none rfl (p_add rfl rfl (by omega)) ?_
          refine r_val .none rfl (p_move rfl) ?_
          refine r_nil ?_
          refine e_again ?_
          refine l_round (n := 1) ?_
          refine c_seq ?_
          refine c_region ?_
          refine r_val .none rfl (p_lt rfl rfl) ?_
          refine r_say (d := 9) (v := Value.bool true) rfl ?_
          refine r_nil ?_
          refine e_next ?_
          refine c_seq ?_
          refine c_cond_t rfl ?_
          refine c_skip ?_
          refine e_next ?_
          refine c_seq ?_
          refine c_block ?_
          refine c_seq ?_
          refine c_region ?_
          refine r_val .none rfl (p_move rfl) ?_
          refine r_val .none rfl (p_index (k := 2) Try.underlying61 Try.underlying3 rfl sz3 rfl (IsRow.lit _) rfl (by first | exact of_decide_eq_true rfl | omega) (rfl : _ = Value.int _ _)) ?_
          refine r_val .none rfl (p_assign rfl) ?_
          refine r_val .none rfl (p_assign rfl) ?_
          refine r_nil ?_
          refine e_next ?_
          refine c_seq ?_
          refine c_region ?_
          refine r_val .none rfl (p_move rfl) ?_
          refine r_val .none rfl (p_ne rfl rfl) ?_
          refine r_val .none rfl (p_move rfl) ?_
          refine r_splitd (d := 14) rfl (fun h_11 => ?_) (fun h_11 => ?_)
          ·
           first
            | (exfalso; omega)
            | (
             refine r_val (.some rfl rfl) rfl (p_move rfl) ?_
             refine r_val (.some rfl rfl) rfl (p_move rfl) ?_
             refine r_val (.some rfl rfl) rfl (p_iaddr (k := 2) Try.underlying61 sz3 rfl rfl (by first | exact of_decide_eq_true rfl | omega)) ?_
             refine r_val (.some rfl rfl) rfl (p_ld (k := 1) Try.underlying3 rfl rfl rfl (by first | exact of_decide_eq_true rfl | omega) (rfl : _ = Value.int _ _)) ?_
             refine r_val (.some rfl rfl) rfl (p_ne rfl rfl) ?_
             refine r_val .none rfl (p_pick_t rfl rfl) ?_
             refine r_nil ?_
             refine e_next ?_
             refine c_splitd (d := 20) rfl (fun h_12 => ?_) (fun h_12 => ?_)
             ·
              first
               | (exfalso; omega)
               | (
                refine c_cond_t rfl ?_
                refine c_seq ?_
                refine c_region ?_
                refine r_val .none rfl (p_assign rfl) ?_
                refine r_nil ?_
                refine e_next ?_
                refine c_ret ?_
                refine e_ret_block ?_
                refine e_ret_then ?_
                refine e_ret_then ?_
                refine e_ret_block ?_
                refine e_ret_then ?_
                refine e_ret1 Try.results71 (.tmp rfl .nil) (fun w hm => ⟨?_, hm.since⟩)
                (simp [hasK, triL, at_] at *; try omega)
                )
             ·
              first
               | (exfalso; omega)
               | (
                refine c_cond_f rfl ?_
                refine c_skip ?_
                refine e_norm_block ?_
                refine e_next ?_
                refine c_region ?_
                refine r_val .none rfl (p_add rfl rfl (by omega)) ?_
                refine r_val .none rfl (p_move rfl) ?_
                refine r_nil ?_
                refine e_again ?_
                refine l_round (n := 0) ?_
                refine c_seq ?_
                refine c_region ?_
                refine r_val .none rfl (p_lt rfl rfl) ?_
                refine r_say (d := 9) (v := Value.bool false) rfl ?_
                refine r_nil ?_
                refine e_next ?_
                refine c_seq ?_
                refine c_cond_f rfl ?_
                refine c_exit ?_
                refine e_exit_then ?_
                refine e_exit_then ?_
                refine e_exit_block ?_
                refine e_next ?_
                refine c_seq ?_
                refine c_region ?_
                refine r_val .none rfl (p_assign rfl) ?_
                refine r_nil ?_
                refine e_next ?_
                refine c_ret ?_
                refine e_ret1 Try.results71 (.tmp rfl .nil) (fun w hm => ⟨?_, hm.since⟩)
                (simp [hasK, triL, at_] at *; try omega)
                )
             )
          ·
           first
            | (exfalso; omega)
            | (
             refine r_skip rfl (.no rfl rfl) ?_
             refine r_skip rfl (.no rfl rfl) ?_
             refine r_skip rfl (.no rfl rfl) ?_
             refine r_skip rfl (.no rfl rfl) ?_
             refine r_skip rfl (.no rfl rfl) ?_
             refine r_val .none rfl (p_pick_f rfl rfl) ?_
             refine r_nil ?_
             refine e_next ?_
             refine c_cond_f rfl ?_
             refine c_skip ?_
             refine e_norm_block ?_
             refine e_next ?_
             refine c_region ?_
             refine r_val .none rfl (p_add rfl rfl (by omega)) ?_
             refine r_val .none rfl (p_move rfl) ?_
             refine r_nil ?_
             refine e_again ?_
             refine l_round (n := 0) ?_
             refine c_seq ?_
             refine c_region ?_
             refine r_val .none rfl (p_lt rfl rfl) ?_
             refine r_say (d := 9) (v := Value.bool false) rfl ?_
             refine r_nil ?_
             refine e_next ?_
             refine c_seq ?_
             refine c_cond_f rfl ?_
             refine c_exit ?_
             refine e_exit_then ?_
             refine e_exit_then ?_
             refine e_exit_block ?_
             refine e_next ?_
             refine c_seq ?_
             refine c_region ?_
             refine r_val .none rfl (p_assign rfl) ?_
             refine r_nil ?_
             refine e_next ?_
             refine c_ret ?_
             refine e_ret1 Try.results71 (.tmp rfl .nil) (fun w hm => ⟨?_, hm.since⟩)
             (simp [hasK, triL, at_] at *; try omega)
             )
          )
       )
    ·
     first
      | (exfalso; omega)
      | (
       refine r_skip rfl (.no rfl rfl) ?_
       refine r_skip rfl (.no rfl rfl) ?_
       refine r_skip rfl (.no rfl rfl) ?_
       refine r_skip rfl (.no rfl rfl) ?_
       refine r_skip rfl (.no rfl rfl) ?_
       refine r_val .none rfl (p_pick_f rfl rfl) ?_
       refine r_nil ?_
       refine e_next ?_
       refine c_cond_f rfl ?_
       refine c_skip ?_
       refine e_norm_block ?_
       refine e_next ?_
       refine c_region ?_
       refine r_val .none rfl (p_add rfl rfl (by omega)) ?_
       refine r_val .none rfl (p_move rfl) ?_
       refine r_nil ?_
       refine e_again ?_
       refine l_round (n := 1) ?_
       refine c_seq ?_
       refine c_region ?_
       refine r_val .none rfl (p_lt rfl rfl) ?_
       refine r_say (d := 9) (v := Value.bool true) rfl ?_
       refine r_nil ?_
       refine e_next ?_
       refine c_seq ?_
       refine c_cond_t rfl ?_
       refine c_skip ?_
       refine e_next ?_
       refine c_seq ?_
       refine c_block ?_
       refine c_seq ?_
       refine c_region ?_
       refine r_val .none rfl (p_move rfl) ?_
       refine r_val .none rfl (p_index (k := 2) Try.underlying61 Try.underlying3 rfl sz3 rfl (IsRow.lit _) rfl (by first | exact of_decide_eq_true rfl | omega) (rfl : _ = Value.int _ _)) ?_
       refine r_val .none rfl (p_assign rfl) ?_
       refine r_val .none rfl (p_assign rfl) ?_
       refine r_nil ?_
       refine e_next ?_
       refine c_seq ?_
       refine c_region ?_
       refine r_val .none rfl (p_move rfl) ?_
       refine r_val .none rfl (p_ne rfl rfl) ?_
       refine r_val .none rfl (p_move rfl) ?_
       refine r_splitd (d := 14) rfl (fun h_13 => ?_) (fun h_13 => ?_)
       ·
        first
         | (exfalso; omega)
         | (
          refine r_val (.some rfl rfl) rfl (p_move rfl) ?_
          refine r_val (.some rfl rfl) rfl (p_move rfl) ?_
          refine r_val (.some rfl rfl) rfl (p_iaddr (k := 2) Try.underlying61 sz3 rfl rfl (by first | exact of_decide_eq_true rfl | omega)) ?_
          refine r_val (.some rfl rfl) rfl (p_ld (k := 1) Try.underlying3 rfl rfl rfl (by first | exact of_decide_eq_true rfl | omega) (rfl : _ = Value.int _ _)) ?_
          refine r_val (.some rfl rfl) rfl (p_ne rfl rfl) ?_
          refine r_val .none rfl (p_pick_t rfl rfl) ?_
          refine r_nil ?_
          refine e_next ?_
          refine c_splitd (d := 20) rfl (fun h_14 => ?_) (fun h_14 => ?_)
          ·
           first
            | (exfalso; omega)
            | (
             refine c_cond_t rfl ?_
             refine c_seq ?_
             refine c_region ?_
             refine r_val .none rfl (p_assign rfl) ?_
             refine r_nil ?_
             refine e_next ?_
             refine c_ret ?_
             refine e_ret_block ?_
             refine e_ret_then ?_
             refine e_ret_then ?_
             refine e_ret_block ?_
             refine e_ret_then ?_
             refine e_ret1 Try.results71 (.tmp rfl .nil) (fun w hm => ⟨?_, hm.since⟩)
             (simp [hasK, triL, at_] at *; try omega)
             )
          ·
           first
            | (exfalso; omega)
            | (
             refine c_cond_f rfl ?_
             refine c_skip ?_
             refine e_norm_block ?_
             refine e_next ?_
             refine c_region ?_
             refine r_val .none rfl (p_add rfl rfl (by omega)) ?_
             refine r_val .none rfl (p_move rfl) ?_
             refine r_nil ?_
             refine e_again ?_
             refine l_round (n := 0) ?_
             refine c_seq ?_
             refine c_region ?_
             refine r_val .none rfl (p_lt rfl rfl) ?_
             refine r_say (d := 9) (v := Value.bool false) rfl ?_
             refine r_nil ?_
             refine e_next ?_
             refine c_seq ?_
             refine c_cond_f rfl ?_
             refine c_exit ?_
             refine e_exit_then ?_
             refine e_exit_then ?_
             refine e_exit_block ?_
             refine e_next ?_
             refine c_seq ?_
             refine c_region ?_
             refine r_val .none rfl (p_assign rfl) ?_
             refine r_nil ?_
             refine e_next ?_
             refine c_ret ?_
             refine e_ret1 Try.results71 (.tmp rfl .nil) (fun w hm => ⟨?_, hm.since⟩)
             (simp [hasK, triL, at_] at *; try omega)
             )
          )
       ·
        first
         | (exfalso; omega)
         | (
          refine r_skip rfl (.no rfl rfl) ?_
          refine r_skip rfl (.no rfl rfl) ?_
          refine r_skip rfl (.no rfl rfl) ?_
          refine r_skip rfl (.no rfl rfl) ?_
          refine r_skip rfl (.no rfl rfl) ?_
          refine r_val .none rfl (p_pick_f rfl rfl) ?_
          refine r_nil ?_
          refine e_next ?_
          refine c_cond_f rfl ?_
          refine c_skip ?_
          refine e_norm_block ?_
          refine e_next ?_
          refine c_region ?_
          refine r_val .none rfl (p_add rfl rfl (by omega)) ?_
          refine r_val .none rfl (p_move rfl) ?_
          refine r_nil ?_
          refine e_again ?_
          refine l_round (n := 0) ?_
          refine c_seq ?_
          refine c_region ?_
          refine r_val .none rfl (p_lt rfl rfl) ?_
          refine r_say (d := 9) (v := Value.bool false) rfl ?_
          refine r_nil ?_
          refine e_next ?_
          refine c_seq ?_
          refine c_cond_f rfl ?_
          refine c_exit ?_
          refine e_exit_then ?_
          refine e_exit_then ?_
          refine e_exit_block ?_
          refine e_next ?_
          refine c_seq ?_
          refine c_region ?_
          refine r_val .none rfl (p_assign rfl) ?_
          refine r_nil ?_
          refine e_next ?_
          refine c_ret ?_
          refine e_ret1 Try.results71 (.tmp rfl .nil) (fun w hm => ⟨?_, hm.since⟩)
          (simp [hasK, triL, at_] at *; try omega)
          )
       )
    )
set_option maxRecDepth 100000 in
theorem c_kall (t : Tri)  (w : World)  :
  Calls Try.prog 83 #[kT t] w (Ret fun r w' => Since nX w w' ∧ ∃ F', (rowA r 61 3 (allK t).length ((allK t).flatMap triL)).holds w' F' ∧ ∀ b, F' b → w.heap.size ≤ b) := by
 refine enter (args := [_]) (X := nX) (G := (fun _ => none)) (l := [(0, kT t)]) Try.func83 rfl Try.ntmps83 (fun _ _ h => by cases h) ⟨rfl, trivial⟩ (Nat.le_of_ble_eq_true rfl) ?_
 refine c_seq ?_
 refine c_region ?_
 refine r_box .none rfl rfl (IsRow.lit _) (fun b_1 => ?_)
 refine r_val .none rfl (p_assign rfl) ?_
 refine r_nil ?_
 refine e_next ?_
 refine c_seq ?_
 refine c_region ?_
 refine r_mkslice (m := 8) (n := 24) (f := at_ [Value.int .i64 0, Value.int .i64 0, Value.int .i64 0, Value.int .i64 0, Value.int .i64 0, Value.int .i64 0, Value.int .i64 0, Value.int .i64 0, Value.int .i64 0, Value.int .i64 0, Value.int .i64 0, Value.int .i64 0, Value.int .i64 0, Value.int .i64 0, Value.int .i64 0, Value.int .i64 0, Value.int .i64 0, Value.int .i64 0, Value.int .i64 0, Value.int .i64 0, Value.int .i64 0, Value.int .i64 0, Value.int .i64 0, Value.int .i64 0]) .none rfl Try.underlying56 el61 rfl rfl (by decide) (by decide) (by decide) (mk_lit (L := [Value.int .i64 0, Value.int .i64 0, Value.int .i64 0, Value.int .i64 0, Value.int .i64 0, Value.int .i64 0, Value.int .i64 0, Value.int .i64 0, Value.int .i64 0, Value.int .i64 0, Value.int .i64 0, Value.int .i64 0, Value.int .i64 0, Value.int .i64 0, Value.int .i64 0, Value.int .i64 0, Value.int .i64 0, Value.int .i64 0, Value.int .i64 0, Value.int .i64 0, Value.int .i64 0, Value.int .i64 0, Value.int .i64 0, Value.int .i64 0]) (by kernel_rfl)) (fun b_2 => ?_)
 refine r_val .none rfl (p_assign rfl) ?_
 refine r_nil ?_
 refine e_next ?_
 refine c_seq ?_
 refine c_seq ?_
 refine c_region ?_
 refine r_val .none rfl (p_move rfl) ?_
 refine r_nil ?_
 refine e_next ?_
 refine c_block ?_
 refine c_unroll 9 ?_
 refine l_round (n := 8) ?_
 refine c_seq ?_
 refine c_region ?_
 refine r_val .none rfl (p_lt rfl rfl) ?_
 refine r_say (d := 9) (v := Value.bool true) rfl ?_
 refine r_nil ?_
 refine e_next ?_
 refine c_seq ?_
 refine c_cond_t rfl ?_
 refine c_skip ?_
 refine e_next ?_
 refine c_seq ?_
 refine c_block ?_
 refine c_seq ?_
 refine c_region ?_
 refine r_val .none rfl (p_move rfl) ?_
 refine r_val .none rfl (p_assign rfl) ?_
 refine r_nil ?_
 refine e_next ?_
 refine c_seq ?_
 refine c_region ?_
 refine r_val .none rfl (p_ldw (k := 1) Try.underlying61 rfl sz61 rfl rfl (rfl : _ = Value.agg #[_, _, _])) ?_
 refine r_val .none rfl (p_move rfl) ?_
 refine r_nil ?_
 refine e_next ?_
 refine c_block ?_
 refine c_unroll 4 ?_
 refine l_round (n := 3) ?_
 refine c_seq ?_
 refine c_region ?_
 refine r_val .none rfl (p_lt rfl rfl) ?_
 refine r_say (d := 13) (v := Value.bool true) rfl ?_
 refine r_nil ?_
 refine e_next ?_
 refine c_seq ?_
 refine c_cond_t rfl ?_
 refine c_skip ?_
 refine e_next ?_
 refine c_seq ?_
 refine c_block ?_
 refine c_seq ?_
 refine c_region ?_
 refine r_val .none rfl (p_move rfl) ?_
 refine r_val .none rfl (p_index (k := 0) Try.underlying61 Try.underlying3 rfl sz3 rfl (IsRow.lit _) rfl (by first | exact of_decide_eq_true rfl | omega) (rfl : _ = Value.int _ _)) ?_
 refine r_val .none rfl (p_assign rfl) ?_
 refine r_val .none rfl (p_assign rfl) ?_
 refine r_nil ?_
 refine e_next ?_
 refine c_seq ?_
 refine c_region ?_
 refine r_val .none rfl (p_move rfl) ?_
 refine r_val .none rfl (p_move rfl) ?_
 refine r_val .none rfl (p_shr (z := 0) rfl rfl (by decide) (by decide)) ?_
 refine r_val .none rfl (p_and (z := 0) rfl rfl (fun _ => by kernel_rfl)) ?_
 refine r_val .none rfl (p_eq rfl rfl) ?_
 refine r_say (d := 20) (v := Value.bool false) rfl ?_
 refine r_nil ?_
 refine e_next ?_
 refine c_cond_f rfl ?_
 refine c_skip ?_
 refine e_norm_block ?_
 refine e_next ?_
 refine c_region ?_
 refine r_val .none rfl (p_add rfl rfl (by omega)) ?_
 refine r_val .none rfl (p_move rfl) ?_
 refine r_nil ?_
 refine e_again ?_
 refine l_round (n := 2) ?_
 refine c_seq ?_
 refine c_region ?_
 refine r_val .none rfl (p_lt rfl rfl) ?_
 refine r_say (d := 13) (v := Value.bool true) rfl ?_
 refine r_nil ?_
 refine e_next ?_
 refine c_seq ?_
 refine c_cond_t rfl ?_
 refine c_skip ?_
 refine e_next ?_
 refine c_seq ?_
 refine c_block ?_
 refine c_seq ?_
 refine c_region ?_
 refine r_val .none rfl (p_move rfl) ?_
 refine r_val .none rfl (p_index (k := 1) Try.underlying61 Try.underlying3 rfl sz3 rfl (IsRow.lit _) rfl (by first | exact of_decide_eq_true rfl | omega) (rfl : _ = Value.int _ _)) ?_
 refine r_val .none rfl (p_assign rfl) ?_
 refine r_val .none rfl (p_assign rfl) ?_
 refine r_nil ?_
 refine e_next ?_
 refine c_seq ?_
 refine c_region ?_
 refine r_val .none rfl (p_move rfl) ?_
 refine r_val .none rfl (p_move rfl) ?_
 refine r_val .none rfl (p_shr (z := 0) rfl rfl (by decide) (by decide)) ?_
 refine r_val .none rfl (p_and (z := 0) rfl rfl (fun _ => by kernel_rfl)) ?_
 refine r_val .none rfl (p_eq rfl rfl) ?_
 refine r_say (d := 20) (v := Value.bool false) rfl ?_
 refine r_nil ?_
 refine e_next ?_
 refine c_cond_f rfl ?_
 refine c_skip ?_
 refine e_norm_block ?_
 refine e_next ?_
 refine c_region ?_
 refine r_val .none rfl (p_add rfl rfl (by omega)) ?_
 refine r_val .none rfl (p_move rfl) ?_
 refine r_nil ?_
 refine e_again ?_
 refine l_round (n := 1) ?_
 refine c_seq ?_
 refine c_region ?_
 refine r_val .none rfl (p_lt rfl rfl) ?_
 refine r_say (d := 13) (v := Value.bool true) rfl ?_
 refine r_nil ?_
 refine e_next ?_
 refine c_seq ?_
 refine c_cond_t rfl ?_
 refine c_skip ?_
 refine e_next ?_
 refine c_seq ?_
 refine c_block ?_
 refine c_seq ?_
 refine c_region ?_
 refine r_val .none rfl (p_move rfl) ?_
 refine r_val .none rfl (p_index (k := 2) Try.underlying61 Try.underlying3 rfl sz3 rfl (IsRow.lit _) rfl (by first | exact of_decide_eq_true rfl | omega) (rfl : _ = Value.int _ _)) ?_
 refine r_val .none rfl (p_assign rfl) ?_
 refine r_val .none rfl (p_assign rfl) ?_
 refine r_nil ?_
 refine e_next ?_
 refine c_seq ?_
 refine c_region ?_
 refine r_val .none rfl (p_move rfl) ?_
 refine r_val .none rfl (p_move rfl) ?_
 refine r_val .none rfl (p_shr (z := 0) rfl rfl (by decide) (by decide)) ?_
 refine r_val .none rfl (p_and (z := 0) rfl rfl (fun _ => by kernel_rfl)) ?_
 refine r_val .none rfl (p_eq rfl rfl) ?_
 refine r_say (d := 20) (v := Value.bool false) rfl ?_
 refine r_nil ?_
 refine e_next ?_
 refine c_cond_f rfl ?_
 refine c_skip ?_
 refine e_norm_block ?_
 refine e_next ?_
 refine c_region ?_
 refine r_val .none rfl (p_add rfl rfl (by omega)) ?_
 refine r_val .none rfl (p_move rfl) ?_
 refine r_nil ?_
 refine e_again ?_
 refine l_round (n := 0) ?_
 refine c_seq ?_
 refine c_region ?_
 refine r_val .none rfl (p_lt rfl rfl) ?_
 refine r_say (d := 13) (v := Value.bool false) rfl ?_
 refine r_nil ?_
 refine e_next ?_
 refine c_seq ?_
 refine c_cond_f rfl ?_
 refine c_exit ?_
 refine e_exit_then ?_
 refine e_exit_then ?_
 refine e_exit_block ?_
 refine e_norm_block ?_
 refine e_next ?_
 refine c_region ?_
 refine r_val .none rfl (p_add rfl rfl (by omega)) ?_
 refine r_val .none rfl (p_move rfl) ?_
 refine r_nil ?_
 refine e_again ?_
 refine l_round (n := 7) ?_
 refine c_seq ?_
 refine c_region ?_
 refine r_val .none rfl (p_lt rfl rfl) ?_
 refine r_say (d := 9) (v := Value.bool true) rfl ?_
 refine r_nil ?_
 refine e_next ?_
 refine c_seq ?_
 refine c_cond_t rfl ?_
 refine c_skip ?_
 refine e_next ?_
 refine c_seq ?_
 refine c_block ?_
 refine c_seq ?_
 refine c_region ?_
 refine r_val .none rfl (p_move rfl) ?_
 refine r_val .none rfl (p_assign rfl) ?_
 refine r_nil ?_
 refine e_next ?_
 refine c_seq ?_
 refine c_region ?_
 refine r_val .none rfl (p_ldw (k := 1) Try.underlying61 rfl sz61 rfl rfl (rfl : _ = Value.agg #[_, _, _])) ?_
 refine r_val .none rfl (p_move rfl) ?_
 refine r_nil ?_
 refine e_next ?_
 refine c_block ?_
 refine c_unroll 4 ?_
 refine l_round (n := 3) ?_
 refine c_seq ?_
 refine c_region ?_
 refine r_val .none rfl (p_lt rfl rfl) ?_
 refine r_say (d := 13) (v := Value.bool true) rfl ?_
 refine r_nil ?_
 refine e_next ?_
 refine c_seq ?_
 refine c_cond_t rfl ?_
 refine c_skip ?_
 refine e_next ?_
 refine c_seq ?_
 refine c_block ?_
 refine c_seq ?_
 refine c_region ?_
 refine r_val .none rfl (p_move rfl) ?_
 refine r_val .none rfl (p_index (k := 0) Try.underlying61 Try.underlying3 rfl sz3 rfl (IsRow.lit _) rfl (by first | exact of_decide_eq_true rfl | omega) (rfl : _ = Value.int _ _)) ?_
 refine r_val .none rfl (p_assign rfl) ?_
 refine r_val .none rfl (p_assign rfl) ?_
 refine r_nil ?_
 refine e_next ?_
 refine c_seq ?_
 refine c_region ?_
 refine r_val .none rfl (p_move rfl) ?_
 refine r_val .none rfl (p_move rfl) ?_
 refine r_val .none rfl (p_shr (z := 1) rfl rfl (by decide) (by decide)) ?_
 refine r_val .none rfl (p_and (z := 1) rfl rfl (fun _ => by kernel_rfl)) ?_
 refine r_val .none rfl (p_eq rfl rfl) ?_
 refine r_say (d := 20) (v := Value.bool true) rfl ?_
 refine r_nil ?_
 refine e_next ?_
 refine c_cond_t rfl ?_
 refine c_region ?_
 refine r_val .none rfl (p_move rfl) ?_
 refine r_val .none rfl (p_move rfl) ?_
 refine r_val .none rfl (p_move rfl) ?_
 refine r_val .none rfl (p_move rfl) ?_
 refine r_val .none rfl (iaddr_o (i := 1) Try.underlying56 sz61 rfl rfl rfl (by first | exact of_decide_eq_true rfl | omega)) ?_
 refine r_val .none rfl (p_iaddr (k := 0) Try.underlying61 sz3 rfl rfl (by first | exact of_decide_eq_true rfl | omega)) ?_
 refine r_st (k := 0) .none sz3 rfl rfl rfl rfl (by first | exact of_decide_eq_true rfl | omega) ?_
 refine r_nil ?_
 refine e_norm_block ?_
 refine e_next ?_
 refine c_region ?_
 refine r_val .none rfl (p_add rfl rfl (by omega)) ?_
 refine r_val .none rfl (p_move rfl) ?_
 refine r_nil ?_
 refine e_again ?_
 refine l_round (n := 2) ?_
 refine c_seq ?_
 refine c_region ?_
 refine r_val .none rfl (p_lt rfl rfl) ?_
 refine r_say (d := 13) (v := Value.bool true) rfl ?_
 refine r_nil ?_
 refine e_next ?_
 refine c_seq ?_
 refine c_cond_t rfl ?_
 refine c_skip ?_
 refine e_next ?_
 refine c_seq ?_
 refine c_block ?_
 refine c_seq ?_
 refine c_region ?_
 refine r_val .none rfl (p_move rfl) ?_
 refine r_val .none rfl (p_index (k := 1) Try.underlying61 Try.underlying3 rfl sz3 rfl (IsRow.lit _) rfl (by first | exact of_decide_eq_true rfl | omega) (rfl : _ = Value.int _ _)) ?_
 refine r_val .none rfl (p_assign rfl) ?_
 refine r_val .none rfl (p_assign rfl) ?_
 refine r_nil ?_
 refine e_next ?_
 refine c_seq ?_
 refine c_region ?_
 refine r_val .none rfl (p_move rfl) ?_
 refine r_val .none rfl (p_move rfl) ?_
 refine r_val .none rfl (p_shr (z := 0) rfl rfl (by decide) (by decide)) ?_
 refine r_val .none rfl (p_and (z := 0) rfl rfl (fun _ => by kernel_rfl)) ?_
 refine r_val .none rfl (p_eq rfl rfl) ?_
 refine r_say (d := 20) (v := Value.bool false) rfl ?_
 refine r_nil ?_
 refine e_next ?_
 refine c_cond_f rfl ?_
 refine c_skip ?_
 refine e_norm_block ?_
 refine e_next ?_
 refine c_region ?_
 refine r_val .none rfl (p_add rfl rfl (by omega)) ?_
 refine r_val .none rfl (p_move rfl) ?_
 refine r_nil ?_
 refine e_again ?_
 refine l_round (n := 1) ?_
 refine c_seq ?_
 refine c_region ?_
 refine r_val .none rfl (p_lt rfl rfl) ?_
 refine r_say (d := 13) (v := Value.bool true) rfl ?_
 refine r_nil ?_
 refine e_next ?_
 refine c_seq ?_
 refine c_cond_t rfl ?_
 refine c_skip ?_
 refine e_next ?_
 refine c_seq ?_
 refine c_block ?_
 refine c_seq ?_
 refine c_region ?_
 refine r_val .none rfl (p_move rfl) ?_
 refine r_val .none rfl (p_index (k := 2) Try.underlying61 Try.underlying3 rfl sz3 rfl (IsRow.lit _) rfl (by first | exact of_decide_eq_true rfl | omega) (rfl : _ = Value.int _ _)) ?_
 refine r_val .none rfl (p_assign rfl) ?_
 refine r_val .none rfl (p_assign rfl) ?_
 refine r_nil ?_
 refine e_next ?_
 refine c_seq ?_
 refine c_region ?_
 refine r_val .none rfl (p_move rfl) ?_
 refine r_val .none rfl (p_move rfl) ?_
 refine r_val .none rfl (p_shr (z := 0) rfl rfl (by decide) (by decide)) ?_
 refine r_val .none rfl (p_and (z := 0) rfl rfl (fun _ => by kernel_rfl)) ?_
 refine r_val .none rfl (p_eq rfl rfl) ?_
 refine r_say (d := 20) (v := Value.bool false) rfl ?_
 refine r_nil ?_
 refine e_next ?_
 refine c_cond_f rfl ?_
 refine c_skip ?_
 refine e_norm_block ?_
 refine e_next ?_
 refine c_region ?_
 refine r_val .none rfl (p_add rfl rfl (by omega)) ?_
 refine r_val .none rfl (p_move rfl) ?_
 refine r_nil ?_
 refine e_again ?_
 refine l_round (n := 0) ?_
 refine c_seq ?_
 refine c_region ?_
 refine r_val .none rfl (p_lt rfl rfl) ?_
 refine r_say (d := 13) (v := Value.bool false) rfl ?_
 refine r_nil ?_
 refine e_next ?_
 refine c_seq ?_
 refine c_cond_f rfl ?_
 refine c_exit ?_
 refine e_exit_then ?_
 refine e_exit_then ?_
 refine e_exit_block ?_
 refine e_norm_block ?_
 refine e_next ?_
 refine c_region ?_
 refine r_val .none rfl (p_add rfl rfl (by omega)) ?_
 refine r_val .none rfl (p_move rfl) ?_
 refine r_nil ?_
 refine e_again ?_
 refine l_round (n := 6) ?_
 refine c_seq ?_
 refine c_region ?_
 refine r_val .none rfl (p_lt rfl rfl) ?_
 refine r_say (d := 9) (v := Value.bool true) rfl ?_
 refine r_nil ?_
 refine e_next ?_
 refine c_seq ?_
 refine c_cond_t rfl ?_
 refine c_skip ?_
 refine e_next ?_
 refine c_seq ?_
 refine c_block ?_
 refine c_seq ?_
 refine c_region ?_
 refine r_val .none rfl (p_move rfl) ?_
 refine r_val .none rfl (p_assign rfl) ?_
 refine r_nil ?_
 refine e_next ?_
 refine c_seq ?_
 refine c_region ?_
 refine r_val .none rfl (p_ldw (k := 1) Try.underlying61 rfl sz61 rfl rfl (rfl : _ = Value.agg #[_, _, _])) ?_
 refine r_val .none rfl (p_move rfl) ?_
 refine r_nil ?_
 refine e_next ?_
 refine c_block ?_
 refine c_unroll 4 ?_
 refine l_round (n := 3) ?_
 refine c_seq ?_
 refine c_region ?_
 refine r_val .none rfl (p_lt rfl rfl) ?_
 refine r_say (d := 13) (v := Value.bool true) rfl ?_
 refine r_nil ?_
 refine e_next ?_
 refine c_seq ?_
 refine c_cond_t rfl ?_
 refine c_skip ?_
 refine e_next ?_
 refine c_seq ?_
 refine c_block ?_
 refine c_seq ?_
 refine c_region ?_
 refine r_val .none rfl (p_move rfl) ?_
 refine r_val .none rfl (p_index (k := 0) Try.underlying61 Try.underlying3 rfl sz3 rfl (IsRow.lit _) rfl (by first | exact of_decide_eq_true rfl | omega) (rfl : _ = Value.int _ _)) ?_
 refine r_val .none rfl (p_assign rfl) ?_
 refine r_val .none rfl (p_assign rfl) ?_
 refine r_nil ?_
 refine e_next ?_
 refine c_seq ?_
 refine c_region ?_
 refine r_val .none rfl (p_move rfl) ?_
 refine r_val .none rfl (p_move rfl) ?_
 refine r_val .none rfl (p_shr (z := 2) rfl rfl (by decide) (by decide)) ?_
 refine r_val .none rfl (p_and (z := 0) rfl rfl (fun _ => by kernel_rfl)) ?_
 refine r_val .none rfl (p_eq rfl rfl) ?_
 refine r_say (d := 20) (v := Value.bool false) rfl ?_
 refine r_nil ?_
 refine e_next ?_
 refine c_cond_f rfl ?_
 refine c_skip ?_
 refine e_norm_block ?_
 refine e_next ?_
 refine c_region ?_
 refine r_val .none rfl (p_add rfl rfl (by omega)) ?_
 refine r_val .none rfl (p_move rfl) ?_
 refine r_nil ?_
 refine e_again ?_
 refine l_round (n := 2) ?_
 refine c_seq ?_
 refine c_region ?_
 refine r_val .none rfl (p_lt rfl rfl) ?_
 refine r_say (d := 13) (v := Value.bool true) rfl ?_
 refine r_nil ?_
 refine e_next ?_
 refine c_seq ?_
 refine c_cond_t rfl ?_
 refine c_skip ?_
 refine e_next ?_
 refine c_seq ?_
 refine c_block ?_
 refine c_seq ?_
 refine c_region ?_
 refine r_val .none rfl (p_move rfl) ?_
 refine r_val .none rfl (p_index (k := 1) Try.underlying61 Try.underlying3 rfl sz3 rfl (IsRow.lit _) rfl (by first | exact of_decide_eq_true rfl | omega) (rfl : _ = Value.int _ _)) ?_
 refine r_val .none rfl (p_assign rfl) ?_
 refine r_val .none rfl (p_assign rfl) ?_
 refine r_nil ?_
 refine e_next ?_
 refine c_seq ?_
 refine c_region ?_
 refine r_val .none rfl (p_move rfl) ?_
 refine r_val .none rfl (p_move rfl) ?_
 refine r_val .none rfl (p_shr (z := 1) rfl rfl (by decide) (by decide)) ?_
 refine r_val .none rfl (p_and (z := 1) rfl rfl (fun _ => by kernel_rfl)) ?_
 refine r_val .none rfl (p_eq rfl rfl) ?_
 refine r_say (d := 20) (v := Value.bool true) rfl ?_
 refine r_nil ?_
 refine e_next ?_
 refine c_cond_t rfl ?_
 refine c_region ?_
 refine r_val .none rfl (p_move rfl) ?_
 refine r_val .none rfl (p_move rfl) ?_
 refine r_val .none rfl (p_move rfl) ?_
 refine r_val .none rfl (p_move rfl) ?_
 refine r_val .none rfl (iaddr_o (i := 2) Try.underlying56 sz61 rfl rfl rfl (by first | exact of_decide_eq_true rfl | omega)) ?_
 refine r_val .none rfl (p_iaddr (k := 1) Try.underlying61 sz3 rfl rfl (by first | exact of_decide_eq_true rfl | omega)) ?_
 refine r_st (k := 0) .none sz3 rfl rfl rfl rfl (by first | exact of_decide_eq_true rfl | omega) ?_
 refine r_nil ?_
 refine e_norm_block ?_
 refine e_next ?_
 refine c_region ?_
 refine r_val .none rfl (p_add rfl rfl (by omega)) ?_
 refine r_val .none rfl (p_move rfl) ?_
 refine r_nil ?_
 refine e_again ?_
 refine l_round (n := 1) ?_
 refine c_seq ?_
 refine c_region ?_
 refine r_val .none rfl (p_lt rfl rfl) ?_
 refine r_say (d := 13) (v := Value.bool true) rfl ?_
 refine r_nil ?_
 refine e_next ?_
 refine c_seq ?_
 refine c_cond_t rfl ?_
 refine c_skip ?_
 refine e_next ?_
 refine c_seq ?_
 refine c_block ?_
 refine c_seq ?_
 refine c_region ?_
 refine r_val .none rfl (p_move rfl) ?_
 refine r_val .none rfl (p_index (k := 2) Try.underlying61 Try.underlying3 rfl sz3 rfl (IsRow.lit _) rfl (by first | exact of_decide_eq_true rfl | omega) (rfl : _ = Value.int _ _)) ?_
 refine r_val .none rfl (p_assign rfl) ?_
 refine r_val .none rfl (p_assign rfl) ?_
 refine r_nil ?_
 refine e_next ?_
 refine c_seq ?_
 refine c_region ?_
 refine r_val .none rfl (p_move rfl) ?_
 refine r_val .none rfl (p_move rfl) ?_
 refine r_val .none rfl (p_shr (z := 0) rfl rfl (by decide) (by decide)) ?_
 refine r_val .none rfl (p_and (z := 0) rfl rfl (fun _ => by kernel_rfl)) ?_
 refine r_val .none rfl (p_eq rfl rfl) ?_
 refine r_say (d := 20) (v := Value.bool false) rfl ?_
 refine r_nil ?_
 refine e_next ?_
 refine c_cond_f rfl ?_
 refine c_skip ?_
 refine e_norm_block ?_
 refine e_next ?_
 refine c_region ?_
 refine r_val .none rfl (p_add rfl rfl (by omega)) ?_
 refine r_val .none rfl (p_move rfl) ?_
 refine r_nil ?_
 refine e_again ?_
 refine l_round (n := 0) ?_
 refine c_seq ?_
 refine c_region ?_
 refine r_val .none rfl (p_lt rfl rfl) ?_
 refine r_say (d := 13) (v := Value.bool false) rfl ?_
 refine r_nil ?_
 refine e_next ?_
 refine c_seq ?_
 refine c_cond_f rfl ?_
 refine c_exit ?_
 refine e_exit_then ?_
 refine e_exit_then ?_
 refine e_exit_block ?_
 refine e_norm_block ?_
 refine e_next ?_
 refine c_region ?_
 refine r_val .none rfl (p_add rfl rfl (by omega)) ?_
 refine r_val .none rfl (p_move rfl) ?_
 refine r_nil ?_
 refine e_again ?_
 refine l_round (n := 5) ?_
 refine c_seq ?_
 refine c_region ?_
 refine r_val .none rfl (p_lt rfl rfl) ?_
 refine r_say (d := 9) (v := Value.bool true) rfl ?_
 refine r_nil ?_
 refine e_next ?_
 refine c_seq ?_
 refine c_cond_t rfl ?_
 refine c_skip ?_
 refine e_next ?_
 refine c_seq ?_
 refine c_block ?_
 refine c_seq ?_
 refine c_region ?_
 refine r_val .none rfl (p_move rfl) ?_
 refine r_val .none rfl (p_assign rfl) ?_
 refine r_nil ?_
 refine e_next ?_
 refine c_seq ?_
 refine c_region ?_
 refine r_val .none rfl (p_ldw (k := 1) Try.underlying61 rfl sz61 rfl rfl (rfl : _ = Value.agg #[_, _, _])) ?_
 refine r_val .none rfl (p_move rfl) ?_
 refine r_nil ?_
 refine e_next ?_
 refine c_block ?_
 refine c_unroll 4 ?_
 refine l_round (n := 3) ?_
 refine c_seq ?_
 refine c_region ?_
 refine r_val .none rfl (p_lt rfl rfl) ?_
 refine r_say (d := 13) (v := Value.bool true) rfl ?_
 refine r_nil ?_
 refine e_next ?_
 refine c_seq ?_
 refine c_cond_t rfl ?_
 refine c_skip ?_
 refine e_next ?_
 refine c_seq ?_
 refine c_block ?_
 refine c_seq ?_
 refine c_region ?_
 refine r_val .none rfl (p_move rfl) ?_
 refine r_val .none rfl (p_index (k := 0) Try.underlying61 Try.underlying3 rfl sz3 rfl (IsRow.lit _) rfl (by first | exact of_decide_eq_true rfl | omega) (rfl : _ = Value.int _ _)) ?_
 refine r_val .none rfl (p_assign rfl) ?_
 refine r_val .none rfl (p_assign rfl) ?_
 refine r_nil ?_
 refine e_next ?_
 refine c_seq ?_
 refine c_region ?_
 refine r_val .none rfl (p_move rfl) ?_
 refine r_val .none rfl (p_move rfl) ?_
 refine r_val .none rfl (p_shr (z := 3) rfl rfl (by decide) (by decide)) ?_
 refine r_val .none rfl (p_and (z := 1) rfl rfl (fun _ => by kernel_rfl)) ?_
 refine r_val .none rfl (p_eq rfl rfl) ?_
 refine r_say (d := 20) (v := Value.bool true) rfl ?_
 refine r_nil ?_
 refine e_next ?_
 refine c_cond_t rfl ?_
 refine c_region ?_
 refine r_val .none rfl (p_move rfl) ?_
 refine r_val .none rfl (p_move rfl) ?_
 refine r_val .none rfl (p_move rfl) ?_
 refine r_val .none rfl (p_move rfl) ?_
 refine r_val .none rfl (iaddr_o (i := 3) Try.underlying56 sz61 rfl rfl rfl (by first | exact of_decide_eq_true rfl | omega)) ?_
 refine r_val .none rfl (p_iaddr (k := 0) Try.underlying61 sz3 rfl rfl (by first | exact of_decide_eq_true rfl | omega)) ?_
 refine r_st (k := 0) .none sz3 rfl rfl rfl rfl (by first | exact of_decide_eq_true rfl | omega) ?_
 refine r_nil ?_
 refine e_norm_block ?_
 refine e_next ?_
 refine c_region ?_
 refine r_val .none rfl (p_add rfl rfl (by omega)) ?_
 refine r_val .none rfl (p_move rfl) ?_
 refine r_nil ?_
 refine e_again ?_
 refine l_round (n := 2) ?_
 refine c_seq ?_
 refine c_region ?_
 refine r_val .none rfl (p_lt rfl rfl) ?_
 refine r_say (d := 13) (v := Value.bool true) rfl ?_
 refine r_nil ?_
 refine e_next ?_
 refine c_seq ?_
 refine c_cond_t rfl ?_
 refine c_skip ?_
 refine e_next ?_
 refine c_seq ?_
 refine c_block ?_
 refine c_seq ?_
 refine c_region ?_
 refine r_val .none rfl (p_move rfl) ?_
 refine r_val .none rfl (p_index (k := 1) Try.underlying61 Try.underlying3 rfl sz3 rfl (IsRow.lit _) rfl (by first | exact of_decide_eq_true rfl | omega) (rfl : _ = Value.int _ _)) ?_
 refine r_val .none rfl (p_assign rfl) ?_
 refine r_val .none rfl (p_assign rfl) ?_
 refine r_nil ?_
 refine e_next ?_
 refine c_seq ?_
 refine c_region ?_
 refine r_val .none rfl (p_move rfl) ?_
 refine r_val .none rfl (p_move rfl) ?_
 refine r_val .none rfl (p_shr (z := 1) rfl rfl (by decide) (by decide)) ?_
 refine r_val .none rfl (p_and (z := 1) rfl rfl (fun _ => by kernel_rfl)) ?_
 refine r_val .none rfl (p_eq rfl rfl) ?_
 refine r_say (d := 20) (v := Value.bool true) rfl ?_
 refine r_nil ?_
 refine e_next ?_
 refine c_cond_t rfl ?_
 refine c_region ?_
 refine r_val .none rfl (p_move rfl) ?_
 refine r_val .none rfl (p_move rfl) ?_
 refine r_val .none rfl (p_move rfl) ?_
 refine r_val .none rfl (p_move rfl) ?_
 refine r_val .none rfl (iaddr_o (i := 3) Try.underlying56 sz61 rfl rfl rfl (by first | exact of_decide_eq_true rfl | omega)) ?_
 refine r_val .none rfl (p_iaddr (k := 1) Try.underlying61 sz3 rfl rfl (by first | exact of_decide_eq_true rfl | omega)) ?_
 refine r_st (k := 0) .none sz3 rfl rfl rfl rfl (by first | exact of_decide_eq_true rfl | omega) ?_
 refine r_nil ?_
 refine e_norm_block ?_
 refine e_next ?_
 refine c_region ?_
 refine r_val .none rfl (p_add rfl rfl (by omega)) ?_
 refine r_val .none rfl (p_move rfl) ?_
 refine r_nil ?_
 refine e_again ?_
 refine l_round (n := 1) ?_
 refine c_seq ?_
 refine c_region ?_
 refine r_val .none rfl (p_lt rfl rfl) ?_
 refine r_say (d := 13) (v := Value.bool true) rfl ?_
 refine r_nil ?_
 refine e_next ?_
 refine c_seq ?_
 refine c_cond_t rfl ?_
 refine c_skip ?_
 refine e_next ?_
 refine c_seq ?_
 refine c_block ?_
 refine c_seq ?_
 refine c_region ?_
 refine r_val .none rfl (p_move rfl) ?_
 refine r_val .none rfl (p_index (k := 2) Try.underlying61 Try.underlying3 rfl sz3 rfl (IsRow.lit _) rfl (by first | exact of_decide_eq_true rfl | omega) (rfl : _ = Value.int _ _)) ?_
 refine r_val .none rfl (p_assign rfl) ?_
 refine r_val .none rfl (p_assign rfl) ?_
 refine r_nil ?_
 refine e_next ?_
 refine c_seq ?_
 refine c_region ?_
 refine r_val .none rfl (p_move rfl) ?_
 refine r_val .none rfl (p_move rfl) ?_
 refine r_val .none rfl (p_shr (z := 0) rfl rfl (by decide) (by decide)) ?_
 refine r_val .none rfl (p_and (z := 0) rfl rfl (fun _ => by kernel_rfl)) ?_
 refine r_val .none rfl (p_eq rfl rfl) ?_
 refine r_say (d := 20) (v := Value.bool false) rfl ?_
 refine r_nil ?_
 refine e_next ?_
 refine c_cond_f rfl ?_
 refine c_skip ?_
 refine e_norm_block ?_
 refine e_next ?_
 refine c_region ?_
 refine r_val .none rfl (p_add rfl rfl (by omega)) ?_
 refine r_val .none rfl (p_move rfl) ?_
 refine r_nil ?_
 refine e_again ?_
 refine l_round (n := 0) ?_
 refine c_seq ?_
 refine c_region ?_
 refine r_val .none rfl (p_lt rfl rfl) ?_
 refine r_say (d := 13) (v := Value.bool false) rfl ?_
 refine r_nil ?_
 refine e_next ?_
 refine c_seq ?_
 refine c_cond_f rfl ?_
 refine c_exit ?_
 refine e_exit_then ?_
 refine e_exit_then ?_
 refine e_exit_block ?_
 refine e_norm_block ?_
 refine e_next ?_
 refine c_region ?_
 refine r_val .none rfl (p_add rfl rfl (by omega)) ?_
 refine r_val .none rfl (p_move rfl) ?_
 refine r_nil ?_
 refine e_again ?_
 refine l_round (n := 4) ?_
 refine c_seq ?_
 refine c_region ?_
 refine r_val .none rfl (p_lt rfl rfl) ?_
 refine r_say (d := 9) (v := Value.bool true) rfl ?_
 refine r_nil ?_
 refine e_next ?_
 refine c_seq ?_
 refine c_cond_t rfl ?_
 refine c_skip ?_
 refine e_next ?_
 refine c_seq ?_
 refine c_block ?_
 refine c_seq ?_
 refine c_region ?_
 refine r_val .none rfl (p_move rfl) ?_
 refine r_val .none rfl (p_assign rfl) ?_
 refine r_nil ?_
 refine e_next ?_
 refine c_seq ?_
 refine c_region ?_
 refine r_val .none rfl (p_ldw (k := 1) Try.underlying61 rfl sz61 rfl rfl (rfl : _ = Value.agg #[_, _, _])) ?_
 refine r_val .none rfl (p_move rfl) ?_
 refine r_nil ?_
 refine e_next ?_
 refine c_block ?_
 refine c_unroll 4 ?_
 refine l_round (n := 3) ?_
 refine c_seq ?_
 refine c_region ?_
 refine r_val .none rfl (p_lt rfl rfl) ?_
 refine r_say (d := 13) (v := Value.bool true) rfl ?_
 refine r_nil ?_
 refine e_next ?_
 refine c_seq ?_
 refine c_cond_t rfl ?_
 refine c_skip ?_
 refine e_next ?_
 refine c_seq ?_
 refine c_block ?_
 refine c_seq ?_
 refine c_region ?_
 refine r_val .none rfl (p_move rfl) ?_
 refine r_val .none rfl (p_index (k := 0) Try.underlying61 Try.underlying3 rfl sz3 rfl (IsRow.lit _) rfl (by first | exact of_decide_eq_true rfl | omega) (rfl : _ = Value.int _ _)) ?_
 refine r_val .none rfl (p_assign rfl) ?_
 refine r_val .none rfl (p_assign rfl) ?_
 refine r_nil ?_
 refine e_next ?_
 refine c_seq ?_
 refine c_region ?_
 refine r_val .none rfl (p_move rfl) ?_
 refine r_val .none rfl (p_move rfl) ?_
 refine r_val .none rfl (p_shr (z := 4) rfl rfl (by decide) (by decide)) ?_
 refine r_val .none rfl (p_and (z := 0) rfl rfl (fun _ => by kernel_rfl)) ?_
 refine r_val .none rfl (p_eq rfl rfl) ?_
 refine r_say (d := 20) (v := Value.bool false) rfl ?_
 refine r_nil ?_
 refine e_next ?_
 refine c_cond_f rfl ?_
 refine c_skip ?_
 refine e_norm_block ?_
 refine e_next ?_
 refine c_region ?_
 refine r_val .none rfl (p_add rfl rfl (by omega)) ?_
 refine r_val .none rfl (p_move rfl) ?_
 refine r_nil ?_
 refine e_again ?_
 refine l_round (n := 2) ?_
 refine c_seq ?_
 refine c_region ?_
 refine r_val .none rfl (p_lt rfl rfl) ?_
 refine r_say (d := 13) (v := Value.bool true) rfl ?_
 refine r_nil ?_
 refine e_next ?_
 refine c_seq ?_
 refine c_cond_t rfl ?_
 refine c_skip ?_
 refine e_next ?_
 refine c_seq ?_
 refine c_block ?_
 refine c_seq ?_
 refine c_region ?_
 refine r_val .none rfl (p_move rfl) ?_
 refine r_val .none rfl (p_index (k := 1) Try.underlying61 Try.underlying3 rfl sz3 rfl (IsRow.lit _) rfl (by first | exact of_decide_eq_true rfl | omega) (rfl : _ = Value.int _ _)) ?_
 refine r_val .none rfl (p_assign rfl) ?_
 refine r_val .none rfl (p_assign rfl) ?_
 refine r_nil ?_
 refine e_next ?_
 refine c_seq ?_
 refine c_region ?_
 refine r_val .none rfl (p_move rfl) ?_
 refine r_val .none rfl (p_move rfl) ?_
 refine r_val .none rfl (p_shr (z := 2) rfl rfl (by decide) (by decide)) ?_
 refine r_val .none rfl (p_and (z := 0) rfl rfl (fun _ => by kernel_rfl)) ?_
 refine r_val .none rfl (p_eq rfl rfl) ?_
 refine r_say (d := 20) (v := Value.bool false) rfl ?_
 refine r_nil ?_
 refine e_next ?_
 refine c_cond_f rfl ?_
 refine c_skip ?_
 refine e_norm_block ?_
 refine e_next ?_
 refine c_region ?_
 refine r_val .none rfl (p_add rfl rfl (by omega)) ?_
 refine r_val .none rfl (p_move rfl) ?_
 refine r_nil ?_
 refine e_again ?_
 refine l_round (n := 1) ?_
 refine c_seq ?_
 refine c_region ?_
 refine r_val .none rfl (p_lt rfl rfl) ?_
 refine r_say (d := 13) (v := Value.bool true) rfl ?_
 refine r_nil ?_
 refine e_next ?_
 refine c_seq ?_
 refine c_cond_t rfl ?_
 refine c_skip ?_
 refine e_next ?_
 refine c_seq ?_
 refine c_block ?_
 refine c_seq ?_
 refine c_region ?_
 refine r_val .none rfl (p_move rfl) ?_
 refine r_val .none rfl (p_index (k := 2) Try.underlying61 Try.underlying3 rfl sz3 rfl (IsRow.lit _) rfl (by first | exact of_decide_eq_true rfl | omega) (rfl : _ = Value.int _ _)) ?_
 refine r_val .none rfl (p_assign rfl) ?_
 refine r_val .none rfl (p_assign rfl) ?_
 refine r_nil ?_
 refine e_next ?_
 refine c_seq ?_
 refine c_region ?_
 refine r_val .none rfl (p_move rfl) ?_
 refine r_val .none rfl (p_move rfl) ?_
 refine r_val .none rfl (p_shr (z := 1) rfl rfl (by decide) (by decide)) ?_
 refine r_val .none rfl (p_and (z := 1) rfl rfl (fun _ => by kernel_rfl)) ?_
 refine r_val .none rfl (p_eq rfl rfl) ?_
 refine r_say (d := 20) (v := Value.bool true) rfl ?_
 refine r_nil ?_
 refine e_next ?_
 refine c_cond_t rfl ?_
 refine c_region ?_
 refine r_val .none rfl (p_move rfl) ?_
 refine r_val .none rfl (p_move rfl) ?_
 refine r_val .none rfl (p_move rfl) ?_
 refine r_val .none rfl (p_move rfl) ?_
 refine r_val .none rfl (iaddr_o (i := 4) Try.underlying56 sz61 rfl rfl rfl (by first | exact of_decide_eq_true rfl | omega)) ?_
 refine r_val .none rfl (p_iaddr (k := 2) Try.underlying61 sz3 rfl rfl (by first | exact of_decide_eq_true rfl | omega)) ?_
 refine r_st (k := 0) .none sz3 rfl rfl rfl rfl (by first | exact of_decide_eq_true rfl | omega) ?_
 refine r_nil ?_
 refine e_norm_block ?_
 refine e_next ?_
 refine c_region ?_
 refine r_val .none rfl (p_add rfl rfl (by omega)) ?_
 refine r_val .none rfl (p_move rfl) ?_
 refine r_nil ?_
 refine e_again ?_
 refine l_round (n := 0) ?_
 refine c_seq ?_
 refine c_region ?_
 refine r_val .none rfl (p_lt rfl rfl) ?_
 refine r_say (d := 13) (v := Value.bool false) rfl ?_
 refine r_nil ?_
 refine e_next ?_
 refine c_seq ?_
 refine c_cond_f rfl ?_
 refine c_exit ?_
 refine e_exit_then ?_
 refine e_exit_then ?_
 refine e_exit_block ?_
 refine e_norm_block ?_
 refine e_next ?_
 refine c_region ?_
 refine r_val .none rfl (p_add rfl rfl (by omega)) ?_
 refine r_val .none rfl (p_move rfl) ?_
 refine r_nil ?_
 refine e_again ?_
 refine l_round (n := 3) ?_
 refine c_seq ?_
 refine c_region ?_
 refine r_val .none rfl (p_lt rfl rfl) ?_
 refine r_say (d := 9) (v := Value.bool true) rfl ?_
 refine r_nil ?_
 refine e_next ?_
 refine c_seq ?_
 refine c_cond_t rfl ?_
 refine c_skip ?_
 refine e_next ?_
 refine c_seq ?_
 refine c_block ?_
 refine c_seq ?_
 refine c_region ?_
 refine r_val .none rfl (p_move rfl) ?_
 refine r_val .none rfl (p_assign rfl) ?_
 refine r_nil ?_
 refine e_next ?_
 refine c_seq ?_
 refine c_region ?_
 refine r_val .none rfl (p_ldw (k := 1) Try.underlying61 rfl sz61 rfl rfl (rfl : _ = Value.agg #[_, _, _])) ?_
 refine r_val .none rfl (p_move rfl) ?_
 refine r_nil ?_
 refine e_next ?_
 refine c_block ?_
 refine c_unroll 4 ?_
 refine l_round (n := 3) ?_
 refine c_seq ?_
 refine c_region ?_
 refine r_val .none rfl (p_lt rfl rfl) ?_
 refine r_say (d := 13) (v := Value.bool true) rfl ?_
 refine r_nil ?_
 refine e_next ?_
 refine c_seq ?_
 refine c_cond_t rfl ?_
 refine c_skip ?_
 refine e_next ?_
 refine c_seq ?_
 refine c_block ?_
 refine c_seq ?_
 refine c_region ?_
 refine r_val .none rfl (p_move rfl) ?_
 refine r_val .none rfl (p_index (k := 0) Try.underlying61 Try.underlying3 rfl sz3 rfl (IsRow.lit _) rfl (by first | exact of_decide_eq_true rfl | omega) (rfl : _ = Value.int _ _)) ?_
 refine r_val .none rfl (p_assign rfl) ?_
 refine r_val .none rfl (p_assign rfl) ?_
 refine r_nil ?_
 refine e_next ?_
 refine c_seq ?_
 refine c_region ?_
 refine r_val .none rfl (p_move rfl) ?_
 refine r_val .none rfl (p_move rfl) ?_
 refine r_val .none rfl (p_shr (z := 5) rfl rfl (by decide) (by decide)) ?_
 refine r_val .none rfl (p_and (z := 1) rfl rfl (fun _ => by kernel_rfl)) ?_
 refine r_val .none rfl (p_eq rfl rfl) ?_
 refine r_say (d := 20) (v := Value.bool true) rfl ?_
 refine r_nil ?_
 refine e_next ?_
 refine c_cond_t rfl ?_
 refine c_region ?_
 refine r_val .none rfl (p_move rfl) ?_
 refine r_val .none rfl (p_move rfl) ?_
 refine r_val .none rfl (p_move rfl) ?_
 refine r_val .none rfl (p_move rfl) ?_
 refine r_val .none rfl (iaddr_o (i := 5) Try.underlying56 sz61 rfl rfl rfl (by first | exact of_decide_eq_true rfl | omega)) ?_
 refine r_val .none rfl (p_iaddr (k := 0) Try.underlying61 sz3 rfl rfl (by first | exact of_decide_eq_true rfl | omega)) ?_
 refine r_st (k := 0) .none sz3 rfl rfl rfl rfl (by first | exact of_decide_eq_true rfl | omega) ?_
 refine r_nil ?_
 refine e_norm_block ?_
 refine e_next ?_
 refine c_region ?_
 refine r_val .none rfl (p_add rfl rfl (by omega)) ?_
 refine r_val .none rfl (p_move rfl) ?_
 refine r_nil ?_
 refine e_again ?_
 refine l_round (n := 2) ?_
 refine c_seq ?_
 refine c_region ?_
 refine r_val .none rfl (p_lt rfl rfl) ?_
 refine r_say (d := 13) (v := Value.bool true) rfl ?_
 refine r_nil ?_
 refine e_next ?_
 refine c_seq ?_
 refine c_cond_t rfl ?_
 refine c_skip ?_
 refine e_next ?_
 refine c_seq ?_
 refine c_block ?_
 refine c_seq ?_
 refine c_region ?_
 refine r_val .none rfl (p_move rfl) ?_
 refine r_val .none rfl (p_index (k := 1) Try.underlying61 Try.underlying3 rfl sz3 rfl (IsRow.lit _) rfl (by first | exact of_decide_eq_true rfl | omega) (rfl : _ = Value.int _ _)) ?_
 refine r_val .none rfl (p_assign rfl) ?_
 refine r_val .none rfl (p_assign rfl) ?_
 refine r_nil ?_
 refine e_next ?_
 refine c_seq ?_
 refine c_region ?_
 refine r_val .none rfl (p_move rfl) ?_
 refine r_val .none rfl (p_move rfl) ?_
 refine r_val .none rfl (p_shr (z := 2) rfl rfl (by decide) (by decide)) ?_
 refine r_val .none rfl (p_and (z := 0) rfl rfl (fun _ => by kernel_rfl)) ?_
 refine r_val .none rfl (p_eq rfl rfl) ?_
 refine r_say (d := 20) (v := Value.bool false) rfl ?_
 refine r_nil ?_
 refine e_next ?_
 refine c_cond_f rfl ?_
 refine c_skip ?_
 refine e_norm_block ?_
 refine e_next ?_
 refine c_region ?_
 refine r_val .none rfl (p_add rfl rfl (by omega)) ?_
 refine r_val .none rfl (p_move rfl) ?_
 refine r_nil ?_
 refine e_again ?_
 refine l_round (n := 1) ?_
 refine c_seq ?_
 refine c_region ?_
 refine r_val .none rfl (p_lt rfl rfl) ?_
 refine r_say (d := 13) (v := Value.bool true) rfl ?_
 refine r_nil ?_
 refine e_next ?_
 refine c_seq ?_
 refine c_cond_t rfl ?_
 refine c_skip ?_
 refine e_next ?_
 refine c_seq ?_
 refine c_block ?_
 refine c_seq ?_
 refine c_region ?_
 refine r_val .none rfl (p_move rfl) ?_
 refine r_val .none rfl (p_index (k := 2) Try.underlying61 Try.underlying3 rfl sz3 rfl (IsRow.lit _) rfl (by first | exact of_decide_eq_true rfl | omega) (rfl : _ = Value.int _ _)) ?_
 refine r_val .none rfl (p_assign rfl) ?_
 refine r_val .none rfl (p_assign rfl) ?_
 refine r_nil ?_
 refine e_next ?_
 refine c_seq ?_
 refine c_region ?_
 refine r_val .none rfl (p_move rfl) ?_
 refine r_val .none rfl (p_move rfl) ?_
 refine r_val .none rfl (p_shr (z := 1) rfl rfl (by decide) (by decide)) ?_
 refine r_val .none rfl (p_and (z := 1) rfl rfl (fun _ => by kernel_rfl)) ?_
 refine r_val .none rfl (p_eq rfl rfl) ?_
 refine r_say (d := 20) (v := Value.bool true) rfl ?_
 refine r_nil ?_
 refine e_next ?_
 refine c_cond_t rfl ?_
 refine c_region ?_
 refine r_val .none rfl (p_move rfl) ?_
 refine r_val .none rfl (p_move rfl) ?_
 refine r_val .none rfl (p_move rfl) ?_
 refine r_val .none rfl (p_move rfl) ?_
 refine r_val .none rfl (iaddr_o (i := 5) Try.underlying56 sz61 rfl rfl rfl (by first | exact of_decide_eq_true rfl | omega)) ?_
 refine r_val .none rfl (p_iaddr (k := 2) Try.underlying61 sz3 rfl rfl (by first | exact of_decide_eq_true rfl | omega)) ?_
 refine r_st (k := 0) .none sz3 rfl rfl rfl rfl (by first | exact of_decide_eq_true rfl | omega) ?_
 refine r_nil ?_
 refine e_norm_block ?_
 refine e_next ?_
 refine c_region ?_
 refine r_val .none rfl (p_add rfl rfl (by omega)) ?_
 refine r_val .none rfl (p_move rfl) ?_
 refine r_nil ?_
 refine e_again ?_
 refine l_round (n := 0) ?_
 refine c_seq ?_
 refine c_region ?_
 refine r_val .none rfl (p_lt rfl rfl) ?_
 refine r_say (d := 13) (v := Value.bool false) rfl ?_
 refine r_nil ?_
 refine e_next ?_
 refine c_seq ?_
 refine c_cond_f rfl ?_
 refine c_exit ?_
 refine e_exit_then ?_
 refine e_exit_then ?_
 refine e_exit_block ?_
 refine e_norm_block ?_
 refine e_next ?_
 refine c_region ?_
 refine r_val .none rfl (p_add rfl rfl (by omega)) ?_
 refine r_val .none rfl (p_move rfl) ?_
 refine r_nil ?_
 refine e_again ?_
 refine l_round (n := 2) ?_
 refine c_seq ?_
 refine c_region ?_
 refine r_val .none rfl (p_lt rfl rfl) ?_
 refine r_say (d := 9) (v := Value.bool true) rfl ?_
 refine r_nil ?_
 refine e_next ?_
 refine c_seq ?_
 refine c_cond_t rfl ?_
 refine c_skip ?_
 refine e_next ?_
 refine c_seq ?_
 refine c_block ?_
 refine c_seq ?_
 refine c_region ?_
 refine r_val .none rfl (p_move rfl) ?_
 refine r_val .none rfl (p_assign rfl) ?_
 refine r_nil ?_
 refine e_next ?_
 refine c_seq ?_
 refine c_region ?_
 refine r_val .none rfl (p_ldw (k := 1) Try.underlying61 rfl sz61 rfl rfl (rfl : _ = Value.agg #[_, _, _])) ?_
 refine r_val .none rfl (p_move rfl) ?_
 refine r_nil ?_
 refine e_next ?_
 refine c_block ?_
 refine c_unroll 4 ?_
 refine l_round (n := 3) ?_
 refine c_seq ?_
 refine c_region ?_
 refine r_val .none rfl (p_lt rfl rfl) ?_
 refine r_say (d := 13) (v := Value.bool true) rfl ?_
 refine r_nil ?_
 refine e_next ?_
 refine c_seq ?_
 refine c_cond_t rfl ?_
 refine c_skip ?_
 refine e_next ?_
 refine c_seq ?_
 refine c_block ?_
 refine c_seq ?_
 refine c_region ?_
 refine r_val .none rfl (p_move rfl) ?_
 refine r_val .none rfl (p_index (k := 0) Try.underlying61 Try.underlying3 rfl sz3 rfl (IsRow.lit _) rfl (by first | exact of_decide_eq_true rfl | omega) (rfl : _ = Value.int _ _)) ?_
 refine r_val .none rfl (p_assign rfl) ?_
 refine r_val .none rfl (p_assign rfl) ?_
 refine r_nil ?_
 refine e_next ?_
 refine c_seq ?_
 refine c_region ?_
 refine r_val .none rfl (p_move rfl) ?_
 refine r_val .none rfl (p_move rfl) ?_
 refine r_val .none rfl (p_shr (z := 6) rfl rfl (by decide) (by decide)) ?_
 refine r_val .none rfl (p_and (z := 0) rfl rfl (fun _ => by kernel_rfl)) ?_
 refine r_val .none rfl (p_eq rfl rfl) ?_
 refine r_say (d := 20) (v := Value.bool false) rfl ?_
 refine r_nil ?_
 refine e_next ?_
 refine c_cond_f rfl ?_
 refine c_skip ?_
 refine e_norm_block ?_
 refine e_next ?_
 refine c_region ?_
 refine r_val .none rfl (p_add rfl rfl (by omega)) ?_
 refine r_val .none rfl (p_move rfl) ?_
 refine r_nil ?_
 refine e_again ?_
 refine l_round (n := 2) ?_
 refine c_seq ?_
 refine c_region ?_
 refine r_val .none rfl (p_lt rfl rfl) ?_
 refine r_say (d := 13) (v := Value.bool true) rfl ?_
 refine r_nil ?_
 refine e_next ?_
 refine c_seq ?_
 refine c_cond_t rfl ?_
 refine c_skip ?_
 refine e_next ?_
 refine c_seq ?_
 refine c_block ?_
 refine c_seq ?_
 refine c_region ?_
 refine r_val .none rfl (p_move rfl) ?_
 refine r_val .none rfl (p_index (k := 1) Try.underlying61 Try.underlying3 rfl sz3 rfl (IsRow.lit _) rfl (by first | exact of_decide_eq_true rfl | omega) (rfl : _ = Value.int _ _)) ?_
 refine r_val .none rfl (p_assign rfl) ?_
 refine r_val .none rfl (p_assign rfl) ?_
 refine r_nil ?_
 refine e_next ?_
 refine c_seq ?_
 refine c_region ?_
 refine r_val .none rfl (p_move rfl) ?_
 refine r_val .none rfl (p_move rfl) ?_
 refine r_val .none rfl (p_shr (z := 3) rfl rfl (by decide) (by decide)) ?_
 refine r_val .none rfl (p_and (z := 1) rfl rfl (fun _ => by kernel_rfl)) ?_
 refine r_val .none rfl (p_eq rfl rfl) ?_
 refine r_say (d := 20) (v := Value.bool true) rfl ?_
 refine r_nil ?_
 refine e_next ?_
 refine c_cond_t rfl ?_
 refine c_region ?_
 refine r_val .none rfl (p_move rfl) ?_
 refine r_val .none rfl (p_move rfl) ?_
 refine r_val .none rfl (p_move rfl) ?_
 refine r_val .none rfl (p_move rfl) ?_
 refine r_val .none rfl (iaddr_o (i := 6) Try.underlying56 sz61 rfl rfl rfl (by first | exact of_decide_eq_true rfl | omega)) ?_
 refine r_val .none rfl (p_iaddr (k := 1) Try.underlying61 sz3 rfl rfl (by first | exact of_decide_eq_true rfl | omega)) ?_
 refine r_st (k := 0) .none sz3 rfl rfl rfl rfl (by first | exact of_decide_eq_true rfl | omega) ?_
 refine r_nil ?_
 refine e_norm_block ?_
 refine e_next ?_
 refine c_region ?_
 refine r_val .none rfl (p_add rfl rfl (by omega)) ?_
 refine r_val .none rfl (p_move rfl) ?_
 refine r_nil ?_
 refine e_again ?_
 refine l_round (n := 1) ?_
 refine c_seq ?_
 refine c_region ?_
 refine r_val .none rfl (p_lt rfl rfl) ?_
 refine r_say (d := 13) (v := Value.bool true) rfl ?_
 refine r_nil ?_
 refine e_next ?_
 refine c_seq ?_
 refine c_cond_t rfl ?_
 refine c_skip ?_
 refine e_next ?_
 refine c_seq ?_
 refine c_block ?_
 refine c_seq ?_
 refine c_region ?_
 refine r_val .none rfl (p_move rfl) ?_
 refine r_val .none rfl (p_index (k := 2) Try.underlying61 Try.underlying3 rfl sz3 rfl (IsRow.lit _) rfl (by first | exact of_decide_eq_true rfl | omega) (rfl : _ = Value.int _ _)) ?_
 refine r_val .none rfl (p_assign rfl) ?_
 refine r_val .none rfl (p_assign rfl) ?_
 refine r_nil ?_
 refine e_next ?_
 refine c_seq ?_
 refine c_region ?_
 refine r_val .none rfl (p_move rfl) ?_
 refine r_val .none rfl (p_move rfl) ?_
 refine r_val .none rfl (p_shr (z := 1) rfl rfl (by decide) (by decide)) ?_
 refine r_val .none rfl (p_and (z := 1) rfl rfl (fun _ => by kernel_rfl)) ?_
 refine r_val .none rfl (p_eq rfl rfl) ?_
 refine r_say (d := 20) (v := Value.bool true) rfl ?_
 refine r_nil ?_
 refine e_next ?_
 refine c_cond_t rfl ?_
 refine c_region ?_
 refine r_val .none rfl (p_move rfl) ?_
 refine r_val .none rfl (p_move rfl) ?_
 refine r_val .none rfl (p_move rfl) ?_
 refine r_val .none rfl (p_move rfl) ?_
 refine r_val .none rfl (iaddr_o (i := 6) Try.underlying56 sz61 rfl rfl rfl (by first | exact of_decide_eq_true rfl | omega)) ?_
 refine r_val .none rfl (p_iaddr (k := 2) Try.underlying61 sz3 rfl rfl (by first | exact of_decide_eq_true rfl | omega)) ?_
 refine r_st (k := 0) .none sz3 rfl rfl rfl rfl (by first | exact of_decide_eq_true rfl | omega) ?_
 refine r_nil ?_
 refine e_norm_block ?_
 refine e_next ?_
 refine c_region ?_
 refine r_val .none rfl (p_add rfl rfl (by omega)) ?_
 refine r_val .none rfl (p_move rfl) ?_
 refine r_nil ?_
 refine e_again ?_
 refine l_round (n := 0) ?_
 refine c_seq ?_
 refine c_region ?_
 refine r_val .none rfl (p_lt rfl rfl) ?_
 refine r_say (d := 13) (v := Value.bool false) rfl ?_
 refine r_nil ?_
 refine e_next ?_
 refine c_seq ?_
 refine c_cond_f rfl ?_
 refine c_exit ?_
 refine e_exit_then ?_
 refine e_exit_then ?_
 refine e_exit_block ?_
 refine e_norm_block ?_
 refine e_next ?_
 refine c_region ?_
 refine r_val .none rfl (p_add rfl rfl (by omega)) ?_
 refine r_val .none rfl (p_move rfl) ?_
 refine r_nil ?_
 refine e_again ?_
 refine l_round (n := 1) ?_
 refine c_seq ?_
 refine c_region ?_
 refine r_val .none rfl (p_lt rfl rfl) ?_
 refine r_say (d := 9) (v := Value.bool true) rfl ?_
 refine r_nil ?_
 refine e_next ?_
 refine c_seq ?_
 refine c_cond_t rfl ?_
 refine c_skip ?_
 refine e_next ?_
 refine c_seq ?_
 refine c_block ?_
 refine c_seq ?_
 refine c_region ?_
 refine r_val .none rfl (p_move rfl) ?_
 refine r_val .none rfl (p_assign rfl) ?_
 refine r_nil ?_
 refine e_next ?_
 refine c_seq ?_
 refine c_region ?_
 refine r_val .none rfl (p_ldw (k := 1) Try.underlying61 rfl sz61 rfl rfl (rfl : _ = Value.agg #[_, _, _])) ?_
 refine r_val .none rfl (p_move rfl) ?_
 refine r_nil ?_
 refine e_next ?_
 refine c_block ?_
 refine c_unroll 4 ?_
 refine l_round (n := 3) ?_
 refine c_seq ?_
 refine c_region ?_
 refine r_val .none rfl (p_lt rfl rfl) ?_
 refine r_say (d := 13) (v := Value.bool true) rfl ?_
 refine r_nil ?_
 refine e_next ?_
 refine c_seq ?_
 refine c_cond_t rfl ?_
 refine c_skip ?_
 refine e_next ?_
 refine c_seq ?_
 refine c_block ?_
 refine c_seq ?_
 refine c_region ?_
 refine r_val .none rfl (p_move rfl) ?_
 refine r_val .none rfl (p_index (k := 0) Try.underlying61 Try.underlying3 rfl sz3 rfl (IsRow.lit _) rfl (by first | exact of_decide_eq_true rfl | omega) (rfl : _ = Value.int _ _)) ?_
 refine r_val .none rfl (p_assign rfl) ?_
 refine r_val .none rfl (p_assign rfl) ?_
 refine r_nil ?_
 refine e_next ?_
 refine c_seq ?_
 refine c_region ?_
 refine r_val .none rfl (p_move rfl) ?_
 refine r_val .none rfl (p_move rfl) ?_
 refine r_val .none rfl (p_shr (z := 7) rfl rfl (by decide) (by decide)) ?_
 refine r_val .none rfl (p_and (z := 1) rfl rfl (fun _ => by kernel_rfl)) ?_
 refine r_val .none rfl (p_eq rfl rfl) ?_
 refine r_say (d := 20) (v := Value.bool true) rfl ?_
 refine r_nil ?_
 refine e_next ?_
 refine c_cond_t rfl ?_
 refine c_region ?_
 refine r_val .none rfl (p_move rfl) ?_
 refine r_val .none rfl (p_move rfl) ?_
 refine r_val .none rfl (p_move rfl) ?_
 refine r_val .none rfl (p_move rfl) ?_
 refine r_val .none rfl (iaddr_o (i := 7) Try.underlying56 sz61 rfl rfl rfl (by first | exact of_decide_eq_true rfl | omega)) ?_
 refine r_val .none rfl (p_iaddr (k := 0) Try.underlying61 sz3 rfl rfl (by first | exact of_decide_eq_true rfl | omega)) ?_
 refine r_st (k := 0) .none sz3 rfl rfl rfl rfl (by first | exact of_decide_eq_true rfl | omega) ?_
 refine r_nil ?_
 refine e_norm_block ?_
 refine e_next ?_
 refine c_region ?_
 refine r_val .none rfl (p_add rfl rfl (by omega)) ?_
 refine r_val .none rfl (p_move rfl) ?_
 refine r_nil ?_
 refine e_again ?_
 refine l_round (n := 2) ?_
 refine c_seq ?_
 refine c_region ?_
 refine r_val .none rfl (p_lt rfl rfl) ?_
 refine r_say (d := 13) (v := Value.bool true) rfl ?_
 refine r_nil ?_
 refine e_next ?_
 refine c_seq ?_
 refine c_cond_t rfl ?_
 refine c_skip ?_
 refine e_next ?_
 refine c_seq ?_
 refine c_block ?_
 refine c_seq ?_
 refine c_region ?_
 refine r_val .none rfl (p_move rfl) ?_
 refine r_val .none rfl (p_index (k := 1) Try.underlying61 Try.underlying3 rfl sz3 rfl (IsRow.lit _) rfl (by first | exact of_decide_eq_true rfl | omega) (rfl : _ = Value.int _ _)) ?_
 refine r_val .none rfl (p_assign rfl) ?_
 refine r_val .none rfl (p_assign rfl) ?_
 refine r_nil ?_
 refine e_next ?_
 refine c_seq ?_
 refine c_region ?_
 refine r_val .none rfl (p_move rfl) ?_
 refine r_val .none rfl (p_move rfl) ?_
 refine r_val .none rfl (p_shr (z := 3) rfl rfl (by decide) (by decide)) ?_
 refine r_val .none rfl (p_and (z := 1) rfl rfl (fun _ => by kernel_rfl)) ?_
 refine r_val .none rfl (p_eq rfl rfl) ?_
 refine r_say (d := 20) (v := Value.bool true) rfl ?_
 refine r_nil ?_
 refine e_next ?_
 refine c_cond_t rfl ?_
 refine c_region ?_
 refine r_val .none rfl (p_move rfl) ?_
 refine r_val .none rfl (p_move rfl) ?_
 refine r_val .none rfl (p_move rfl) ?_
 refine r_val .none rfl (p_move rfl) ?_
 refine r_val .none rfl (iaddr_o (i := 7) Try.underlying56 sz61 rfl rfl rfl (by first | exact of_decide_eq_true rfl | omega)) ?_
 refine r_val .none rfl (p_iaddr (k := 1) Try.underlying61 sz3 rfl rfl (by first | exact of_decide_eq_true rfl | omega)) ?_
 refine r_st (k := 0) .none sz3 rfl rfl rfl rfl (by first | exact of_decide_eq_true rfl | omega) ?_
 refine r_nil ?_
 refine e_norm_block ?_
 refine e_next ?_
 refine c_region ?_
 refine r_val .none rfl (p_add rfl rfl (by omega)) ?_
 refine r_val .none rfl (p_move rfl) ?_
 refine r_nil ?_
 refine e_again ?_
 refine l_round (n := 1) ?_
 refine c_seq ?_
 refine c_region ?_
 refine r_val .none rfl (p_lt rfl rfl) ?_
 refine r_say (d := 13) (v := Value.bool true) rfl ?_
 refine r_nil ?_
 refine e_next ?_
 refine c_seq ?_
 refine c_cond_t rfl ?_
 refine c_skip ?_
 refine e_next ?_
 refine c_seq ?_
 refine c_block ?_
 refine c_seq ?_
 refine c_region ?_
 refine r_val .none rfl (p_move rfl) ?_
 refine r_val .none rfl (p_index (k := 2) Try.underlying61 Try.underlying3 rfl sz3 rfl (IsRow.lit _) rfl (by first | exact of_decide_eq_true rfl | omega) (rfl : _ = Value.int _ _)) ?_
 refine r_val .none rfl (p_assign rfl) ?_
 refine r_val .none rfl (p_assign rfl) ?_
 refine r_nil ?_
 refine e_next ?_
 refine c_seq ?_
 refine c_region ?_
 refine r_val .none rfl (p_move rfl) ?_
 refine r_val .none rfl (p_move rfl) ?_
 refine r_val .none rfl (p_shr (z := 1) rfl rfl (by decide) (by decide)) ?_
 refine r_val .none rfl (p_and (z := 1) rfl rfl (fun _ => by kernel_rfl)) ?_
 refine r_val .none rfl (p_eq rfl rfl) ?_
 refine r_say (d := 20) (v := Value.bool true) rfl ?_
 refine r_nil ?_
 refine e_next ?_
 refine c_cond_t rfl ?_
 refine c_region ?_
 refine r_val .none rfl (p_move rfl) ?_
 refine r_val .none rfl (p_move rfl) ?_
 refine r_val .none rfl (p_move rfl) ?_
 refine r_val .none rfl (p_move rfl) ?_
 refine r_val .none rfl (iaddr_o (i := 7) Try.underlying56 sz61 rfl rfl rfl (by first | exact of_decide_eq_true rfl | omega)) ?_
 refine r_val .none rfl (p_iaddr (k := 2) Try.underlying61 sz3 rfl rfl (by first | exact of_decide_eq_true rfl | omega)) ?_
 refine r_st (k := 0) .none sz3 rfl rfl rfl rfl (by first | exact of_decide_eq_true rfl | omega) ?_
 refine r_nil ?_
 refine e_norm_block ?_
 refine e_next ?_
 refine c_region ?_
 refine r_val .none rfl (p_add rfl rfl (by omega)) ?_
 refine r_val .none rfl (p_move rfl) ?_
 refine r_nil ?_
 refine e_again ?_
 refine l_round (n := 0) ?_
 refine c_seq ?_
 refine c_region ?_
 refine r_val .none rfl (p_lt rfl rfl) ?_
 refine r_say (d := 13) (v := Value.bool false) rfl ?_
 refine r_nil ?_
 refine e_next ?_
 refine c_seq ?_
 refine c_cond_f rfl ?_
 refine c_exit ?_
 refine e_exit_then ?_
 refine e_exit_then ?_
 refine e_exit_block ?_
 refine e_norm_block ?_
 refine e_next ?_
 refine c_region ?_
 refine r_val .none rfl (p_add rfl rfl (by omega)) ?_
 refine r_val .none rfl (p_move rfl) ?_
 refine r_nil ?_
 refine e_again ?_
 refine l_round (n := 0) ?_
 refine c_seq ?_
 refine c_region ?_
 refine r_val .none rfl (p_lt rfl rfl) ?_
 refine r_say (d := 9) (v := Value.bool false) rfl ?_
 refine r_nil ?_
 refine e_next ?_
 refine c_seq ?_
 refine c_cond_f rfl ?_
 refine c_exit ?_
 refine e_exit_then ?_
 refine e_exit_then ?_
 refine e_exit_block ?_
 refine e_next ?_
 refine c_seq ?_
 refine c_region ?_
 refine r_val .none rfl (p_move rfl) ?_
 refine r_val .none rfl (p_assign rfl) ?_
 refine r_nil ?_
 refine e_next ?_
 refine c_ret ?_
 refine e_ret1 Try.results83 (.tmp rfl .nil) (fun w hm => hm.made [rowA (.slice (some ⟨b_2, 0, none⟩) 8 8) 61 3 (allK t).length ((allK t).flatMap triL)] (.keep (fun _ _ h => rowA_congr rfl (by rfl) _ _ (box_rowA (n := 8) (sz := 3) rfl (by decide) h)) (.drop (.nil))) _ (fun F' h => starL_one1 h))
end Go.Proofs.Ytdcaehepmkhciaa

/- Walks: what Go functions of this chapter come to, each as a function on plain data; no condition but those that each theorem names. Printed by a program of this work (gen.py). -/
namespace Go.Proofs.Ytdcaehepmkhciaa
open Go.Gx Go.Gx.T10
theorem sz158 : SzIs Try.prog 158 1 := by
 unfold SzIs
 kernel_rfl
theorem zr3 : ZeroIs Try.prog 3 (Value.int .i64 0) := by
 unfold ZeroIs
 kernel_rfl
theorem lf61 : leafT Try.prog 9 61 = some [3, 3, 3] := by
 kernel_rfl
theorem ef61 : eqT Try.prog 9 61 = true := by
 kernel_rfl
theorem eg61 : Try.prog.eqGuardType Try.prog.depth 61 = false := by
 kernel_rfl
theorem bl160_0m1 (x0 : Option Nat) : Program.built Try.prog 160 [(0, Value.map x0)] = some #[Value.map x0, Value.int .i64 0] := by
 kernel_rfl
def tallyT (p : Nat) (l : List (Tri × Int)) (t : Int) : Asrt := exA fun m : Nat => starL [box p 2 160 (at_ [.map (some m), .int .i64 t]), mapA m kT kI l]
theorem c_countT {F : Nat → Prop} {G : Ghost} (p : Nat) (k : Tri) (l : List (Tri × Int)) (t : Int)  (w : World) (hG : Has G w) (hA : (tallyT p l t).holds w F) (hFG : ∀ b, F b → G b = none) :
  Calls Try.prog 81 #[Value.pointer (some ⟨p, 0, none⟩), kT k] w (Ret fun r w' => r = Value.int .i64 (cnt l k) ∧ Kept (tallyT p (l) (t)) F w w') := by
 refine enterO (args := [_, _]) (G := G) (A := tallyT p l t) (l := [(0, Value.pointer (some ⟨p, 0, none⟩)), (1, kT k)]) Try.func81 rfl Try.ntmps81 hG hA hFG ⟨rfl, rfl, trivial⟩ (Nat.le_of_ble_eq_true rfl) ?_
 refine c_unex (fun m => ?_)
 refine c_unpack ?_
 refine c_seq ?_
 refine c_region ?_
 refine r_box .none rfl rfl (IsRow.lit _) (fun b_1 => ?_)
 refine r_val .none rfl (p_assign rfl) ?_
 refine r_nil ?_
 refine e_next ?_
 refine c_seq ?_
 refine c_region_q mixed (by kernel_rfl) ?_
 refine q_val .none rfl (p_move rfl) ?_
 refine q_val .none rfl (p_nilcheck rfl) ?_
 refine q_val .none rfl (p_field Try.underlying160 rfl sz158 rfl) ?_
 refine q_val .none rfl (p_ld (k := 1) Try.underlying158 rfl rfl rfl (by first | exact of_decide_eq_true rfl | omega) (rfl : _ = Value.map _)) ?_
 refine q_val .none rfl (p_ldw (k := 0) Try.underlying61 rfl sz61 rfl rfl (rfl : _ = Value.agg #[_, _, _])) ?_
 refine q_val .none rfl (p_lookup (i := 2) (z0 := (0 : Int)) (k := k) Try.underlying158 (KeyT.tri (l := []) Try.underlying61 Try.underlying3 sz3 lf61 ef61 eg61) zr3 rfl rfl rfl) ?_
 refine q_val .none rfl (p_assign rfl) ?_
 refine q_nil ?_
 refine e_next ?_
 refine c_ret ?_
 refine e_ret1 Try.results81 (.tmp rfl .nil) (fun w hm => ⟨?_, hm.kept [box p 2 160 (at_ [.map (some m), .int .i64 (t)]), mapA m kT kI (l)] (.drop (.keep (fun _ _ h => h) (.keep (fun _ _ h => h) (.nil)))) (tallyT p (l) (t)) (fun F' h => ⟨m, h⟩)⟩)
 rfl
theorem c_lenT {F : Nat → Prop} {G : Ghost} (p : Nat) (l : List (Tri × Int)) (t : Int)  (w : World) (hG : Has G w) (hA : (tallyT p l t).holds w F) (hFG : ∀ b, F b → G b = none) :
  Calls Try.prog 75 #[Value.pointer (some ⟨p, 0, none⟩)] w (Ret fun r w' => r = Value.int .i64 (l.length : Nat) ∧ Kept (tallyT p (l) (t)) F w w') := by
 refine enterO (args := [_]) (G := G) (A := tallyT p l t) (l := [(0, Value.pointer (some ⟨p, 0, none⟩))]) Try.func75 rfl Try.ntmps75 hG hA hFG ⟨rfl, trivial⟩ (Nat.le_of_ble_eq_true rfl) ?_
 refine c_unex (fun m => ?_)
 refine c_unpack ?_
 refine c_seq ?_
 refine c_region ?_
 refine r_val .none rfl (p_assign rfl) ?_
 refine r_nil ?_
 refine e_next ?_
 refine c_seq ?_
 refine c_region ?_
 refine r_val .none rfl (p_move rfl) ?_
 refine r_val .none rfl (p_nilcheck rfl) ?_
 refine r_val .none rfl (p_field Try.underlying160 rfl sz158 rfl) ?_
 refine r_val .none rfl (p_ld (k := 0) Try.underlying158 rfl rfl rfl (by first | exact of_decide_eq_true rfl | omega) (rfl : _ = Value.map _)) ?_
 refine r_val .none rfl (p_len_map (i := 1) Try.underlying158 rfl rfl) ?_
 refine r_val .none rfl (p_assign rfl) ?_
 refine r_nil ?_
 refine e_next ?_
 refine c_ret ?_
 refine e_ret1 Try.results75 (.tmp rfl .nil) (fun w hm => ⟨?_, hm.kept [box p 2 160 (at_ [.map (some m), .int .i64 (t)]), mapA m kT kI (l)] (.keep (fun _ _ h => h) (.keep (fun _ _ h => h) (.nil))) (tallyT p (l) (t)) (fun F' h => ⟨m, h⟩)⟩)
 rfl
theorem c_taddT {F : Nat → Prop} {G : Ghost} (p : Nat) (k : Tri) (l : List (Tri × Int)) (t : Int) (hc : 0 ≤ cnt l k ∧ cnt l k ≤ 4611686018427387904) (ht : -4611686018427387904 ≤ t ∧ t ≤ 4611686018427387904) (w : World) (hG : Has G w) (hA : (tallyT p l t).holds w F) (hFG : ∀ b, F b → G b = none) :
  Calls Try.prog 70 #[Value.pointer (some ⟨p, 0, none⟩), kT k] w (Ret fun r w' => r = Value.int .i64 (cnt l k + 1) ∧ Kept (tallyT p (tAdd l k) (t + 1)) F w w') := by
 refine enterO (args := [_, _]) (G := G) (A := tallyT p l t) (l := [(0, Value.pointer (some ⟨p, 0, none⟩)), (1, kT k)]) Try.func70 rfl Try.ntmps70 hG hA hFG ⟨rfl, rfl, trivial⟩ (Nat.le_of_ble_eq_true rfl) ?_
 refine c_unex (fun m => ?_)
 refine c_unpack ?_
 refine c_seq ?_
 refine c_region ?_
 refine r_box .none rfl rfl (IsRow.lit _) (fun b_1 => ?_)
 refine r_val .none rfl (p_assign rfl) ?_
 refine r_nil ?_
 refine e_next ?_
 refine c_seq ?_
 refine c_region_d (fun j => [9].contains j) _ mixed (.keep (fun _ _ h => h) (.keep (fun _ _ h => h) (.keep (A' := mapW m kT kI k (cnt l k) 0) (fun _ _ h => mapA_W h) (.nil)))) ?_
 refine d_val1 0 rfl rfl (by kernel_rfl) (fun j hj => by have h : 9 < j := (Nat.lt_of_lt_of_le (by decide : 9 < 10) hj); simp; omega) .none rfl (p_move rfl) ?_
 refine d_val1 1 rfl rfl (by kernel_rfl) (fun j hj => by have h : 9 < j := (Nat.lt_of_lt_of_le (by decide : 9 < 10) hj); simp; omega) .none rfl (p_nilcheck rfl) ?_
 refine d_val1 2 rfl rfl (by kernel_rfl) (fun j hj => by have h : 9 < j := (Nat.lt_of_lt_of_le (by decide : 9 < 10) hj); simp; omega) .none rfl (p_field Try.underlying160 rfl sz158 rfl) ?_
 refine d_val1 3 rfl rfl (by kernel_rfl) (fun j hj => by have h : 9 < j := (Nat.lt_of_lt_of_le (by decide : 9 < 10) hj); simp; omega) .none rfl (p_ld (k := 1) Try.underlying158 rfl rfl rfl (by first | exact of_decide_eq_true rfl | omega) (rfl : _ = Value.map _)) ?_
 refine d_val1 4 rfl rfl (by kernel_rfl) (fun j hj => by have h : 9 < j := (Nat.lt_of_lt_of_le (by decide : 9 < 10) hj); simp; omega) .none rfl (p_ldw (k := 0) Try.underlying61 rfl sz61 rfl rfl (rfl : _ = Value.agg #[_, _, _])) ?_
 refine d_val1 5 rfl rfl (by kernel_rfl) (fun j hj => by have h : 9 < j := (Nat.lt_of_lt_of_le (by decide : 9 < 10) hj); simp; omega) .none rfl (p_lookupw (i := 2) (z0 := (0 : Int)) (k := k) Try.underlying158 (KeyT.tri (l := []) Try.underlying61 Try.underlying3 sz3 lf61 ef61 eg61) zr3 rfl rfl rfl) ?_
 refine d_val1 6 rfl rfl (by kernel_rfl) (fun j hj => by have h : 9 < j := (Nat.lt_of_lt_of_le (by decide : 9 < 10) hj); simp; omega) .none rfl (p_add rfl rfl (by show -9223372036854775808 ≤ cnt l k + 1 ∧ cnt l k + 1 ≤ 9223372036854775807; omega)) ?_
 refine d_eff 7 rfl (by kernel_rfl) (fun K_1 hKK_1 hcK_1 => ?_)
 refine r_mapentry (i := 2) (z0 := (0 : Int)) (k := k) .none rfl Try.underlying158 (KeyT.tri (l := []) Try.underlying61 Try.underlying3 sz3 lf61 ef61 eg61) zr3 rfl rfl rfl (fun s_2 => ?_)
 refine r_nil (e_d (i := 7) (brk := (fun j => [9].contains j)) (ph' := true) hKK_1 hcK_1 rfl (fun _ => GLe.refl _) (fun _ => .keep (fun _ _ h => h) (.keep (fun _ _ h => h) (.keep (fun _ _ h => mapE_W h) (.nil)))) ?_)
 clear hKK_1 hcK_1 K_1
 refine d_val1 8 rfl rfl (by kernel_rfl) (fun j hj => by have h : 9 < j := (Nat.lt_of_lt_of_le (by decide : 9 < 10) hj); simp; omega) .none rfl (p_extract rfl rfl) ?_
 refine d_eff 9 rfl (by kernel_rfl) (fun K_3 hKK_3 hcK_3 => ?_)
 refine r_entrystore (i := 2) .none (KeyT.tri (l := []) Try.underlying61 Try.underlying3 sz3 lf61 ef61 eg61).inj rfl rfl rfl rfl ?_
 refine r_nil (e_d (i := 9) (brk := (fun j => [9].contains j)) (ph' := false) hKK_3 hcK_3 rfl (fun h => by cases h) (fun h => by cases h) ?_)
 clear hKK_3 hcK_3 K_3
 refine d_nil (by kernel_rfl) ?_
 refine e_next ?_
 refine c_seq ?_
 refine c_region ?_
 refine r_val .none rfl (p_move rfl) ?_
 refine r_val .none rfl (p_nilcheck rfl) ?_
 refine r_val .none rfl (p_field Try.underlying160 rfl sz3 rfl) ?_
 refine r_val .none rfl (p_ld (k := 1) Try.underlying3 rfl rfl rfl (by first | exact of_decide_eq_true rfl | omega) (rfl : _ = Value.int _ _)) ?_
 refine r_val .none rfl (p_add rfl rfl (by omega)) ?_
 refine r_val .none rfl (p_nilcheck rfl) ?_
 refine r_val .none rfl (p_field Try.underlying160 rfl sz3 rfl) ?_
 refine r_st (k := 1) .none sz3 rfl rfl rfl rfl (by first | exact of_decide_eq_true rfl | omega) ?_
 refine r_nil ?_
 refine e_next ?_
 refine c_seq ?_
 refine c_region_q mixed (by kernel_rfl) ?_
 refine q_val .none rfl (p_move rfl) ?_
 refine q_val .none rfl (p_nilcheck rfl) ?_
 refine q_val .none rfl (p_field Try.underlying160 rfl sz158 rfl) ?_
 refine q_val .none rfl (p_ld (k := 1) Try.underlying158 rfl rfl rfl (by first | exact of_decide_eq_true rfl | omega) (rfl : _ = Value.map _)) ?_
 refine q_val .none rfl (p_ldw (k := 0) Try.underlying61 rfl sz61 rfl rfl (rfl : _ = Value.agg #[_, _, _])) ?_
 refine q_val .none rfl (p_lookup (i := 2) (z0 := (0 : Int)) (k := k) Try.underlying158 (KeyT.tri (l := []) Try.underlying61 Try.underlying3 sz3 lf61 ef61 eg61) zr3 rfl rfl rfl) ?_
 refine q_val .none rfl (p_assign rfl) ?_
 refine q_nil ?_
 refine e_next ?_
 refine c_ret ?_
 refine e_ret1 Try.results70 (.tmp rfl .nil) (fun w hm => ⟨?_, hm.kept [box p 2 160 (at_ [.map (some m), .int .i64 (t + 1)]), mapA m kT kI (tAdd l k)] (.drop (.keep (fun _ _ h => box_congr (fun i hi => by match i, hi with | 0, _ => rfl | 1, _ => rfl) _ _ h) (.keep (fun _ _ h => mapA_congr (mput_mput _ _ _ _) _ _ h) (.nil)))) (tallyT p (tAdd l k) (t + 1)) (fun F' h => ⟨m, h⟩)⟩)
 try simp only [mput_mput]
 exact congrArg (Value.int .i64) ((cnt_mput l k k _).trans (if_pos rfl))
theorem c_dropT {F : Nat → Prop} {G : Ghost} (p : Nat) (k : Tri) (l : List (Tri × Int)) (t : Int) (hc : 0 ≤ cnt l k ∧ cnt l k ≤ 4611686018427387904) (ht : -4611686018427387904 ≤ t ∧ t ≤ 4611686018427387904) (w : World) (hG : Has G w) (hA : (tallyT p l t).holds w F) (hFG : ∀ b, F b → G b = none) :
  Calls Try.prog 76 #[Value.pointer (some ⟨p, 0, none⟩), kT k] w (Ret fun r w' => r = Value.tuple #[Value.int .i64 (if cnt l k = 0 then 0 else cnt l k - 1), Value.int .i64 (if cnt l k = 0 then 16 else 0)] ∧ Kept (tallyT p (tDrop l k) (if cnt l k = 0 then t else t - 1)) F w w') := by
 refine enterO (args := [_, _]) (G := G) (A := tallyT p l t) (l := [(0, Value.pointer (some ⟨p, 0, none⟩)), (1, kT k)]) Try.func76 rfl Try.ntmps76 hG hA hFG ⟨rfl, rfl, trivial⟩ (Nat.le_of_ble_eq_true rfl) ?_
 refine c_unex (fun m => ?_)
 refine c_unpack ?_
 refine c_seq ?_
 refine c_region ?_
 refine r_box .none rfl rfl (IsRow.lit _) (fun b_1 => ?_)
 refine r_val .none rfl (p_assign rfl) ?_
 refine r_val .none rfl (p_assign rfl) ?_
 refine r_nil ?_
 refine e_next ?_
 refine c_seq ?_
 refine c_region_q mixed (by kernel_rfl) ?_
 refine q_val .none rfl (p_move rfl) ?_
 refine q_val .none rfl (p_nilcheck rfl) ?_
 refine q_val .none rfl (p_field Try.underlying160 rfl sz158 rfl) ?_
 refine q_val .none rfl (p_ld (k := 1) Try.underlying158 rfl rfl rfl (by first | exact of_decide_eq_true rfl | omega) (rfl : _ = Value.map _)) ?_
 refine q_val .none rfl (p_ldw (k := 0) Try.underlying61 rfl sz61 rfl rfl (rfl : _ = Value.agg #[_, _, _])) ?_
 refine q_val .none rfl (p_lookup (i := 2) (z0 := (0 : Int)) (k := k) Try.underlying158 (KeyT.tri (l := []) Try.underlying61 Try.underlying3 sz3 lf61 ef61 eg61) zr3 rfl rfl rfl) ?_
 refine q_val .none rfl (p_assign rfl) ?_
 refine q_nil ?_
 refine e_next ?_
 refine c_seq ?_
 refine c_seq ?_
 refine c_region ?_
 refine r_val .none rfl (p_move rfl) ?_
 refine r_val .none rfl (p_eq rfl rfl) ?_
 refine r_nil ?_
 refine e_next ?_
 refine c_splitd (d := 14) rfl (fun h_1 => ?_) (fun h_1 => ?_)
 ·
  have h0 : cnt l k = 0 := h_1
  first
   | (exfalso; omega)
   | (
    refine c_cond_t rfl ?_
    refine c_seq ?_
    refine c_region ?_
    refine r_val .none rfl (p_assign rfl) ?_
    refine r_val .none rfl (p_assign rfl) ?_
    refine r_nil ?_
    refine e_next ?_
    refine c_ret ?_
    refine e_ret_then ?_
    refine e_retn Try.results76 (.tmp rfl (.tmp rfl .nil)) rfl (fun w hm => ?_)
    rw [drop_zero h0, if_pos h0, if_pos h0, if_pos h0]
    refine ⟨?_, hm.kept [box p 2 160 (at_ [.map (some m), .int .i64 (t)]), mapA m kT kI (l)] (.drop (.keep (fun _ _ h => h) (.keep (fun _ _ h => h) (.nil)))) (tallyT p (l) (t)) (fun F' h => ⟨m, h⟩)⟩
    rfl
    )
 ·
  have h0 : ¬ cnt l k = 0 := h_1
  first
   | (exfalso; omega)
   | (
    refine c_cond_f rfl ?_
    refine c_skip ?_
    refine e_next ?_
    refine c_seq ?_
    refine c_region ?_
    refine r_val .none rfl (p_move rfl) ?_
    refine r_val .none rfl (p_nilcheck rfl) ?_
    refine r_val .none rfl (p_field Try.underlying160 rfl sz3 rfl) ?_
    refine r_val .none rfl (p_ld (k := 1) Try.underlying3 rfl rfl rfl (by first | exact of_decide_eq_true rfl | omega) (rfl : _ = Value.int _ _)) ?_
    refine r_val .none rfl (p_sub rfl rfl (by omega)) ?_
    refine r_val .none rfl (p_nilcheck rfl) ?_
    refine r_val .none rfl (p_field Try.underlying160 rfl sz3 rfl) ?_
    refine r_st (k := 1) .none sz3 rfl rfl rfl rfl (by first | exact of_decide_eq_true rfl | omega) ?_
    refine r_nil ?_
    refine e_next ?_
    refine c_seq ?_
    refine c_seq ?_
    refine c_region_d (fun _ => false) _ mixed (.keep (fun _ _ h => h) (.keep (fun _ _ h => h) (.drop (.nil)))) ?_
    refine d_val1 0 rfl rfl (by kernel_rfl) (fun _ _ => rfl) .none rfl (p_move rfl) ?_
    refine d_val1 1 rfl rfl (by kernel_rfl) (fun _ _ => rfl) .none rfl (p_nilcheck rfl) ?_
    refine d_val1 2 rfl rfl (by kernel_rfl) (fun _ _ => rfl) .none rfl (p_field Try.underlying160 rfl sz158 rfl) ?_
    refine d_val1 3 rfl rfl (by kernel_rfl) (fun _ _ => rfl) .none rfl (p_ld (k := 1) Try.underlying158 rfl rfl rfl (by first | exact of_decide_eq_true rfl | omega) (rfl : _ = Value.map _)) ?_
    refine d_val1 4 rfl rfl (by kernel_rfl) (fun _ _ => rfl) .none rfl (p_ldw (k := 0) Try.underlying61 rfl sz61 rfl rfl (rfl : _ = Value.agg #[_, _, _])) ?_
    refine d_val1 5 rfl rfl (by kernel_rfl) (fun _ _ => rfl) .none rfl (p_move rfl) ?_
    refine d_val1 6 rfl rfl (by kernel_rfl) (fun _ _ => rfl) .none rfl (p_sub rfl rfl (by show -9223372036854775808 ≤ cnt l k - 1 ∧ cnt l k - 1 ≤ 9223372036854775807; omega)) ?_
    refine d_eff 7 rfl (by kernel_rfl) (fun K_2 hKK_2 hcK_2 => ?_)
    refine r_mapup (i := 2) (k := k) .none Try.underlying158 (KeyT.tri (l := []) Try.underlying61 Try.underlying3 sz3 lf61 ef61 eg61) rfl rfl rfl rfl ?_
    refine r_nil (e_d (i := 7) (brk := (fun _ => false)) (ph' := true) hKK_2 hcK_2 rfl (fun _ => GLe.refl _) (fun _ => .keep (fun _ _ h => h) (.keep (fun _ _ h => h) (.drop (.nil)))) ?_)
    clear hKK_2 hcK_2 K_2
    refine d_nil (by kernel_rfl) ?_
    refine e_next ?_
    refine c_seq ?_
    refine c_region ?_
    refine r_val .none rfl (p_move rfl) ?_
    refine r_val .none rfl (p_eq rfl rfl) ?_
    refine r_nil ?_
    refine e_next ?_
    refine c_splitd (d := 30) rfl (fun h_3 => ?_) (fun h_3 => ?_)
    ·
     have h1 : cnt l k = 1 := h_3
     first
      | (exfalso; omega)
      | (
       refine c_cond_t rfl ?_
       refine c_region_d (fun _ => false) _ mixed (.keep (fun _ _ h => h) (.keep (fun _ _ h => h) (.drop (.nil)))) ?_
       refine d_val1 0 rfl rfl (by kernel_rfl) (fun _ _ => rfl) .none rfl (p_move rfl) ?_
       refine d_val1 1 rfl rfl (by kernel_rfl) (fun _ _ => rfl) .none rfl (p_nilcheck rfl) ?_
       refine d_val1 2 rfl rfl (by kernel_rfl) (fun _ _ => rfl) .none rfl (p_field Try.underlying160 rfl sz158 rfl) ?_
       refine d_val1 3 rfl rfl (by kernel_rfl) (fun _ _ => rfl) .none rfl (p_ld (k := 1) Try.underlying158 rfl rfl rfl (by first | exact of_decide_eq_true rfl | omega) (rfl : _ = Value.map _)) ?_
       refine d_val1 4 rfl rfl (by kernel_rfl) (fun _ _ => rfl) .none rfl (p_ldw (k := 0) Try.underlying61 rfl sz61 rfl rfl (rfl : _ = Value.agg #[_, _, _])) ?_
       refine d_eff 5 rfl (by kernel_rfl) (fun K_4 hKK_4 hcK_4 => ?_)
       refine r_delete (i := 2) (k := k) .none Try.underlying158 (KeyT.tri (l := []) Try.underlying61 Try.underlying3 sz3 lf61 ef61 eg61) rfl rfl rfl rfl ?_
       refine r_nil (e_d (i := 5) (brk := (fun _ => false)) (ph' := true) hKK_4 hcK_4 rfl (fun _ => GLe.refl _) (fun _ => .keep (fun _ _ h => h) (.keep (fun _ _ h => h) (.drop (.nil)))) ?_)
       clear hKK_4 hcK_4 K_4
       refine d_nil (by kernel_rfl) ?_
       refine e_next ?_
       refine c_seq ?_
       refine c_region ?_
       refine r_val .none rfl (p_move rfl) ?_
       refine r_val .none rfl (p_sub rfl rfl (by show -9223372036854775808 ≤ cnt l k - 1 ∧ cnt l k - 1 ≤ 9223372036854775807; omega)) ?_
       refine r_val .none rfl (p_assign rfl) ?_
       refine r_val .none rfl (p_assign rfl) ?_
       refine r_nil ?_
       refine e_next ?_
       refine c_ret ?_
       refine e_retn Try.results76 (.tmp rfl (.tmp rfl .nil)) rfl (fun w hm => ?_)
       rw [drop_one h1, if_neg h0, if_neg h0, if_neg h0]
       refine ⟨?_, hm.kept [box p 2 160 (at_ [.map (some m), .int .i64 (t - 1)]), mapA m kT kI (mdel l k)] (.drop (.keep (fun _ _ h => box_congr (fun i hi => by match i, hi with | 0, _ => rfl | 1, _ => rfl) _ _ h) (.keep (fun _ _ h => mapA_congr (mdel_mput _ _ _) _ _ h) (.nil)))) (tallyT p (mdel l k) (t - 1)) (fun F' h => ⟨m, h⟩)⟩
       rfl
       )
    ·
     have h1 : ¬ cnt l k = 1 := h_3
     first
      | (exfalso; omega)
      | (
       refine c_cond_f rfl ?_
       refine c_skip ?_
       refine e_next ?_
       refine c_seq ?_
       refine c_region ?_
       refine r_val .none rfl (p_move rfl) ?_
       refine r_val .none rfl (p_sub rfl rfl (by show -9223372036854775808 ≤ cnt l k - 1 ∧ cnt l k - 1 ≤ 9223372036854775807; omega)) ?_
       refine r_val .none rfl (p_assign rfl) ?_
       refine r_val .none rfl (p_assign rfl) ?_
       refine r_nil ?_
       refine e_next ?_
       refine c_ret ?_
       refine e_retn Try.results76 (.tmp rfl (.tmp rfl .nil)) rfl (fun w hm => ?_)
       rw [drop_more h0 h1, if_neg h0, if_neg h0, if_neg h0]
       refine ⟨?_, hm.kept [box p 2 160 (at_ [.map (some m), .int .i64 (t - 1)]), mapA m kT kI (mput l k (cnt l k - 1))] (.drop (.keep (fun _ _ h => box_congr (fun i hi => by match i, hi with | 0, _ => rfl | 1, _ => rfl) _ _ h) (.keep (fun _ _ h => h) (.nil)))) (tallyT p (mput l k (cnt l k - 1)) (t - 1)) (fun F' h => ⟨m, h⟩)⟩
       rfl
       )
    )
theorem c_tnewT {G : Ghost}  (w : World) (hG : Has G w) :
  Calls Try.prog 69 #[] w (Ret fun r w' => ∃ p, r = Value.pointer (some ⟨p, 0, none⟩) ∧ Since nX w w' ∧ ∃ F', (tallyT p [] 0).holds w' F' ∧ ∀ b, F' b → w.heap.size ≤ b) := by
 refine enter (args := []) (X := nX) (G := G) (l := []) Try.func69 rfl Try.ntmps69 hG trivial (Nat.le_of_ble_eq_true rfl) ?_
 refine c_seq ?_
 refine c_region ?_
 refine r_val .none rfl (p_assign rfl) ?_
 refine r_nil ?_
 refine e_next ?_
 refine c_seq ?_
 refine c_region ?_
 refine r_makemap .none rfl kT kI (fun m_1 => ?_)
 refine r_val .none rfl (p_build (vs := [(0, Value.map _)]) rfl (bl160_0m1 _)) ?_
 refine r_box .none rfl rfl (IsRow.lit _) (fun b_1 => ?_)
 refine r_val .none rfl (p_assign rfl) ?_
 refine r_nil ?_
 refine e_next ?_
 refine c_ret ?_
 refine e_ret1 Try.results69 (.tmp rfl .nil) (fun w hm => ⟨_, rfl, hm.made [box b_1 2 160 (at_ [.map (some m_1), .int .i64 0]), mapA m_1 kT kI []] (.keep (fun _ _ h => box_congr (fun i hi => by match i, hi with | 0, _ => rfl | 1, _ => rfl) _ _ h) (.keep (fun _ _ h => h) .nil)) (tallyT _ [] 0) (fun F' h => ⟨m_1, h⟩)⟩)
end Go.Proofs.Ytdcaehepmkhciaa

/-
  DERIVED: THE SHELF's CONTRACTS AT THIS DUMP, IN PLAIN WORDS (tools/lay-plain.mjs out of 'TryShelf6.lean', which tools/lay-shelf.mjs wrote): THE SAME DECLARATIONS UNDER THE SAME NAMES: 'import', 'namespace', 'open', 'def', 'theorem' AND NOTHING ELSE: no command of the shelf's: FOR A HAND-IN. Each laying: the table of numbers ('.._ren') and one theorem, a field a fact of the dump's own or the kernel's comparison; each contract: ONE APPLICATION.
-/
namespace Go.Proofs
open Go.Shelf
def Try.lays128_ren : Go.Shelf.Ren := ⟨fun | 128 => 117 | n => n, fun | 51 => 175 | 3 => 3 | 4 => 4 | 46 => 165 | 5 => 5 | 9 => 9 | n => n, fun | n => n⟩
def Try.lays125_ren : Go.Shelf.Ren := ⟨fun | 125 => 107 | 128 => 117 | 129 => 118 | n => n, fun | 46 => 165 | 3 => 3 | 51 => 175 | 53 => 177 | 4 => 4 | 5 => 5 | 9 => 9 | n => n, fun | n => n⟩
def Try.lays215_ren : Go.Shelf.Ren := ⟨fun | 215 => 124 | n => n, fun | 3 => 3 | 4 => 4 | n => n, fun | n => n⟩
def Try.lays129_ren : Go.Shelf.Ren := ⟨fun | 129 => 118 | n => n, fun | 53 => 177 | 3 => 3 | 4 => 4 | 46 => 165 | 5 => 5 | 9 => 9 | n => n, fun | n => n⟩
def Try.lays189_ren : Go.Shelf.Ren := ⟨fun | 189 => 102 | 125 => 107 | 257 => 106 | 128 => 117 | 129 => 118 | 294 => 108 | 295 => 109 | 296 => 110 | 297 => 111 | 298 => 112 | 299 => 113 | 216 => 114 | 300 => 115 | 301 => 116 | 328 => 119 | 329 => 120 | 330 => 121 | 331 => 122 | 332 => 123 | 215 => 124 | 343 => 125 | n => n, fun | 28 => 42 | 3 => 3 | 46 => 165 | 0 => 0 | 51 => 175 | 53 => 177 | 4 => 4 | 183 => 168 | 182 => 167 | 131 => 46 | 5 => 5 | 9 => 9 | 218 => 178 | 222 => 182 | 228 => 184 | 229 => 87 | n => n, fun | n => n⟩
theorem Try.lays189 : Go.Proofs.Lays.n189 Try.prog Try.lays189_ren := {
  mixed := by kernel_rfl
  f125 := Try.func107.trans (congrArg some (by kernel_rfl))
  f128 := Try.func117.trans (congrArg some (by kernel_rfl))
  f129 := Try.func118.trans (congrArg some (by kernel_rfl))
  f189 := Try.func102.trans (congrArg some (by kernel_rfl))
  f215 := Try.func124.trans (congrArg some (by kernel_rfl))
  f216 := Try.func114.trans (congrArg some (by kernel_rfl))
  f257 := Try.func106.trans (congrArg some (by kernel_rfl))
  f294 := Try.func108.trans (congrArg some (by kernel_rfl))
  f295 := Try.func109.trans (congrArg some (by kernel_rfl))
  f296 := Try.func110.trans (congrArg some (by kernel_rfl))
  f297 := Try.func111.trans (congrArg some (by kernel_rfl))
  f298 := Try.func112.trans (congrArg some (by kernel_rfl))
  f299 := Try.func113.trans (congrArg some (by kernel_rfl))
  f300 := Try.func115.trans (congrArg some (by kernel_rfl))
  f301 := Try.func116.trans (congrArg some (by kernel_rfl))
  f328 := Try.func119.trans (congrArg some (by kernel_rfl))
  f329 := Try.func120.trans (congrArg some (by kernel_rfl))
  f330 := Try.func121.trans (congrArg some (by kernel_rfl))
  f331 := Try.func122.trans (congrArg some (by kernel_rfl))
  f332 := Try.func123.trans (congrArg some (by kernel_rfl))
  f343 := Try.func125.trans (congrArg some (by kernel_rfl))
  t0 := Try.underlying0
  a0 := Try.isAgg0
  z0 := Try.sizeOf0
  v0 := Try.zeroValue0
  t3 := Try.underlying3
  a3 := Try.isAgg3
  z3 := Try.sizeOf3
  v3 := Try.zeroValue3
  t4 := Try.underlying4
  a4 := Try.isAgg4
  z4 := Try.sizeOf4
  v4 := Try.zeroValue4
  t5 := Try.underlying5
  a5 := Try.isAgg5
  z5 := Try.sizeOf5
  v5 := Try.zeroValue5
  t9 := Try.underlying9
  a9 := Try.isAgg9
  z9 := Try.sizeOf9
  v9 := Try.zeroValue9
  t28 := Try.underlying42
  a28 := Try.isAgg42
  z28 := Try.sizeOf42
  v28 := Try.zeroValue42
  t46 := Try.underlying165
  a46 := Try.isAgg165
  z46 := Try.sizeOf165
  v46 := Try.zeroValue165
  t51 := Try.underlying175
  a51 := Try.isAgg175
  z51 := Try.sizeOf175
  v51 := Try.zeroValue175
  t53 := Try.underlying177
  a53 := Try.isAgg177
  z53 := Try.sizeOf177
  v53 := Try.zeroValue177
  t131 := Try.underlying46
  a131 := Try.isAgg46
  z131 := Try.sizeOf46
  v131 := Try.zeroValue46
  t182 := Try.underlying167
  a182 := Try.isAgg167
  z182 := Try.sizeOf167
  v182 := Try.zeroValue167
  t183 := Try.underlying168
  a183 := Try.isAgg168
  z183 := Try.sizeOf168
  v183 := Try.zeroValue168
  t218 := Try.underlying178
  a218 := Try.isAgg178
  z218 := Try.sizeOf178
  v218 := Try.zeroValue178
  t222 := Try.underlying182
  a222 := Try.isAgg182
  z222 := Try.sizeOf182
  v222 := Try.zeroValue182
  t228 := Try.underlying184
  a228 := Try.isAgg184
  z228 := Try.sizeOf184
  v228 := Try.zeroValue184
  t229 := Try.underlying87
  a229 := Try.isAgg87
  z229 := Try.sizeOf87
  v229 := Try.zeroValue87 }
open Go.Sort Go.RowKit in
theorem Try.slices_Sort_int (blk off cap : Nat) (zs : List Int) (w : World) (hH : Holds (Value.int .i64) w blk off zs.toArray) (hblk : blk < w.heap.size) (hsz : zs.length < 4611686018427387904) :
    Calls Try.prog 102 #[.slice (some ⟨blk, off, none⟩) zs.length cap] w fun e w' =>
      e = .returned (.tuple #[]) ∧ ∃ n os, w' = grow (putRow (Value.int .i64) (Sort.ahead w n) blk off (zs.mergeSort fun x y => decide (x ≤ y)).toArray) os := Any.slices_Sort_int Try.lays189 blk off cap zs w hH hblk hsz
def Try.lays112_ren : Go.Shelf.Ren := ⟨fun | 112 => 85 | n => n, fun | 28 => 42 | 3 => 3 | 4 => 4 | 0 => 0 | n => n, fun | n => n⟩
def Try.laysNm215_ren : Go.Shelf.Ren := ⟨fun | 15 => 68 | n => n, fun | 22 => 42 | 3 => 3 | 4 => 4 | n => n, fun | n => n⟩
def Try.laysNm237_ren : Go.Shelf.Ren := ⟨fun | 37 => 124 | n => n, fun | 3 => 3 | 4 => 4 | n => n, fun | n => n⟩
def Try.laysNm231_ren : Go.Shelf.Ren := ⟨fun | 31 => 114 | 37 => 124 | n => n, fun | 3 => 3 | 4 => 4 | n => n, fun | n => n⟩
open Go.RowKit Go.Sort in
/-- .. and plain. (LAID: no walk: one application.) -/
theorem Try.slices_Sort_int_none (p : Option Addr) (cap : Nat) (w : World) :
    Calls Try.prog 102 #[.slice p 0 cap] w fun e w' => e = .returned (.tuple #[]) ∧ w' = w := Any.slices_Sort_int_none Try.lays189 p cap w
def Try.laysSlE041_f68_ren : Go.Shelf.Ren := ⟨fun | 41 => 68 | n => n, fun | 22 => 42 | 23 => 3 | 4 => 4 | n => n, fun | n => n⟩
def Try.keysI_ren : Go.Shelf.Ren := ⟨fun | 7 => 74 | 10 => 103 | n => n, fun | 23 => 36 | 26 => 3 | 3 => 3 | 28 => 143 | 0 => 0 | 27 => 142 | 33 => 106 | 4 => 4 | n => n, fun | n => n⟩
theorem Try.keysI : Go.Proofs.SlLaysZI.n7 Try.prog Try.keysI_ren := {
  mixed := by kernel_rfl
  f7 := ⟨Try.f74.name, by decide, Try.func74.trans (congrArg some (by kernel_rfl))⟩
  f10 := ⟨Try.f103.name, by decide, Try.func103.trans (congrArg some (by kernel_rfl))⟩
  t0 := Try.underlying0
  a0 := Try.isAgg0
  z0 := Try.sizeOf0
  v0 := Try.zeroValue0
  t4 := Try.underlying4
  a4 := Try.isAgg4
  z4 := Try.sizeOf4
  v4 := Try.zeroValue4
  t23 := Try.underlying36
  a23 := Try.isAgg36
  z23 := Try.sizeOf36
  v23 := Try.zeroValue36
  t26 := Try.underlying3
  a26 := Try.isAgg3
  z26 := Try.sizeOf3
  v26 := Try.zeroValue3
  t27 := Try.underlying142
  a27 := Try.isAgg142
  z27 := Try.sizeOf142
  v27 := Try.zeroValue142
  t28 := Try.underlying143
  a28 := Try.isAgg143
  z28 := Try.sizeOf143
  v28 := Try.zeroValue143
  t33 := Try.underlying106
  a33 := Try.isAgg106
  z33 := Try.sizeOf106
  v33 := Try.zeroValue106 }
def Try.sortedI_ren : Go.Shelf.Ren := ⟨fun | 6 => 73 | 8 => 101 | 9 => 102 | 11 => 105 | 13 => 107 | 12 => 106 | 23 => 117 | 24 => 118 | 14 => 108 | 15 => 109 | 16 => 110 | 17 => 111 | 18 => 112 | 19 => 113 | 20 => 114 | 21 => 115 | 22 => 116 | 25 => 119 | 26 => 120 | 27 => 121 | 28 => 122 | 29 => 123 | 30 => 124 | 31 => 125 | n => n, fun | 26 => 3 | 28 => 143 | 24 => 42 | 0 => 0 | 3 => 3 | 37 => 165 | 48 => 175 | 50 => 177 | 4 => 4 | 40 => 168 | 39 => 167 | 45 => 46 | 5 => 5 | 9 => 9 | 51 => 178 | 55 => 182 | 57 => 184 | 58 => 87 | 33 => 106 | n => n, fun | n => n⟩
theorem Try.sortedI : Go.Proofs.SlLaysZI.n6 Try.prog Try.sortedI_ren := {
  mixed := by kernel_rfl
  f6 := ⟨Try.f73.name, by decide, Try.func73.trans (congrArg some (by kernel_rfl))⟩
  f8 := ⟨Try.f101.name, by decide, Try.func101.trans (congrArg some (by kernel_rfl))⟩
  f11 := ⟨Try.f105.name, by decide, Try.func105.trans (congrArg some (by kernel_rfl))⟩
  t0 := Try.underlying0
  a0 := Try.isAgg0
  z0 := Try.sizeOf0
  v0 := Try.zeroValue0
  t24 := Try.underlying42
  a24 := Try.isAgg42
  z24 := Try.sizeOf42
  v24 := Try.zeroValue42
  t26 := Try.underlying3
  a26 := Try.isAgg3
  z26 := Try.sizeOf3
  v26 := Try.zeroValue3
  t28 := Try.underlying143
  a28 := Try.isAgg143
  z28 := Try.sizeOf143
  v28 := Try.zeroValue143
  i26 := by kernel_rfl }
end Go.Proofs

/- Walks: what Go functions of this chapter come to, each as a function on plain data; no condition but those that each theorem names. Printed by a program of this work (gen.py). -/
namespace Go.Proofs.Ytdcaehepmkhciaa
open Go.Gx Go.Gx Go.Gx.T10 Go.Gx.T12 Go.Gx.T10 Go.Gx.T11
theorem sz134 : SzIs Try.prog 134 1 := by
 unfold SzIs
 kernel_rfl
theorem sz136 : SzIs Try.prog 136 1 := by
 unfold SzIs
 kernel_rfl
theorem zr36 : ZeroIs Try.prog 36 (Value.map none) := by
 unfold ZeroIs
 kernel_rfl
theorem cl73 : Callable Try.prog 73 := callable Try.func73 (by kernel_rfl) rfl
theorem cl74 : Callable Try.prog 74 := callable Try.func74 (by kernel_rfl) rfl
theorem cl75 : Callable Try.prog 75 := callable Try.func75 (by kernel_rfl) rfl
theorem cl76 : Callable Try.prog 76 := callable Try.func76 (by kernel_rfl) rfl
theorem cl81 : Callable Try.prog 81 := callable Try.func81 (by kernel_rfl) rfl
def storeA (p : Nat) (u : List (Tri × Int)) (t : Int) (c : SC) : Asrt := exA fun z : Nat × Nat × List (Tri × NM) => andA (c = eraN z.2.2) (starL [box p 2 138 (at_ [.pointer (some ⟨z.1, 0, none⟩), .map (some z.2.1)]), tallyT z.1 u t, mapA z.2.1 kT veN z.2.2, hoard FN z.2.2])
theorem sortsI6 (m : Nat) : Go.Proofs.AnyZI.SortsIn Try.prog Try.sortedI_ren Fence.wide m :=
 ⟨fun blk off cap ss W hH hblk hsz => callsIn_wide.2 (Try.slices_Sort_int blk off cap ss W hH hblk hsz), fun p cap W => callsIn_wide.2 (Try.slices_Sort_int_none p cap W)⟩
theorem keysO_new (m : Option Nat) (w : World) : Calls Try.prog 74 #[.map m] w (Ret fun r w' => ∃ p, r = .func (.func 103) #[] #[.pointer (some ⟨p, 0, none⟩)] ∧ Since nX w w' ∧ ∃ F', (box p 1 36 (at_ [.map m])).holds w' F' ∧ ∀ b, F' b → w.heap.size ≤ b) := by
 refine ((callsIn_wide (n := 5)).1 (Go.Proofs.AnyZI.keys_in Try.keysI Fence.wide 5 trivial rfl m w)).mono (fun e w' hR => ?_)
 obtain ⟨rfl, rfl⟩ := hR
 refine ⟨_, rfl, ⟨rfl, rfl, rfl, by show _ ≤ (w.heap.push _).size; simp, fun k hk _ => ?_⟩, fun b => b = w.heap.size, ⟨⟨#[.map m], by show (w.heap.push _)[w.heap.size]? = _; rw [Array.getElem?_push, if_pos rfl]; rfl, IsRow.lit [_]⟩, fun _ => Iff.rfl⟩, fun b hb => by omega⟩
 show (w.heap.push _)[k]? = _
 rw [Array.getElem?_push, if_neg (by omega)]
theorem sortedI_c : KeysC Try.prog 73 103 3 := by
 intro Bm b nn D0 w hcell hlt hown hmax hbytes
 have hseq : SeqGives Fence.wide 2 Try.prog 103 #[.pointer (some ⟨Bm, 0, none⟩)] encZ (fun ss => ss.Perm (intKeys D0)) (Maps.size D0) w :=
  Go.Proofs.AnyZI.keys_gives (ρ := Try.keysI_ren) { Try.keysI with } Fence.wide _ trivial rfl (by omega) Bm b nn D0 _ hlt hcell hown
 refine ((callsIn_wide (n := 5)).1 (Go.Proofs.AnyZI.sorted_in Try.sortedI Fence.wide 5 trivial trivial trivial trivial rfl (by omega) (sortsI6 _) (enters_of Try.func102 (by kernel_rfl) rfl) 103 #[.pointer (some ⟨Bm, 0, none⟩)] trivial (enters_of Try.func103 (by kernel_rfl) rfl) _ _ hmax hbytes _ hseq)).mono (fun e w' hR => ?_)
 obtain ⟨v, ss, he, hS, hrow, _, hb⟩ := hR
 exact ⟨v, ss, he, hS, hrow, hb⟩
theorem sortedI_n : KeysNil Try.prog 73 103 3 := by
 intro Bm w hcell hlt
 have hseq : SeqGives Fence.wide 2 Try.prog 103 #[.pointer (some ⟨Bm, 0, none⟩)] encZ (fun ss : List Int => ss = []) 0 w :=
  Go.Proofs.AnyZI.keys_gives_nil (ρ := Try.keysI_ren) { Try.keysI with } Fence.wide _ trivial rfl Bm w hlt hcell
 refine ((callsIn_wide (n := 5)).1 (Go.Proofs.AnyZI.sorted_in Try.sortedI Fence.wide 5 trivial trivial trivial trivial rfl (by omega) (sortsI6 _) (enters_of Try.func102 (by kernel_rfl) rfl) 103 #[.pointer (some ⟨Bm, 0, none⟩)] trivial (enters_of Try.func103 (by kernel_rfl) rfl) _ 0 (Nat.zero_le _) (by omega) _ hseq)).mono (fun e w' hR => ?_)
 obtain ⟨v, ss, he, rfl, hrow, _, hb⟩ := hR
 exact ⟨v, he, by have h9 := hrow; simp only [List.mergeSort_nil, List.map_nil, List.length_nil] at h9; exact h9, hb⟩
theorem c_slen {F : Nat → Prop} {G : Ghost} (p : Nat)  (u : List (Tri × Int)) (t : Int) (c : SC)  (w : World) (hG : Has G w) (hA : (storeA p u t c).holds w F) (hFG : ∀ b, F b → G b = none) :
  Calls Try.prog 34 #[Value.pointer (some ⟨p, 0, none⟩)] w (Ret fun r w' => r = Value.int .i64 (u.length : Nat) ∧ Kept (storeA p (u) (t) (c)) F w w') := by
 refine enterO (args := [_]) (G := G) (A := storeA p u t c) (l := [(0, Value.pointer (some ⟨p, 0, none⟩))]) Try.func34 rfl Try.ntmps34 hG hA hFG ⟨rfl, trivial⟩ (Nat.le_of_ble_eq_true rfl) ?_
 refine c_unex (fun z => ?_)
 obtain ⟨q, m, l⟩ := z
 refine c_unand (fun hc => ?_)
 dsimp only at hc ⊢
 subst hc
 refine c_unpack ?_
 refine c_seq ?_
 refine c_region ?_
 refine r_val .none rfl (p_assign rfl) ?_
 refine r_nil ?_
 refine e_next ?_
 refine c_seq ?_
 refine c_region ?_
 refine r_val .none rfl (p_move rfl) ?_
 refine r_val .none rfl (p_nilcheck rfl) ?_
 refine r_val .none rfl (p_field Try.underlying138 rfl sz134 rfl) ?_
 refine r_val .none rfl (p_ld (k := 0) Try.underlying134 rfl rfl rfl (by first | exact of_decide_eq_true rfl | omega) (rfl : _ = Value.pointer _)) ?_
 refine r_callo (k := 1) (vs := [_]) .none rfl cl75 rfl rfl (fun w F hw hA hFG => c_lenT _ _ _ w hw hA hFG) ?_
 refine r_val .none rfl (p_assign rfl) ?_
 refine r_nil ?_
 refine e_next ?_
 refine c_ret ?_
 refine e_ret1 Try.results34 (.tmp rfl .nil) (fun w hm => ⟨?_, hm.kept [box p 2 138 (at_ [.pointer (some ⟨q, 0, none⟩), .map (some m)]), tallyT q (u) (t), mapA m kT veN (l), hoard FN (l)] (.keep (fun _ _ h => h) (.keep (fun _ _ h => h) (.keep (fun _ _ h => h) (.keep (fun _ _ h => h) (.nil))))) (storeA p (u) (t) (_)) (fun F' h => ⟨(q, m, l), rfl, h⟩)⟩)
 rfl
theorem c_swanted {F : Nat → Prop} {G : Ghost} (p : Nat) (k : Tri) (u : List (Tri × Int)) (t : Int) (c : SC)  (w : World) (hG : Has G w) (hA : (storeA p u t c).holds w F) (hFG : ∀ b, F b → G b = none) :
  Calls Try.prog 47 #[Value.pointer (some ⟨p, 0, none⟩), kT k] w (Ret fun r w' => r = Value.int .i64 (cnt u k) ∧ Kept (storeA p (u) (t) (c)) F w w') := by
 refine enterO (args := [_, _]) (G := G) (A := storeA p u t c) (l := [(0, Value.pointer (some ⟨p, 0, none⟩)), (1, kT k)]) Try.func47 rfl Try.ntmps47 hG hA hFG ⟨rfl, rfl, trivial⟩ (Nat.le_of_ble_eq_true rfl) ?_
 refine c_unex (fun z => ?_)
 obtain ⟨q, m, l⟩ := z
 refine c_unand (fun hc => ?_)
 dsimp only at hc ⊢
 subst hc
 refine c_unpack ?_
 refine c_seq ?_
 refine c_region ?_
 refine r_box .none rfl rfl (IsRow.lit _) (fun b_1 => ?_)
 refine r_val .none rfl (p_assign rfl) ?_
 refine r_nil ?_
 refine e_next ?_
 refine c_seq ?_
 refine c_region_d (fun _ => false) _ mixed (.keep (fun _ _ h => h) (.keep (fun _ _ h => h) (.keep (fun _ _ h => h) (.keep (fun _ _ h => h) (.keep (fun _ _ h => h) (.nil)))))) ?_
 refine d_val1 0 rfl rfl (by kernel_rfl) (fun _ _ => rfl) .none rfl (p_move rfl) ?_
 refine d_val1 1 rfl rfl (by kernel_rfl) (fun _ _ => rfl) .none rfl (p_nilcheck rfl) ?_
 refine d_val1 2 rfl rfl (by kernel_rfl) (fun _ _ => rfl) .none rfl (p_field Try.underlying138 rfl sz134 rfl) ?_
 refine d_val1 3 rfl rfl (by kernel_rfl) (fun _ _ => rfl) .none rfl (p_ld (k := 1) Try.underlying134 rfl rfl rfl (by first | exact of_decide_eq_true rfl | omega) (rfl : _ = Value.pointer _)) ?_
 refine d_val1 4 rfl rfl (by kernel_rfl) (fun _ _ => rfl) .none rfl (p_ldw (k := 0) Try.underlying61 rfl sz61 rfl rfl (rfl : _ = Value.agg #[_, _, _])) ?_
 refine d_eff 5 rfl (by kernel_rfl) (fun K_1 hKK_1 hcK_1 => ?_)
 refine r_callo (k := 2) (vs := [_, _]) .none rfl cl81 rfl rfl (fun w F hw hA hFG => c_countT _ k _ _ w hw hA hFG) ?_
 refine r_nil (e_d (i := 5) (brk := (fun _ => false)) (ph' := true) hKK_1 hcK_1 rfl (fun _ => GLe.refl _) (fun _ => .keep (fun _ _ h => h) (.keep (fun _ _ h => h) (.keep (fun _ _ h => h) (.keep (fun _ _ h => h) (.keep (fun _ _ h => h) (.nil)))))) ?_)
 clear hKK_1 hcK_1 K_1
 refine d_val1 6 rfl rfl (by kernel_rfl) (fun _ _ => rfl) .none rfl (p_assign rfl) ?_
 refine d_nil (by kernel_rfl) ?_
 refine e_next ?_
 refine c_ret ?_
 refine e_ret1 Try.results47 (.tmp rfl .nil) (fun w hm => ⟨?_, hm.kept [box p 2 138 (at_ [.pointer (some ⟨q, 0, none⟩), .map (some m)]), tallyT q (u) (t), mapA m kT veN (l), hoard FN (l)] (.drop (.keep (fun _ _ h => h) (.keep (fun _ _ h => h) (.keep (fun _ _ h => h) (.keep (fun _ _ h => h) (.nil)))))) (storeA p (u) (t) (_)) (fun F' h => ⟨(q, m, l), rfl, h⟩)⟩)
 rfl
theorem c_sput {F : Nat → Prop} {G : Ghost} (p : Nat) (k : Tri) (id : Int) (u : List (Tri × Int)) (t : Int) (c : SC)  (w : World) (hG : Has G w) (hA : (storeA p u t c).holds w F) (hFG : ∀ b, F b → G b = none) :
  Calls Try.prog 45 #[Value.pointer (some ⟨p, 0, none⟩), kT k, Value.int .i64 id] w (Ret fun r w' => r = Value.bool (putC c k id).1 ∧ Kept (storeA p (u) (t) ((putC c k id).2)) F w w') := by
 refine enterO (args := [_, _, _]) (G := G) (A := storeA p u t c) (l := [(0, Value.pointer (some ⟨p, 0, none⟩)), (1, kT k), (2, Value.int .i64 id)]) Try.func45 rfl Try.ntmps45 hG hA hFG ⟨rfl, rfl, rfl, trivial⟩ (Nat.le_of_ble_eq_true rfl) ?_
 refine c_unex (fun z => ?_)
 obtain ⟨q, m, l⟩ := z
 refine c_unand (fun hc => ?_)
 dsimp only at hc ⊢
 subst hc
 refine c_unpack ?_
 refine c_seq ?_
 refine c_region ?_
 refine r_box .none rfl rfl (IsRow.lit _) (fun b_1 => ?_)
 refine r_val .none rfl (p_assign rfl) ?_
 refine r_nil ?_
 refine e_next ?_
 refine c_seq ?_
 rcases hN : lkp l k with _ | ⟨mi, hi⟩
 ·
  refine c_region_q mixed (by kernel_rfl) ?_
  refine q_val .none rfl (p_move rfl) ?_
  refine q_val .none rfl (p_nilcheck rfl) ?_
  refine q_val .none rfl (p_field Try.underlying138 rfl sz136 rfl) ?_
  refine q_val .none rfl (p_ld (k := 1) Try.underlying136 rfl rfl rfl (by first | exact of_decide_eq_true rfl | omega) (rfl : _ = Value.map _)) ?_
  refine q_val .none rfl (p_ldw (k := 0) Try.underlying61 rfl sz61 rfl rfl (rfl : _ = Value.agg #[_, _, _])) ?_
  refine q_val .none rfl (p_lookup_no (i := 3) (k := k) Try.underlying136 (KeyT.tri (l := []) Try.underlying61 Try.underlying3 sz3 lf61 ef61 eg61) zr36 rfl rfl rfl hN) ?_
  refine q_val .none rfl (p_assign rfl) ?_
  refine q_nil ?_
  refine e_next ?_
  refine c_seq ?_
  refine c_seq ?_
  refine c_region ?_
  refine r_val .none rfl (p_move rfl) ?_
  refine r_val .none rfl (p_eq_map Try.underlying36 rfl rfl) ?_
  refine r_say (d := 15) (v := Value.bool true) rfl ?_
  refine r_val .none rfl (p_move rfl) ?_
  refine r_skip rfl (.no rfl rfl) ?_
  refine r_skip rfl (.no rfl rfl) ?_
  refine r_skip rfl (.no rfl rfl) ?_
  refine r_skip rfl (.no rfl rfl) ?_
  refine r_val .none rfl (p_pick_t rfl rfl) ?_
  refine r_nil ?_
  refine e_next ?_
  refine c_cond_t rfl ?_
  refine c_seq ?_
  refine c_region ?_
  refine r_val .none rfl (p_assign rfl) ?_
  refine r_nil ?_
  refine e_next ?_
  refine c_ret ?_
  refine e_ret_then ?_
  refine e_ret1 Try.results45 (.tmp rfl .nil) (fun w hm => ?_)
  rw [putC_none (eraN_none hN)]
  exact ⟨rfl, hm.kept [box p 2 138 (at_ [.pointer (some ⟨q, 0, none⟩), .map (some m)]), tallyT q (u) (t), mapA m kT veN (l), hoard FN (l)] (.drop (.keep (fun _ _ h => h) (.keep (fun _ _ h => h) (.keep (fun _ _ h => h) (.keep (fun _ _ h => h) (.nil)))))) (storeA p (u) (t) (_)) (fun F' h => ⟨(q, m, l), rfl, h⟩)⟩
 ·
  refine c_front (k := 4) rfl ?_
  refine c_nfocus hN ?_
  refine c_region_q mixed (by kernel_rfl) ?_
  refine q_val .none rfl (p_move rfl) ?_
  refine q_val .none rfl (p_nilcheck rfl) ?_
  refine q_val .none rfl (p_field Try.underlying138 rfl sz136 rfl) ?_
  refine q_val .none rfl (p_ld (k := 3) Try.underlying136 rfl rfl rfl (by first | exact of_decide_eq_true rfl | omega) (rfl : _ = Value.map _)) ?_
  refine q_val .none rfl (p_ldw (k := 2) Try.underlying61 rfl sz61 rfl rfl (rfl : _ = Value.agg #[_, _, _])) ?_
  refine q_val .none rfl (p_lookup_yes (i := 5) (k := k) Try.underlying136 (KeyT.tri (l := []) Try.underlying61 Try.underlying3 sz3 lf61 ef61 eg61) zr36 rfl rfl rfl hN) ?_
  refine q_val .none rfl (p_assign rfl) ?_
  refine q_nil ?_
  refine e_next ?_
  refine c_seq ?_
  refine c_seq ?_
  refine c_region ?_
  refine r_val .none rfl (p_move rfl) ?_
  refine r_val .none rfl (p_eq_map Try.underlying36 rfl rfl) ?_
  refine r_say (d := 15) (v := Value.bool false) rfl ?_
  refine r_val .none rfl (p_move rfl) ?_
  refine r_val (.some rfl rfl) rfl (p_move rfl) ?_
  refine r_val (.some rfl rfl) rfl (p_move rfl) ?_
  refine r_val (.some rfl rfl) rfl (p_lookup (i := 0) (z0 := (0 : Int)) Try.underlying36 (KeyT.int Try.underlying3) zr3 rfl rfl rfl) ?_
  refine r_val (.some rfl rfl) rfl (p_gt rfl rfl) ?_
  refine r_val .none rfl (p_pick_f rfl rfl) ?_
  refine r_nil ?_
  refine e_next ?_
  refine c_splitd (d := 21) rfl (fun h_1 => ?_) (fun h_1 => ?_)
  ·
   have hQ := h_1
   first
    | (exfalso; omega)
    | (
     refine c_cond_t rfl ?_
     refine c_seq ?_
     refine c_region ?_
     refine r_val .none rfl (p_assign rfl) ?_
     refine r_nil ?_
     refine e_next ?_
     refine c_ret ?_
     refine e_ret_then ?_
     refine e_front (k := 1) rfl ?_
     refine e_front (k := 1) rfl ?_
     refine e_nunfocus hN ?_
     refine e_front (k := 4) rfl ?_
     refine e_front (k := 4) rfl ?_
     refine e_front (k := 4) rfl ?_
     refine e_ret1 Try.results45 (.tmp rfl .nil) (fun w hm => ?_)
     rw [putC_in (eraN_some hN) hQ]
     exact ⟨rfl, hm.kept [box p 2 138 (at_ [.pointer (some ⟨q, 0, none⟩), .map (some m)]), tallyT q (u) (t), mapA m kT veN ((mput l k (mi, hi))), hoard FN ((mput l k (mi, hi)))] (.keep (fun _ _ h => h) (.keep (fun _ _ h => h) (.keep (fun _ _ h => retellN (h' := hi) hN h) (.keep (fun _ _ h => h) (.drop (.nil)))))) (storeA p (u) (t) (_)) (fun F' h => ⟨(q, m, (mput l k (mi, hi))), by rw [eraN_mput]; exact (mput_same (eraN_some hN)).symm, h⟩)⟩
     )
  ·
   have hQ := h_1
   first
    | (exfalso; omega)
    | (
     refine c_cond_f rfl ?_
     refine c_skip ?_
     refine e_next ?_
     refine c_seq ?_
     refine c_region ?_
     refine r_val .none rfl (p_move rfl) ?_
     refine r_val .none rfl (p_move rfl) ?_
     refine r_mapup (i := 0) .none Try.underlying36 (KeyT.int Try.underlying3) rfl rfl rfl rfl ?_
     refine r_nil ?_
     refine e_next ?_
     refine c_seq ?_
     refine c_region ?_
     refine r_val .none rfl (p_assign rfl) ?_
     refine r_nil ?_
     refine e_next ?_
     refine c_ret ?_
     refine e_front (k := 1) rfl ?_
     refine e_front (k := 1) rfl ?_
     refine e_nunfocus hN ?_
     refine e_front (k := 4) rfl ?_
     refine e_front (k := 4) rfl ?_
     refine e_front (k := 4) rfl ?_
     refine e_ret1 Try.results45 (.tmp rfl .nil) (fun w hm => ?_)
     rw [putC_new (eraN_some hN) hQ]
     exact ⟨rfl, hm.kept [box p 2 138 (at_ [.pointer (some ⟨q, 0, none⟩), .map (some m)]), tallyT q (u) (t), mapA m kT veN ((mput l k (mi, (mput hi id 1)))), hoard FN ((mput l k (mi, (mput hi id 1))))] (.keep (fun _ _ h => h) (.keep (fun _ _ h => h) (.keep (fun _ _ h => retellN (h' := (mput hi id 1)) hN h) (.keep (fun _ _ h => h) (.drop (.nil)))))) (storeA p (u) (t) (_)) (fun F' h => ⟨(q, m, (mput l k (mi, (mput hi id 1)))), by dsimp only; rw [eraN_mput], h⟩)⟩
     )
theorem c_stake {F : Nat → Prop} {G : Ghost} (p : Nat) (k : Tri) (id : Int) (u : List (Tri × Int)) (t : Int) (c : SC)  (w : World) (hG : Has G w) (hA : (storeA p u t c).holds w F) (hFG : ∀ b, F b → G b = none) :
  Calls Try.prog 46 #[Value.pointer (some ⟨p, 0, none⟩), kT k, Value.int .i64 id] w (Ret fun r w' => r = Value.bool (takeC c k id).1 ∧ Kept (storeA p (u) (t) ((takeC c k id).2)) F w w') := by
 refine enterO (args := [_, _, _]) (G := G) (A := storeA p u t c) (l := [(0, Value.pointer (some ⟨p, 0, none⟩)), (1, kT k), (2, Value.int .i64 id)]) Try.func46 rfl Try.ntmps46 hG hA hFG ⟨rfl, rfl, rfl, trivial⟩ (Nat.le_of_ble_eq_true rfl) ?_
 refine c_unex (fun z => ?_)
 obtain ⟨q, m, l⟩ := z
 refine c_unand (fun hc => ?_)
 dsimp only at hc ⊢
 subst hc
 refine c_unpack ?_
 refine c_seq ?_
 refine c_region ?_
 refine r_box .none rfl rfl (IsRow.lit _) (fun b_1 => ?_)
 refine r_val .none rfl (p_assign rfl) ?_
 refine r_nil ?_
 refine e_next ?_
 refine c_seq ?_
 rcases hN : lkp l k with _ | ⟨mi, hi⟩
 ·
  refine c_region_q mixed (by kernel_rfl) ?_
  refine q_val .none rfl (p_move rfl) ?_
  refine q_val .none rfl (p_nilcheck rfl) ?_
  refine q_val .none rfl (p_field Try.underlying138 rfl sz136 rfl) ?_
  refine q_val .none rfl (p_ld (k := 1) Try.underlying136 rfl rfl rfl (by first | exact of_decide_eq_true rfl | omega) (rfl : _ = Value.map _)) ?_
  refine q_val .none rfl (p_ldw (k := 0) Try.underlying61 rfl sz61 rfl rfl (rfl : _ = Value.agg #[_, _, _])) ?_
  refine q_val .none rfl (p_lookup_no (i := 3) (k := k) Try.underlying136 (KeyT.tri (l := []) Try.underlying61 Try.underlying3 sz3 lf61 ef61 eg61) zr36 rfl rfl rfl hN) ?_
  refine q_val .none rfl (p_assign rfl) ?_
  refine q_nil ?_
  refine e_next ?_
  refine c_seq ?_
  refine c_seq ?_
  refine c_region ?_
  refine r_val .none rfl (p_move rfl) ?_
  refine r_val .none rfl (p_move rfl) ?_
  refine r_val .none rfl (p_lookup_nil Try.underlying36 (KeyT.int Try.underlying3) zr3 rfl rfl) ?_
  refine r_val .none rfl (p_eq rfl rfl) ?_
  refine r_say (d := 17) (v := Value.bool true) rfl ?_
  refine r_nil ?_
  refine e_next ?_
  refine c_cond_t rfl ?_
  refine c_seq ?_
  refine c_region ?_
  refine r_val .none rfl (p_assign rfl) ?_
  refine r_nil ?_
  refine e_next ?_
  refine c_ret ?_
  refine e_ret_then ?_
  refine e_ret1 Try.results46 (.tmp rfl .nil) (fun w hm => ?_)
  rw [takeC_none (eraN_none hN)]
  exact ⟨rfl, hm.kept [box p 2 138 (at_ [.pointer (some ⟨q, 0, none⟩), .map (some m)]), tallyT q (u) (t), mapA m kT veN (l), hoard FN (l)] (.drop (.keep (fun _ _ h => h) (.keep (fun _ _ h => h) (.keep (fun _ _ h => h) (.keep (fun _ _ h => h) (.nil)))))) (storeA p (u) (t) (_)) (fun F' h => ⟨(q, m, l), rfl, h⟩)⟩
 ·
  refine c_front (k := 4) rfl ?_
  refine c_nfocus hN ?_
  refine c_region_q mixed (by kernel_rfl) ?_
  refine q_val .none rfl (p_move rfl) ?_
  refine q_val .none rfl (p_nilcheck rfl) ?_
  refine q_val .none rfl (p_field Try.underlying138 rfl sz136 rfl) ?_
  refine q_val .none rfl (p_ld (k := 3) Try.underlying136 rfl rfl rfl (by first | exact of_decide_eq_true rfl | omega) (rfl : _ = Value.map _)) ?_
  refine q_val .none rfl (p_ldw (k := 2) Try.underlying61 rfl sz61 rfl rfl (rfl : _ = Value.agg #[_, _, _])) ?_
  refine q_val .none rfl (p_lookup_yes (i := 5) (k := k) Try.underlying136 (KeyT.tri (l := []) Try.underlying61 Try.underlying3 sz3 lf61 ef61 eg61) zr36 rfl rfl rfl hN) ?_
  refine q_val .none rfl (p_assign rfl) ?_
  refine q_nil ?_
  refine e_next ?_
  refine c_seq ?_
  refine c_seq ?_
  refine c_region ?_
  refine r_val .none rfl (p_move rfl) ?_
  refine r_val .none rfl (p_move rfl) ?_
  refine r_val .none rfl (p_lookup (i := 0) (z0 := (0 : Int)) Try.underlying36 (KeyT.int Try.underlying3) zr3 rfl rfl rfl) ?_
  refine r_val .none rfl (p_eq rfl rfl) ?_
  refine r_nil ?_
  refine e_next ?_
  refine c_splitd (d := 17) rfl (fun h_1 => ?_) (fun h_1 => ?_)
  ·
   have hQ := h_1
   first
    | (exfalso; omega)
    | (
     refine c_cond_t rfl ?_
     refine c_seq ?_
     refine c_region ?_
     refine r_val .none rfl (p_assign rfl) ?_
     refine r_nil ?_
     refine e_next ?_
     refine c_ret ?_
     refine e_ret_then ?_
     refine e_front (k := 1) rfl ?_
     refine e_front (k := 1) rfl ?_
     refine e_nunfocus hN ?_
     refine e_front (k := 4) rfl ?_
     refine e_front (k := 4) rfl ?_
     refine e_front (k := 4) rfl ?_
     refine e_ret1 Try.results46 (.tmp rfl .nil) (fun w hm => ?_)
     rw [takeC_out (eraN_some hN) hQ]
     exact ⟨rfl, hm.kept [box p 2 138 (at_ [.pointer (some ⟨q, 0, none⟩), .map (some m)]), tallyT q (u) (t), mapA m kT veN ((mput l k (mi, hi))), hoard FN ((mput l k (mi, hi)))] (.keep (fun _ _ h => h) (.keep (fun _ _ h => h) (.keep (fun _ _ h => retellN (h' := hi) hN h) (.keep (fun _ _ h => h) (.drop (.nil)))))) (storeA p (u) (t) (_)) (fun F' h => ⟨(q, m, (mput l k (mi, hi))), by rw [eraN_mput]; exact (mput_same (eraN_some hN)).symm, h⟩)⟩
     )
  ·
   have hQ := h_1
   first
    | (exfalso; omega)
    | (
     refine c_cond_f rfl ?_
     refine c_skip ?_
     refine e_next ?_
     refine c_seq ?_
     refine c_region ?_
     refine r_val .none rfl (p_move rfl) ?_
     refine r_val .none rfl (p_move rfl) ?_
     refine r_delete (i := 0) .none Try.underlying36 (KeyT.int Try.underlying3) rfl rfl rfl rfl ?_
     refine r_nil ?_
     refine e_next ?_
     refine c_seq ?_
     refine c_region ?_
     refine r_val .none rfl (p_assign rfl) ?_
     refine r_nil ?_
     refine e_next ?_
     refine c_ret ?_
     refine e_front (k := 1) rfl ?_
     refine e_front (k := 1) rfl ?_
     refine e_nunfocus hN ?_
     refine e_front (k := 4) rfl ?_
     refine e_front (k := 4) rfl ?_
     refine e_front (k := 4) rfl ?_
     refine e_ret1 Try.results46 (.tmp rfl .nil) (fun w hm => ?_)
     rw [takeC_in (eraN_some hN) hQ]
     exact ⟨rfl, hm.kept [box p 2 138 (at_ [.pointer (some ⟨q, 0, none⟩), .map (some m)]), tallyT q (u) (t), mapA m kT veN ((mput l k (mi, (mdel hi id)))), hoard FN ((mput l k (mi, (mdel hi id))))] (.keep (fun _ _ h => h) (.keep (fun _ _ h => h) (.keep (fun _ _ h => retellN (h' := (mdel hi id)) hN h) (.keep (fun _ _ h => h) (.drop (.nil)))))) (storeA p (u) (t) (_)) (fun F' h => ⟨(q, m, (mput l k (mi, (mdel hi id)))), by dsimp only; rw [eraN_mput], h⟩)⟩
     )
theorem c_sitems {F : Nat → Prop} {G : Ghost} (p : Nat) (k : Tri) (u : List (Tri × Int)) (t : Int) (c : SC) (hwf : ∀ h, lkp c k = some h → (∀ q ∈ h, (Lit.int .i64 q.1).wf = true) ∧ h.length ≤ 5000) (w : World) (hG : Has G w) (hA : (storeA p u t c).holds w F) (hFG : ∀ b, F b → G b = none) :
  Calls Try.prog 33 #[Value.pointer (some ⟨p, 0, none⟩), kT k] w (Ret fun r w' => ∃ G', GNew w F G G' ∧ Has G' w' ∧ SlL G' r 1 cI (0 : Int) (itemsC c k) ∧ KeptG (storeA p u t c) F G' w w') := by
 refine enterO (args := [_, _]) (G := G) (A := storeA p u t c) (l := [(0, Value.pointer (some ⟨p, 0, none⟩)), (1, kT k)]) Try.func33 rfl Try.ntmps33 hG hA hFG ⟨rfl, rfl, trivial⟩ (Nat.le_of_ble_eq_true rfl) ?_
 refine c_unex (fun z => ?_)
 obtain ⟨q, m, l⟩ := z
 refine c_unand (fun hc => ?_)
 dsimp only at hc ⊢
 subst hc
 refine c_unpack ?_
 refine c_seq ?_
 refine c_region ?_
 refine r_box .none rfl rfl (IsRow.lit _) (fun b_1 => ?_)
 refine r_val .none rfl (p_assign rfl) ?_
 refine r_nil ?_
 refine e_next ?_
 refine c_seq ?_
 rcases hN : lkp l k with _ | ⟨mi, hi⟩
 ·
  refine c_region_d (fun _ => false) _ mixed (.keep (fun _ _ h => h) (.keep (fun _ _ h => h) (.keep (fun _ _ h => h) (.keep (fun _ _ h => h) (.keep (fun _ _ h => h) (.nil)))))) ?_
  refine d_val1 0 rfl rfl (by kernel_rfl) (fun _ _ => rfl) .none rfl (p_move rfl) ?_
  refine d_val1 1 rfl rfl (by kernel_rfl) (fun _ _ => rfl) .none rfl (p_nilcheck rfl) ?_
  refine d_val1 2 rfl rfl (by kernel_rfl) (fun _ _ => rfl) .none rfl (p_field Try.underlying138 rfl sz136 rfl) ?_
  refine d_val1 3 rfl rfl (by kernel_rfl) (fun _ _ => rfl) .none rfl (p_ld (k := 1) Try.underlying136 rfl rfl rfl (by first | exact of_decide_eq_true rfl | omega) (rfl : _ = Value.map _)) ?_
  refine d_val1 4 rfl rfl (by kernel_rfl) (fun _ _ => rfl) .none rfl (p_ldw (k := 0) Try.underlying61 rfl sz61 rfl rfl (rfl : _ = Value.agg #[_, _, _])) ?_
  refine d_val1 5 rfl rfl (by kernel_rfl) (fun _ _ => rfl) .none rfl (p_lookup_no (i := 3) (k := k) Try.underlying136 (KeyT.tri (l := []) Try.underlying61 Try.underlying3 sz3 lf61 ef61 eg61) zr36 rfl rfl rfl hN) ?_
  refine d_eff 6 rfl (by kernel_rfl) (fun K_1 hKK_1 hcK_1 => ?_)
  refine r_callnew (S := fun p => box p 1 36 (at_ [.map none])) (vr := fun p => .func (.func 103) #[] #[.pointer (some ⟨p, 0, none⟩)]) .none rfl cl74 rfl (fun w hw => keysO_new _ w) (fun p_2 => ?_)
  refine r_nil (e_d (i := 6) (brk := (fun _ => false)) (ph' := true) hKK_1 hcK_1 rfl (fun _ => GLe.refl _) (fun _ => .drop (.keep (fun _ _ h => h) (.keep (fun _ _ h => h) (.keep (fun _ _ h => h) (.keep (fun _ _ h => h) (.keep (fun _ _ h => h) (.nil))))))) ?_)
  clear hKK_1 hcK_1 K_1
  refine d_eff 7 rfl (by kernel_rfl) (fun K_4 hKK_4 hcK_4 => ?_)
  refine r_sorted_nil (j := 0) .none rfl cl73 rfl rfl sortedI_n (fun v_3 => ?_)
  refine r_nil (e_d (i := 7) (brk := (fun _ => false)) (ph' := true) hKK_4 hcK_4 rfl (fun _ => GLe.refl _) (fun _ => .drop (.drop (.keep (fun _ _ h => h) (.keep (fun _ _ h => h) (.keep (fun _ _ h => h) (.keep (fun _ _ h => h) (.keep (fun _ _ h => h) (.nil)))))))) ?_)
  clear hKK_4 hcK_4 K_4
  refine d_val1 8 rfl rfl (by kernel_rfl) (fun _ _ => rfl) .none rfl (p_assign rfl) ?_
  refine d_nil (by kernel_rfl) ?_
  refine e_next ?_
  refine c_ret ?_
  refine e_freeze (k := 0) rfl (fun G_5 hn_6 hs_7 => ?_)
  refine e_ret1 Try.results33 (.tmp rfl .nil) (fun w hm => ⟨_, hn_6, hm.has, ?_, hm.keptG [box p 2 138 (at_ [.pointer (some ⟨q, 0, none⟩), .map (some m)]), tallyT q (u) (t), mapA m kT veN (l), hoard FN (l)] (.drop (.drop (.keep (fun _ _ h => h) (.keep (fun _ _ h => h) (.keep (fun _ _ h => h) (.keep (fun _ _ h => h) (.nil))))))) (storeA p (u) (t) (_)) (fun F' h => ⟨(q, m, l), rfl, h⟩)⟩)
  exact SlL.of2 (0 : Int) (fun _ => rfl) (by unfold itemsC sortI; rw [eraN_none hN]; simp) (by unfold itemsC sortI; rw [eraN_none hN]; simp) hs_7
 ·
  refine c_front (k := 4) rfl ?_
  refine c_nfocus hN ?_
  refine c_region_d (fun _ => false) _ mixed (.keep (fun _ _ h => h) (.keep (fun _ _ h => h) (.keep (fun _ _ h => h) (.keep (fun _ _ h => h) (.keep (fun _ _ h => h) (.keep (fun _ _ h => h) (.nil))))))) ?_
  refine d_val1 0 rfl rfl (by kernel_rfl) (fun _ _ => rfl) .none rfl (p_move rfl) ?_
  refine d_val1 1 rfl rfl (by kernel_rfl) (fun _ _ => rfl) .none rfl (p_nilcheck rfl) ?_
  refine d_val1 2 rfl rfl (by kernel_rfl) (fun _ _ => rfl) .none rfl (p_field Try.underlying138 rfl sz136 rfl) ?_
  refine d_val1 3 rfl rfl (by kernel_rfl) (fun _ _ => rfl) .none rfl (p_ld (k := 3) Try.underlying136 rfl rfl rfl (by first | exact of_decide_eq_true rfl | omega) (rfl : _ = Value.map _)) ?_
  refine d_val1 4 rfl rfl (by kernel_rfl) (fun _ _ => rfl) .none rfl (p_ldw (k := 2) Try.underlying61 rfl sz61 rfl rfl (rfl : _ = Value.agg #[_, _, _])) ?_
  refine d_val1 5 rfl rfl (by kernel_rfl) (fun _ _ => rfl) .none rfl (p_lookup_yes (i := 5) (k := k) Try.underlying136 (KeyT.tri (l := []) Try.underlying61 Try.underlying3 sz3 lf61 ef61 eg61) zr36 rfl rfl rfl hN) ?_
  refine d_eff 6 rfl (by kernel_rfl) (fun K_8 hKK_8 hcK_8 => ?_)
  refine r_callnew (S := fun p => box p 1 36 (at_ [.map (some mi)])) (vr := fun p => .func (.func 103) #[] #[.pointer (some ⟨p, 0, none⟩)]) .none rfl cl74 rfl (fun w hw => keysO_new _ w) (fun p_9 => ?_)
  refine r_nil (e_d (i := 6) (brk := (fun _ => false)) (ph' := true) hKK_8 hcK_8 rfl (fun _ => GLe.refl _) (fun _ => .drop (.keep (fun _ _ h => h) (.keep (fun _ _ h => h) (.keep (fun _ _ h => h) (.keep (fun _ _ h => h) (.keep (fun _ _ h => h) (.keep (fun _ _ h => h) (.nil)))))))) ?_)
  clear hKK_8 hcK_8 K_8
  refine d_eff 7 rfl (by kernel_rfl) (fun K_11 hKK_11 hcK_11 => ?_)
  refine r_sorted (i := 1) (j := 0) .none rfl cl73 rfl rfl rfl sortedI_c Try.underlying3 (hwf _ (eraN_some hN)).1 (by have h9 := (hwf _ (eraN_some hN)).2; omega) (fun v_10 => ?_)
  refine r_nil (e_d (i := 7) (brk := (fun _ => false)) (ph' := true) hKK_11 hcK_11 rfl (fun _ => GLe.refl _) (fun _ => .drop (.drop (.keep (fun _ _ h => h) (.keep (fun _ _ h => h) (.keep (fun _ _ h => h) (.keep (fun _ _ h => h) (.keep (fun _ _ h => h) (.keep (fun _ _ h => h) (.nil))))))))) ?_)
  clear hKK_11 hcK_11 K_11
  refine d_val1 8 rfl rfl (by kernel_rfl) (fun _ _ => rfl) .none rfl (p_assign rfl) ?_
  refine d_nil (by kernel_rfl) ?_
  refine e_next ?_
  refine c_ret ?_
  refine e_front (k := 3) rfl ?_
  refine e_front (k := 3) rfl ?_
  refine e_nunfocus hN ?_
  refine e_front (k := 6) rfl ?_
  refine e_front (k := 6) rfl ?_
  refine e_front (k := 6) rfl ?_
  refine e_freeze (k := 4) rfl (fun G_12 hn_13 hs_14 => ?_)
  refine e_ret1 Try.results33 (.tmp rfl .nil) (fun w hm => ⟨_, hn_13, hm.has, ?_, hm.keptG [box p 2 138 (at_ [.pointer (some ⟨q, 0, none⟩), .map (some m)]), tallyT q (u) (t), mapA m kT veN ((mput l k (mi, hi))), hoard FN ((mput l k (mi, hi)))] (.keep (fun _ _ h => h) (.keep (fun _ _ h => h) (.keep (fun _ _ h => retellN (h' := hi) hN h) (.keep (fun _ _ h => h) (.drop (.drop (.nil))))))) (storeA p (u) (t) (_)) (fun F' h => ⟨(q, m, (mput l k (mi, hi))), by dsimp only; rw [eraN_mput]; exact (mput_same (eraN_some hN)).symm, h⟩)⟩)
  exact SlL.of2 (0 : Int) (fun _ => rfl) (by unfold itemsC; rw [eraN_some hN]; rfl) (by unfold itemsC; rw [eraN_some hN]; rfl) hs_14
theorem c_sdrop {F : Nat → Prop} {G : Ghost} (p : Nat) (k : Tri) (u : List (Tri × Int)) (t : Int) (c : SC) (hb : 0 ≤ cnt u k ∧ cnt u k ≤ 4611686018427387904) (ht : -4611686018427387904 ≤ t ∧ t ≤ 4611686018427387904) (w : World) (hG : Has G w) (hA : (storeA p u t c).holds w F) (hFG : ∀ b, F b → G b = none) :
  Calls Try.prog 35 #[Value.pointer (some ⟨p, 0, none⟩), kT k] w (Ret fun r w' => r = Value.tuple #[Value.int .i64 (if cnt u k = 0 then 0 else cnt u k - 1), Value.int .i64 (if cnt u k = 0 then 16 else 0)] ∧ Kept (storeA p (tDrop u k) (if cnt u k = 0 then t else t - 1) (dropC c k (cnt u k))) F w w') := by
 refine enterO (args := [_, _]) (G := G) (A := storeA p u t c) (l := [(0, Value.pointer (some ⟨p, 0, none⟩)), (1, kT k)]) Try.func35 rfl Try.ntmps35 hG hA hFG ⟨rfl, rfl, trivial⟩ (Nat.le_of_ble_eq_true rfl) ?_
 refine c_unex (fun z => ?_)
 obtain ⟨q, m, l⟩ := z
 refine c_unand (fun hc => ?_)
 dsimp only at hc ⊢
 subst hc
 refine c_unpack ?_
 refine c_seq ?_
 refine c_region ?_
 refine r_box .none rfl rfl (IsRow.lit _) (fun b_1 => ?_)
 refine r_val .none rfl (p_assign rfl) ?_
 refine r_val .none rfl (p_assign rfl) ?_
 refine r_nil ?_
 refine e_next ?_
 refine c_seq ?_
 refine c_region_d (fun _ => false) _ mixed (.keep (fun _ _ h => h) (.keep (fun _ _ h => h) (.drop (.keep (fun _ _ h => h) (.keep (fun _ _ h => h) (.nil)))))) ?_
 refine d_val1 0 rfl rfl (by kernel_rfl) (fun _ _ => rfl) .none rfl (p_move rfl) ?_
 refine d_val1 1 rfl rfl (by kernel_rfl) (fun _ _ => rfl) .none rfl (p_nilcheck rfl) ?_
 refine d_val1 2 rfl rfl (by kernel_rfl) (fun _ _ => rfl) .none rfl (p_field Try.underlying138 rfl sz134 rfl) ?_
 refine d_val1 3 rfl rfl (by kernel_rfl) (fun _ _ => rfl) .none rfl (p_ld (k := 1) Try.underlying134 rfl rfl rfl (by first | exact of_decide_eq_true rfl | omega) (rfl : _ = Value.pointer _)) ?_
 refine d_val1 4 rfl rfl (by kernel_rfl) (fun _ _ => rfl) .none rfl (p_ldw (k := 0) Try.underlying61 rfl sz61 rfl rfl (rfl : _ = Value.agg #[_, _, _])) ?_
 refine d_eff 5 rfl (by kernel_rfl) (fun K_1 hKK_1 hcK_1 => ?_)
 refine r_callo (k := 2) (vs := [_, _]) .none rfl cl76 rfl rfl (fun w F hw hA hFG => c_dropT _ k _ _ hb ht w hw hA hFG) ?_
 refine r_nil (e_d (i := 5) (brk := (fun _ => false)) (ph' := true) hKK_1 hcK_1 rfl (fun _ => GLe.refl _) (fun _ => .keep (fun _ _ h => h) (.keep (fun _ _ h => h) (.drop (.keep (fun _ _ h => h) (.keep (fun _ _ h => h) (.nil)))))) ?_)
 clear hKK_1 hcK_1 K_1
 refine d_val1 6 rfl rfl (by kernel_rfl) (fun _ _ => rfl) .none rfl (p_move rfl) ?_
 refine d_val1 7 rfl rfl (by kernel_rfl) (fun _ _ => rfl) .none rfl (p_extract rfl rfl) ?_
 refine d_val1 8 rfl rfl (by kernel_rfl) (fun _ _ => rfl) .none rfl (p_extract rfl rfl) ?_
 refine d_val1 9 rfl rfl (by kernel_rfl) (fun _ _ => rfl) .none rfl (p_assign rfl) ?_
 refine d_val1 10 rfl rfl (by kernel_rfl) (fun _ _ => rfl) .none rfl (p_assign rfl) ?_
 refine d_nil (by kernel_rfl) ?_
 refine e_next ?_
 refine c_seq ?_
 refine c_seq ?_
 refine c_region ?_
 refine r_val .none rfl (p_move rfl) ?_
 refine r_val .none rfl (p_eq rfl rfl) ?_
 refine r_val .none rfl (p_move rfl) ?_
 refine r_splitd (d := 19) rfl (fun h_2 => ?_) (fun h_2 => ?_)
 ·
  have h0 := h_2
  first
   | (exfalso; omega)
   | (
    refine r_val (.some rfl rfl) rfl (p_move rfl) ?_
    refine r_val (.some rfl rfl) rfl (p_eq rfl rfl) ?_
    refine r_val .none rfl (p_pick_t rfl rfl) ?_
    refine r_nil ?_
    refine e_next ?_
    refine c_splitd (d := 22) rfl (fun h_3 => ?_) (fun h_3 => ?_)
    ·
     have hD : cnt u k = 1 := by (have h9 := h_3; split at h0 <;> split at h9 <;> omega)
     first
      | (exfalso; omega)
      | (
       refine c_cond_t rfl ?_
       refine c_region_d (fun _ => false) _ mixed (.keep (fun _ _ h => h) (.keep (fun _ _ h => h) (.keep (fun _ _ h => h) (.drop (.keep (fun _ _ h => h) (.nil)))))) ?_
       refine d_val1 0 rfl rfl (by kernel_rfl) (fun _ _ => rfl) .none rfl (p_move rfl) ?_
       refine d_val1 1 rfl rfl (by kernel_rfl) (fun _ _ => rfl) .none rfl (p_nilcheck rfl) ?_
       refine d_val1 2 rfl rfl (by kernel_rfl) (fun _ _ => rfl) .none rfl (p_field Try.underlying138 rfl sz136 rfl) ?_
       refine d_val1 3 rfl rfl (by kernel_rfl) (fun _ _ => rfl) .none rfl (p_ld (k := 1) Try.underlying136 rfl rfl rfl (by first | exact of_decide_eq_true rfl | omega) (rfl : _ = Value.map _)) ?_
       refine d_val1 4 rfl rfl (by kernel_rfl) (fun _ _ => rfl) .none rfl (p_ldw (k := 0) Try.underlying61 rfl sz61 rfl rfl (rfl : _ = Value.agg #[_, _, _])) ?_
       refine d_eff 5 rfl (by kernel_rfl) (fun K_4 hKK_4 hcK_4 => ?_)
       refine r_delete (i := 3) (k := k) .none Try.underlying136 (KeyT.tri (l := []) Try.underlying61 Try.underlying3 sz3 lf61 ef61 eg61) rfl rfl rfl rfl ?_
       refine r_nil (e_d (i := 5) (brk := (fun _ => false)) (ph' := true) hKK_4 hcK_4 rfl (fun _ => GLe.refl _) (fun _ => .keep (fun _ _ h => h) (.keep (fun _ _ h => h) (.keep (fun _ _ h => h) (.drop (.keep (fun _ _ h => h) (.nil)))))) ?_)
       clear hKK_4 hcK_4 K_4
       refine d_nil (by kernel_rfl) ?_
       refine e_next ?_
       refine c_seq ?_
       refine c_region ?_
       refine r_val .none rfl (p_move rfl) ?_
       refine r_val .none rfl (p_move rfl) ?_
       refine r_val .none rfl (p_assign rfl) ?_
       refine r_val .none rfl (p_assign rfl) ?_
       refine r_nil ?_
       refine e_next ?_
       refine c_ret ?_
       refine e_front (k := 4) rfl ?_
       refine e_fdel (k := k) ?_
       refine e_front (k := 4) rfl ?_
       refine e_front (k := 4) rfl ?_
       refine e_front (k := 4) rfl ?_
       refine e_retn Try.results35 (.tmp rfl (.tmp rfl .nil)) rfl (fun w hm => ?_)
       have h1 : cnt u k = 1 := hD
       rw [dropC, if_pos h1]
       exact ⟨rfl, hm.kept [box p 2 138 (at_ [.pointer (some ⟨q, 0, none⟩), .map (some m)]), tallyT q (tDrop u k) (if cnt u k = 0 then t else t - 1), mapA m kT veN ((mdel l k)), hoard FN ((mdel l k))] (.keep (fun _ _ h => h) (.keep (fun _ _ h => h) (.keep (fun _ _ h => h) (.keep (fun _ _ h => h) (.drop (.nil)))))) (storeA p (tDrop u k) (if cnt u k = 0 then t else t - 1) (_)) (fun F' h => ⟨(q, m, (mdel l k)), by dsimp only; rw [eraN_mdel], h⟩)⟩
       )
    ·
     have hD : ¬ cnt u k = 1 := by (have h9 := h_3; intro h8; rw [if_neg (by omega)] at h9; omega)
     first
      | (exfalso; omega)
      | (
       refine c_cond_f rfl ?_
       refine c_skip ?_
       refine e_next ?_
       refine c_seq ?_
       refine c_region ?_
       refine r_val .none rfl (p_move rfl) ?_
       refine r_val .none rfl (p_move rfl) ?_
       refine r_val .none rfl (p_assign rfl) ?_
       refine r_val .none rfl (p_assign rfl) ?_
       refine r_nil ?_
       refine e_next ?_
       refine c_ret ?_
       refine e_retn Try.results35 (.tmp rfl (.tmp rfl .nil)) rfl (fun w hm => ?_)
       have h1 : ¬ cnt u k = 1 := hD
       rw [dropC, if_neg h1]
       exact ⟨rfl, hm.kept [box p 2 138 (at_ [.pointer (some ⟨q, 0, none⟩), .map (some m)]), tallyT q (tDrop u k) (if cnt u k = 0 then t else t - 1), mapA m kT veN (l), hoard FN (l)] (.drop (.keep (fun _ _ h => h) (.keep (fun _ _ h => h) (.keep (fun _ _ h => h) (.keep (fun _ _ h => h) (.nil)))))) (storeA p (tDrop u k) (if cnt u k = 0 then t else t - 1) (_)) (fun F' h => ⟨(q, m, l), rfl, h⟩)⟩
       )
    )
 ·
  have hD : ¬ cnt u k = 1 := by (have h0 := h_2; split at h0 <;> omega)
  first
   | (exfalso; omega)
   | (
    refine r_skip rfl (.no rfl rfl) ?_
    refine r_skip rfl (.no rfl rfl) ?_
    refine r_val .none rfl (p_pick_f rfl rfl) ?_
    refine r_nil ?_
    refine e_next ?_
    refine c_cond_f rfl ?_
    refine c_skip ?_
    refine e_next ?_
    refine c_seq ?_
    refine c_region ?_
    refine r_val .none rfl (p_move rfl) ?_
    refine r_val .none rfl (p_move rfl) ?_
    refine r_val .none rfl (p_assign rfl) ?_
    refine r_val .none rfl (p_assign rfl) ?_
    refine r_nil ?_
    refine e_next ?_
    refine c_ret ?_
    refine e_retn Try.results35 (.tmp rfl (.tmp rfl .nil)) rfl (fun w hm => ?_)
    have h1 : ¬ cnt u k = 1 := hD
    rw [dropC, if_neg h1]
    exact ⟨rfl, hm.kept [box p 2 138 (at_ [.pointer (some ⟨q, 0, none⟩), .map (some m)]), tallyT q (tDrop u k) (if cnt u k = 0 then t else t - 1), mapA m kT veN (l), hoard FN (l)] (.drop (.keep (fun _ _ h => h) (.keep (fun _ _ h => h) (.keep (fun _ _ h => h) (.keep (fun _ _ h => h) (.nil)))))) (storeA p (tDrop u k) (if cnt u k = 0 then t else t - 1) (_)) (fun F' h => ⟨(q, m, l), rfl, h⟩)⟩
    )
end Go.Proofs.Ytdcaehepmkhciaa

/- Walks: what Go functions of this chapter come to, each as a function on plain data; no condition but those that each theorem names. Printed by a program of this work (gen.py). -/
namespace Go.Proofs.Ytdcaehepmkhciaa
open Go.Gx Go.Gx Go.Gx.T10 Go.Gx.T12 Go.Gx.T10 Go.Gx.T11
theorem sz66 : SzIs Try.prog 66 4 := by
 unfold SzIs
 kernel_rfl
theorem zr66 : ZeroIs Try.prog 66 (Value.agg #[Value.int .i64 0, Value.int .i64 0, Value.int .i64 0, Value.int .i64 0]) := by
 unfold ZeroIs
 kernel_rfl
theorem cl69 : Callable Try.prog 69 := callable Try.func69 (by kernel_rfl) rfl
theorem cl70 : Callable Try.prog 70 := callable Try.func70 (by kernel_rfl) rfl
theorem cl71 : Callable Try.prog 71 := callable Try.func71 (by kernel_rfl) rfl
theorem bl138_0p1_1m1 (x0 : Option Addr) (x1 : Option Nat) : Program.built Try.prog 138 [(0, Value.pointer x0), (1, Value.map x1)] = some #[Value.pointer x0, Value.map x1] := by
 kernel_rfl
theorem c_snew {G : Ghost}  (w : World) (hG : Has G w) :
  Calls Try.prog 24 #[] w (Ret fun r w' => ∃ p, r = Value.pointer (some ⟨p, 0, none⟩) ∧ Since nX w w' ∧ ∃ F', (storeA p [] 0 []).holds w' F' ∧ ∀ b, F' b → w.heap.size ≤ b) := by
 refine enter (args := []) (X := nX) (G := G) (l := []) Try.func24 rfl Try.ntmps24 hG trivial (Nat.le_of_ble_eq_true rfl) ?_
 refine c_seq ?_
 refine c_region ?_
 refine r_val .none rfl (p_assign rfl) ?_
 refine r_nil ?_
 refine e_next ?_
 refine c_seq ?_
 refine c_region ?_
 refine r_callnew (vs := []) .none rfl cl69 rfl (fun w hw => c_tnewT w hw) (fun p_1 => ?_)
 refine r_makemap .none rfl kT veN (fun m_2 => ?_)
 refine r_val .none rfl (p_build (vs := [(0, Value.pointer _), (1, Value.map _)]) rfl (bl138_0p1_1m1 _ _)) ?_
 refine r_box .none rfl rfl (IsRow.lit _) (fun b_1 => ?_)
 refine r_val .none rfl (p_assign rfl) ?_
 refine r_nil ?_
 refine e_next ?_
 refine c_ret ?_
 refine e_hnil (FN (κ := Tri)) ?_
 refine e_front (k := 2) rfl ?_
 refine e_front (k := 3) rfl ?_
 refine e_front (k := 3) rfl ?_
 refine e_ret1 Try.results24 (.tmp rfl .nil) (fun w hm => ⟨_, rfl, hm.made [box b_1 2 138 (at_ [.pointer (some ⟨p_1, 0, none⟩), .map (some m_2)]), tallyT p_1 [] 0, mapA m_2 kT veN [], hoard FN []] (.keep (fun _ _ h => box_congr (fun i hi => by match i, hi with | 0, _ => rfl | 1, _ => rfl) _ _ h) (.keep (fun _ _ h => h) (.keep (fun _ _ h => h) (.keep (fun _ _ h => h) (.nil))))) (storeA _ [] 0 []) (fun F' h => ⟨(p_1, m_2, []), rfl, h⟩)⟩)
theorem c_swant {F : Nat → Prop} {G : Ghost} (p : Nat) (k : Tri) (v : Value) (fs : List FD) (u : List (Tri × Int)) (t : Int) (c : SC) (hb : 0 ≤ cnt u k ∧ cnt u k ≤ 4611686018427387904) (ht : -4611686018427387904 ≤ t ∧ t ≤ 4611686018427387904) (hs : SlL G v 4 fC (0, zT) fs) (hinv : cnt u k = 0 → lkp c k = none) (w : World) (hG : Has G w) (hA : (storeA p u t c).holds w F) (hFG : ∀ b, F b → G b = none) :
  Calls Try.prog 28 #[Value.pointer (some ⟨p, 0, none⟩), kT k, v] w (Ret fun r w' => r = Value.int .i64 (cnt u k + 1) ∧ Kept (storeA p (tAdd u k) (t + 1) (wantC c k fs (cnt u k))) F w w') := by
 refine enterO (args := [_, _, _]) (G := G) (A := storeA p u t c) (l := [(0, Value.pointer (some ⟨p, 0, none⟩)), (1, kT k), (2, v)]) Try.func28 rfl Try.ntmps28 hG hA hFG ⟨rfl, rfl, rfl, trivial⟩ (Nat.le_of_ble_eq_true rfl) ?_
 refine c_unex (fun z => ?_)
 obtain ⟨q, m, l⟩ := z
 refine c_unand (fun hc => ?_)
 dsimp only at hc ⊢
 subst hc
 refine c_unpack ?_
 refine c_seq ?_
 refine c_region ?_
 refine r_box .none rfl rfl (IsRow.lit _) (fun b_1 => ?_)
 refine r_val .none rfl (p_assign rfl) ?_
 refine r_nil ?_
 refine e_next ?_
 refine c_seq ?_
 refine c_region_d (fun _ => false) _ mixed (.keep (fun _ _ h => h) (.keep (fun _ _ h => h) (.drop (.keep (fun _ _ h => h) (.keep (fun _ _ h => h) (.nil)))))) ?_
 refine d_val1 0 rfl rfl (by kernel_rfl) (fun _ _ => rfl) .none rfl (p_move rfl) ?_
 refine d_val1 1 rfl rfl (by kernel_rfl) (fun _ _ => rfl) .none rfl (p_nilcheck rfl) ?_
 refine d_val1 2 rfl rfl (by kernel_rfl) (fun _ _ => rfl) .none rfl (p_field Try.underlying138 rfl sz134 rfl) ?_
 refine d_val1 3 rfl rfl (by kernel_rfl) (fun _ _ => rfl) .none rfl (p_ld (k := 1) Try.underlying134 rfl rfl rfl (by first | exact of_decide_eq_true rfl | omega) (rfl : _ = Value.pointer _)) ?_
 refine d_val1 4 rfl rfl (by kernel_rfl) (fun _ _ => rfl) .none rfl (p_ldw (k := 0) Try.underlying61 rfl sz61 rfl rfl (rfl : _ = Value.agg #[_, _, _])) ?_
 refine d_eff 5 rfl (by kernel_rfl) (fun K_1 hKK_1 hcK_1 => ?_)
 refine r_callo (k := 2) (vs := [_, _]) .none rfl cl70 rfl rfl (fun w F hw hA hFG => c_taddT _ k _ _ hb ht w hw hA hFG) ?_
 refine r_nil (e_d (i := 5) (brk := (fun _ => false)) (ph' := true) hKK_1 hcK_1 rfl (fun _ => GLe.refl _) (fun _ => .keep (fun _ _ h => h) (.keep (fun _ _ h => h) (.drop (.keep (fun _ _ h => h) (.keep (fun _ _ h => h) (.nil)))))) ?_)
 clear hKK_1 hcK_1 K_1
 refine d_val1 6 rfl rfl (by kernel_rfl) (fun _ _ => rfl) .none rfl (p_assign rfl) ?_
 refine d_nil (by kernel_rfl) ?_
 refine e_next ?_
 refine c_seq ?_
 refine c_seq ?_
 refine c_region ?_
 refine r_val .none rfl (p_move rfl) ?_
 refine r_val .none rfl (p_eq rfl rfl) ?_
 refine r_nil ?_
 refine e_next ?_
 refine c_splitd (d := 17) rfl (fun h_2 => ?_) (fun h_2 => ?_)
 ·
  have h0 : cnt u k = 0 := by (have h9 := h_2; omega)
  first
   | (exfalso; omega)
   | (
    refine c_cond_t rfl ?_
    refine c_seq ?_
    refine c_region_d (fun _ => false) _ mixed (.keep (fun _ _ h => h) (.keep (fun _ _ h => h) (.keep (fun _ _ h => h) (.drop (.keep (fun _ _ h => h) (.nil)))))) ?_
    refine d_val1 0 rfl rfl (by kernel_rfl) (fun _ _ => rfl) .none rfl (p_move rfl) ?_
    refine d_val1 1 rfl rfl (by kernel_rfl) (fun _ _ => rfl) .none rfl (p_nilcheck rfl) ?_
    refine d_val1 2 rfl rfl (by kernel_rfl) (fun _ _ => rfl) .none rfl (p_field Try.underlying138 rfl sz136 rfl) ?_
    refine d_val1 3 rfl rfl (by kernel_rfl) (fun _ _ => rfl) .none rfl (p_ld (k := 1) Try.underlying136 rfl rfl rfl (by first | exact of_decide_eq_true rfl | omega) (rfl : _ = Value.map _)) ?_
    refine d_val1 4 rfl rfl (by kernel_rfl) (fun _ _ => rfl) .none rfl (p_ldw (k := 0) Try.underlying61 rfl sz61 rfl rfl (rfl : _ = Value.agg #[_, _, _])) ?_
    refine d_eff 5 rfl (by kernel_rfl) (fun K_3 hKK_3 hcK_3 => ?_)
    refine r_makemap .none rfl kI kI (fun m_4 => ?_)
    refine r_nil (e_d (i := 5) (brk := (fun _ => false)) (ph' := true) hKK_3 hcK_3 rfl (fun _ => GLe.refl _) (fun _ => .drop (.keep (fun _ _ h => h) (.keep (fun _ _ h => h) (.keep (fun _ _ h => h) (.drop (.keep (fun _ _ h => h) (.nil))))))) ?_)
    clear hKK_3 hcK_3 K_3
    refine d_eff 6 rfl (by kernel_rfl) (fun K_5 hKK_5 hcK_5 => ?_)
    refine r_mapup (i := 4) (k := k) (a := (m_4, [])) .none Try.underlying136 (KeyT.tri (l := []) Try.underlying61 Try.underlying3 sz3 lf61 ef61 eg61) rfl rfl rfl rfl ?_
    refine r_nil (e_d (i := 6) (brk := (fun _ => false)) (ph' := true) hKK_5 hcK_5 rfl (fun _ => GLe.refl _) (fun _ => .drop (.keep (fun _ _ h => h) (.keep (fun _ _ h => h) (.keep (fun _ _ h => h) (.drop (.keep (fun _ _ h => h) (.nil))))))) ?_)
    clear hKK_5 hcK_5 K_5
    refine d_nil (by kernel_rfl) ?_
    refine e_next ?_
    refine c_seq ?_
    refine c_region ?_
    refine r_val .none rfl (p_move rfl) ?_
    refine r_val .none rfl (p_leng Try.underlying63 rfl hs) ?_
    have bd_6 := (hs).bound
    refine r_val .none rfl (p_move rfl) ?_
    refine r_nil ?_
    refine e_next ?_
    refine c_block ?_
    refine c_name (d := 0) rfl (fun u_7 hu_7 => ?_)
    refine c_name (d := 4) rfl (fun u_8 hu_8 => ?_)
    refine c_name (d := 6) rfl (fun u_9 hu_9 => ?_)
    refine c_name (d := 7) rfl (fun u_10 hu_10 => ?_)
    refine c_name (d := 24) rfl (fun u_11 hu_11 => ?_)
    refine c_name (d := 25) rfl (fun u_12 hu_12 => ?_)
    refine c_nameL (k := 1) rfl (fun A_13 hA_13 => ?_)
    refine c_nameL (k := 2) rfl (fun A_14 hA_14 => ?_)
    refine c_nameL (k := 3) rfl (fun A_15 hA_15 => ?_)
    refine c_nameL (k := 4) rfl (fun A_16 hA_16 => ?_)
    refine c_nameL (k := 5) rfl (fun A_17 hA_17 => ?_)
    refine c_loop (σ := Nat) (fun j => [(26, Value.int .i64 (j : Nat)), (0, u_7), (4, u_8), (6, u_9), (7, u_10), (24, u_11), (25, u_12)]) (fun j => [mapA m_4 kI kI (fillC k (fs.take j) []), A_13, A_14, A_15, A_16, A_17]) (fun _ => _) (fun j => j ≤ fs.length) (fun j => fs.length - j) (0) (Nat.zero_le _) rfl ⟨rfl, rfl, rfl, rfl, rfl, rfl, rfl, trivial⟩ (.keep (fun _ _ h => h) (.keep (fun _ _ h => h) (.keep (fun _ _ h => h) (.keep (fun _ _ h => h) (.keep (fun _ _ h => h) (.keep (fun _ _ h => h) (.nil))))))) (fun j hphi => ?_)
    subst hu_7
    subst hu_8
    subst hu_9
    subst hu_10
    subst hu_11
    subst hu_12
    subst hA_13
    subst hA_14
    subst hA_15
    subst hA_16
    subst hA_17
    refine c_seq ?_
    refine c_region ?_
    refine r_val .none rfl (p_lt rfl rfl) ?_
    refine r_nil ?_
    refine e_next ?_
    refine c_seq ?_
    refine c_splitd (d := 27) rfl (fun h_18 => ?_) (fun h_18 => ?_)
    ·
     first
      | (exfalso; omega)
      | (
       refine c_cond_t rfl ?_
       refine c_skip ?_
       refine e_next ?_
       refine c_seq ?_
       refine c_block ?_
       refine c_seq ?_
       refine c_region ?_
       refine r_iaddr_g .none rfl Try.underlying63 sz66 rfl hs rfl (by first | exact of_decide_eq_true rfl | omega) (fun p_20 o_21 R_19 => ?_)
       refine r_val .none rfl (p_ldga0 Try.underlying66 rfl sz66 rfl R_19 (by first | exact of_decide_eq_true rfl | omega) (rfl : _ = Value.agg #[_, _, _, _])) ?_
       refine r_alloc .none rfl zr66 (IsRow.lit _) (fun b_2 => ?_)
       refine r_stw (k := 0) .none sz66 rfl rfl (IsRow.lit _) (one_lit rfl rfl) rfl ?_
       refine r_nil ?_
       refine e_next ?_
       refine c_seq ?_
       refine c_region ?_
       refine r_val .none rfl (p_field Try.underlying66 rfl sz61 rfl) ?_
       refine r_val .none rfl (p_lda (k := 0) Try.underlying61 rfl sz61 rfl rfl (by first | exact of_decide_eq_true rfl | omega) (rfl : _ = Value.agg #[_, _, _])) ?_
       refine r_val .none rfl (p_ldw (k := 2) Try.underlying61 rfl sz61 rfl rfl (rfl : _ = Value.agg #[_, _, _])) ?_
       refine r_call (vs := [_, _]) .none rfl cl71 rfl (fun w hw => c_khas (fs.getD j (0, zT)).2 k w) ?_
       refine r_nil ?_
       refine e_next ?_
       refine c_split (d := 33) rfl (fun h_22 => ?_) (fun h_22 => ?_)
       ·
        have hK := h_22
        first
         | (exfalso; omega)
         | (
          refine c_cond_t rfl ?_
          refine c_region_d (fun _ => false) _ mixed (.keep (fun _ _ h => h) (.drop (.keep (fun _ _ h => h) (.keep (fun _ _ h => h) (.keep (fun _ _ h => h) (.keep (fun _ _ h => h) (.keep (fun _ _ h => h) (.nil)))))))) ?_
          refine d_val1 0 rfl rfl (by kernel_rfl) (fun _ _ => rfl) .none rfl (p_move rfl) ?_
          refine d_val1 1 rfl rfl (by kernel_rfl) (fun _ _ => rfl) .none rfl (p_nilcheck rfl) ?_
          refine d_val1 2 rfl rfl (by kernel_rfl) (fun _ _ => rfl) .none rfl (p_field Try.underlying138 rfl sz136 rfl) ?_
          refine d_val1 3 rfl rfl (by kernel_rfl) (fun _ _ => rfl) .none rfl (p_ld (k := 2) Try.underlying136 rfl rfl rfl (by first | exact of_decide_eq_true rfl | omega) (rfl : _ = Value.map _)) ?_
          refine d_val1 4 rfl rfl (by kernel_rfl) (fun _ _ => rfl) .none rfl (p_ldw (k := 1) Try.underlying61 rfl sz61 rfl rfl (rfl : _ = Value.agg #[_, _, _])) ?_
          refine d_val1 5 rfl rfl (by kernel_rfl) (fun _ _ => rfl) .none rfl (p_lookup_yes (i := 4) (k := k) Try.underlying136 (KeyT.tri (l := []) Try.underlying61 Try.underlying3 sz3 lf61 ef61 eg61) zr36 rfl rfl rfl (by rw [lkp_mput, if_pos rfl])) ?_
          refine d_val1 6 rfl rfl (by kernel_rfl) (fun _ _ => rfl) .none rfl (p_field Try.underlying66 rfl sz3 rfl) ?_
          refine d_val1 7 rfl rfl (by kernel_rfl) (fun _ _ => rfl) .none rfl (p_ld (k := 0) Try.underlying3 rfl rfl rfl (by first | exact of_decide_eq_true rfl | omega) (rfl : _ = Value.int _ _)) ?_
          refine d_eff 8 rfl (by kernel_rfl) (fun K_23 hKK_23 hcK_23 => ?_)
          refine r_mapup (i := 1) .none Try.underlying36 (KeyT.int Try.underlying3) rfl rfl rfl rfl ?_
          refine r_nil (e_d (i := 8) (brk := (fun _ => false)) (ph' := true) hKK_23 hcK_23 rfl (fun _ => GLe.refl _) (fun _ => .keep (fun _ _ h => h) (.drop (.keep (fun _ _ h => h) (.keep (fun _ _ h => h) (.keep (fun _ _ h => h) (.keep (fun _ _ h => h) (.keep (fun _ _ h => h) (.nil)))))))) ?_)
          clear hKK_23 hcK_23 K_23
          refine d_nil (by kernel_rfl) ?_
          refine e_norm_block ?_
          refine e_next ?_
          refine c_region ?_
          refine r_val .none rfl (p_add rfl rfl (by omega)) ?_
          refine r_val .none rfl (p_move rfl) ?_
          refine r_nil ?_
          refine e_round (j + 1) ⟨by omega, by omega⟩ rfl ⟨rfl, rfl, rfl, rfl, rfl, rfl, rfl, trivial⟩ (.drop (.keep (fun _ _ h => by rw [fillC_next (0, zT) (by omega), if_pos hK]; exact h) (.keep (fun _ _ h => h) (.keep (fun _ _ h => h) (.keep (fun _ _ h => h) (.keep (fun _ _ h => h) (.keep (fun _ _ h => h) (.nil))))))))
          )
       ·
        have hK := h_22
        first
         | (exfalso; omega)
         | (
          refine c_cond_f rfl ?_
          refine c_skip ?_
          refine e_norm_block ?_
          refine e_next ?_
          refine c_region ?_
          refine r_val .none rfl (p_add rfl rfl (by omega)) ?_
          refine r_val .none rfl (p_move rfl) ?_
          refine r_nil ?_
          refine e_round (j + 1) ⟨by omega, by omega⟩ rfl ⟨rfl, rfl, rfl, rfl, rfl, rfl, rfl, trivial⟩ (.drop (.keep (fun _ _ h => by rw [fillC_next (0, zT) (by omega), if_neg (by rw [hK]; simp)]; exact h) (.keep (fun _ _ h => h) (.keep (fun _ _ h => h) (.keep (fun _ _ h => h) (.keep (fun _ _ h => h) (.keep (fun _ _ h => h) (.nil))))))))
          )
       )
    ·
     first
      | (exfalso; omega)
      | (
       refine c_cond_f rfl ?_
       refine c_exit ?_
       refine e_exit_then ?_
       refine e_exit_then ?_
       refine e_exit_block ?_
       refine e_next ?_
       refine c_seq ?_
       refine c_region ?_
       refine r_val .none rfl (p_move rfl) ?_
       refine r_val .none rfl (p_assign rfl) ?_
       refine r_nil ?_
       refine e_next ?_
       refine c_ret ?_
       have hout : lkp l k = none := eraN_out (hinv h0)
       refine e_front (k := 5) rfl ?_
       refine e_front (k := 1) rfl ?_
       refine e_nnew (k := k) hout ?_
       refine e_front (k := 4) rfl ?_
       refine e_front (k := 4) rfl ?_
       refine e_front (k := 4) rfl ?_
       refine e_ret1 Try.results28 (.tmp rfl .nil) (fun w hm => ?_)
       have hjf : fs.take j = fs := List.take_of_length_le (by omega)
       rw [wantC, if_pos h0]
       exact ⟨rfl, hm.kept [box p 2 138 (at_ [.pointer (some ⟨q, 0, none⟩), .map (some m)]), tallyT q (tAdd u k) (t + 1), mapA m kT veN ((mput l k (m_4, fillC k (fs.take j) []))), hoard FN ((mput l k (m_4, fillC k (fs.take j) [])))] (.keep (fun _ _ h => h) (.keep (fun _ _ h => h) (.keep (fun _ _ h => retellNew h) (.keep (fun _ _ h => h) (.drop (.nil)))))) (storeA p (tAdd u k) (t + 1) (_)) (fun F' h => ⟨(q, m, (mput l k (m_4, fillC k (fs.take j) []))), by dsimp only; rw [eraN_mput, hjf], h⟩)⟩
       )
    )
 ·
  have h0 : ¬ cnt u k = 0 := by (have h9 := h_2; omega)
  first
   | (exfalso; omega)
   | (
    refine c_cond_f rfl ?_
    refine c_skip ?_
    refine e_next ?_
    refine c_seq ?_
    refine c_region ?_
    refine r_val .none rfl (p_move rfl) ?_
    refine r_val .none rfl (p_assign rfl) ?_
    refine r_nil ?_
    refine e_next ?_
    refine c_ret ?_
    refine e_ret1 Try.results28 (.tmp rfl .nil) (fun w hm => ?_)
    rw [wantC, if_neg h0]
    exact ⟨rfl, hm.kept [box p 2 138 (at_ [.pointer (some ⟨q, 0, none⟩), .map (some m)]), tallyT q (tAdd u k) (t + 1), mapA m kT veN (l), hoard FN (l)] (.drop (.keep (fun _ _ h => h) (.keep (fun _ _ h => h) (.keep (fun _ _ h => h) (.keep (fun _ _ h => h) (.nil)))))) (storeA p (tAdd u k) (t + 1) (_)) (fun F' h => ⟨(q, m, l), rfl, h⟩)⟩
    )
end Go.Proofs.Ytdcaehepmkhciaa

/- Walks: what Go functions of this chapter come to, each as a function on plain data; no condition but those that each theorem names. Printed by a program of this work (gen.py). -/
namespace Go.Proofs.Ytdcaehepmkhciaa
open Go.Gx Go.Gx Go.Gx.T10 Go.Gx.T12 Go.Gx.T10 Go.Gx.T11
theorem cl45 : Callable Try.prog 45 := callable Try.func45 (by kernel_rfl) rfl
theorem cl46 : Callable Try.prog 46 := callable Try.func46 (by kernel_rfl) rfl
theorem cl50 : Callable Try.prog 50 := callable Try.func50 (by kernel_rfl) rfl
theorem cl72 : Callable Try.prog 72 := callable Try.func72 (by kernel_rfl) rfl
theorem cl82 : Callable Try.prog 82 := callable Try.func82 (by kernel_rfl) rfl
theorem cl83 : Callable Try.prog 83 := callable Try.func83 (by kernel_rfl) rfl
theorem cl84 : Callable Try.prog 84 := callable Try.func84 (by kernel_rfl) rfl
theorem cl100 : Callable Try.prog 100 := callable Try.func100 (by kernel_rfl) rfl
def DOP (P : Program) (fp p : Nat) (u : List (Tri × Int)) (t : Int) (q : SC → Tri → Int → Bool × SC) (G : Ghost) : Prop := ∀ (c : SC) (k : Tri) (id : Int) (w : World) (F : Nat → Prop), Has G w → (storeA p u t c).holds w F → (∀ b, F b → G b = none) → Calls P fp #[.pointer (some ⟨p, 0, none⟩), kT k, .int .i64 id] w (Ret fun r w' => r = .bool (q c k id).1 ∧ Kept (storeA p u t (q c k id).2) F w w')
theorem DOP.mono {P : Program} {fp p : Nat} {u : List (Tri × Int)} {t : Int} {q : SC → Tri → Int → Bool × SC} {G G' : Ghost} (h : DOP P fp p u t q G) (hle : GLe G G') : DOP P fp p u t q G' :=
 fun c k id w F hG hA hF => h c k id w F (fun b o e => hG b o (hle b o e)) hA (fun b hb => by
  cases e : G b with
  | none => rfl
  | some o => have := hle b o e; rw [hF b hb] at this; cases this)
theorem c_tch1 {F : Nat → Prop} {G : Ghost} (p : Nat) (k : Tri) (b : Nat) (u : List (Tri × Int)) (t : Int) (c : SC) (hR : RowAt G b 0 1 (at_ [(.pointer (some ⟨p, 0, none⟩))])) (w : World) (hG : Has G w) (hA : (storeA p u t c).holds w F) (hFG : ∀ b, F b → G b = none) :
  Calls Try.prog 84 #[kT k, Value.pointer (some ⟨b, 0, none⟩)] w (Ret fun r w' => r = Value.bool (decide (cnt u k = 0)) ∧ Kept (storeA p u t c) F w w') := by
 refine enterO (args := [_, _]) (G := G) (A := storeA p u t c) (l := [(0, kT k), (1, Value.pointer (some ⟨b, 0, none⟩))]) Try.func84 rfl Try.ntmps84 hG hA hFG ⟨rfl, rfl, trivial⟩ (Nat.le_of_ble_eq_true rfl) ?_
 refine c_unex (fun z => ?_)
 obtain ⟨q, m, l⟩ := z
 refine c_unand (fun hc => ?_)
 dsimp only at hc ⊢
 subst hc
 refine c_unpack ?_
 refine c_seq ?_
 refine c_region ?_
 refine r_box .none rfl rfl (IsRow.lit _) (fun b_1 => ?_)
 refine r_val .none rfl (p_assign rfl) ?_
 refine r_nil ?_
 refine e_next ?_
 refine c_seq ?_
 refine c_region_d (fun _ => false) _ mixed (.keep (fun _ _ h => h) (.keep (fun _ _ h => h) (.keep (fun _ _ h => h) (.keep (fun _ _ h => h) (.keep (fun _ _ h => h) (.nil)))))) ?_
 refine d_val1 0 rfl rfl (by kernel_rfl) (fun _ _ => rfl) .none rfl (p_ldg0 Try.underlying58 rfl rfl hR (by first | exact of_decide_eq_true rfl | omega) (rfl : _ = Value.pointer _)) ?_
 refine d_val1 1 rfl rfl (by kernel_rfl) (fun _ _ => rfl) .none rfl (p_nilcheck rfl) ?_
 refine d_val1 2 rfl rfl (by kernel_rfl) (fun _ _ => rfl) .none rfl (p_field Try.underlying138 rfl sz134 rfl) ?_
 refine d_val1 3 rfl rfl (by kernel_rfl) (fun _ _ => rfl) .none rfl (p_ld (k := 1) Try.underlying134 rfl rfl rfl (by first | exact of_decide_eq_true rfl | omega) (rfl : _ = Value.pointer _)) ?_
 refine d_val1 4 rfl rfl (by kernel_rfl) (fun _ _ => rfl) .none rfl (p_ldw (k := 0) Try.underlying61 rfl sz61 rfl rfl (rfl : _ = Value.agg #[_, _, _])) ?_
 refine d_eff 5 rfl (by kernel_rfl) (fun K_1 hKK_1 hcK_1 => ?_)
 refine r_callo (k := 2) (vs := [_, _]) .none rfl cl81 rfl rfl (fun w F hw hA hFG => c_countT _ k _ _ w hw hA hFG) ?_
 refine r_nil (e_d (i := 5) (brk := (fun _ => false)) (ph' := true) hKK_1 hcK_1 rfl (fun _ => GLe.refl _) (fun _ => .keep (fun _ _ h => h) (.keep (fun _ _ h => h) (.keep (fun _ _ h => h) (.keep (fun _ _ h => h) (.keep (fun _ _ h => h) (.nil)))))) ?_)
 clear hKK_1 hcK_1 K_1
 refine d_val1 6 rfl rfl (by kernel_rfl) (fun _ _ => rfl) .none rfl (p_eq rfl rfl) ?_
 refine d_val1 7 rfl rfl (by kernel_rfl) (fun _ _ => rfl) .none rfl (p_assign rfl) ?_
 refine d_nil (by kernel_rfl) ?_
 refine e_next ?_
 refine c_ret ?_
 refine e_ret1 Try.results84 (.tmp rfl .nil) (fun w hm => ⟨?_, hm.kept [box p 2 138 (at_ [.pointer (some ⟨q, 0, none⟩), .map (some m)]), tallyT q (u) (t), mapA m kT veN (l), hoard FN (l)] (.drop (.keep (fun _ _ h => h) (.keep (fun _ _ h => h) (.keep (fun _ _ h => h) (.keep (fun _ _ h => h) (.nil)))))) (storeA p (u) (t) (_)) (fun F' h => ⟨(q, m, l), rfl, h⟩)⟩)
 rfl
theorem c_stouched {F : Nat → Prop} {G : Ghost} (p : Nat) (tt : Tri) (u : List (Tri × Int)) (t : Int) (c : SC)  (w : World) (hG : Has G w) (hA : (storeA p u t c).holds w F) (hFG : ∀ b, F b → G b = none) :
  Calls Try.prog 50 #[Value.pointer (some ⟨p, 0, none⟩), kT tt] w (Ret fun r w' => Kept (starL [rowA r 61 3 (touched u tt).length ((touched u tt).flatMap triL), storeA p u t (c)]) F w w') := by
 refine enterO (args := [_, _]) (G := G) (A := storeA p u t c) (l := [(0, Value.pointer (some ⟨p, 0, none⟩)), (1, kT tt)]) Try.func50 rfl Try.ntmps50 hG hA hFG ⟨rfl, rfl, trivial⟩ (Nat.le_of_ble_eq_true rfl) ?_
 refine c_seq ?_
 refine c_region ?_
 refine r_box .none rfl rfl (IsRow.lit [_]) (fun b_1 => ?_)
 refine r_box .none rfl rfl (IsRow.lit _) (fun b_2 => ?_)
 refine r_val .none rfl (p_assign rfl) ?_
 refine r_nil ?_
 refine e_next ?_
 refine c_seq ?_
 refine c_region ?_
 refine r_val .none rfl (p_ldw (k := 0) Try.underlying61 rfl sz61 rfl rfl (rfl : _ = Value.agg #[_, _, _])) ?_
 refine r_callrow (vs := [_]) .none rfl cl83 rfl (fun w hw => c_kall tt w) (fun v_1 => ?_)
 refine r_freezeX (k := 2) rfl (fun G_2 hn_3 hR_4 => ?_)
 refine r_val .none rfl (p_mkfunc (vs := [_]) rfl) ?_
 refine r_front (k := 2) rfl ?_
 refine r_front (k := 1) rfl ?_
 refine r_pack [_, _] ?_
 refine r_callor (k := 0) (vs := [_, _]) .none rfl cl82 rfl rfl (fun w F hw hA hFG => c_delT v_1 (allK tt) 84 [.pointer (some ⟨b_1, 0, none⟩)] (fun _ : Unit => storeA p u t c) (fun (k : Tri) (_ : Unit) => (decide (cnt u k = 0), ())) () cl84 (fun x s w F hw hA hF => c_tch1 p x _ u t c hR_4 w hw hA hF) w hw hA hFG) (fun r_5 => ?_)
 refine r_unpack ?_
 refine r_val .none rfl (p_assign rfl) ?_
 refine r_nil ?_
 refine e_next ?_
 refine c_ret ?_
 refine e_ret1 Try.results50 (.tmp rfl .nil) (fun w hm => hm.kept [_, _] (.keep (fun _ _ h => rowA_congr (by rw [dels_pure]; rfl) (by rw [dels_pure]; rfl) _ _ h) (.keep (fun _ _ h => h) (.drop (.nil)))) (starL [rowA r_5 61 3 (touched u tt).length ((touched u tt).flatMap triL), storeA p u t (c)]) (fun F' h => h))
theorem c_each1 {F : Nat → Prop} {G : Ghost} (p : Nat) (fp : Nat) (q : SC → Tri → Int → Bool × SC) (k : Tri) (f : FD) (b b2 : Nat) (u : List (Tri × Int)) (t : Int) (c : SC) (hfp : Callable Try.prog fp) (hdo : DOP Try.prog fp p u t q G) (hR : RowAt G b 0 1 (at_ [.func (.func fp) #[.pointer (some ⟨p, 0, none⟩)] #[]])) (hR2 : RowAt G b2 0 4 (at_ [Value.int .i64 f.1, Value.int .i64 f.2.1, Value.int .i64 f.2.2.1, Value.int .i64 f.2.2.2])) (w : World) (hG : Has G w) (hA : (storeA p u t c).holds w F) (hFG : ∀ b, F b → G b = none) :
  Calls Try.prog 100 #[kT k, Value.pointer (some ⟨b, 0, none⟩), Value.pointer (some ⟨b2, 0, none⟩)] w (Ret fun r w' => r = Value.bool (!(q c k f.1).1) ∧ Kept (storeA p u t (q c k f.1).2) F w w') := by
 refine enterO (args := [_, _, _]) (G := G) (A := storeA p u t c) (l := [(0, kT k), (1, Value.pointer (some ⟨b, 0, none⟩)), (2, Value.pointer (some ⟨b2, 0, none⟩))]) Try.func100 rfl Try.ntmps100 hG hA hFG ⟨rfl, rfl, rfl, trivial⟩ (Nat.le_of_ble_eq_true rfl) ?_
 refine c_seq ?_
 refine c_region ?_
 refine r_box .none rfl rfl (IsRow.lit _) (fun b_1 => ?_)
 refine r_val .none rfl (p_assign rfl) ?_
 refine r_nil ?_
 refine e_next ?_
 refine c_seq ?_
 refine c_region ?_
 refine r_val .none rfl (p_ldg0 Try.underlying94 rfl rfl hR (by first | exact of_decide_eq_true rfl | omega) rfl) ?_
 refine r_val .none rfl (p_ldw (k := 0) Try.underlying61 rfl sz61 rfl rfl (rfl : _ = Value.agg #[_, _, _])) ?_
 refine r_val .none rfl (p_field Try.underlying66 rfl sz3 rfl) ?_
 refine r_val .none rfl (p_ldg (j := 0) Try.underlying3 rfl rfl hR2 (by first | exact of_decide_eq_true rfl | omega) (rfl : _ = Value.int _ _)) ?_
 refine r_funb (rs := [_]) .none rfl ?_
 refine r_callo (k := 1) (vs := [_, _, _]) .none rfl hfp rfl rfl (fun w F hw hA hFG => hdo c k f.1 w F hw hA hFG) ?_
 refine r_val .none rfl (p_not rfl) ?_
 refine r_val .none rfl (p_assign rfl) ?_
 refine r_nil ?_
 refine e_next ?_
 refine c_ret ?_
 refine e_ret1 Try.results100 (.tmp rfl .nil) (fun w hm => ⟨?_, hm.kept [_] (.drop (.keep (fun _ _ h => h) (.nil))) (storeA p u t (q c k f.1).2) (fun F' h => starL_one1 h)⟩)
 rfl
theorem c_seach {F : Nat → Prop} {G : Ghost} (p : Nat) (f : FD) (fp : Nat) (q : SC → Tri → Int → Bool × SC) (u : List (Tri × Int)) (t : Int) (c : SC) (hfp : Callable Try.prog fp) (hdo : DOP Try.prog fp p u t q G) (w : World) (hG : Has G w) (hA : (storeA p u t c).holds w F) (hFG : ∀ b, F b → G b = none) :
  Calls Try.prog 72 #[Value.pointer (some ⟨p, 0, none⟩), Value.agg #[Value.int .i64 f.1, Value.int .i64 f.2.1, Value.int .i64 f.2.2.1, Value.int .i64 f.2.2.2], Value.func (.func fp) #[Value.pointer (some ⟨p, 0, none⟩)] #[]] w (Ret fun r w' => Kept (starL [rowA r 61 3 ((doneC q u c f).1).length (((doneC q u c f).1).flatMap triL), storeA p u t ((doneC q u c f).2)]) F w w') := by
 refine enterO (args := [_, _, _]) (G := G) (A := storeA p u t c) (l := [(0, Value.pointer (some ⟨p, 0, none⟩)), (1, Value.agg #[Value.int .i64 f.1, Value.int .i64 f.2.1, Value.int .i64 f.2.2.1, Value.int .i64 f.2.2.2]), (2, Value.func (.func fp) #[Value.pointer (some ⟨p, 0, none⟩)] #[])]) Try.func72 rfl Try.ntmps72 hG hA hFG ⟨rfl, rfl, rfl, trivial⟩ (Nat.le_of_ble_eq_true rfl) ?_
 refine c_seq ?_
 refine c_region ?_
 refine r_box .none rfl rfl (IsRow.lit _) (fun b_1 => ?_)
 refine r_box .none rfl rfl (IsRow.lit [_]) (fun b_2 => ?_)
 refine r_val .none rfl (p_assign rfl) ?_
 refine r_nil ?_
 refine e_next ?_
 refine c_seq ?_
 refine c_region ?_
 refine r_val .none rfl (p_move rfl) ?_
 refine r_val .none rfl (p_field Try.underlying66 rfl sz61 rfl) ?_
 refine r_val .none rfl (p_lda (k := 1) Try.underlying61 rfl sz61 rfl rfl (by first | exact of_decide_eq_true rfl | omega) (rfl : _ = Value.agg #[_, _, _])) ?_
 refine r_front (k := 2) rfl ?_
 refine r_callor (k := 0) (vs := [_, _]) .none rfl cl50 rfl rfl (fun w F hw hA hFG => c_stouched p f.2 u t c w hw hA hFG) (fun r_1 => ?_)
 refine r_unpack ?_
 refine r_freezeX (k := 3) rfl (fun G_2 hn_3 hR_4 => ?_)
 replace hdo := DOP.mono hdo hn_3.le
 refine r_freezeX (k := 2) rfl (fun G_5 hn_6 hR_7 => ?_)
 replace hdo := DOP.mono hdo hn_6.le
 replace hR_4 := hR_4.mono hn_6.le
 refine r_val .none rfl (p_mkfunc (vs := [_, _]) rfl) ?_
 refine r_front (k := 1) rfl ?_
 refine r_front (k := 1) rfl ?_
 refine r_pack [_, _] ?_
 refine r_callor (k := 0) (vs := [_, _]) .none rfl cl82 rfl rfl (fun w F hw hA hFG => c_delT r_1 (touched u f.2) 100 [.pointer (some ⟨b_2, 0, none⟩), .pointer (some ⟨b_1, 0, none⟩)] (fun c => storeA p u t c) (fun k c => (!(q c k f.1).1, (q c k f.1).2)) c cl100 (fun x s w F hw hA hF => c_each1 p fp q x f _ _ u t s hfp hdo hR_7 hR_4 w hw hA hF) w hw hA hFG) (fun r_8 => ?_)
 refine r_unpack ?_
 refine r_val .none rfl (p_assign rfl) ?_
 refine r_nil ?_
 refine e_next ?_
 refine c_ret ?_
 refine e_ret1 Try.results72 (.tmp rfl .nil) (fun w hm => hm.kept [_, _] (.keep (fun _ _ h => h) (.keep (fun _ _ h => h) (.nil))) (starL [rowA r_8 61 3 ((doneC q u c f).1).length (((doneC q u c f).1).flatMap triL), storeA p u t ((doneC q u c f).2)]) (fun F' h => h))
theorem c_sadd {F : Nat → Prop} {G : Ghost} (p : Nat) (f : FD) (u : List (Tri × Int)) (t : Int) (c : SC)  (w : World) (hG : Has G w) (hA : (storeA p u t c).holds w F) (hFG : ∀ b, F b → G b = none) :
  Calls Try.prog 29 #[Value.pointer (some ⟨p, 0, none⟩), Value.agg #[Value.int .i64 f.1, Value.int .i64 f.2.1, Value.int .i64 f.2.2.1, Value.int .i64 f.2.2.2]] w (Ret fun r w' => Kept (starL [rowA r 61 3 ((doneC putC u c f).1).length (((doneC putC u c f).1).flatMap triL), storeA p u t ((doneC putC u c f).2)]) F w w') := by
 refine enterO (args := [_, _]) (G := G) (A := storeA p u t c) (l := [(0, Value.pointer (some ⟨p, 0, none⟩)), (1, Value.agg #[Value.int .i64 f.1, Value.int .i64 f.2.1, Value.int .i64 f.2.2.1, Value.int .i64 f.2.2.2])]) Try.func29 rfl Try.ntmps29 hG hA hFG ⟨rfl, rfl, trivial⟩ (Nat.le_of_ble_eq_true rfl) ?_
 refine c_seq ?_
 refine c_region ?_
 refine r_box .none rfl rfl (IsRow.lit _) (fun b_1 => ?_)
 refine r_val .none rfl (p_assign rfl) ?_
 refine r_nil ?_
 refine e_next ?_
 refine c_seq ?_
 refine c_region ?_
 refine r_val .none rfl (p_move rfl) ?_
 refine r_val .none rfl (p_ldw (k := 0) Try.underlying66 rfl sz66 rfl rfl (rfl : _ = Value.agg #[_, _, _, _])) ?_
 refine r_val .none rfl (p_move rfl) ?_
 refine r_val .none rfl (p_mkfuncb (vs := [_]) rfl) ?_
 refine r_front (k := 1) rfl ?_
 refine r_callor (k := 0) (vs := [_, _, _]) .none rfl cl72 rfl rfl (fun w F hw hA hFG => c_seach p f 45 putC u t c cl45 (fun c k id w F hG hA hF => c_sput p k id u t c w hG hA hF) w hw hA hFG) (fun r_1 => ?_)
 refine r_unpack ?_
 refine r_val .none rfl (p_assign rfl) ?_
 refine r_nil ?_
 refine e_next ?_
 refine c_ret ?_
 refine e_ret1 Try.results29 (.tmp rfl .nil) (fun w hm => hm.kept [_, _] (.keep (fun _ _ h => h) (.keep (fun _ _ h => h) (.drop (.nil)))) (starL [rowA r_1 61 3 ((doneC putC u c f).1).length (((doneC putC u c f).1).flatMap triL), storeA p u t ((doneC putC u c f).2)]) (fun F' h => h))
theorem c_sremove {F : Nat → Prop} {G : Ghost} (p : Nat) (f : FD) (u : List (Tri × Int)) (t : Int) (c : SC)  (w : World) (hG : Has G w) (hA : (storeA p u t c).holds w F) (hFG : ∀ b, F b → G b = none) :
  Calls Try.prog 30 #[Value.pointer (some ⟨p, 0, none⟩), Value.agg #[Value.int .i64 f.1, Value.int .i64 f.2.1, Value.int .i64 f.2.2.1, Value.int .i64 f.2.2.2]] w (Ret fun r w' => Kept (starL [rowA r 61 3 ((doneC takeC u c f).1).length (((doneC takeC u c f).1).flatMap triL), storeA p u t ((doneC takeC u c f).2)]) F w w') := by
 refine enterO (args := [_, _]) (G := G) (A := storeA p u t c) (l := [(0, Value.pointer (some ⟨p, 0, none⟩)), (1, Value.agg #[Value.int .i64 f.1, Value.int .i64 f.2.1, Value.int .i64 f.2.2.1, Value.int .i64 f.2.2.2])]) Try.func30 rfl Try.ntmps30 hG hA hFG ⟨rfl, rfl, trivial⟩ (Nat.le_of_ble_eq_true rfl) ?_
 refine c_seq ?_
 refine c_region ?_
 refine r_box .none rfl rfl (IsRow.lit _) (fun b_1 => ?_)
 refine r_val .none rfl (p_assign rfl) ?_
 refine r_nil ?_
 refine e_next ?_
 refine c_seq ?_
 refine c_region ?_
 refine r_val .none rfl (p_move rfl) ?_
 refine r_val .none rfl (p_ldw (k := 0) Try.underlying66 rfl sz66 rfl rfl (rfl : _ = Value.agg #[_, _, _, _])) ?_
 refine r_val .none rfl (p_move rfl) ?_
 refine r_val .none rfl (p_mkfuncb (vs := [_]) rfl) ?_
 refine r_front (k := 1) rfl ?_
 refine r_callor (k := 0) (vs := [_, _, _]) .none rfl cl72 rfl rfl (fun w F hw hA hFG => c_seach p f 46 takeC u t c cl46 (fun c k id w F hG hA hF => c_stake p k id u t c w hG hA hF) w hw hA hFG) (fun r_1 => ?_)
 refine r_unpack ?_
 refine r_val .none rfl (p_assign rfl) ?_
 refine r_nil ?_
 refine e_next ?_
 refine c_ret ?_
 refine e_ret1 Try.results30 (.tmp rfl .nil) (fun w hm => hm.kept [_, _] (.keep (fun _ _ h => h) (.keep (fun _ _ h => h) (.drop (.nil)))) (starL [rowA r_1 61 3 ((doneC takeC u c f).1).length (((doneC takeC u c f).1).flatMap triL), storeA p u t ((doneC takeC u c f).2)]) (fun F' h => h))
end Go.Proofs.Ytdcaehepmkhciaa
