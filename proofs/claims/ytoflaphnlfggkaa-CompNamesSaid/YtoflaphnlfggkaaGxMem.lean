/-
  GX, the steps: memory, code, calls and returns. Generic in the program.
-/
import Derived.Test.YtoflaphnlfggkaaGxOps
namespace Go.Gx
open Go.RowKit

def _root_.Go.TypeDesc.aggB : TypeDesc → Bool
  | .struct _ => true
  | .array _ _ => true
  | _ => false

/-- How many cells a type has. -/
def SzIs (P : Program) (T : TypeId) (n : Nat) : Prop := (P.info? T).map (·.size) = some n

theorem SzIs.run {P : Program} {T : TypeId} {n : Nat} (h : SzIs P T n) (w : World) : (sizeOf T).run P w = .ok n w := by
  unfold SzIs at h
  cases hi : P.info? T with
  | none => rw [hi] at h; cases h
  | some i => rw [hi] at h; simp at h; simp [sizeOf, typeInfo, hi, h]

theorem run_isAgg {P : Program} {T : TypeId} {e : TypeDesc} (h : P.underlying T = some e) (w : World) : (isAgg T).run P w = .ok e.aggB w := by
  simp only [isAgg, Sem.run_bind, run_underlying h, Result.andThen_ok]
  cases e <;> rfl

section
variable {P : Program} {ops : Array Oper} {Q : Exit → Act → World → Prop} {N : Nat} {X : Nat → Prop} {w0 : World} {G : Ghost} {l : List (Nat × Value)} {L : List Asrt}
variable {o : Oper} {rest : List Oper} {d : Nat} {ty : TypeId} {pos : String} {after : Array Edge} {gd : Option (Nat × Bool)} {x y z : Operand} {v u : Value}

theorem box_new (w : World) {c : Array Value} {n : Nat} {f : Nat → Value} (T : TypeId) (h : IsRow c n f) : (box w.heap.size n T f).holds (w.alloc (.cells c T)) (fun b => b = w.heap.size) :=
  ⟨⟨c, heap_alloc_new w _, h⟩, fun _ => Iff.rfl⟩

theorem r_box {T : TypeId} {n : Nat} {f : Nat → Value} (hw : Wt ops l gd) (hd : Nat.blt d N = true) (hx : ev l x = some v) (hv : IsRow v.cells n f)
    (h : ∀ b, Runs P ops Q N X w0 G rest ((d, .pointer (some ⟨b, 0, none⟩)) :: l) (box b n T f :: L)) :
    Runs P ops Q N X w0 G (⟨some d, .box T x, ty, pos, after, gd⟩ :: rest) l L := by
  refine Runs.step hw (fun a w hS => ?_)
  show Oper.upon P _ a _ Q _
  have hr : (execOp a.eval ⟨some d, .box T x, ty, pos, after, gd⟩).run P w = .ok (.value (.pointer (some ⟨w.heap.size, 0, none⟩))) (w.alloc (.cells v.cells T)) := by
    simp only [execOp, hS.fr.eval hx]
    simp [Instr.box, newVar, newRow]
  rw [hr, Oper.upon_value]
  exact h _ _ _ ⟨hS.fr.put (by simpa using hd) _, hS.mem.alloc _ _ (box_new w T hv)⟩

def ZeroIs (P : Program) (T : TypeId) (z : Value) : Prop := (P.info? T).bind (·.zero) = some z

theorem ZeroIs.run {T : TypeId} {z : Value} (h : ZeroIs P T z) (w : World) : (zeroValue T).run P w = .ok z w := by
  unfold ZeroIs at h
  cases hi : P.info? T with
  | none => rw [hi] at h; cases h
  | some i => rw [hi] at h; simp at h; simp [zeroValue, typeInfo, hi, h]

theorem r_alloc {T : TypeId} {n : Nat} {f : Nat → Value} (hw : Wt ops l gd) (hd : Nat.blt d N = true) (hz : ZeroIs P T v) (hv : IsRow v.cells n f)
    (h : ∀ b, Runs P ops Q N X w0 G rest ((d, .pointer (some ⟨b, 0, none⟩)) :: l) (box b n T f :: L)) :
    Runs P ops Q N X w0 G (⟨some d, .alloc T, ty, pos, after, gd⟩ :: rest) l L := by
  refine Runs.step hw (fun a w hS => ?_)
  show Oper.upon P _ a _ Q _
  have hr : (execOp a.eval ⟨some d, .alloc T, ty, pos, after, gd⟩).run P w = .ok (.value (.pointer (some ⟨w.heap.size, 0, none⟩))) (w.alloc (.cells v.cells T)) := by
    simp only [execOp]
    simp [Instr.alloc, newVar, newRow, hz.run]
  rw [hr, Oper.upon_value]
  exact h _ _ _ ⟨hS.fr.put (by simpa using hd) _, hS.mem.alloc _ _ (box_new w T hv)⟩

/-! ### reading and writing a box -/

theorem BoxAt.cell {w : World} {b n : Nat} {T : TypeId} {f : Nat → Value} (h : BoxAt w b n T f) {i : Nat} (hi : i < n) : w.cell? ⟨b, i, none⟩ = some (f i) := by
  obtain ⟨c, h1, h2⟩ := h
  rw [cell_of_row w b i c T (0, 0) h1]
  exact h2.get i hi

theorem addr_add (b i j : Nat) : (⟨b, i, none⟩ : Addr).add j = ⟨b, i + j, none⟩ := by
  unfold Addr.add
  by_cases h : j = 0
  · subst h; simp
  · rw [if_neg h]

theorem run_loadVar_scal {w : World} {T : TypeId} {e : TypeDesc} {b i : Nat} (hT : P.underlying T = some e) (hs : e.aggB = false) (hc : w.cell? ⟨b, i, none⟩ = some v) : (loadVar T ⟨b, i, none⟩).run P w = .ok v w := by
  simp [loadVar, run_isAgg hT, hs, hc]

theorem run_loadVar_agg {w : World} {T : TypeId} {e : TypeDesc} {b i n : Nat} {f : Nat → Value} (hT : P.underlying T = some e) (hs : e.aggB = true) (hn : SzIs P T n)
    (hc : ∀ j, j < n → w.cell? ⟨b, i + j, none⟩ = some (f j)) : (loadVar T ⟨b, i, none⟩).run P w = .ok (aggF n f) w := by
  have h1 := run_loadCells_list (P := P) w ⟨b, i, none⟩ (row f 0 n) (fun j v hj => by
    have hjn : j < n := by
      rcases Nat.lt_or_ge j n with h | h
      · exact h
      · rw [List.getElem?_eq_none (by rw [row_length]; exact h)] at hj; cases hj
    rw [row_get f n 0 j hjn] at hj
    simp only [Nat.zero_add, Option.some.injEq] at hj
    rw [addr_add, hc j hjn, hj])
  rw [row_length] at h1
  simp [loadVar, run_isAgg hT, hs, hn.run, h1, aggF]

/-- A load of one cell of a box. -/
theorem p_ld {T T' : TypeId} {e : TypeDesc} {b i n k : Nat} {f : Nat → Value} (hT : P.underlying T = some e) (hs : e.aggB = false)
    (hx : ev l x = some (.pointer (some ⟨b, i, none⟩))) (hL : L[k]? = some (box b n T' f)) (hi : i < n) (hv : f i = v)
    : PV P N X w0 G l L ⟨some d, .load T x, ty, pos, after, gd⟩ v := by
  intro a w hS
  obtain ⟨F, ⟨hB, _⟩, _⟩ := hS.mem.take hL
  have hc := hB.cell hi
  rw [hv] at hc
  simp [execOp, hS.fr.eval hx, Instr.loadAt, Instr.sureAddr, run_loadVar_scal hT hs hc]

/-- A load of several cells of a box. -/
theorem p_lda {T T' : TypeId} {e : TypeDesc} {b i m n k : Nat} {f : Nat → Value} (hT : P.underlying T = some e) (hs : e.aggB = true) (hm : SzIs P T m)
    (hx : ev l x = some (.pointer (some ⟨b, i, none⟩))) (hL : L[k]? = some (box b n T' f)) (hi : i + m ≤ n) (hv : aggF m (fun j => f (i + j)) = v)
    : PV P N X w0 G l L ⟨some d, .load T x, ty, pos, after, gd⟩ v := by
  intro a w hS
  obtain ⟨F, ⟨hB, _⟩, _⟩ := hS.mem.take hL
  have hc := run_loadVar_agg (P := P) (i := i) (f := fun j => f (i + j)) hT hs hm (fun j hj => hB.cell (i := i + j) (by omega))
  rw [hv] at hc
  simp [execOp, hS.fr.eval hx, Instr.loadAt, Instr.sureAddr, hc]

/-- A load of a whole box. -/
theorem p_ldw {T T' : TypeId} {e : TypeDesc} {b n k : Nat} {f : Nat → Value} (hT : P.underlying T = some e) (hs : e.aggB = true) (hm : SzIs P T n)
    (hx : ev l x = some (.pointer (some ⟨b, 0, none⟩))) (hL : L[k]? = some (box b n T' f)) (hv : aggF n f = v)
    : PV P N X w0 G l L ⟨some d, .load T x, ty, pos, after, gd⟩ v := by
  refine p_lda hT hs hm hx hL (by omega) ?_
  rw [← hv]
  exact aggF_congr (fun j _ => by simp)

/-- Cells [i, i + m) written anew. -/
def updR (f : Nat → Value) (i m : Nat) (g : Nat → Value) : Nat → Value := fun j => bif Nat.ble i j && Nat.blt j (i + m) then g (j - i) else f j

theorem updR_eq (f g : Nat → Value) (i m j : Nat) : updR f i m g j = if i ≤ j ∧ j < i + m then g (j - i) else f j := by
  unfold updR
  by_cases h : i ≤ j ∧ j < i + m
  · rw [if_pos h]
    have h1 : Nat.ble i j = true := by simpa using h.1
    have h2 : Nat.blt j (i + m) = true := by simpa using h.2
    simp [h1, h2]
  · rw [if_neg h]
    cases h1 : Nat.ble i j with
    | false => simp
    | true =>
      cases h2 : Nat.blt j (i + m) with
      | false => simp
      | true => exact absurd ⟨by simpa using h1, by simpa using h2⟩ h

theorem updR_zero (f : Nat → Value) (i m : Nat) (g : Nat → Value) (h : m = 0) : ∀ j, updR f i m g j = f j := by
  subst h
  intro j
  rw [updR_eq, if_neg (by omega)]

theorem since_setCell (w : World) (b i : Nat) (u : Value) (F : Nat → Prop) (hF : F b) : Since F w (w.setCell ⟨b, i, none⟩ u) :=
  ⟨rfl, rfl, rfl, by simp, fun k _ hx => Below.heap_setCell _ _ _ _ (fun e => hx (by have : k = b := e; rw [this]; exact hF))⟩

theorem BoxAt.setCell {w : World} {b n i : Nat} {T : TypeId} {f : Nat → Value} (h : BoxAt w b n T f) (hi : i < n) (u : Value) : BoxAt (w.setCell ⟨b, i, none⟩ u) b n T (upd f i u) := by
  obtain ⟨c, h1, h2⟩ := h
  refine ⟨c.setIfInBounds i u, ?_, by simp [h2.size], fun j hj => ?_⟩
  · exact heap_setCell_same w b i c T u h1
  · rw [upd_eq]
    by_cases e : j = i
    · subst e; rw [if_pos rfl]; simp [h2.size, hi]
    · rw [if_neg e]
      have := h2.get j hj
      rw [Array.getElem?_setIfInBounds_ne (by omega)]
      exact this

theorem BoxAt.frozen {w : World} {b n i : Nat} {T : TypeId} {f : Nat → Value} (h : BoxAt w b n T f) : w.frozen? ⟨b, i, none⟩ = false := by
  obtain ⟨c, h1, _⟩ := h
  exact frozen_of_row w b i c T h1

theorem run_store_one {w : World} {b n i : Nat} {T : TypeId} {f : Nat → Value} (h : BoxAt w b n T f) (hi : i < n) (hv : v.oneCell' = true) : (store ⟨b, i, none⟩ v).run P w = .ok () (w.setCell ⟨b, i, none⟩ v) := by
  rw [run_store P w _ v _ hv, h.cell hi]
  simp [h.frozen]

/-- A store of one cell into a box. -/
theorem r_st {T T' : TypeId} {b i n k : Nat} {f : Nat → Value} (hw : Wt ops l gd) (hs : SzIs P T 1)
    (hx : ev l x = some (.pointer (some ⟨b, i, none⟩))) (hy : ev l y = some v) (hv : v.oneCell' = true) (hL : L[k]? = some (box b n T' f)) (hi : i < n)
    (h : Runs P ops Q N X w0 G rest l (L.set k (box b n T' (upd f i v)))) : Runs P ops Q N X w0 G (⟨none, .store T x y, ty, pos, after, gd⟩ :: rest) l L := by
  refine Runs.step hw (fun a w hS => ?_)
  show Oper.upon P _ a _ Q _
  obtain ⟨F, ⟨hB, hF⟩, _, hput⟩ := hS.mem.take hL
  have hcs : v.cells = #[v] := by cases v <;> first | rfl | (simp [Value.oneCell'] at hv)
  have hr : (execOp a.eval ⟨none, .store T x y, ty, pos, after, gd⟩).run P w = .ok .skip (w.setCell ⟨b, i, none⟩ v) := by
    simp only [execOp, hS.fr.eval hx, hS.fr.eval hy]
    simp [Instr.storeAt, Instr.sureAddr, storeVar, hs.run, hcs, storeCells, addr_add, run_store_one hB hi hv]
  rw [hr, Oper.upon_skip]
  exact h _ _ ⟨hS.fr, hput _ _ F (since_setCell _ _ _ _ F ((hF b).2 rfl)) ⟨hB.setCell hi v, hF⟩ (fun b hb => .inl hb)⟩

theorem run_storeCells_box : ∀ (vs : List Value) (i j : Nat) (w : World) (b n : Nat) (T : TypeId) (f : Nat → Value), BoxAt w b n T f → i + j + vs.length ≤ n → (∀ v ∈ vs, v.oneCell' = true) →
    ∃ w', (storeCells ⟨b, i, none⟩ vs j).run P w = .ok () w' ∧ BoxAt w' b n T (updR f (i + j) vs.length (at_ vs)) ∧ Since (fun k => k = b) w w'
  | [], i, j, w, b, n, T, f, h, _, _ => by
    refine ⟨w, by simp [storeCells], ?_, Since.refl _ _⟩
    obtain ⟨c, h1, h2⟩ := h
    exact ⟨c, h1, h2.congr (fun k _ => (updR_zero f (i + j) 0 _ rfl k).symm)⟩
  | v :: vs, i, j, w, b, n, T, f, h, hn, hv => by
    simp only [List.length_cons] at hn
    have h1 := run_store_one (P := P) h (i := i + j) (by omega) (hv v (by simp))
    obtain ⟨w', hr, hB, hs⟩ := run_storeCells_box vs i (j + 1) (w.setCell ⟨b, i + j, none⟩ v) b n T _ (h.setCell (i := i + j) (by omega) v) (by omega) (fun u hu => hv u (by simp [hu]))
    refine ⟨w', ?_, ?_, ?_⟩
    · simp only [storeCells, addr_add, Sem.run_bind, h1, Result.andThen_ok]
      exact hr
    · obtain ⟨c, e1, e2⟩ := hB
      refine ⟨c, e1, e2.congr (fun k _ => ?_)⟩
      simp only [updR_eq, upd_eq, List.length_cons]
      by_cases a1 : i + j = k
      · subst a1
        rw [if_neg (by omega), if_pos rfl, if_pos (by omega), Nat.sub_self]; rfl
      · by_cases a2 : i + (j + 1) ≤ k ∧ k < i + (j + 1) + vs.length
        · rw [if_pos a2, if_pos (by omega)]
          obtain ⟨m, hm⟩ : ∃ m, k - (i + j) = m + 1 := ⟨k - (i + j) - 1, by omega⟩
          have hm' : k - (i + (j + 1)) = m := by omega
          rw [hm, hm']; rfl
        · rw [if_neg a2, if_neg (by omega), if_neg (by omega)]
    · exact (since_setCell w b (i + j) v (fun k => k = b) rfl).trans hs

/-- A store of several cells into a box. -/
theorem r_sta {T T' : TypeId} {b i m n k : Nat} {f g : Nat → Value} (hw : Wt ops l gd) (hs : SzIs P T m)
    (hx : ev l x = some (.pointer (some ⟨b, i, none⟩))) (hy : ev l y = some v) (hg : IsRow v.cells m g) (h1 : ∀ j, j < m → (g j).oneCell' = true) (hL : L[k]? = some (box b n T' f)) (hi : i + m ≤ n)
    (h : Runs P ops Q N X w0 G rest l (L.set k (box b n T' (updR f i m g)))) : Runs P ops Q N X w0 G (⟨none, .store T x y, ty, pos, after, gd⟩ :: rest) l L := by
  refine Runs.step hw (fun a w hS => ?_)
  show Oper.upon P _ a _ Q _
  obtain ⟨F, ⟨hB, hF⟩, _, hput⟩ := hS.mem.take hL
  have hc := hg.eq
  obtain ⟨w', hr, hB', hs'⟩ := run_storeCells_box (P := P) (row g 0 m) i 0 w b n T' f hB (by rw [row_length]; omega) (fun u hu => by
    obtain ⟨j, hj⟩ := List.getElem?_of_mem hu
    have hjm : j < m := by
      rcases Nat.lt_or_ge j m with h | h
      · exact h
      · rw [List.getElem?_eq_none (by rw [row_length]; exact h)] at hj; cases hj
    rw [row_get g m 0 j hjm] at hj
    simp only [Nat.zero_add, Option.some.injEq] at hj
    rw [← hj]; exact h1 j hjm)
  have hr : (execOp a.eval ⟨none, .store T x y, ty, pos, after, gd⟩).run P w = .ok .skip w' := by
    simp only [execOp, hS.fr.eval hx, hS.fr.eval hy]
    simp [Instr.storeAt, Instr.sureAddr, storeVar, hs.run, hc, row_length, hr]
  rw [hr, Oper.upon_skip]
  refine h _ _ ⟨hS.fr, hput _ _ F ?_ ⟨?_, hF⟩ (fun b hb => .inl hb)⟩
  · exact ⟨hs'.os, hs'.tape, hs'.output, hs'.size, fun k hk hx => hs'.block k hk (fun e => hx (by rw [e]; exact (hF b).2 rfl))⟩
  · obtain ⟨c, e1, e2⟩ := hB'
    refine ⟨c, e1, e2.congr (fun j hj => ?_)⟩
    simp only [updR_eq, row_length, Nat.add_zero]
    by_cases e : i ≤ j ∧ j < i + m
    · rw [if_pos e, if_pos e]
      have e3 := row_get g m 0 (j - i) (by omega)
      have e4 := at_get (row g 0 m) (j - i) (by rw [row_length]; omega)
      rw [e3] at e4
      simpa using e4.symm
    · rw [if_neg e, if_neg e]

/-- A store of a whole box. -/
theorem r_stw {T T' : TypeId} {b n k : Nat} {f g : Nat → Value} (hw : Wt ops l gd) (hs : SzIs P T n)
    (hx : ev l x = some (.pointer (some ⟨b, 0, none⟩))) (hy : ev l y = some v) (hg : IsRow v.cells n g) (h1 : ∀ j, j < n → (g j).oneCell' = true) (hL : L[k]? = some (box b n T' f))
    (h : Runs P ops Q N X w0 G rest l (L.set k (box b n T' g))) : Runs P ops Q N X w0 G (⟨none, .store T x y, ty, pos, after, gd⟩ :: rest) l L := by
  refine r_sta hw hs hx hy hg h1 hL (by omega) (fun a w hS => h a w ⟨hS.fr, hS.mem.imp ?_⟩)
  have key : ∀ (L : List Asrt) (k : Nat), Imp (L.set k (box b n T' (updR f 0 n g))) (L.set k (box b n T' g)) := by
    intro L
    induction L with
    | nil => intro k; exact Imp.refl _
    | cons A L ih =>
      intro k
      cases k with
      | zero =>
        exact .keep (box_congr (fun i hi => by rw [updR_eq, if_pos (by omega)]; simp)) (Imp.refl _)
      | succ k => exact .keep (fun _ _ h => h) (ih k)
  exact key L k

/-! ### places -/

theorem p_field {S : TypeId} {fs : Array Field} {fld : Field} {i j m b : Nat} (hS' : P.underlying S = some (.struct fs)) (hf : fs[j]? = some fld) (hm : SzIs P fld.type (m + 1))
    (hx : ev l x = some (.pointer (some ⟨b, i, none⟩)))
    : PV P N X w0 G l L ⟨some d, .fieldAddr S x j, ty, pos, after, gd⟩ (.pointer (some ⟨b, i + fld.offset, none⟩)) := by
  intro a w hS
  simp only [execOp, hS.fr.eval hx]
  simp [Instr.fieldAt, run_underlying hS', hf, Instr.sureAddr, fieldPlace, hm.run, addr_add]

/-- The address of a cell of an array, by a number in the program's text or one that is known. -/
theorem p_iaddr {T E : TypeId} {n sz i k b : Nat} {q : IntKind} (hT : P.underlying T = some (.array n E)) (hE : SzIs P E sz)
    (hx : ev l x = some (.pointer (some ⟨b, i, none⟩))) (hy : ev l y = some (.int q (k : Nat))) (hk : k < n)
    : PV P N X w0 G l L ⟨some d, .indexAddr T x y, ty, pos, after, gd⟩ (.pointer (some ⟨b, i + k * sz, none⟩)) := by
  intro a w hS
  simp only [execOp, hS.fr.eval hx, hS.fr.eval hy]
  have h1 : (0 : Int) ≤ (k : Int) ∧ (k : Int) < (n : Int) := by omega
  simp [Instr.indexAt, asIntOf, run_underlying hT, Instr.sureAddr, hE.run, addr_add, hk]

/-- The same at an array of one-cell elements that begins its box. -/
theorem p_iaddr1 {T E : TypeId} {n k b : Nat} {q : IntKind} (hT : P.underlying T = some (.array n E)) (hE : SzIs P E 1)
    (hx : ev l x = some (.pointer (some ⟨b, 0, none⟩))) (hy : ev l y = some (.int q (k : Nat))) (hk : k < n)
    : PV P N X w0 G l L ⟨some d, .indexAddr T x y, ty, pos, after, gd⟩ (.pointer (some ⟨b, k, none⟩)) := by
  have h := p_iaddr (P := P) (N := N) (X := X) (w0 := w0) (G := G) (L := L) (d := d) (ty := ty) (pos := pos) (after := after) (gd := gd) hT hE hx hy hk
  simpa using h

/-- An element of an array's value: one cell. -/
theorem p_index {T E : TypeId} {e : TypeDesc} {n k : Nat} {q : IntKind} {c : Array Value} {f : Nat → Value} (hT : P.underlying T = some (.array n E)) (hE : P.underlying E = some e) (hs : e.aggB = false) (hE1 : SzIs P E 1)
    (hx : ev l x = some (.agg c)) (hc : IsRow c n f) (hy : ev l y = some (.int q (k : Nat))) (hk : k < n) (hv : f k = v)
    : PV P N X w0 G l L ⟨some d, .index T x y, ty, pos, after, gd⟩ v := by
  intro a w hS
  simp only [execOp, hS.fr.eval hx, hS.fr.eval hy]
  have h1 : (0 : Int) ≤ (k : Int) ∧ (k : Int) < (n : Int) := by omega
  have h2 := hc.get k hk
  rw [hv] at h2
  simp [Instr.index, asIntOf, run_underlying hT, hE1.run, part, run_isAgg hE, hs, h2, hk]

theorem extract_row {c : Array Value} {N' n o' : Nat} {f : Nat → Value} (hc : IsRow c N' f) (h : o' + n ≤ N') : c.extract o' (o' + n) = (row (fun j => f (o' + j)) 0 n).toArray := by
  refine IsRow.eq ⟨by simp [hc.size]; omega, fun i hi => ?_⟩
  have := hc.get (o' + i) (by omega)
  rw [Array.getElem?_extract, if_pos (by rw [hc.size]; omega)]
  exact this

/-- An element of an array's value: several cells. -/
theorem p_indexa {T E : TypeId} {e : TypeDesc} {n M sz k : Nat} {q : IntKind} {c : Array Value} {f : Nat → Value} (hT : P.underlying T = some (.array n E)) (hE : P.underlying E = some e) (hs : e.aggB = true) (hE1 : SzIs P E sz)
    (hx : ev l x = some (.agg c)) (hc : IsRow c M f) (hM : M = n * sz) (hy : ev l y = some (.int q (k : Nat))) (hk : k < n) (hv : aggF sz (fun j => f (k * sz + j)) = v)
    : PV P N X w0 G l L ⟨some d, .index T x y, ty, pos, after, gd⟩ v := by
  intro a w hS
  simp only [execOp, hS.fr.eval hx, hS.fr.eval hy]
  have h1 : (0 : Int) ≤ (k : Int) ∧ (k : Int) < (n : Int) := by omega
  have h2 : k * sz + sz ≤ M := by
    rw [hM]
    have := Nat.mul_le_mul_right sz (show k + 1 ≤ n from hk)
    rw [Nat.add_mul, Nat.one_mul] at this
    exact this
  simp [Instr.index, asIntOf, run_underlying hT, hE1.run, part, run_isAgg hE, hs, hk, extract_row hc h2, ← hv, aggF]

theorem p_extract {i : Nat} {vs : Array Value} (hx : ev l x = some (.tuple vs)) (hi : vs[i]? = some v)
    : PV P N X w0 G l L ⟨some d, .extract x i, ty, pos, after, gd⟩ v := by
  intro a w hS
  simp only [execOp, hS.fr.eval hx]
  simp [Instr.extract, hi]

theorem evp {a : Act} (hF : Fr N a l) : ∀ {ps : List (Nat × Operand)} {vs : List (Nat × Value)}, (ps.map (fun p => (p.1, ev l p.2)) = vs.map (fun p => (p.1, some p.2))) → ps.map (fun p => (p.1, a.eval p.2)) = vs
  | [], [], _ => rfl
  | [], _ :: _, h => by simp at h
  | _ :: _, [], h => by simp at h
  | p :: ps, q :: vs, h => by
    simp only [List.map_cons, List.cons.injEq, Prod.mk.injEq] at h
    obtain ⟨⟨h1, h2⟩, h3⟩ := h
    simp only [List.map_cons, evp hF h3, hF.eval h2, h1]

theorem p_build {T : TypeId} {ps : List (Nat × Operand)} {vs : List (Nat × Value)} {c : Array Value} (hp : ps.map (fun p => (p.1, ev l p.2)) = vs.map (fun p => (p.1, some p.2))) (hb : P.built T vs = some c)
    : PV P N X w0 G l L ⟨some d, .build T ps.toArray, ty, pos, after, gd⟩ (.agg c) := by
  intro a w hS
  have e := evp hS.fr hp
  have h1 : (ps.toArray.map fun x => (x.1, a.eval x.2)) = vs.toArray := by
    rw [← e]; simp
  have h2 := run_build (P := P) w T vs.toArray c (by simpa using hb)
  show ((do pure (Next.value (← Instr.build T (ps.toArray.map fun x => (x.1, a.eval x.2)))) : Sem Next)).run P w = _
  rw [h1]
  simp [h2]

/-! ### calls -/

def evs (l : List (Nat × Value)) : List Operand → Option (List Value)
  | [] => some []
  | x :: t => match ev l x, evs l t with
    | some v, some vs => some (v :: vs)
    | _, _ => none

theorem evs_eq {a : Act} (hF : Fr N a l) : ∀ {xs : List Operand} {vs : List Value}, evs l xs = some vs → xs.map a.eval = vs
  | [], vs, h => by simp [evs] at h; simp [h]
  | x :: t, vs, h => by
    simp only [evs] at h
    cases h1 : ev l x with
    | none => simp [h1] at h
    | some v =>
      cases h2 : evs l t with
      | none => simp [h1, h2] at h
      | some us =>
        simp [h1, h2] at h
        simp [← h, hF.eval h1, evs_eq hF h2]

def Callable (P : Program) (f : FuncId) : Prop := ∀ (args : Array Value) (w : World), (callFunc f args).run P w = .ok (.enter f args) w

theorem callable {f : FuncId} {fn : Func} (h : P.funcs[f]? = some fn) (hn : (fn.name == "runtime.NumGoroutine") = false) (hb : fn.body.isNone = false) : Callable P f := by
  intro args w
  simp only [callFunc, Sem.run_bind, run_program, Result.andThen_ok, h]
  rw [if_neg (by rw [hn]; simp), if_neg (by rw [hb]; simp)]
  rfl

def Ret (S : Value → World → Prop) : Ending → World → Prop
  | .returned v, w => S v w
  | _, _ => False

theorem run_call {a : Act} {w : World} {f : FuncId} {xs : List Operand} {vs : List Value} {ats : Array TypeId} {dst : Option Tmp} (hF : Fr N a l) (hv : evs l xs = some vs) (hf : Callable P f) :
    (execOp a.eval ⟨dst, .call ⟨.value (.func f), xs.toArray, ats⟩, ty, pos, after, gd⟩).run P w = .ok (.enter f vs.toArray) w := by
  have e := evs_eq hF hv
  have h1 : xs.toArray.map a.eval = vs.toArray := by rw [← e]; simp
  have h2 : execOp a.eval ⟨dst, .call ⟨.value (.func f), xs.toArray, ats⟩, ty, pos, after, gd⟩ = callFunc f (#[] ++ xs.toArray.map a.eval ++ #[]) := rfl
  rw [h2, h1]
  simp [hf _ w]

/-- A call that leaves all that was there alone and returns one known value. -/
theorem r_call {f : FuncId} {xs : List Operand} {vs : List Value} {ats : Array TypeId} (hw : Wt ops l gd) (hd : Nat.blt d N = true) (hf : Callable P f) (hv : evs l xs = some vs)
    (hc : ∀ w, Has G w → Calls P f vs.toArray w (Ret fun r w' => r = v ∧ Since nX w w'))
    (h : Runs P ops Q N X w0 G rest ((d, v) :: l) L) : Runs P ops Q N X w0 G (⟨some d, .call ⟨.value (.func f), xs.toArray, ats⟩, ty, pos, after, gd⟩ :: rest) l L := by
  refine Runs.step hw (fun a w hS => ?_)
  show Oper.upon P _ a _ Q _
  rw [run_call hS.fr hv hf, Oper.upon_enter]
  refine (hc w hS.mem.has).mono (fun e w' hR => ?_)
  cases e with
  | returned r =>
    obtain ⟨rfl, hs⟩ := hR
    exact h _ _ ⟨hS.fr.put (by simpa using hd) _, hS.mem.call hs⟩
  | panicked c => exact hR.elim
  | outgrown => exact hR.elim

/-- The same, the value told by what is known of it. -/
theorem r_callp {f : FuncId} {xs : List Operand} {vs : List Value} {ats : Array TypeId} {S : Value → Prop} (hw : Wt ops l gd) (hd : Nat.blt d N = true) (hf : Callable P f) (hv : evs l xs = some vs)
    (hc : ∀ w, Has G w → Calls P f vs.toArray w (Ret fun r w' => S r ∧ Since nX w w'))
    (h : ∀ v, S v → Runs P ops Q N X w0 G rest ((d, v) :: l) L) : Runs P ops Q N X w0 G (⟨some d, .call ⟨.value (.func f), xs.toArray, ats⟩, ty, pos, after, gd⟩ :: rest) l L := by
  refine Runs.step hw (fun a w hS => ?_)
  show Oper.upon P _ a _ Q _
  rw [run_call hS.fr hv hf, Oper.upon_enter]
  refine (hc w hS.mem.has).mono (fun e w' hR => ?_)
  cases e with
  | returned r =>
    obtain ⟨hr, hs⟩ := hR
    exact h _ hr _ _ ⟨hS.fr.put (by simpa using hd) _, hS.mem.call hs⟩
  | panicked c => exact hR.elim
  | outgrown => exact hR.elim

end

/-! ### code -/

section
variable {P : Program} {Q : Exit → Act → World → Prop} {K : Act → World → Prop} {N : Nat} {X : Nat → Prop} {w0 : World} {G : Ghost} {l l' : List (Nat × Value)} {L L' : List Asrt} {e : Exit}

theorem c_seq {x y : Code} (h : CRuns P x (Exit.then (y.wp P Q) Q) N X w0 G l L) : CRuns P (.seq x y) Q N X w0 G l L := fun a w hS => wp_seq (h a w hS)

theorem c_region {id : Nat} {os : List Oper} (h : Runs P os.toArray Q N X w0 G os l L) : CRuns P (.region id os.toArray false) Q N X w0 G l L :=
  fun a w hS => wp_region_lit (h a w hS)

theorem c_cond_t {c : Operand} {x y : Code} (hc : ev l c = some (.bool true)) (h : CRuns P x Q N X w0 G l L) : CRuns P (.cond c x y) Q N X w0 G l L :=
  fun a w hS => wp_cond_true (hS.fr.eval hc) (h a w hS)

theorem c_cond_f {c : Operand} {x y : Code} (hc : ev l c = some (.bool false)) (h : CRuns P y Q N X w0 G l L) : CRuns P (.cond c x y) Q N X w0 G l L :=
  fun a w hS => wp_cond_false (hS.fr.eval hc) (h a w hS)

theorem c_split {d : Nat} {b : Bool} {c : Code} (hx : lk l d = some (.bool b)) (ht : b = true → CRuns P c Q N X w0 G ((d, .bool true) :: l) L) (hf : b = false → CRuns P c Q N X w0 G ((d, .bool false) :: l) L) :
    CRuns P c Q N X w0 G l L := by
  intro a w hS
  cases b with
  | true => exact ht rfl a w ⟨hS.fr.say hx, hS.mem⟩
  | false => exact hf rfl a w ⟨hS.fr.say hx, hS.mem⟩

theorem c_block {id : Nat} {c : Code} (h : CRuns P c (Exit.inBlock id Q) N X w0 G l L) : CRuns P (.block id c) Q N X w0 G l L := fun a w hS => wp_block (h a w hS)
theorem c_skip (h : ERuns Q .normal N X w0 G l L) : CRuns P .skip Q N X w0 G l L := fun a w hS => wp_skip (h a w hS)
theorem c_ret (h : ERuns Q .ret N X w0 G l L) : CRuns P .ret Q N X w0 G l L := fun a w hS => wp_ret (h a w hS)
theorem c_exit {id : Nat} (h : ERuns Q (.exit id) N X w0 G l L) : CRuns P (.exit id) Q N X w0 G l L := fun a w hS => wp_exit (h a w hS)

theorem c_weaken {c : Code} (hs : sub l l') (hi : Imp L L') (h : CRuns P c Q N X w0 G l' L') : CRuns P c Q N X w0 G l L :=
  fun a w hS => h a w ⟨hS.fr.weaken hs, hS.mem.imp hi⟩

theorem e_next {y : Code} (h : CRuns P y Q N X w0 G l L) : ERuns (Exit.then (y.wp P Q) Q) .normal N X w0 G l L := h
theorem e_ret_then (h : ERuns Q .ret N X w0 G l L) : ERuns (Exit.then K Q) .ret N X w0 G l L := h
theorem e_exit_then {id : Nat} (h : ERuns Q (.exit id) N X w0 G l L) : ERuns (Exit.then K Q) (.exit id) N X w0 G l L := h
theorem e_ret_block {id : Nat} (h : ERuns Q .ret N X w0 G l L) : ERuns (Exit.inBlock id Q) .ret N X w0 G l L := h
theorem e_norm_block {id : Nat} (h : ERuns Q .normal N X w0 G l L) : ERuns (Exit.inBlock id Q) .normal N X w0 G l L := h
theorem e_exit_block {id : Nat} (h : ERuns Q .normal N X w0 G l L) : ERuns (Exit.inBlock id Q) (.exit id) N X w0 G l L := by
  intro a w hS
  show if id = id then Q .normal a w else Q (.exit id) a w
  rw [if_pos rfl]
  exact h a w hS
theorem e_exit_past {id id' : Nat} (hn : Nat.beq id' id = false) (h : ERuns Q (.exit id') N X w0 G l L) : ERuns (Exit.inBlock id Q) (.exit id') N X w0 G l L := by
  intro a w hS
  show if id' = id then Q .normal a w else Q (.exit id') a w
  rw [if_neg (by intro e; subst e; simp at hn)]
  exact h a w hS

/-- A loop: at every round's head the frame and the memory are as S, A and B say at some state that Φ lets in; each round lowers μ. -/
theorem c_loop {σ : Type} (S : σ → List (Nat × Value)) (A : σ → List Asrt) (B : σ → Ghost) (Φ : σ → Prop) (μ : σ → Nat) (s0 : σ) {body : Code} (h0 : Φ s0) (hG : G = B s0) (hS : sub l (S s0)) (hL : Imp L (A s0))
    (round : ∀ s, Φ s → CRuns P body (Exit.then (fun a w => ∃ s', (Φ s' ∧ μ s' < μ s) ∧ St N X w0 (B s') (S s') (A s') a w) Q) N X w0 (B s) (S s) (A s)) :
    CRuns P (.loop body) Q N X w0 G l L := by
  intro a w hSt b k cs
  have key : ∀ (n : Nat) (s : σ) (a : Act) (w : World), μ s = n → Φ s → St N X w0 (B s) (S s) (A s) a w →
      ∃ e a' w', Q e a' w' ∧ Arrives P (lone (b.at a (.code body :: .inLoop body :: k)) cs w) b k cs e a' w' := by
    intro n
    induction n using Nat.strongRecOn with
    | _ n ih =>
      intro s a w hn hΦ hst
      obtain ⟨e, a₁, w₁, hq, harr⟩ := round s hΦ a w hst b (.inLoop body :: k) cs
      cases e with
      | normal =>
        obtain ⟨s', ⟨hΦ', hlt⟩, hst'⟩ := hq
        obtain ⟨e₂, a₂, w₂, hq₂, harr₂⟩ := ih (μ s') (hn ▸ hlt) s' a₁ w₁ rfl hΦ' hst'
        exact ⟨e₂, a₂, w₂, hq₂, .of_steps (Steps.trans harr (.one step_inLoop)) harr₂⟩
      | exit id => exact ⟨_, a₁, w₁, hq, .pass (x := .inLoop body) rfl (fun _ _ => .inl (by simp)) harr⟩
      | goto l => exact ⟨_, a₁, w₁, hq, .pass (x := .inLoop body) rfl (fun _ _ => .inl (by simp)) harr⟩
      | ret => exact ⟨_, a₁, w₁, hq, .pass (x := .inLoop body) rfl (fun _ _ => .inl (by simp)) harr⟩
      | panic ch => exact ⟨_, a₁, w₁, hq, .pass (x := .inLoop body) rfl (fun _ _ => .inl (by simp)) harr⟩
      | outgrown => exact ⟨_, a₁, w₁, hq, .pass (x := .inLoop body) rfl (fun _ _ => .inl (by simp)) harr⟩
  obtain ⟨e, a', w', hq, harr⟩ := key _ s0 a w rfl h0 ⟨hSt.fr.weaken hS, by rw [← hG]; exact hSt.mem.imp hL⟩
  exact ⟨e, a', w', hq, .of_steps (.one step_loop) harr⟩

/-- The end of a round. -/
theorem e_round {σ : Type} {S : σ → List (Nat × Value)} {A : σ → List Asrt} {B : σ → Ghost} {Φ : σ → Prop} {m : σ → Prop} (s' : σ) (h : Φ s' ∧ m s') (hG : G = B s') (hS : sub l (S s')) (hL : Imp L (A s')) :
    ERuns (Exit.then (fun a w => ∃ s', (Φ s' ∧ m s') ∧ St N X w0 (B s') (S s') (A s') a w) Q) .normal N X w0 G l L :=
  fun _ _ hSt => ⟨s', h, hSt.fr.weaken hS, by rw [← hG]; exact hSt.mem.imp hL⟩

/-! ### the end of a call -/

inductive ResIs (P : Program) (l : List (Nat × Value)) (L : List Asrt) : List ResultVar → List Value → Prop
  | nil : ResIs P l L [] []
  | tmp {t : Nat} {v : Value} {rs : List ResultVar} {vs : List Value} : lk l t = some v → ResIs P l L rs vs → ResIs P l L (.tmp t :: rs) (v :: vs)
  | cell {t b n k : Nat} {T T' : TypeId} {e : TypeDesc} {f : Nat → Value} {v : Value} {rs : List ResultVar} {vs : List Value} : lk l t = some (.pointer (some ⟨b, 0, none⟩)) → P.underlying T = some e → e.aggB = true → SzIs P T n →
      L[k]? = some (box b n T' f) → aggF n f = v → ResIs P l L rs vs → ResIs P l L (.cell t T :: rs) (v :: vs)
  | cell1 {t b n k : Nat} {T T' : TypeId} {e : TypeDesc} {f : Nat → Value} {v : Value} {rs : List ResultVar} {vs : List Value} : lk l t = some (.pointer (some ⟨b, 0, none⟩)) → P.underlying T = some e → e.aggB = false → 0 < n →
      L[k]? = some (box b n T' f) → f 0 = v → ResIs P l L rs vs → ResIs P l L (.cell t T :: rs) (v :: vs)

def resRun (tmps : Array Value) (r : ResultVar) : Sem Value :=
  match r with
  | .tmp t => pure (tmps.getD t undef)
  | .cell p t => do loadVar t (← asAddr (tmps.getD p undef))

theorem run_results {a : Act} {w : World} (hSt : St N X w0 G l L a w) {rs : List ResultVar} {vs : List Value} (h : ResIs P l L rs vs) : (rs.mapM (resRun a.tmps)).run P w = .ok vs w := by
  induction h with
  | nil => simp
  | tmp h1 _ ih =>
    simp only [List.mapM_cons, Sem.run_bind, Sem.run_pure, Result.andThen_ok, resRun, hSt.fr.tmp h1, ih]
  | cell h1 hT hs hn hL hv _ ih =>
    obtain ⟨F, ⟨hB, _⟩, _⟩ := hSt.mem.take hL
    have hc := run_loadVar_agg (P := P) (i := 0) hT hs hn (fun j hj => by simpa using hB.cell (i := j) hj)
    simp only [List.mapM_cons, Sem.run_bind, Sem.run_pure, Result.andThen_ok, resRun, hSt.fr.tmp h1, asAddr, hc, hv, ih]
  | cell1 h1 hT hs hn hL hv _ ih =>
    obtain ⟨F, ⟨hB, _⟩, _⟩ := hSt.mem.take hL
    have hc := run_loadVar_scal (P := P) (i := 0) hT hs (hB.cell hn)
    simp only [List.mapM_cons, Sem.run_bind, Sem.run_pure, Result.andThen_ok, resRun, hSt.fr.tmp h1, asAddr, hc, hv, ih]

theorem results_run {a : Act} {w : World} {fn : Func} {rs : List ResultVar} {vs : List Value} (hSt : St N X w0 G l L a w) (hr : fn.results = rs.toArray) (h : ResIs P l L rs vs) :
    (results fn a.tmps).run P w = .ok (if h : vs.toArray.size = 1 then vs.toArray[0] else .tuple vs.toArray) w := by
  have h1 := run_results hSt h
  have h2 : results fn a.tmps = (do let vs ← fn.results.mapM (resRun a.tmps); pure (if h : vs.size = 1 then vs[0] else .tuple vs)) := rfl
  rw [h2, hr]
  simp only [List.mapM_toArray, Sem.run_bind, Sem.run_map, Sem.run_pure]
  rw [h1]
  rfl

theorem e_ret1 {fn : Func} {R : Ending → World → Prop} {r : ResultVar} {v : Value} (hr : fn.results = #[r]) (h : ResIs P l L [r] [v])
    (hR : ∀ w, Mem X w0 G w L → R (.returned v) w) : ERuns (bodyPost P fn R) .ret N X w0 G l L := by
  intro a w hSt
  exact ⟨hSt.fr.nod, v, by rw [results_run hSt (rs := [r]) hr h]; rfl, hR w hSt.mem⟩

theorem e_retn {fn : Func} {R : Ending → World → Prop} {rs : List ResultVar} {vs : List Value} (hr : fn.results = rs.toArray) (h : ResIs P l L rs vs) (hn : (vs.length == 1) = false)
    (hR : ∀ w, Mem X w0 G w L → R (.returned (.tuple vs.toArray)) w) : ERuns (bodyPost P fn R) .ret N X w0 G l L := by
  intro a w hSt
  refine ⟨hSt.fr.nod, _, results_run hSt hr h, ?_⟩
  rw [dif_neg (by simp at hn ⊢; exact hn)]
  exact hR w hSt.mem

theorem e_end0 {fn : Func} {R : Ending → World → Prop} (hr : fn.results = #[])
    (hR : ∀ w, Mem X w0 G w L → R (.returned (.tuple #[])) w) : ERuns (bodyPost P fn R) .normal N X w0 G l L := by
  intro a w hSt
  refine ⟨hSt.fr.nod, .tuple #[], ?_, hR w hSt.mem⟩
  rw [results_run hSt (rs := []) hr .nil]; rfl

/-- Into a function. -/
theorem enter {f : FuncId} {fn : Func} {c : Code} {args : List Value} {w : World} {R : Ending → World → Prop} {n : Nat} (hf : P.funcs[f]? = some fn) (hb : fn.body = some c) (hn : fn.ntmps = n) (hG : Has G w)
    (hl : sub (args.zipIdx.map fun p => (p.2, p.1)) l) (hle : args.length ≤ n)
    (h : CRuns P c (bodyPost P fn R) n X w G l []) : Calls P f args.toArray w R := by
  refine calls_of_wp hf hb (h _ w ⟨?_, Mem.start X w G hG⟩)
  subst hn
  refine Fr.weaken (l := args.zipIdx.map fun p => (p.2, p.1)) ⟨by simp; omega, rfl, ?_⟩ hl
  intro i v hi
  have key : ∀ (as : List Value) (k : Nat), lk ((as.zipIdx k).map fun p => (p.2, p.1)) i = some v → k ≤ i ∧ as[i - k]? = some v := by
    intro as
    induction as with
    | nil => intro k h; simp [lk] at h
    | cons u as ih =>
      intro k h
      simp only [List.zipIdx_cons, List.map_cons] at h
      rw [lk_cons] at h
      by_cases e : k = i
      · rw [if_pos e] at h
        subst e
        simpa using h
      · rw [if_neg e] at h
        obtain ⟨h1, h2⟩ := ih (k + 1) h
        refine ⟨by omega, ?_⟩
        obtain ⟨m, hm⟩ : ∃ m, i - k = m + 1 := ⟨i - k - 1, by omega⟩
        rw [hm]
        have : i - (k + 1) = m := by omega
        rw [this] at h2
        simpa using h2
  have := (key args 0 hi).2
  simp only [Nat.sub_zero] at this
  have hlt : i < args.length := by
    rcases Nat.lt_or_ge i args.length with h | h
    · exact h
    · rw [List.getElem?_eq_none h] at this; cases this
  simp [Array.getElem?_append, hlt]
  have h3 := List.getElem?_eq_getElem hlt
  rw [this] at h3
  exact (Option.some.inj h3).symm

end
end Go.Gx
