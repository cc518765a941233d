/-
  GX: small operations besides. Generic in the program.
-/
import Derived.Test.YtoflaphnlfggkaaGxDraw
namespace Go.Gx
open Go.RowKit

theorem beq_bytes (a b : ByteArray) : (a.toList == b.toList) = decide (a = b) := by
  rw [ByteArray.toList_eq, ByteArray.toList_eq]
  by_cases h : a = b
  · subst h; simp
  · have h2 : ¬ a.data.toList = b.data.toList := fun e => h (by
      obtain ⟨⟨x⟩⟩ := a
      obtain ⟨⟨y⟩⟩ := b
      simp at e
      rw [e])
    rw [decide_eq_false h]
    exact beq_eq_false_iff_ne.2 h2

/-- Byte k of s. -/
def byteAt (s : ByteArray) (k : Nat) : Nat := (s.data.toList.getD k 0).toNat

section
variable {P : Program} {ops : Array Oper} {Q : Exit → Act → World → Prop} {N : Nat} {X : Nat → Prop} {w0 : World} {G : Ghost} {l : List (Nat × Value)} {L : List Asrt}
variable {rest : List Oper} {d : Nat} {ty : TypeId} {pos : String} {after : Array Edge} {gd : Option (Nat × Bool)} {x y z : Operand} {v u : Value}

theorem p_nilcheck {a : Addr} (hx : ev l x = some (.pointer (some a))) : PV P N X w0 G l L ⟨some d, .nilCheck x, ty, pos, after, gd⟩ (.pointer (some a)) := by
  intro ac w hS
  simp only [execOp, hS.fr.eval hx]
  rfl

theorem p_len_str {T : TypeId} {s : ByteArray} (hT : P.underlying T = some .string) (hx : ev l x = some (.string s)) :
    PV P N X w0 G l L ⟨some d, .call ⟨.builtin .len, #[x], #[T]⟩, ty, pos, after, gd⟩ (.int .i64 (s.size : Nat)) := by
  intro ac w hS
  simp [execOp, resolve, invoke, builtin, Builtin.len_, hS.fr.eval hx, run_underlying hT, goInt]

theorem p_len_arr {T E : TypeId} {n : Nat} (hT : P.underlying T = some (.array n E)) (hx : ev l x = some v) :
    PV P N X w0 G l L ⟨some d, .call ⟨.builtin .len, #[x], #[T]⟩, ty, pos, after, gd⟩ (.int .i64 (n : Nat)) := by
  intro ac w hS
  simp [execOp, resolve, invoke, builtin, Builtin.len_, hS.fr.eval hx, run_underlying hT, goInt]

theorem p_index_str {T : TypeId} {s : ByteArray} {k : Nat} {q : IntKind} (hT : P.underlying T = some .string) (hx : ev l x = some (.string s)) (hy : ev l y = some (.int q (k : Nat))) (hk : k < s.size) :
    PV P N X w0 G l L ⟨some d, .index T x y, ty, pos, after, gd⟩ (.int .u8 (byteAt s k : Nat)) := by
  intro ac w hS
  show (_ : Result Next) = .ok (.value (.int .u8 (((s.data.toList.getD k 0).toNat : Nat) : Int))) w
  have h1 : s[k]? = some (s.data.toList.getD k 0) := by
    have hk' : k < s.data.size := hk
    rw [getElem?_pos s k hk]
    simp only [List.getD, ByteArray.getElem_eq_getElem_data, Array.getElem?_toList, Array.getElem?_eq_getElem hk', Option.getD_some]
  simp only [execOp, hS.fr.eval hx, hS.fr.eval hy]
  simp [Instr.index, asIntOf, run_underlying hT, h1]

theorem p_eqs {T U : TypeId} {a b : ByteArray} (hx : ev l x = some (.string a)) (hy : ev l y = some (.string b)) :
    PV P N X w0 G l L ⟨some d, .binOp .eql T x y U, ty, pos, after, gd⟩ (.bool (decide (a = b))) := by
  intro ac w hS
  have e := beq_bytes a b
  simp only [execOp, hS.fr.eval hx, hS.fr.eval hy]
  simp [eqGuard_at_string, binOp, Op.stringOp, e]

theorem p_nes {T U : TypeId} {a b : ByteArray} (hx : ev l x = some (.string a)) (hy : ev l y = some (.string b)) :
    PV P N X w0 G l L ⟨some d, .binOp .neq T x y U, ty, pos, after, gd⟩ (.bool (!decide (a = b))) := by
  intro ac w hS
  have e := beq_bytes a b
  simp only [execOp, hS.fr.eval hx, hS.fr.eval hy]
  simp [eqGuard_at_string, binOp, Op.stringOp, e]

theorem eq_ptr_run {T E : TypeId} {p q : Option Addr} (hT : P.underlying T = some (.pointer E)) (h : p = none ∨ q = none) (d : Nat) (w : World) : (Op.equalIn (d + 1) T (.pointer p) (.pointer q)).run P w = .ok (decide (p = q)) w := by
  rcases h with rfl | rfl
  · cases q <;> simp [Op.equalIn, run_underlying hT]
  · cases p <;> simp [Op.equalIn, run_underlying hT]

/-- '==' between a pointer and nil, and the like. -/
theorem p_eq_ptr {T U E : TypeId} {p q : Option Addr} (hT : P.underlying T = some (.pointer E)) (h : p = none ∨ q = none) (hx : ev l x = some (.pointer p)) (hy : ev l y = some (.pointer q)) :
    PV P N X w0 G l L ⟨some d, .binOp .eql T x y U, ty, pos, after, gd⟩ (.bool (decide (p = q))) := by
  intro ac w hS
  have e : (Op.equal T (.pointer p) (.pointer q)).run P w = .ok (decide (p = q)) w := by
    exact eq_ptr_run hT h 9999 w
  have e2 : (binOp .eql T (.pointer p) (.pointer q)).run P w = .ok (.bool (decide (p = q))) w := by
    have h1 : binOp .eql T (.pointer p) (.pointer q) = (do pure (.bool (← Op.equal T (.pointer p) (.pointer q)))) := rfl
    rw [h1]; simp [e]
  simp only [execOp, hS.fr.eval hx, hS.fr.eval hy]
  simp [eqGuard_at_pointer, e2]

theorem p_ne_ptr {T U E : TypeId} {p q : Option Addr} (hT : P.underlying T = some (.pointer E)) (h : p = none ∨ q = none) (hx : ev l x = some (.pointer p)) (hy : ev l y = some (.pointer q)) :
    PV P N X w0 G l L ⟨some d, .binOp .neq T x y U, ty, pos, after, gd⟩ (.bool (!decide (p = q))) := by
  intro ac w hS
  have e : (Op.equal T (.pointer p) (.pointer q)).run P w = .ok (decide (p = q)) w := by
    exact eq_ptr_run hT h 9999 w
  have e2 : (binOp .neq T (.pointer p) (.pointer q)).run P w = .ok (.bool (!decide (p = q))) w := by
    have h1 : binOp .neq T (.pointer p) (.pointer q) = (do pure (.bool (!(← Op.equal T (.pointer p) (.pointer q))))) := rfl
    rw [h1]; simp [e]
  simp only [execOp, hS.fr.eval hx, hS.fr.eval hy]
  simp [eqGuard_at_pointer, e2]

theorem p_conv {T U : TypeId} {k k' : IntKind} {n m : Int} (hT : P.underlying T = some (.int k)) (hU : P.underlying U = some (.int k')) (hx : ev l x = some (.int k n)) (hw : k'.wrap n = m) :
    PV P N X w0 G l L ⟨some d, .convert T U x, ty, pos, after, gd⟩ (.int k' m) := by
  intro ac w hS
  simp only [execOp, hS.fr.eval hx]
  simp [convert, run_underlying hT, run_underlying hU, Conv.intToInt, hw]

/-! ### a slice cut -/

theorem p_slice {T E : TypeId} {n sz a b : Nat} {q q' : IntKind} {f : Nat → Nat → Value} (hT : P.underlying T = some (.slice E)) (hE : SzIs P E sz) (hx : ev l x = some v) (hs : SlG G v n sz f) (lo hi : Option Operand)
    (hlo : match lo with | none => a = 0 | some o => ev l o = some (.int q (a : Nat))) (hhi : match hi with | none => b = n | some o => ev l o = some (.int q' (b : Nat))) (hab : a ≤ b) (hbn : b ≤ n) :
    ∃ v', SlG G v' (b - a) sz (fun i j => f (a + i) j) ∧ PV P N X w0 G l L ⟨some d, .slice T x lo hi none, ty, pos, after, gd⟩ v' := by
  obtain ⟨ad, cap, rfl, hc, hrow⟩ := hs
  refine ⟨.slice (if cap = a then ad else ad.map (·.add (a * sz))) (b - a) (cap - a), ⟨_, _, rfl, by omega, fun hn => ?_⟩, fun ac w hS => ?_⟩
  · obtain ⟨bl, o, rfl, hR⟩ := hrow (by omega)
    rw [if_neg (by omega)]
    refine ⟨bl, o + a * sz, by simp [addr_add], fun i hi => ?_⟩
    have := hR (a + i) (by omega)
    rw [Nat.add_mul] at this
    rw [Nat.add_assoc]
    exact this
  · have hm : ∀ (o : Option Operand), o.map ac.eval = match o with | none => none | some o => some (ac.eval o) := fun o => by cases o <;> rfl
    have hrun : (Instr.sliceAt T (.slice ad n cap) (lo.map ac.eval) (hi.map ac.eval) none).run P w = .ok (.slice (if cap = a then ad else ad.map (·.add (a * sz))) (b - a) (cap - a)) w := by
      have hbc : (0 : Int) ≤ (b : Int) ∧ (b : Int) ≤ (cap : Int) := by omega
      have hab' : (0 : Int) ≤ (a : Int) ∧ (a : Int) ≤ (b : Int) := by omega
      cases lo with
      | none =>
        simp only at hlo
        subst hlo
        cases hi with
        | none =>
          simp only at hhi
          subst hhi
          simp [Instr.sliceAt, Instr.slice, run_underlying hT, Instr.sliceBounds, hE.run]
        | some o =>
          simp only at hhi
          simp [Instr.sliceAt, Instr.slice, run_underlying hT, Instr.sliceBounds, Instr.sliceBound, asIntOf, hS.fr.eval hhi, hE.run, show b ≤ cap by omega]
      | some o2 =>
        simp only at hlo
        cases hi with
        | none =>
          simp only at hhi
          subst hhi
          simp [Instr.sliceAt, Instr.slice, run_underlying hT, Instr.sliceBounds, Instr.sliceBound, asIntOf, hS.fr.eval hlo, hE.run, hab]
        | some o =>
          simp only at hhi
          simp [Instr.sliceAt, Instr.slice, run_underlying hT, Instr.sliceBounds, Instr.sliceBound, asIntOf, hS.fr.eval hlo, hS.fr.eval hhi, hE.run, hab, show b ≤ cap by omega]
    simp only [execOp, hS.fr.eval hx]
    simp [hrun]

/-! ### lists -/

/-- The slice v holds the list l; each element has sz cells, told by cells; e stands behind the end. -/
def SlL {α : Type} (G : Ghost) (v : Value) (sz : Nat) (cells : α → List Value) (e : α) (l : List α) : Prop := SlG G v l.length sz (fun i => at_ (cells (l.getD i e)))

theorem SlL.bound {α : Type} {G : Ghost} {v : Value} {sz : Nat} {cells : α → List Value} {e : α} {l : List α} (h : SlL G v sz cells e l) : l.length ≤ 9223372036854775807 := SlG.bound h
theorem SlL.mono {α : Type} {G G' : Ghost} {v : Value} {sz : Nat} {cells : α → List Value} {e : α} {l : List α} (h : SlL G v sz cells e l) (hle : GLe G G') : SlL G' v sz cells e l := SlG.mono h hle

theorem flatMap_get {α : Type} {cells : α → List Value} {sz : Nat} (hc : ∀ x, (cells x).length = sz) (e : α) : ∀ (l : List α) (i j : Nat), i < l.length → j < sz → (l.flatMap cells).getD (i * sz + j) undef = at_ (cells (l.getD i e)) j
  | [], i, j, h, _ => by simp at h
  | x :: l, 0, j, _, hj => by
    have hj' : j < (cells x).length := by rw [hc]; exact hj
    have := at_get (cells x) j hj'
    simp [List.flatMap_cons, List.getElem?_append_left hj', this]
  | x :: l, i + 1, j, h, hj => by
    have ih := flatMap_get hc e l i j (by simpa using h) hj
    have hlen : (cells x).length ≤ (i + 1) * sz + j := by rw [hc, Nat.add_mul]; omega
    simp only [List.flatMap_cons, List.getD_eq_getElem?_getD, List.getElem?_append_right hlen, hc] at ih ⊢
    have e1 : (i + 1) * sz + j - sz = i * sz + j := by rw [Nat.add_mul]; omega
    rw [e1, ih]
    simp

/-- A row that stays, as a list. -/
theorem SlL.of {α : Type} {G : Ghost} {v : Value} {sz n : Nat} {cells : α → List Value} {l : List α} (e : α) (hc : ∀ x, (cells x).length = sz) (hn : n = l.length) (h : SlG G v n sz (fun i j => (l.flatMap cells).getD (i * sz + j) undef)) : SlL G v sz cells e l := by
  subst hn
  exact h.congr (fun i hi j hj => flatMap_get hc e l i j hi hj)

theorem rowA_snoc {α : Type} {v : Value} {E : TypeId} {sz n m : Nat} {cells : α → List Value} {l l' : List α} {x : α} {xs : List Value} (hl : l' = l ++ [x]) (hn : n = l.length) (hm : m = 1) (hx : xs = cells x) (w : World) (F : Nat → Prop)
    (h : (rowA v E sz (n + m) (l.flatMap cells ++ xs)).holds w F) : (rowA v E sz l'.length (l'.flatMap cells)).holds w F := by
  subst hl; subst hx; subst hn; subst hm
  exact rowA_congr (by simp) (by simp) w F h

theorem rowA_nil {α : Type} {v : Value} {E : TypeId} {sz : Nat} {cells : α → List Value} {l' : List α} (hl : l' = []) (w : World) (F : Nat → Prop) (h : (rowA v E sz 0 []).holds w F) : (rowA v E sz l'.length (l'.flatMap cells)).holds w F := by
  subst hl; exact h

theorem rowA_same {α : Type} {v : Value} {E : TypeId} {sz : Nat} {cells : α → List Value} {l l' : List α} (hl : l' = l) (w : World) (F : Nat → Prop) (h : (rowA v E sz l.length (l.flatMap cells)).holds w F) : (rowA v E sz l'.length (l'.flatMap cells)).holds w F := by
  subst hl; exact h

/-- A call that reads a row of the caller's own, and leaves all as it was. -/
theorem r_callr {f : FuncId} {xs : List Operand} {vs : List Value} {ats : Array TypeId} {k n sz : Nat} {E : TypeId} {r0 : Value} {zs : List Value} {v : Value} (hw : Wt ops l gd) (hd : Nat.blt d N = true) (hf : Callable P f) (hv : evs l xs = some vs) (hL : L[k]? = some (rowA r0 E sz n zs))
    (hc : ∀ w G1, Has G1 w → GLe G G1 → SlG G1 r0 n sz (fun i j => zs.getD (i * sz + j) undef) → Calls P f vs.toArray w (Ret fun r w' => r = v ∧ Since nX w w'))
    (h : Runs P ops Q N X w0 G rest ((d, v) :: l) L) : Runs P ops Q N X w0 G (⟨some d, .call ⟨.value (.func f), xs.toArray, ats⟩, ty, pos, after, gd⟩ :: rest) l L := by
  refine Runs.step hw (fun a w hS => ?_)
  show Oper.upon P _ a _ Q _
  rw [run_call hS.fr hv hf, Oper.upon_enter]
  obtain ⟨G1, h1, h2, h3⟩ := hS.mem.freeze hL
  refine (hc w G1 h3.has h1.le h2).mono (fun e w' hR => ?_)
  cases e with
  | returned r =>
    obtain ⟨rfl, hs⟩ := hR
    exact h _ _ ⟨hS.fr.put (by simpa using hd) _, hS.mem.call hs⟩
  | panicked c => exact hR.elim
  | outgrown => exact hR.elim

/-- The same, the result in memory that stays. -/
theorem r_callrm {f : FuncId} {xs : List Operand} {vs : List Value} {ats : Array TypeId} {k n sz : Nat} {E : TypeId} {r0 : Value} {zs : List Value} {S : Ghost → Value → Prop} (hw : Wt ops l gd) (hd : Nat.blt d N = true) (hf : Callable P f) (hv : evs l xs = some vs) (hL : L[k]? = some (rowA r0 E sz n zs))
    (hc : ∀ w G1, Has G1 w → GLe G G1 → SlG G1 r0 n sz (fun i j => zs.getD (i * sz + j) undef) → Calls P f vs.toArray w (Ret fun r w' => ∃ H : Ghost, (∀ b, H b ≠ none → w.heap.size ≤ b) ∧ Has H w' ∧ S H r ∧ Since nX w w'))
    (h : ∀ G' r, GNew w0 X G G' → (∃ H, GLe H G' ∧ S H r) → Runs P ops Q N X w0 G' rest ((d, r) :: l) L) : Runs P ops Q N X w0 G (⟨some d, .call ⟨.value (.func f), xs.toArray, ats⟩, ty, pos, after, gd⟩ :: rest) l L := by
  refine Runs.step hw (fun a w hS => ?_)
  show Oper.upon P _ a _ Q _
  rw [run_call hS.fr hv hf, Oper.upon_enter]
  obtain ⟨G1, h1, h2, h3⟩ := hS.mem.freeze hL
  refine (hc w G1 h3.has h1.le h2).mono (fun e w' hR => ?_)
  cases e with
  | returned r =>
    obtain ⟨H, hfresh, hh, hr, hs⟩ := hR
    have hnew : GNew w nX G (fun b => match G b with | some o => some o | none => H b) :=
      ⟨fun b o e => by simp [e], fun b e e' => .inl (hfresh b (by simpa [e] using e'))⟩
    refine h _ r (hnew.up hS.mem.since.size) ⟨H, fun b o e => ?_, hr⟩ _ _ ⟨hS.fr.put (by simpa using hd) _, hS.mem.callG hs hnew ?_⟩
    · have hge : w.heap.size ≤ b := hfresh b (by rw [e]; simp)
      have : G b = none := hS.mem.has.fresh hge
      simp [this, e]
    · intro b o e
      cases e2 : G b with
      | none => simp only [e2] at e; exact hh b o e
      | some o2 =>
        simp only [e2] at e
        cases e
        rw [hs.block b (hS.mem.has.lt e2) id]
        exact hS.mem.has b o e2
  | panicked c => exact hR.elim
  | outgrown => exact hR.elim

end
end Go.Gx
