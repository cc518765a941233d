/-
  GX: a block of the call's own stays as it is from now on, and is a slice. Generic in the program.
-/
import Derived.Test.YtoflaphnlfggkaaGxTree
import Derived.Test.YtoflaphnlfggkaaGxDraw
namespace Go.Gx
open Go.RowKit

section
variable {P : Program} {ops : Array Oper} {Q : Exit → Act → World → Prop} {N : Nat} {X : Nat → Prop} {w0 : World} {G : Ghost} {l : List (Nat × Value)} {L : List Asrt}
variable {rest : List Oper}

theorem Mem.freezeB {w : World} {k n m sz b : Nat} {E : TypeId} {f : Nat → Value} (h : Mem X w0 G w L) (hL : L[k]? = some (box b n E f)) (hn : n = m * sz) (hm : m ≤ 1000) :
    ∃ G', GNew w0 X G G' ∧ SlG G' (.slice (some ⟨b, 0, none⟩) m m) m sz (fun i j => f (i * sz + j)) ∧ Mem X w0 G' w (L.eraseIdx k) := by
  obtain ⟨F, ⟨⟨c, hc, hr⟩, hF⟩, hU, hsep⟩ := h.sep.erase hL
  have hgF : F b := (hF b).2 rfl
  have hgU := hU b hgF
  refine ⟨fun b' => if b' = b then some (.cells c E (0, 0)) else G b', ⟨fun b' o e => ?_, fun b' e e' => ?_⟩, ?_, h.since, fun b' o e => ?_, hsep.mono (fun b' _ hb => ⟨hb.1.1, ?_⟩)⟩
  · have : b' ≠ b := fun e2 => by subst e2; rw [hgU.2] at e; cases e
    simp only [if_neg this]; exact e
  · by_cases e2 : b' = b
    · subst e2; exact hgU.1
    · simp only [if_neg e2] at e'; exact absurd e e'
  · refine ⟨some ⟨b, 0, none⟩, m, rfl, ⟨Nat.le_refl _, by simp only [maxLen]; omega⟩, fun _ => ⟨b, 0, rfl, fun i hi => ⟨c, E, (0, 0), by simp, fun j hj => ?_⟩⟩⟩
    have hlt : i * sz + j < n := by
      have := Nat.mul_le_mul_right sz (show i + 1 ≤ m from hi)
      rw [Nat.add_mul, Nat.one_mul] at this; omega
    rw [Nat.zero_add]
    exact hr.get _ hlt
  · by_cases e2 : b' = b
    · subst e2; simp only [if_true, Option.some.injEq] at e; subst e; exact hc
    · simp only [if_neg e2] at e; exact h.has b' o e
  · have : b' ≠ b := fun e2 => hb.2 (by rw [e2]; exact hgF)
    simp only [if_neg this]; exact hb.1.2

theorem r_freezeB {k n b E : Nat} {f : Nat → Value} (m sz : Nat) (hL : L[k]? = some (box b n E f)) (hn : n = m * sz) (hm : m ≤ 1000)
    (h : ∀ G', GNew w0 X G G' → SlG G' (.slice (some ⟨b, 0, none⟩) m m) m sz (fun i j => f (i * sz + j)) → Runs P ops Q N X w0 G' rest l (L.eraseIdx k)) : Runs P ops Q N X w0 G rest l L := by
  intro a w hS
  obtain ⟨G', h1, h2, h3⟩ := hS.mem.freezeB hL hn hm
  exact h G' h1 h2 a w ⟨hS.fr, h3⟩

/-- A call that hands back a row of its own. -/
theorem r_callrow {d : Nat} {ty : TypeId} {pos : String} {after : Array Edge} {gd : Option (Nat × Bool)} {f : FuncId} {xs : List Operand} {vs : List Value} {ats : Array TypeId} {E : TypeId} {sz n : Nat} {ys : List Value} (hw : Wt ops l gd) (hd : Nat.blt d N = true) (hf : Callable P f) (hv : evs l xs = some vs)
    (hc : ∀ w, Has G w → Calls P f vs.toArray w (Ret fun r w' => Since nX w w' ∧ ∃ F', (rowA r E sz n ys).holds w' F' ∧ ∀ b, F' b → w.heap.size ≤ b))
    (h : ∀ v, Runs P ops Q N X w0 G rest ((d, v) :: l) (rowA v E sz n ys :: L)) : Runs P ops Q N X w0 G (⟨some d, .call ⟨.value (.func f), xs.toArray, ats⟩, ty, pos, after, gd⟩ :: rest) l L := by
  refine Runs.step hw (fun a w hS => ?_)
  show Oper.upon P _ a _ Q _
  rw [run_call hS.fr hv hf, Oper.upon_enter]
  refine (hc w hS.mem.has).mono (fun e w' hR => ?_)
  cases e with
  | returned r =>
    obtain ⟨hs, F', hB, hF'⟩ := hR
    have h1 := hS.mem.call hs
    refine h r _ _ ⟨hS.fr.put (by simpa using hd) _, h1.since, h1.has, F', hB, fun b hb => ⟨.inl (Nat.le_trans hS.mem.since.size (hF' b hb)), hS.mem.has.fresh (hF' b hb)⟩, ?_⟩
    refine Sep.keep (hS.mem.sep.mono (fun b hb hu => ⟨hu, fun hf => ?_⟩)) (fun b hb _ => hs.block b hb id)
    have := hF' b hf
    omega
  | panicked c => exact hR.elim
  | outgrown => exact hR.elim
end

section
variable {P : Program} {ops : Array Oper} {brk : Nat → Bool} {G0 : Ghost} {L0 : List Asrt} {Q : Exit → Act → World → Prop} {N : Nat} {X : Nat → Prop} {w0 : World} {G : Ghost} {l : List (Nat × Value)} {L : List Asrt}
variable {d n : Nat} {listed : Array Bool} {ty : TypeId} {pos : String} {after : Array Edge} {gd : Option (Nat × Bool)} {v : Value} {T E : TypeId} {m sz : Nat} {q : IntKind} {f : Nat → Nat → Value} {x o : Operand}
/-- A part of a slice, from its beginning on, in a drawn region. -/
theorem d_slice0 (i b : Nat) (hi : ops[i]? = some ⟨some d, .slice T x none (some o) none, ty, pos, after, gd⟩) (hb : brk i = false) (hf : firstB ops brk listed i = true) (hbig : ∀ j, ops.size ≤ j → brk j = false) (hw : Wt ops l gd) (hd : Nat.blt d N = true)
    (hT : P.underlying T = some (.slice E)) (hE : SzIs P E sz) (hx : ev l x = some v) (hs : SlG G0 v m sz f) (hhi : ev l o = some (.int q (b : Nat))) (hbn : b ≤ m)
    (h : ∀ v', SlG G0 v' b sz f → DR P ops brk G0 L0 Q N X w0 G true n (listed.setIfInBounds i true) ((d, v') :: l) L) : DR P ops brk G0 L0 Q N X w0 G true (n + 1) listed l L := by
  obtain ⟨v', h1, h2⟩ := p_slice (P := P) (N := N) (X := aX) (w0 := w0) (l := l) (L := L0) (d := d) (ty := ty) (pos := pos) (after := after) (gd := gd) (q := .i64) (q' := q) (a := 0) (b := b) hT hE hx hs none (some o) rfl hhi (Nat.zero_le _) hbn
  exact d_val1 i hi hb hf hbig hw hd h2 (h v' h1.from0)
end

/-- One element in a block of its own. -/
theorem SlG.single {α : Type} {G : Ghost} {v : Value} {sz : Nat} {f : Nat → Nat → Value} {cells : α → List Value} {e : α} (a : α) (h : SlG G v 1 sz f) (hc : ∀ j, j < sz → f 0 j = at_ (cells a) j) : SlL G v sz cells e [a] := by
  refine SlG.congr h (fun i hi j hj => ?_)
  have hi' : i < 1 := hi
  obtain rfl : i = 0 := by omega
  exact hc j hj
end Go.Gx
namespace Go.Gx
open Go.RowKit
section
variable {P : Program} {ops : Array Oper} {brk : Nat → Bool} {G0 : Ghost} {L0 : List Asrt} {Q : Exit → Act → World → Prop} {N : Nat} {X : Nat → Prop} {w0 : World} {G : Ghost} {l : List (Nat × Value)} {L : List Asrt}
variable {d n : Nat} {listed : Array Bool} {ty : TypeId} {pos : String} {after : Array Edge} {gd : Option (Nat × Bool)} {v : Value} {T E : TypeId} {m sz : Nat} {q : IntKind} {f : Nat → Nat → Value} {x y : Operand}
/-- The address of an element of a slice, in a drawn region. -/
theorem d_iaddr_g (i : Nat) {k : Nat} (hi : ops[i]? = some ⟨some d, .indexAddr T x y, ty, pos, after, gd⟩) (hb : brk i = false) (hf : firstB ops brk listed i = true) (hbig : ∀ j, ops.size ≤ j → brk j = false) (hw : Wt ops l gd) (hd : Nat.blt d N = true)
    (hT : P.underlying T = some (.slice E)) (hE : SzIs P E sz) (hx : ev l x = some v) (hs : SlG G0 v m sz f) (hy : ev l y = some (.int q (k : Nat))) (hk : k < m)
    (h : ∀ b o, RowAt G0 b o sz (f k) → DR P ops brk G0 L0 Q N X w0 G true n (listed.setIfInBounds i true) ((d, .pointer (some ⟨b, o, none⟩)) :: l) L) : DR P ops brk G0 L0 Q N X w0 G true (n + 1) listed l L := by
  obtain ⟨b, o, h1, h2⟩ := iaddr_g (P := P) (N := N) (X := aX) (w0 := w0) (l := l) (L := L0) (d := d) (ty := ty) (pos := pos) (after := after) (gd := gd) hT hE hx hs hy hk
  exact d_val1 i hi hb hf hbig hw hd h2 (h b o h1)
/-- A field of a value: several cells. -/
theorem p_fieldv {S : TypeId} {fs : Array Field} {fld : Field} {e : TypeDesc} {j M o k : Nat} {c : Array Value} {g : Nat → Value} {u : Value} (hS' : P.underlying S = some (.struct fs)) (hf : fs[j]? = some fld) (hT : P.underlying fld.type = some e) (ha : e.aggB = true) (hm : SzIs P fld.type k)
    (hx : ev l x = some (.agg c)) (hc : IsRow c M g) (ho : fld.offset = o) (hM : o + k ≤ M) (hv : aggF k (fun i => g (o + i)) = u) : PV P N X w0 G l L ⟨some d, .field S x j, ty, pos, after, gd⟩ u := by
  intro a w hS
  subst ho
  simp only [execOp, hS.fr.eval hx]
  simp [Instr.field, asAgg, run_underlying hS', hf, hm.run, part, run_isAgg hT, ha, extract_row hc hM, ← hv, aggF]
end
end Go.Gx
