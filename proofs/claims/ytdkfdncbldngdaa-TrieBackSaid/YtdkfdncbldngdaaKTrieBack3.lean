/- Texts of this work, laid together: a logic of steps, plain laws, and walks of Go functions, each without a condition but those that its theorems name. -/
import Derived.Test.YtdkfdncbldngdaaKTrieBack2
import Derived.Shelf.SlSortCmp.WholeK
import Derived.Test.YtdkfdncbldngdaaRows
import Derived.Shelf.SlSortCmp.NoneTotal
import Derived.Shelf.Small.Bits
import Derived.Shelf.Small.Wraps
import Derived.Shelf.Strconv.Itoa0
import Derived.Shelf.Sort.Plain
import Derived.Shelf.Slices.Reverse
import Derived.Ground.Names2Prog
import Derived.Shelf.Slices.Clone
import Derived.Shelf.Slices.CompactI
import Derived.Shelf.Slices.SearchI
import Derived.Shelf.Slices.Cells
import Derived.Shelf.Slices.In.SortNone
import Derived.Ground.SlgnProg
import Derived.Shelf.SlicesE.Clone
import Derived.Shelf.SlGeneric
import Derived.Ground.GgzProg
import Derived.Shelf.SlIterI.Nil
import Derived.Test.YtdkfdncbldngdaaProg
/-
  GX: what closures want: a block that they have caught; a slice held against nil; a row without elements; an object that grows by what is found. Generic in the program.
-/
namespace Go.Gx
open Go.RowKit

section
variable {P : Program} {ops : Array Oper} {Q : Exit → Act → World → Prop} {N : Nat} {X : Nat → Prop} {w0 : World} {G : Ghost} {l : List (Nat × Value)} {L : List Asrt}
variable {rest : List Oper} {d : Nat} {ty : TypeId} {pos : String} {after : Array Edge} {gd : Option (Nat × Bool)} {x y : Operand} {v : Value}

/-- A block of the call's own stays as it is from now on. -/
theorem r_freezeX {k n b E : Nat} {f : Nat → Value} (hL : L[k]? = some (box b n E f))
    (h : ∀ G', GNew w0 X G G' → RowAt G' b 0 n f → Runs P ops Q N X w0 G' rest l (L.eraseIdx k)) : Runs P ops Q N X w0 G rest l L := by
  intro a w hS
  obtain ⟨G', h1, h2, h3⟩ := hS.mem.freezeB (m := 1) (sz := n) hL (by omega) (by omega)
  obtain ⟨_, _, e, _, h4⟩ := h2
  obtain ⟨b', o, e2, h5⟩ := h4 (by omega)
  simp only [Value.slice.injEq] at e
  obtain ⟨rfl, _⟩ := e
  simp only [Option.some.injEq, Addr.mk.injEq] at e2
  obtain ⟨rfl, rfl, _⟩ := e2
  have h6 := h5 0 (by omega)
  simp only [Nat.zero_mul, Nat.add_zero, Nat.zero_add] at h6
  exact h G' h1 h6 a w ⟨hS.fr, h3⟩

theorem eqnil_run {T E : TypeId} {a : Option Addr} {n c n' c' : Nat} (hT : P.underlying T = some (.slice E)) (d : Nat) (w : World) : (Op.equalIn (d + 1) T (.slice a n c) (.slice none n' c')).run P w = .ok a.isNone w := by
  cases a <;> simp [Op.equalIn, run_underlying hT]

/-- '==' between a slice and nil. -/
theorem p_eqnil {T U E : TypeId} {a : Option Addr} {n c n' c' : Nat} (hT : P.underlying T = some (.slice E)) (hx : ev l x = some (.slice a n c)) (hy : ev l y = some (.slice none n' c')) :
    PV P N X w0 G l L ⟨some d, .binOp .eql T x y U, ty, pos, after, gd⟩ (.bool a.isNone) := by
  intro ac w hS
  have e : (Op.equal T (.slice a n c) (.slice none n' c')).run P w = .ok a.isNone w := by
    exact eqnil_run hT 9999 w
  have e2 : (binOp .eql T (.slice a n c) (.slice none n' c')).run P w = .ok (.bool a.isNone) w := by
    have h1 : binOp .eql T (.slice a n c) (.slice none n' c') = (do pure (.bool (← Op.equal T (.slice a n c) (.slice none n' c')))) := rfl
    rw [h1]; simp [e]
  have e3 : (eqGuard .eql T x y (.slice a n c) (.slice none n' c')).run P w = .ok () w := by simp [eqGuard]
  simp only [execOp, hS.fr.eval hx, hS.fr.eval hy]
  simp [e3, e2]

/-- A row without elements. -/
theorem r_bslice0 {T E : TypeId} {sz bytes : Nat} {zv : Value} (hw : Wt ops l gd) (hd : Nat.blt d N = true) (hT : P.underlying T = some (.slice E)) (hE : ElemIs P E sz bytes zv)
    (h : ∀ v, Runs P ops Q N X w0 G rest ((d, v) :: l) (rowA v E sz 0 [] :: L)) :
    Runs P ops Q N X w0 G (⟨some d, .buildSlice T 0 #[], ty, pos, after, gd⟩ :: rest) l L := by
  refine Runs.step hw (fun a w hS => ?_)
  show Oper.upon P _ a _ Q _
  obtain ⟨i, hi, hz, hs, _⟩ := hE.info
  have hr : (execOp a.eval ⟨some d, .buildSlice T 0 #[], ty, pos, after, gd⟩).run P w = .ok (.value (.slice (some ⟨w.heap.size, 0, none⟩) 0 0)) (w.alloc (.cells #[] E)) := by
    have h3 : (sizeOf E).run P w = .ok sz w := by simp [sizeOf, typeInfo, hi, hs]
    simp only [execOp]
    simp [Instr.buildSlice, run_underlying hT, h3, Instr.fill, newRow]
    have h5 : ∀ g : Nat → Value, Array.map g (Array.range 0) = #[] := fun g => Array.ext (by simp) (fun i h1 _ => by simp at h1)
    rw [h5]
  rw [hr, Oper.upon_value]
  refine h _ _ _ ⟨hS.fr.put (by simpa using hd) _, hS.mem.alloc _ _ ⟨⟨by simp, .inr ⟨w.heap.size, 0, #[], rfl, Nat.zero_le _, heap_alloc_new w _, Nat.le_refl _, Nat.zero_le _, by simp, by simp⟩⟩, fun b => ⟨fun h => ?_, fun h => ?_⟩, Nat.zero_le _⟩⟩
  · have : b = w.heap.size := h
    subst this; rfl
  · simp [Value.ownBlock] at h; exact h.symm

/-- A call that changes one object, which is told by what comes of it, and hands back memory that stays. -/
theorem r_callox {τ : Type} {k : Nat} {f : FuncId} {xs : List Operand} {vs : List Value} {ats : Array TypeId} {A : Asrt} {B : τ → Asrt} {S : Ghost → Value → τ → Prop} (hw : Wt ops l gd) (hd : Nat.blt d N = true) (hf : Callable P f) (hv : evs l xs = some vs) (hL : L[k]? = some A)
    (hc : ∀ w F, Has G w → A.holds w F → (∀ b, F b → G b = none) → Calls P f vs.toArray w (Ret fun r w' => ∃ G' z, GNew w F G G' ∧ Has G' w' ∧ S G' r z ∧ KeptG (B z) F G' w w'))
    (h : ∀ G' r z, GNew w0 X G G' → S G' r z → Runs P ops Q N X w0 G' rest ((d, r) :: l) (L.set k (B z))) : Runs P ops Q N X w0 G (⟨some d, .call ⟨.value (.func f), xs.toArray, ats⟩, ty, pos, after, gd⟩ :: rest) l L := by
  refine Runs.step hw (fun a w hS => ?_)
  show Oper.upon P _ a _ Q _
  rw [run_call hS.fr hv hf, Oper.upon_enter]
  obtain ⟨F, hA, hsub, hput⟩ := hS.mem.sep.takeU hL
  refine (hc w F hS.mem.has hA (fun b hb => (hsub b hb).2)).mono (fun e w' hR => ?_)
  cases e with
  | returned r =>
    obtain ⟨G', z, hn, hh, hr, hs, F', hB, hF', hFG'⟩ := hR
    have hn' : GNew w0 X G G' := ⟨hn.le, fun b h1 h2 => by
      rcases hn.new b h1 h2 with h3 | h3
      · exact .inl (Nat.le_trans hS.mem.since.size h3)
      · exact (hsub b h3).1⟩
    refine h G' r z hn' hr _ _ ⟨hS.fr.put (by simpa using hd) _, ?_, hh, ?_⟩
    · refine ⟨hs.os.trans hS.mem.since.os, hs.tape.trans hS.mem.since.tape, hs.output.trans hS.mem.since.output, Nat.le_trans hS.mem.since.size hs.size, fun i hi hx => ?_⟩
      rw [hs.block i (Nat.lt_of_lt_of_le hi hS.mem.since.size) (fun hf => Or.elim (hsub i hf).1 (fun h1 => by omega) (fun h1 => hx h1))]
      exact hS.mem.since.block i hi hx
    · refine hput (fun b => (w0.heap.size ≤ b ∨ X b) ∧ G' b = none) w' (B z) F' (fun b hb hu hf => ⟨hu.1, ?_⟩) hB (fun b hb => ⟨⟨?_, hFG' b hb⟩, hF' b hb⟩) (fun b hb _ hf => hs.block b hb hf)
      · cases e : G' b with
        | none => rfl
        | some o => rcases hn.new b hu.2 (by rw [e]; simp) with h3 | h3
                    · omega
                    · exact (hf h3).elim
      · rcases hF' b hb with h1 | h1
        · exact (hsub b h1).1
        · exact .inl (Nat.le_trans hS.mem.since.size h1)
  | panicked c => exact hR.elim
  | outgrown => exact hR.elim
end

section
variable {P : Program} {ops : Array Oper} {Q : Exit → Act → World → Prop} {N : Nat} {X : Nat → Prop} {w0 : World} {G : Ghost} {l : List (Nat × Value)} {L : List Asrt}
variable {rest : List Oper} {d : Nat} {ty : TypeId} {pos : String} {after : Array Edge} {gd : Option (Nat × Bool)} {x y : Operand} {v u : Value}
/-- An assertion is told in other words. -/
theorem r_conv {k : Nat} {A B : Asrt} (hL : L[k]? = some A) (hI : ∀ w F, A.holds w F → B.holds w F) (h : Runs P ops Q N X w0 G rest l (L.set k B)) : Runs P ops Q N X w0 G rest l L := by
  intro a w hS
  obtain ⟨F, hA, _, hput⟩ := hS.mem.take hL
  exact h a w ⟨hS.fr, hput w B F (Since.refl _ _) (hI w F hA) (fun b hb => .inl hb)⟩

/-- append(out, xs...): xs is a row of the call's own, too. -/
theorem r_append_o {T E : TypeId} {sz n m bytes k k2 : Nat} {zv : Value} {xs ys : List Value} (hw : Wt ops l gd) (hd : Nat.blt d N = true) (hT : P.underlying T = some (.slice E)) (hE : ElemIs P E sz bytes zv) (hz : zv.cells.size = sz) (hsz : 0 < sz)
    (hx : ev l x = some v) (hL : L[k]? = some (rowA v E sz n xs)) (hy : ev l y = some u) (hL2 : L[k2]? = some (rowA u E sz m ys)) (h1 : ∀ z ∈ ys, z.oneCell' = true) (h63 : n + m ≤ maxLen) (hbytes : (n + m) * bytes ≤ 140737488355328)
    (h : ∀ v', Runs P ops Q N X w0 G rest ((d, v') :: l) (L.set k (rowA v' E sz (n + m) (xs ++ ys)))) : Runs P ops Q N X w0 G (⟨some d, .call ⟨.builtin .append, #[x, y], #[T, T]⟩, ty, pos, after, gd⟩ :: rest) l L := by
  obtain ⟨i0, hi0, _, hs0, _⟩ := hE.info
  refine Runs.step hw (fun ac w hS => ?_)
  show Oper.upon P _ ac _ Q _
  obtain ⟨F2, hB, _⟩ := hS.mem.take hL2
  have hB' := hB
  obtain ⟨⟨hlen, hown⟩, _, _⟩ := hB
  rcases hown with ⟨rfl, rfl⟩ | ⟨g, cap, cur, rfl, _, hg, hn, hm, hcs, htk⟩
  · have hys : ys = [] := List.eq_nil_of_length_eq_zero (by simpa using hlen)
    subst hys
    have hsz' : SzIs P E sz := by simp [SzIs, hi0, hs0]
    have h' := h v
    simp only [Nat.add_zero, List.append_nil, set_self hL] at h'
    have hr := p_append_nil (P := P) (N := N) (X := X) (w0 := w0) (G := G) (ty := ty) (pos := pos) (after := after) (gd := gd) (d := d) (c := 0) hT hsz' hx hL hy ac w hS
    rw [hr, Oper.upon_value]
    exact h' _ _ ⟨hS.fr.put (by simpa using hd) v, hS.mem⟩
  · obtain ⟨v', w', hr, hS'⟩ := append_end (ty := ty) (pos := pos) (after := after) (gd := gd) (d := d) (news := ys) hT hE hz hsz hS hL hx hy hlen
      (fun j z hj => by
        have hj2 : j < m * sz := by
          have h5 : j < ys.length := by
            rcases Nat.lt_or_ge j ys.length with h6 | h6
            · exact h6
            · rw [List.getElem?_eq_none h6] at hj; cases hj
          omega
        have h7 := rowA_cell hB' rfl hj2
        rw [addr_add, Nat.zero_add, h7]
        simp [List.getD, hj])
      h1 h63 hbytes hd
    rw [hr, Oper.upon_value]
    exact h v' _ _ hS'
end

/-- A row of a call's own goes out and stays as it is. -/
theorem row_mem {w w' : World} {G : Ghost} {r : Value} {E sz n : Nat} {xs : List Value} (hG : Has G w) (h : Since nX w w' ∧ ∃ F', (rowA r E sz n xs).holds w' F' ∧ ∀ b, F' b → w.heap.size ≤ b) :
    ∃ G', GNew w nX G G' ∧ Has G' w' ∧ SlG G' r n sz (fun i j => xs.getD (i * sz + j) undef) ∧ Since nX w w' := by
  obtain ⟨hs, F', hB, hF⟩ := h
  have h1 : Mem nX w G w [] := ⟨Since.refl _ _, hG, trivial⟩
  have h2 := h1.call hs
  have hm : Mem nX w G w' [rowA r E sz n xs] := ⟨h2.since, h2.has, F', hB, fun b hb => ⟨.inl (hF b hb), hG.fresh (hF b hb)⟩, trivial⟩
  obtain ⟨G', h3, h4, h5⟩ := hm.freeze (k := 0) rfl
  exact ⟨G', h3, h5.has, h4, hs⟩

theorem Mem.pack {X : Nat → Prop} {w0 w : World} {G : Ghost} {Ls L : List Asrt} (h : Mem X w0 G w (Ls ++ L)) : Mem X w0 G w (starL Ls :: L) := by
  obtain ⟨F, h1, h2, h3⟩ := Sep.packL Ls h.sep
  exact ⟨h.since, h.has, F, h1, h2, h3⟩

/-! ### slices of slices -/
section
variable {α : Type}
/-- The cells of an element that is a slice. -/
def lC (p : α × Value) : List Value := [p.2]
/-- The value v is a slice of slices, of which each is what T says. -/
def Ls (T : Ghost → Value → α → Prop) (e : α) (G : Ghost) (v : Value) (l : List α) : Prop := ∃ rs : List (α × Value), SlL G v 1 lC (e, .slice none 0 0) rs ∧ (∀ p ∈ rs, T G p.2 p.1) ∧ l = rs.map Prod.fst
theorem Ls.mk {T : Ghost → Value → α → Prop} {e : α} {G : Ghost} {v : Value} (rs : List (α × Value)) (h : SlL G v 1 lC (e, .slice none 0 0) rs) (hp : ∀ p ∈ rs, T G p.2 p.1) : Ls T e G v (rs.map Prod.fst) := ⟨rs, h, hp, rfl⟩

/-- A variable that holds a row of slices. -/
def outA (T E : TypeId) (p : Nat) (rs : List (α × Value)) : Asrt := exA fun v : Value => starL [box p 1 T (at_ [v]), rowA v E 1 rs.length (rs.flatMap lC)]

section
variable {P : Program} {ops : Array Oper} {Q : Exit → Act → World → Prop} {N : Nat} {X : Nat → Prop} {w0 : World} {G : Ghost} {l : List (Nat × Value)} {L : List Asrt}
variable {rest : List Oper} {T E p : Nat} {rs : List (α × Value)}
theorem r_packout {v : Value} {f : Nat → Value} {n : Nat} {xs : List Value} (hf : f 0 = v) (hn : n = rs.length) (hx : xs = rs.flatMap lC) (h : Runs P ops Q N X w0 G rest l (outA T E p rs :: L)) : Runs P ops Q N X w0 G rest l (rowA v E 1 n xs :: box p 1 T f :: L) := by
  intro a w hS
  subst hn; subst hx
  have h1 : Mem X w0 G w (box p 1 T f :: rowA v E 1 rs.length (rs.flatMap lC) :: L) := by
    obtain ⟨hs, hh, F1, h1, hU1, F2, h2, hU2, hL⟩ := hS.mem
    exact ⟨hs, hh, F2, h2, fun b hb => (hU2 b hb).1, F1, h1, fun b hb => ⟨hU1 b hb, fun h3 => (hU2 b h3).2 hb⟩, hL.mono (fun b _ hb => ⟨⟨hb.1.1, hb.2⟩, hb.1.2⟩)⟩
  have h2 : Mem X w0 G w (box p 1 T (at_ [v]) :: rowA v E 1 rs.length (rs.flatMap lC) :: L) := by
    obtain ⟨hs, hh, F1, h1, hr⟩ := h1
    exact ⟨hs, hh, F1, box_congr (fun i hi => by match i, hi with | 0, _ => exact hf) _ _ h1, hr⟩
  obtain ⟨hs, hh, F, h3, hr⟩ := Mem.pack (Ls := [box p 1 T (at_ [v]), rowA v E 1 rs.length (rs.flatMap lC)]) (L := L) h2
  exact h a w ⟨hS.fr, hs, hh, F, ⟨v, h3⟩, hr⟩
theorem r_unpackout (h : ∀ v : Value, Runs P ops Q N X w0 G rest l (box p 1 T (at_ [v]) :: rowA v E 1 rs.length (rs.flatMap lC) :: L)) : Runs P ops Q N X w0 G rest l (outA T E p rs :: L) := by
  intro a w hS
  obtain ⟨hs, hh, F, ⟨v, h3⟩, hr⟩ := hS.mem
  exact h v a w ⟨hS.fr, Mem.unpack (Ls := [box p 1 T (at_ [v]), rowA v E 1 rs.length (rs.flatMap lC)]) ⟨hs, hh, F, h3, hr⟩⟩
end
end
end Go.Gx

/- Plain laws of chains of conditions; no program in sight. -/
namespace Go.Gx
theorem RowAt.congr {G : Ghost} {b o n : Nat} {f g : Nat → Value} (h : RowAt G b o n f) (e : ∀ i, i < n → f i = g i) : RowAt G b o n g := by
  obtain ⟨c, T, fr, h1, h2⟩ := h
  exact ⟨c, T, fr, h1, fun j hj => by rw [h2 j hj, e j hj]⟩
end Go.Gx
namespace Go.Gx.T6
open Go.Gx Go.Gx.T3 Go.Gx.T4 Go.Gx.T8

theorem nil_rs {α : Type} {G : Ghost} {n c : Nat} {sz : Nat} {cells : α → List Value} {e : α} {rs : List α} (h : SlL G (.slice none n c) sz cells e rs) : rs = [] := by
  obtain ⟨a, cap, e1, _, h2⟩ := h
  simp only [Value.slice.injEq] at e1
  obtain ⟨rfl, _⟩ := e1
  rcases rs with _ | ⟨x, t⟩
  · rfl
  · obtain ⟨_, _, e3, _⟩ := h2 (by simp)
    cases e3

mutual
/-- The chains of what stands in a condition, and its own. -/
def chain1 : List CT → CT → List (List CT)
  | ah, .mk h l => (if h.k = 3 then chains ah l else []) ++ [ah ++ [.mk h l]]
/-- The chains of conditions behind a beginning. -/
def chains : List CT → List CT → List (List CT)
  | _, [] => []
  | ah, c :: t => chain1 ah c ++ chains (ah ++ [c]) t
end
mutual
theorem chain1_len : ∀ (c : CT) (ah : List CT), (chain1 ah c).length ≤ size c
  | .mk h l, ah => by
    have := chains_len l ah
    rw [chain1, size]
    split <;> simp <;> omega
theorem chains_len : ∀ (l : List CT) (ah : List CT), (chains ah l).length ≤ sizeL l
  | [], _ => by simp [chains, sizeL]
  | c :: t, ah => by
    have h1 := chain1_len c ah
    have h2 := chains_len t (ah ++ [c])
    rw [chains, sizeL, List.length_append]; omega
end
/-- What is known of the chains that were found: each is a slice of conditions. -/
abbrev ChC (G : Ghost) (z : List (List CT × Value)) : Prop := ∀ q ∈ z, Cs G q.2 q.1
theorem ChC.mono {G G' : Ghost} {z : List (List CT × Value)} (h : ChC G z) (hle : GLe G G') : ChC G' z := fun q hq => (h q hq).mono hle
theorem ChC.snoc {G : Ghost} {z : List (List CT × Value)} {v : Value} {l : List CT} (h : ChC G z) (hl : Cs G v l) : ChC G (z ++ [(l, v)]) := fun q hq => by
  rcases List.mem_append.1 hq with h1 | h1
  · exact h q h1
  · rw [List.mem_singleton.1 h1]; exact hl

/-! ### alike -/
def hEq (a b : Hd) : Bool := decide (a.k = b.k) && csEq [.bool a.v0, .int .i64 a.n0, .bool a.v1, .int .i64 a.n1, .bool a.v2, .int .i64 a.n2] [.bool b.v0, .int .i64 b.n0, .bool b.v1, .int .i64 b.n1, .bool b.v2, .int .i64 b.n2]
def hRb (a b : Hd) : Bool := csEq [.int .i64 (vi a.v0), .int .i64 a.n0, .int .i64 (vi a.v1), .int .i64 a.n1, .int .i64 (vi a.v2), .int .i64 a.n2] [.int .i64 (vi b.v0), .int .i64 b.n0, .int .i64 (vi b.v1), .int .i64 b.n1, .int .i64 (vi b.v2), .int .i64 b.n2]
theorem hEq_iff (a b : Hd) : hEq a b = true ↔ a = b := by
  obtain ⟨a0, a1, a2, a3, a4, a5, a6⟩ := a
  obtain ⟨b0, b1, b2, b3, b4, b5, b6⟩ := b
  simp [hEq, csEq, cEq]
mutual
def ceq : CT → CT → Bool
  | .mk h l, .mk h' l' => hEq h h' && ceqL l l'
def ceqL : List CT → List CT → Bool
  | [], [] => true
  | c :: t, c' :: t' => ceq c c' && ceqL t t'
  | _, _ => false
end
mutual
theorem ceq_iff : ∀ (a b : CT), ceq a b = true ↔ a = b
  | .mk h l, .mk h' l' => by
    rw [ceq, Bool.and_eq_true, hEq_iff, ceqL_iff l l']
    simp
theorem ceqL_iff : ∀ (l l' : List CT), ceqL l l' = true ↔ l = l'
  | [], [] => by simp [ceqL]
  | [], _ :: _ => by simp [ceqL]
  | _ :: _, [] => by simp [ceqL]
  | c :: t, c' :: t' => by
    rw [ceqL, Bool.and_eq_true, ceq_iff c c', ceqL_iff t t']
    simp
end
/-- The chains that conditions end themselves. -/
def ownC (l : List CT) : List Int := (List.range l.length).map fun i => (sizeL (l.take (i + 1)) : Int) - 1
def ownCTo (l : List CT) (k : Nat) : List Int := (List.range k).map fun i => (sizeL (l.take (i + 1)) : Int) - 1
abbrev RhC (G : Ghost) (z : List (List CT × Value)) : Prop := ∀ q ∈ z, Rs G q.2 q.1
theorem RhC.mono {G G' : Ghost} {z : List (List CT × Value)} (h : RhC G z) (hle : GLe G G') : RhC G' z := fun q hq => (h q hq).mono hle
theorem RhC.snoc {G : Ghost} {z : List (List CT × Value)} {v : Value} {l : List CT} (h : RhC G z) (hl : Rs G v l) : RhC G (z ++ [(l, v)]) := fun q hq => by
  rcases List.mem_append.1 hq with h1 | h1
  · exact h q h1
  · rw [List.mem_singleton.1 h1]; exact hl
theorem RhC.app {G : Ghost} {z z' : List (List CT × Value)} (h : RhC G z) (h' : RhC G z') : RhC G (z ++ z') := fun q hq => by
  rcases List.mem_append.1 hq with h1 | h1
  · exact h q h1
  · exact h' q h1
end Go.Gx.T6

/-
  GX: a row of the call's own is sorted by the library with a function of the program's. Generic in the program.
-/
namespace Go.Gx
open Go.RowKit Go.Sort Go.Proofs

section
variable {α : Type} [Inhabited α]

end

/-- What a call of the library's slices.SortFunc comes to. -/
def SortFC (P : Program) {α : Type} [Inhabited α] (f g : FuncId) (enc : α → List Value) (kk : Nat) (lt : α → α → Bool) : Prop := ∀ (blk cap : Nat) (zs : List α) (w : World), HoldsK enc kk w blk 0 zs.toArray → blk < w.heap.size → zs.length < 4611686018427387904 →
  Calls P f #[.slice (some ⟨blk, 0, none⟩) zs.length cap, .func (.func g) #[] #[]] w fun e w' => e = .returned (.tuple #[]) ∧ ∃ (d' : Array α) (n : Nat) (os : Array Obj), PermIn 0 zs.toArray.size zs.toArray d' ∧ SortedIn lt 0 zs.toArray.size d' ∧ w' = sortWorldK enc kk w blk 0 n d' os
def SortFN (P : Program) (f g : FuncId) : Prop := ∀ (p : Option Addr) (cap : Nat) (w : World), Calls P f #[.slice p 0 cap, .func (.func g) #[] #[]] w fun e w' => e = .returned (.tuple #[]) ∧ w' = w

section
variable {P : Program} {ops : Array Oper} {Q : Exit → Act → World → Prop} {N : Nat} {X : Nat → Prop} {w0 : World} {G : Ghost} {l : List (Nat × Value)} {L : List Asrt}
variable {rest : List Oper} {d k : Nat} {ty : TypeId} {pos : String} {after : Array Edge} {gd : Option (Nat × Bool)} {v : Value} {E : TypeId} {f g : FuncId} {xs : List Operand} {ats : Array TypeId}
variable {α : Type} [Inhabited α] {enc : α → List Value} {kk : Nat} {lt : α → α → Bool} {zs : List α}

end
end Go.Gx

/- Plain laws of places where variables are bound; no program in sight. -/
namespace Go.Gx.T6
open Go.Gx Go.Gx.T3 Go.Gx.T4 Go.Gx.T8

/-- The place of the first one, or -1. -/
def idxF {α : Type} (pf : α → Bool) : List α → Int → Int
  | [], _ => -1
  | x :: t, k => if pf x = true then k else idxF pf t (k + 1)
/-! ### places -/
abbrev PL := Int × Int × Int
def isV (v : Int) (p : PL) : Bool := decide (p.1 = v)
/-- How many Pos there are. -/
def posN : List CT → Nat
  | [] => 0
  | c :: t => (if c.h.k = 1 then 1 else 0) + posN t
def pl1 (h : Hd) (b : Int) (out : List PL) (f : Nat) : List PL := if vF h f = true ∧ ¬ 0 ≤ idxF (isV (nF h f)) out 0 then out ++ [(nF h f, b, (f : Int))] else out
def plTo (h : Hd) (b : Int) (out : List PL) : Nat → List PL
  | 0 => out
  | f + 1 => pl1 h b (plTo h b out f) f
def places : List CT → Int → List PL → List PL
  | [], _, out => out
  | c :: t, b, out => if c.h.k = 1 then places t (b + 1) (plTo c.h b out 3) else places t b out
/-- Whose variables differ. -/
def Once (l : List PL) : Prop := l.Pairwise fun a b => a.1 ≠ b.1
def ltP (a b : PL) : Bool := decide (a.1 < b.1)
end Go.Gx.T6
namespace Go.Gx.T6
open Go.Gx Go.Gx.T3 Go.Gx.T4 Go.Gx.T8
abbrev A6 (n : Int) : CT := .mk ⟨1, false, n, false, 1, true, n⟩ []
abbrev B6 : CT := .mk ⟨3, false, 0, false, 0, false, 0⟩ [A6 2, A6 3]
abbrev L6 : List CT := [A6 1, B6, A6 4]
end Go.Gx.T6

/- Plain laws of chains: their sizes, where they stand; no program in sight. -/
namespace Go.Gx.T6
open Go.Gx Go.Gx.T3 Go.Gx.T4 Go.Gx.T8

theorem sizeL_append (a b : List CT) : sizeL (a ++ b) = sizeL a + sizeL b := by
  induction a with
  | nil => simp [sizeL]
  | cons c t ih => simp only [List.cons_append, sizeL, ih]; omega
mutual
theorem chain1_size : ∀ (c : CT) (ah : List CT), ∀ x ∈ chain1 ah c, sizeL x ≤ sizeL ah + size c
  | .mk h l, ah, x, hx => by
    rw [chain1] at hx
    rcases List.mem_append.1 hx with hx | hx
    · split at hx
      · have := chains_size l ah x hx
        rw [size]; omega
      · cases hx
    · rw [List.mem_singleton.1 hx, sizeL_append]
      simp [sizeL]
theorem chains_size : ∀ (l : List CT) (ah : List CT), ∀ x ∈ chains ah l, sizeL x ≤ sizeL ah + sizeL l
  | [], _, x, hx => by rw [chains] at hx; cases hx
  | c :: t, ah, x, hx => by
    rw [chains] at hx
    rcases List.mem_append.1 hx with hx | hx
    · have := chain1_size c ah x hx
      rw [sizeL]; omega
    · have := chains_size t (ah ++ [c]) x hx
      rw [sizeL_append] at this
      simp only [sizeL] at this ⊢
      omega
end
mutual
/-- Only Ncc have conditions in them. -/
def flatOk : CT → Bool
  | .mk h l => (decide (h.k = 3) || l.isEmpty) && flatOkL l
def flatOkL : List CT → Bool
  | [] => true
  | c :: t => flatOk c && flatOkL t
end
mutual
theorem flat_of_check : ∀ (c : CT) (d : Int), check c d = 0 → flatOk c = true
  | .mk h l, d, hc => by
    rw [check] at hc
    rw [flatOk]
    split at hc
    · omega
    · split at hc
      · rename_i h3
        split at hc
        · omega
        · split at hc
          · omega
          · rw [flat_of_checkL l _ hc, decide_eq_true h3]; rfl
      · split at hc
        · omega
        · split at hc
          · omega
          · rename_i _ _ h4
            have : l = [] := by
              rcases l with _ | ⟨a, b⟩
              · rfl
              · exact absurd (.inr (by simp)) h4
            subst this
            simp [flatOkL]
theorem flat_of_checkL : ∀ (l : List CT) (d : Int), checkL l d = 0 → flatOkL l = true
  | [], _, _ => by rw [flatOkL]
  | c :: t, d, hc => by
    rw [checkL] at hc
    split at hc
    · rename_i h
      rw [flatOkL, flat_of_check c d h, flat_of_checkL t d hc]; rfl
    · rename_i h; exact absurd hc h
end
mutual
theorem chain1_eq : ∀ (c : CT) (ah : List CT), flatOk c = true → (chain1 ah c).length = size c
  | .mk h l, ah, hc => by
    rw [flatOk, Bool.and_eq_true] at hc
    rw [chain1, size]
    split
    · rw [List.length_append, chains_eq l ah hc.2]; simp; omega
    · rename_i h3
      have : l = [] := by
        have h4 := hc.1
        rw [decide_eq_false h3, Bool.false_or] at h4
        simpa using h4
      subst this
      simp [sizeL]
theorem chains_eq : ∀ (l : List CT) (ah : List CT), flatOkL l = true → (chains ah l).length = sizeL l
  | [], _, _ => by simp [chains, sizeL]
  | c :: t, ah, h => by
    rw [flatOkL, Bool.and_eq_true] at h
    rw [chains, List.length_append, chain1_eq c ah h.1, chains_eq t _ h.2, sizeL]
end
/-! ### each but its last condition stands ahead -/
def Ahead (ah : List CT) (cs : List (List CT)) : Prop := ∀ i (hi : i < cs.length), cs[i] ≠ [] ∧ (cs[i].dropLast = ah ∨ ∃ j, ∃ (hj : j < i), cs[j]'(by omega) = cs[i].dropLast)
theorem Ahead.snoc {ah : List CT} {cs : List (List CT)} {c : CT} (h : Ahead ah cs) : Ahead ah (cs ++ [ah ++ [c]]) := by
  intro i hi
  by_cases hlt : i < cs.length
  · have h1 := h i hlt
    rw [List.getElem_append_left hlt]
    refine ⟨h1.1, h1.2.imp id ?_⟩
    rintro ⟨j, hj, e⟩
    exact ⟨j, hj, by rw [List.getElem_append_left (by omega)]; exact e⟩
  · have e : i = cs.length := by simp at hi; omega
    subst e
    simp
theorem Ahead.app {ah : List CT} {cs ds : List (List CT)} {c : CT} (h : Ahead ah (cs ++ [ah ++ [c]])) (h2 : Ahead (ah ++ [c]) ds) : Ahead ah ((cs ++ [ah ++ [c]]) ++ ds) := by
  intro i hi
  by_cases hlt : i < (cs ++ [ah ++ [c]]).length
  · have h1 := h i hlt
    rw [List.getElem_append_left hlt]
    refine ⟨h1.1, h1.2.imp id ?_⟩
    rintro ⟨j, hj, e⟩
    exact ⟨j, hj, by rw [List.getElem_append_left (by omega)]; exact e⟩
  · have hge : (cs ++ [ah ++ [c]]).length ≤ i := by omega
    have h1 := h2 (i - (cs ++ [ah ++ [c]]).length) (by simp at hi hge ⊢; omega)
    rw [List.getElem_append_right hge]
    refine ⟨h1.1, .inr ?_⟩
    rcases h1.2 with e | ⟨j, hj, e⟩
    · refine ⟨cs.length, by simp at hge; omega, ?_⟩
      rw [e]
      rw [List.getElem_append_left (by simp)]
      simp
    · refine ⟨j + (cs ++ [ah ++ [c]]).length, by omega, ?_⟩
      rw [← e, List.getElem_append_right (by omega)]
      congr 1
      omega
mutual
theorem chain1_ahead : ∀ (c : CT) (ah : List CT), ∃ cs, chain1 ah c = cs ++ [ah ++ [c]] ∧ Ahead ah (cs ++ [ah ++ [c]])
  | .mk h l, ah => by
    refine ⟨if h.k = 3 then chains ah l else [], by rw [chain1], Ahead.snoc ?_⟩
    split
    · exact chains_ahead l ah
    · intro i hi; simp at hi
theorem chains_ahead : ∀ (l : List CT) (ah : List CT), Ahead ah (chains ah l)
  | [], _ => by rw [chains]; intro i hi; simp at hi
  | c :: t, ah => by
    obtain ⟨cs, e, h⟩ := chain1_ahead c ah
    rw [chains, e]
    exact Ahead.app h (chains_ahead t (ah ++ [c]))
end
/-- Is a chain the beginning of another? -/
def hadPre (qs : List (List CT)) (x : List CT) (i : Nat) : Bool := decide (x.length = 1) || (qs.take i).any fun y => ceqL y x.dropLast
def foundTo (qs : List (List CT)) (x : List CT) (j : Nat) : Bool := decide (x.length = 1) || (qs.take j).any fun y => ceqL y x.dropLast
end Go.Gx.T6
namespace Go.Gx.T6
open Go.Gx Go.Gx.T3 Go.Gx.T4 Go.Gx.T8
abbrev e6 : List CT × Value := ([], .slice none 0 0)
end Go.Gx.T6
namespace Go.Gx.T6
open Go.Gx Go.Gx.T3 Go.Gx.T4 Go.Gx.T8
end Go.Gx.T6

/-
  GX: results that lie in memory of the call's own alone; parts of arrays. Generic in the program.
-/
namespace Go.Gx
open Go.RowKit

/-- What is known of the memory that was laid since a world. -/
def fr (w0 : World) (G : Ghost) : Ghost := fun b => if w0.heap.size ≤ b then G b else none
theorem RowAt.fr {w0 : World} {G : Ghost} {b o n : Nat} {g : Nat → Value} (h : RowAt G b o n g) (hb : w0.heap.size ≤ b) : RowAt (fr w0 G) b o n g := by
  obtain ⟨c, T, f, h1, h2⟩ := h
  exact ⟨c, T, f, by unfold Gx.fr; rw [if_pos hb]; exact h1, h2⟩
theorem SlG.fr {w0 : World} {G : Ghost} {v : Value} {n sz : Nat} {f : Nat → Nat → Value} (h : SlG G v n sz f) (hv : ∀ b, v.ownBlock = some b → w0.heap.size ≤ b) : SlG (fr w0 G) v n sz f := by
  obtain ⟨a, cap, rfl, hc, hr⟩ := h
  refine ⟨a, cap, rfl, hc, fun hn => ?_⟩
  obtain ⟨b, o, rfl, h2⟩ := hr hn
  exact ⟨b, o, rfl, fun i hi => (h2 i hi).fr (hv b rfl)⟩
theorem RowAt.sub {G : Ghost} {b o n j m : Nat} {g : Nat → Value} (h : RowAt G b o n g) (hj : j + m ≤ n) : RowAt G b (o + j) m (fun i => g (j + i)) := by
  obtain ⟨c, T, f, h1, h2⟩ := h
  exact ⟨c, T, f, h1, fun i hi => by rw [Nat.add_assoc]; exact h2 (j + i) (by omega)⟩

section
variable {P : Program} {ops : Array Oper} {Q : Exit → Act → World → Prop} {N : Nat} {w0 : World} {G : Ghost} {l : List (Nat × Value)} {L : List Asrt}
variable {rest : List Oper} {d : Nat} {ty : TypeId} {pos : String} {after : Array Edge} {gd : Option (Nat × Bool)} {v : Value}

end

section
variable {P : Program} {N : Nat} {X : Nat → Prop} {w0 : World} {G : Ghost} {l : List (Nat × Value)} {L : List Asrt} {d : Nat} {ty : TypeId} {pos : String} {after : Array Edge} {gd : Option (Nat × Bool)} {x y : Operand}
end
end Go.Gx

/- Plain laws of compiled steps: where variables were bound, found in a sorted list of places; steps that are alike; no program in sight. -/
namespace Go.Gx.T8
open Go.Gx Go.Gx.T3 Go.Gx.T4 Go.Gx.T6

/-! ### the first alike term -/
abbrev TT := Bool × Int
def tmC (t : TT) : List Value := [.bool t.1, .int .i64 t.2]
abbrev tt0 : TT := (false, 0)
def terms (h : Hd) : List TT := [(h.v0, h.n0), (h.v1, h.n1), (h.v2, h.n2)]
def sameT (t z : TT) : Bool := csEq (tmC t) (tmC z)
/-- Where the first term ahead of term f stands that is alike; -1: none. -/
def ownG (h : Hd) (f : Nat) : Int := idxF (sameT (vF h f, nF h f)) ((terms h).take f) 0
/-! ### bound, by a list of places -/
def lkP (v : Int) (ps : List PL) : Option (Int × Int) := (ps.find? (isV v)).map Prod.snd
theorem Ss.le {G G' : Ghost} {v : Value} {l : List ST} (h : Ss G v l) (hle : GLe G G') : Ss G' v l := h.mono hle
end Go.Gx.T8
namespace Go.Gx.T8
open Go.Gx Go.Gx.T3 Go.Gx.T4 Go.Gx.T6
end Go.Gx.T8
namespace Go.Gx.T8
open Go.Gx Go.Gx.T3 Go.Gx.T4 Go.Gx.T6
end Go.Gx.T8

/- Plain laws of steps: alike, right, few; no program in sight. -/
namespace Go.Gx.T8
open Go.Gx Go.Gx.T3 Go.Gx.T4 Go.Gx.T6

theorem tC_eq (a b : TD) : csEq (tC a) (tC b) = decide (a = b) := by
  obtain ⟨a0, a1, a2⟩ := a
  obtain ⟨b0, b1, b2⟩ := b
  by_cases h0 : a0 = b0 <;> by_cases h1 : a1 = b1 <;> by_cases h2 : a2 = b2 <;> simp [tC, csEq, cEq, h0, h1, h2]
theorem take_eq_succ {α : Type} {a b : List α} {k : Nat} {d : α} (ha : k < a.length) (hb : k < b.length) (h : a.take k = b.take k) (he : a.getD k d = b.getD k d) : a.take (k + 1) = b.take (k + 1) := by
  rw [List.take_succ_eq_append_getElem ha, List.take_succ_eq_append_getElem hb, h]
  simp [List.getD, List.getElem?_eq_getElem ha, List.getElem?_eq_getElem hb] at he
  rw [he]
theorem ne_of_get {α : Type} {a b : List α} {k : Nat} {d : α} (he : a.getD k d ≠ b.getD k d) : a ≠ b := fun h => he (by rw [h])
theorem ne_of_len {α : Type} {a b : List α} (h : a.length ≠ b.length) : a ≠ b := fun e => h (by rw [e])
def kEq (a b : SH) : Bool := csEq [.int .i64 a.k0, .int .i64 a.k1, .int .i64 a.k2] [.int .i64 b.k0, .int .i64 b.k1, .int .i64 b.k2]
theorem kEq_iff (a b : SH) : kEq a b = true ↔ a.k0 = b.k0 ∧ a.k1 = b.k1 ∧ a.k2 = b.k2 := by simp [kEq, csEq, cEq, and_assoc]
mutual
def seq : ST → ST → Bool
  | .mk h l, .mk h' l' => (decide (h.k = h'.k) && kEq h h') && (decide (h.ts = h'.ts) && seqL l l')
def seqL : List ST → List ST → Bool
  | [], [] => true
  | c :: t, c' :: t' => seq c c' && seqL t t'
  | _, _ => false
end
theorem seq_eq (a b : ST) : seq a b = ((decide (a.h.k = b.h.k) && kEq a.h b.h) && (decide (a.h.ts = b.h.ts) && seqL a.subs b.subs)) := by cases a; cases b; rw [seq]; rfl
theorem seqL_len : ∀ {l l' : List ST}, l.length ≠ l'.length → seqL l l' = false
  | [], [], h => absurd rfl h
  | [], _ :: _, _ => by simp [seqL]
  | _ :: _, [], _ => by simp [seqL]
  | c :: t, c' :: t', h => by rw [seqL, seqL_len (by simpa using h), Bool.and_false]
theorem sv_drop {rs : List SVal} {k : Nat} (hk : k < rs.length) : (rs.map Prod.fst).drop k = (rs.getD k s0).1 :: (rs.map Prod.fst).drop (k + 1) := by
  rw [List.drop_eq_getElem_cons (by simpa using hk)]
  simp [List.getD, List.getElem?_eq_getElem hk]
theorem seqL_no {rs rs2 : List SVal} {k : Nat} (h1 : k < rs.length) (h2 : k < rs2.length) (h : seq (rs.getD k s0).1 (rs2.getD k s0).1 = false) : seqL ((rs.map Prod.fst).drop k) ((rs2.map Prod.fst).drop k) = false := by
  rw [sv_drop h1, sv_drop h2, seqL, h, Bool.false_and]
theorem seqL_yes {rs rs2 : List SVal} {k : Nat} (h1 : k < rs.length) (h2 : k < rs2.length) (h : seq (rs.getD k s0).1 (rs2.getD k s0).1 = true) : seqL ((rs.map Prod.fst).drop (k + 1)) ((rs2.map Prod.fst).drop (k + 1)) = seqL ((rs.map Prod.fst).drop k) ((rs2.map Prod.fst).drop k) := by
  rw [sv_drop h1, sv_drop h2, seqL, h, Bool.true_and]
mutual
theorem seq_iff : ∀ (a b : ST), seq a b = true ↔ a = b
  | .mk h l, .mk h' l' => by
    rw [seq, Bool.and_eq_true, Bool.and_eq_true, Bool.and_eq_true, decide_eq_true_iff, decide_eq_true_iff, kEq_iff, seqL_iff l l']
    obtain ⟨a, b, c, d, e⟩ := h
    obtain ⟨a', b', c', d', e'⟩ := h'
    simp only [ST.mk.injEq, SH.mk.injEq]
    constructor
    · rintro ⟨⟨h1, h2, h3, h4⟩, h5, h6⟩; exact ⟨⟨h1, h2, h3, h4, h5⟩, h6⟩
    · rintro ⟨⟨h1, h2, h3, h4, h5⟩, h6⟩; exact ⟨⟨h1, h2, h3, h4⟩, h5, h6⟩
theorem seqL_iff : ∀ (l l' : List ST), seqL l l' = true ↔ l = l'
  | [], [] => by simp [seqL]
  | [], _ :: _ => by simp [seqL]
  | _ :: _, [] => by simp [seqL]
  | c :: t, c' :: t' => by
    rw [seqL, Bool.and_eq_true, seq_iff c c', seqL_iff t t']
    simp
end
theorem ssz_at {a : ST} {rs : List SVal} {i n : Nat} (h : a.subs = rs.map Prod.fst) (hi : i < rs.length) (hn : SizeOf.sizeOf a ≤ n + 1) : SizeOf.sizeOf (rs.getD i s0).1 ≤ n := by
  have h1 : (rs.getD i s0).1 ∈ a.subs := by rw [h]; exact sv_mem hi
  have h2 := List.sizeOf_lt_of_mem h1
  have h3 : SizeOf.sizeOf a.subs < SizeOf.sizeOf a := by
    cases a with
    | mk h l => simp [ST.subs]; omega
  omega
theorem s_pos (a : ST) : 0 < SizeOf.sizeOf a := by cases a; simp; omega
end Go.Gx.T8
namespace Go.Gx.T8
open Go.Gx Go.Gx.T3 Go.Gx.T4 Go.Gx.T6
abbrev L8 : List CT := [.mk ⟨1, true, 1, false, 4, true, 2⟩ [], .mk ⟨1, true, 2, false, 4, true, 1⟩ []]
abbrev S80 : ST := .mk ⟨1, 0, 4, 0, []⟩ []
abbrev S81 : ST := .mk ⟨1, 0, 4, 0, [(0, 0, 2), (2, 0, 0)]⟩ []
end Go.Gx.T8
namespace Go.Gx.T8
theorem s_subs (a : ST) : SizeOf.sizeOf a.subs < SizeOf.sizeOf a := by
  cases a with
  | mk h l => simp [ST.subs]; omega
end Go.Gx.T8
namespace Go.Gx.T8
open Go.Gx Go.Gx.T3 Go.Gx.T4 Go.Gx.T6
end Go.Gx.T8

/- Walks: what Go functions of this chapter come to, each as a function on plain data; no condition but those that each theorem names. Printed by a program of this work (gen.py). -/
namespace Go.Proofs.Ytdkfdncbldngdaa
open Go.Gx Go.Gx.T4 Go.Gx.T3 Go.Gx.T6 Go.Gx.T8 Go.Gx.T4 Go.Gx.T3 Go.Gx.T8 Go.Gx.T4 Go.Gx.T3 Go.Gx.T8 Go.Gx.T6 Go.Gx.T4 Go.Gx.T3
theorem sz35 : SzIs Try.prog 35 1 := by
 unfold SzIs
 kernel_rfl
theorem sz47 : SzIs Try.prog 47 3 := by
 unfold SzIs
 kernel_rfl
theorem sz52 : SzIs Try.prog 52 3 := by
 unfold SzIs
 kernel_rfl
theorem lf47 : leafT Try.prog 9 47 = some [3, 3, 3] := by
 kernel_rfl
theorem ef47 : eqT Try.prog 9 47 = true := by
 kernel_rfl
theorem lf52 : leafT Try.prog 9 52 = some [3, 3, 3] := by
 kernel_rfl
theorem ef52 : eqT Try.prog 9 52 = true := by
 kernel_rfl
theorem eg47 : Try.prog.eqGuardType Try.prog.depth 47 = false := by
 kernel_rfl
theorem eg52 : Try.prog.eqGuardType Try.prog.depth 52 = false := by
 kernel_rfl
theorem cl62 : Callable Try.prog 62 := callable Try.func62 (by kernel_rfl) rfl
theorem cl73 : Callable Try.prog 73 := callable Try.func73 (by kernel_rfl) rfl
theorem cl74 : Callable Try.prog 74 := callable Try.func74 (by kernel_rfl) rfl
def CsameIs (n : Nat) : Prop := ∀ (c c2 : ST) (ta sb ta2 sb2 : Value) (G : Ghost) (w : World), SizeOf.sizeOf c ≤ n → SlL G ta 3 tC t0 c.h.ts → Ss G sb c.subs → SlL G ta2 3 tC t0 c2.h.ts → Ss G sb2 c2.subs → Has G w → Calls Try.prog 62 #[Value.agg #[Value.int .i64 c.h.k, Value.int .i64 c.h.k0, Value.int .i64 c.h.k1, Value.int .i64 c.h.k2, ta, sb], Value.agg #[Value.int .i64 c2.h.k, Value.int .i64 c2.h.k0, Value.int .i64 c2.h.k1, Value.int .i64 c2.h.k2, ta2, sb2]] w (Ret fun r w' => r = Value.bool (seq c c2) ∧ Since nX w w')
def RsameSIs (n : Nat) : Prop := ∀ (c c2 : ST) (ta sb ta2 sb2 : Value) (G : Ghost) (w : World), SizeOf.sizeOf c ≤ n → SlL G ta 3 tC t0 c.h.ts → Ss G sb c.subs → SlL G ta2 3 tC t0 c2.h.ts → Ss G sb2 c2.subs → Has G w → Calls Try.prog 55 #[Value.agg #[Value.int .i64 c.h.k, Value.int .i64 c.h.k0, Value.int .i64 c.h.k1, Value.int .i64 c.h.k2, ta, sb], Value.agg #[Value.int .i64 c2.h.k, Value.int .i64 c2.h.k0, Value.int .i64 c2.h.k1, Value.int .i64 c2.h.k2, ta2, sb2]] w (Ret fun r w' => r = Value.bool (seq c c2) ∧ Since nX w w')
def SrefIs (n : Nat) : Prop := ∀ (c : ST) (ta sb : Value) (G : Ghost) (w : World), SizeOf.sizeOf c ≤ n → ssz c ≤ 5000 → SlL G ta 3 tC t0 c.h.ts → Ss G sb c.subs → Has G w → Calls Try.prog 37 #[Value.agg #[Value.int .i64 c.h.k, Value.int .i64 c.h.k0, Value.int .i64 c.h.k1, Value.int .i64 c.h.k2, ta, sb]] w (Ret fun r w' => ∃ G', GNew w nX G G' ∧ Has G' w' ∧ (∃ ua ub, r = Value.agg #[Value.int .i64 (c).h.k, Value.int .i64 (c).h.k0, Value.int .i64 (c).h.k1, Value.int .i64 (c).h.k2, ua, ub] ∧ SlL G' ua 3 tC t0 (c).h.ts ∧ Ss G' ub (c).subs) ∧ Since nX w w')
theorem c_eqT (v v2 : Value) (a b : List TD) {G : Ghost} (hr : SlL G v 3 tC t0 a) (hr2 : SlL G v2 3 tC t0 b) (w : World) (hG : Has G w) :
    Calls Try.prog 73 #[v, v2] w (Ret fun r w' => r = Value.bool (decide (a = b)) ∧ Since nX w w') := by
 refine enter (args := [_, _]) (X := nX) (G := G) (l := [(0, v), (1, v2)]) Try.func73 rfl Try.ntmps73 hG ⟨rfl, rfl, trivial⟩ (Nat.le_of_ble_eq_true rfl) ?_
 have hbd := hr.bound
 have hbd2 := hr2.bound
 refine c_seq (c_region (r_val .none rfl (p_assign rfl) (r_nil (e_next ?_))))
 refine c_seq (c_seq (c_region (r_val .none rfl (p_move rfl) ?_)))
 refine r_val .none rfl (p_leng Try.underlying48 rfl hr) ?_
 have bd_1 := (hr).bound
 refine r_val .none rfl (p_move rfl) ?_
 refine r_val .none rfl (p_leng Try.underlying48 rfl hr2) ?_
 have bd_2 := (hr2).bound
 refine r_val .none rfl (p_ne rfl rfl) ?_
 refine r_nil (e_next ?_)
 refine c_splitd (d := 10) rfl (fun h_3 => ?_) (fun h_3 => ?_)
 · (
 first
 | (exfalso; omega)
 | (
 refine c_cond_t rfl (c_seq (c_region (r_val .none rfl (p_assign rfl) (r_nil ?_))))
 refine e_next ?_
 refine c_ret ?_
 refine e_ret_then ?_
 refine e_ret1 Try.results73 (.tmp rfl .nil) (fun w hm => ⟨?_, hm.since⟩)
 first
 | exact congrArg Value.bool (decide_eq_false (ne_of_len (by omega))).symm
 | exact congrArg Value.bool (decide_eq_false (ne_of_get hE)).symm
 | (have hk := hphi.2.2; rw [List.take_of_length_le (by omega), List.take_of_length_le (by omega)] at hk; exact congrArg Value.bool (decide_eq_true hk).symm)))
 · (
 first
 | (exfalso; omega)
 | (
 refine c_cond_f rfl (c_skip (e_next (c_seq (c_seq ?_))))
 refine c_region (r_val .none rfl (p_move rfl) ?_)
 refine r_val .none rfl (p_leng Try.underlying48 rfl hr) ?_
 have bd_4 := (hr).bound
 refine r_val .none rfl (p_move rfl) (r_nil (e_next (c_block ?_)))
 refine c_name (d := 0) rfl (fun u_5 hu_5 => ?_)
 refine c_name (d := 1) rfl (fun u_6 hu_6 => ?_)
 refine c_name (d := 12) rfl (fun u_7 hu_7 => ?_)
 refine c_loop (σ := Nat) (fun k => [(13, Value.int .i64 (k : Nat)), (0, u_5), (1, u_6), (12, u_7)]) (fun k => []) (fun _ => _) (fun k => k ≤ a.length ∧ a.length = b.length ∧ a.take k = b.take k) (fun k => a.length - k) (0) ⟨Nat.zero_le _, by omega, rfl⟩ rfl ⟨rfl, rfl, rfl, rfl, trivial⟩ (.nil) (fun k hphi => ?_)
 subst hu_5
 subst hu_6
 subst hu_7
 refine c_seq (c_region ?_)
 refine r_val .none rfl (p_lt rfl rfl) ?_
 refine r_nil (e_next (c_seq ?_))
 refine c_splitd (d := 14) rfl (fun h_8 => ?_) (fun h_8 => ?_)
 · (
 first
 | (exfalso; omega)
 | (
 refine c_cond_t rfl (c_skip (e_next (c_seq (c_block ?_))))
 refine c_seq (c_region (r_val .none rfl (p_move rfl) (r_val .none rfl (p_assign rfl) (r_nil ?_))))
 refine e_next (c_seq ?_)
 refine c_region_q mixed (by kernel_rfl) ?_
 refine q_val .none rfl (p_move rfl) ?_
 refine q_val .none rfl (p_move rfl) ?_
 refine q_iaddr_g .none rfl Try.underlying48 sz52 rfl hr rfl (by first | exact odt rfl | omega) (fun p_10 o_11 R_9 => ?_)
 refine q_val .none rfl (p_ldga0 Try.underlying52 rfl sz52 rfl R_9 (by first | exact odt rfl | omega) (rfl : _ = Value.agg #[_, _, _])) ?_
 refine q_val .none rfl (p_move rfl) ?_
 refine q_val .none rfl (p_move rfl) ?_
 refine q_iaddr_g .none rfl Try.underlying48 sz52 rfl hr2 rfl (by first | exact odt rfl | omega) (fun p_13 o_14 R_12 => ?_)
 refine q_val .none rfl (p_ldga0 Try.underlying52 rfl sz52 rfl R_12 (by first | exact odt rfl | omega) (rfl : _ = Value.agg #[_, _, _])) ?_
 refine q_val .none rfl (p_nea rfl rfl (eq_flat Try.underlying52 rfl lf52 ef52 eg52 (.cons (.int Try.underlying3) (.cons (.int Try.underlying3) (.cons (.int Try.underlying3) (.nil)))) (.cons (.int Try.underlying3) (.cons (.int Try.underlying3) (.cons (.int Try.underlying3) (.nil)))))) ?_
 refine q_nil ?_
 refine e_next ?_
 refine c_splitn (d := 24) rfl (fun h_15 => ?_) (fun h_15 => ?_)
 · (
 have hE : a.getD k t0 ≠ b.getD k t0 := of_decide_eq_false ((tC_eq _ _).symm.trans h_15)
 first
 | (exfalso; omega)
 | (
 refine c_cond_t rfl (c_seq (c_region (r_val .none rfl (p_assign rfl) (r_nil ?_))))
 refine e_next ?_
 refine c_ret ?_
 refine e_ret_block ?_
 refine e_ret_then ?_
 refine e_ret_then ?_
 refine e_ret_block ?_
 refine e_ret_then ?_
 refine e_ret1 Try.results73 (.tmp rfl .nil) (fun w hm => ⟨?_, hm.since⟩)
 first
 | exact congrArg Value.bool (decide_eq_false (ne_of_len (by omega))).symm
 | exact congrArg Value.bool (decide_eq_false (ne_of_get hE)).symm
 | (have hk := hphi.2.2; rw [List.take_of_length_le (by omega), List.take_of_length_le (by omega)] at hk; exact congrArg Value.bool (decide_eq_true hk).symm)))
 · (
 have hE : a.getD k t0 = b.getD k t0 := of_decide_eq_true ((tC_eq _ _).symm.trans h_15)
 first
 | (exfalso; omega)
 | (
 refine c_cond_f rfl (c_skip ?_)
 refine e_norm_block ?_
 refine e_next (c_region ?_)
 refine r_val .none rfl (p_add rfl rfl (by omega)) ?_
 refine r_val .none rfl (p_move rfl) (r_nil ?_)
 refine e_round (k + 1) ⟨⟨by omega, hphi.2.1, take_eq_succ (d := t0) (by omega) (by omega) hphi.2.2 hE⟩, by omega⟩ rfl ⟨rfl, rfl, rfl, rfl, trivial⟩ (.nil)))))
 · (
 first
 | (exfalso; omega)
 | (
 refine c_cond_f rfl (c_exit (e_exit_then (e_exit_then ?_)))
 refine e_exit_block ?_
 refine e_next (c_seq (c_region (r_val .none rfl (p_assign rfl) (r_nil ?_))))
 refine e_next ?_
 refine c_ret ?_
 refine e_ret1 Try.results73 (.tmp rfl .nil) (fun w hm => ⟨?_, hm.since⟩)
 first
 | exact congrArg Value.bool (decide_eq_false (ne_of_len (by omega))).symm
 | exact congrArg Value.bool (decide_eq_false (ne_of_get hE)).symm
 | (have hk := hphi.2.2; rw [List.take_of_length_le (by omega), List.take_of_length_le (by omega)] at hk; exact congrArg Value.bool (decide_eq_true hk).symm)))))
theorem c_eqfS (n : Nat) (ih : CsameIs n) (v v2 : Value) (l l2 : List ST) {G : Ghost} (hz : ∀ x ∈ l, SizeOf.sizeOf x ≤ n) (hs : Ss G v l) (hs2 : Ss G v2 l2) (w : World) (hG : Has G w) :
    Calls Try.prog 74 #[v, v2, Value.func (.func 62) #[] #[]] w (Ret fun r w' => r = Value.bool (seqL l l2) ∧ Since nX w w') := by
 refine enter (args := [_, _, _]) (X := nX) (G := G) (l := [(0, v), (1, v2), (2, Value.func (.func 62) #[] #[])]) Try.func74 rfl Try.ntmps74 hG ⟨rfl, rfl, rfl, trivial⟩ (Nat.le_of_ble_eq_true rfl) ?_
 obtain ⟨rs, hr, hrt, hrs, hl⟩ := hs.inv
 obtain ⟨rs2, hr2, hrt2, hrs2, hl2⟩ := hs2.inv
 have hbd := hr.bound
 have hbd2 := hr2.bound
 refine c_seq (c_region (r_val .none rfl (p_assign rfl) (r_nil (e_next ?_))))
 refine c_seq (c_seq (c_region (r_val .none rfl (p_move rfl) ?_)))
 refine r_val .none rfl (p_leng Try.underlying35 rfl hr) ?_
 have bd_1 := (hr).bound
 refine r_val .none rfl (p_move rfl) ?_
 refine r_val .none rfl (p_leng Try.underlying35 rfl hr2) ?_
 have bd_2 := (hr2).bound
 refine r_val .none rfl (p_ne rfl rfl) ?_
 refine r_nil (e_next ?_)
 refine c_splitd (d := 14) rfl (fun h_3 => ?_) (fun h_3 => ?_)
 · (
 first
 | (exfalso; omega)
 | (
 refine c_cond_t rfl (c_seq (c_region (r_val .none rfl (p_assign rfl) (r_nil ?_))))
 refine e_next ?_
 refine c_ret ?_
 refine e_ret_then ?_
 refine e_ret1 Try.results74 (.tmp rfl .nil) (fun w hm => ⟨?_, hm.since⟩)
 first
 | (rw [hl, hl2, seqL_len (by simp; omega)])
 | (rw [hl, hl2, ← hphi.2.2, seqL_no (by omega) (by omega) hE])
 | (rw [hl, hl2, ← hphi.2.2, List.drop_eq_nil_of_le (by simp; omega), List.drop_eq_nil_of_le (by simp; omega)]; rfl)))
 · (
 first
 | (exfalso; omega)
 | (
 refine c_cond_f rfl (c_skip (e_next (c_seq (c_seq ?_))))
 refine c_region (r_val .none rfl (p_move rfl) ?_)
 refine r_val .none rfl (p_leng Try.underlying35 rfl hr) ?_
 have bd_4 := (hr).bound
 refine r_val .none rfl (p_move rfl) (r_nil (e_next (c_block ?_)))
 refine c_name (d := 1) rfl (fun u_5 hu_5 => ?_)
 refine c_name (d := 2) rfl (fun u_6 hu_6 => ?_)
 refine c_name (d := 15) rfl (fun u_7 hu_7 => ?_)
 refine c_name (d := 16) rfl (fun u_8 hu_8 => ?_)
 refine c_loop (σ := Nat) (fun k => [(17, Value.int .i64 (k : Nat)), (1, u_5), (2, u_6), (15, u_7), (16, u_8)]) (fun k => []) (fun _ => _) (fun k => k ≤ rs.length ∧ rs.length = rs2.length ∧ seqL ((rs.map Prod.fst).drop k) ((rs2.map Prod.fst).drop k) = seqL (rs.map Prod.fst) (rs2.map Prod.fst)) (fun k => rs.length - k) (0) ⟨Nat.zero_le _, by omega, rfl⟩ rfl ⟨rfl, rfl, rfl, rfl, rfl, trivial⟩ (.nil) (fun k hphi => ?_)
 subst hu_5
 subst hu_6
 subst hu_7
 subst hu_8
 refine c_seq (c_region ?_)
 refine r_val .none rfl (p_lt rfl rfl) ?_
 refine r_nil (e_next (c_seq ?_))
 refine c_splitd (d := 18) rfl (fun h_9 => ?_) (fun h_9 => ?_)
 · (
 first
 | (exfalso; omega)
 | (
 refine c_cond_t rfl (c_skip (e_next (c_seq (c_block ?_))))
 refine c_seq (c_region (r_val .none rfl (p_move rfl) ?_))
 refine r_iaddr_g .none rfl Try.underlying35 sz50 rfl hr rfl (by first | exact odt rfl | omega) (fun p_11 o_12 R_10 => ?_)
 have ht_13 := hrt _ (getD_mem (i := k) (d := s0) (by omega))
 have hc_14 := hrs _ (getD_mem (i := k) (d := s0) (by omega))
 refine r_val .none rfl (p_ldga0 Try.underlying50 rfl sz50 rfl R_10 (by first | exact odt rfl | omega) (rfl : _ = Value.agg #[_, _, _, _, _, _])) ?_
 refine r_alloc .none rfl zr50 (IsRow.lit _) (fun b_1 => ?_)
 refine r_val .none rfl (p_assign rfl) ?_
 refine r_stw (k := 0) .none sz50 rfl rfl (IsRow.lit _) (one_lit rfl (all_cons rfl (all_cons rfl (all_cons rfl (all_cons rfl (all_cons (ht_13).one (all_cons (hc_14).one rfl))))))) rfl ?_
 refine r_nil (e_next (c_seq (c_region (r_val .none rfl (p_move rfl) ?_))))
 refine r_val .none rfl (p_move rfl) ?_
 refine r_iaddr_g .none rfl Try.underlying35 sz50 rfl hr2 rfl (by first | exact odt rfl | omega) (fun p_16 o_17 R_15 => ?_)
 have ht_18 := hrt2 _ (getD_mem (i := k) (d := s0) (by omega))
 have hc_19 := hrs2 _ (getD_mem (i := k) (d := s0) (by omega))
 refine r_val .none rfl (p_ldga0 Try.underlying50 rfl sz50 rfl R_15 (by first | exact odt rfl | omega) (rfl : _ = Value.agg #[_, _, _, _, _, _])) ?_
 refine r_alloc .none rfl zr50 (IsRow.lit _) (fun b_2 => ?_)
 refine r_stw (k := 0) .none sz50 rfl rfl (IsRow.lit _) (one_lit rfl (all_cons rfl (all_cons rfl (all_cons rfl (all_cons rfl (all_cons (ht_18).one (all_cons (hc_19).one rfl))))))) rfl ?_
 refine r_nil (e_next (c_seq (c_region (r_val .none rfl (p_move rfl) ?_))))
 refine r_val .none rfl (p_ldw (k := 1) Try.underlying50 rfl sz50 rfl rfl (rfl : _ = Value.agg #[_, _, _, _, _, _])) ?_
 refine r_val .none rfl (p_ldw (k := 0) Try.underlying50 rfl sz50 rfl rfl (rfl : _ = Value.agg #[_, _, _, _, _, _])) ?_
 refine r_fun (cs := []) .none rfl ?_
 refine r_call (vs := [_, _]) .none rfl cl62 rfl (fun w hw => ih (rs.getD k s0).1 _ _ _ _ _ _ w (hz _ (by rw [hl]; exact sv_mem (k := k) (by omega))) ht_13 hc_14 ht_18 hc_19 hw) ?_
 refine r_val .none rfl (p_not rfl) ?_
 refine r_nil (e_next ?_)
 refine c_splitn (d := 30) rfl (fun h_20 => ?_) (fun h_20 => ?_)
 · (
 have hE := h_20
 first
 | (exfalso; omega)
 | (
 refine c_cond_t rfl (c_seq (c_region (r_val .none rfl (p_assign rfl) (r_nil ?_))))
 refine e_next ?_
 refine c_ret ?_
 refine e_ret_block ?_
 refine e_ret_then ?_
 refine e_ret_then ?_
 refine e_ret_block ?_
 refine e_ret_then ?_
 refine e_ret1 Try.results74 (.tmp rfl .nil) (fun w hm => ⟨?_, hm.since⟩)
 first
 | (rw [hl, hl2, seqL_len (by simp; omega)])
 | (rw [hl, hl2, ← hphi.2.2, seqL_no (by omega) (by omega) hE])
 | (rw [hl, hl2, ← hphi.2.2, List.drop_eq_nil_of_le (by simp; omega), List.drop_eq_nil_of_le (by simp; omega)]; rfl)))
 · (
 have hE := h_20
 first
 | (exfalso; omega)
 | (
 refine c_cond_f rfl (c_skip ?_)
 refine e_norm_block ?_
 refine e_next (c_region ?_)
 refine r_val .none rfl (p_add rfl rfl (by omega)) ?_
 refine r_val .none rfl (p_move rfl) (r_nil ?_)
 refine e_round (k + 1) ⟨⟨by omega, hphi.2.1, by rw [seqL_yes (by omega) (by omega) hE]; exact hphi.2.2⟩, by omega⟩ rfl ⟨rfl, rfl, rfl, rfl, rfl, trivial⟩ (.drop (.drop (.nil)))))))
 · (
 first
 | (exfalso; omega)
 | (
 refine c_cond_f rfl (c_exit (e_exit_then (e_exit_then ?_)))
 refine e_exit_block ?_
 refine e_next (c_seq (c_region (r_val .none rfl (p_assign rfl) (r_nil ?_))))
 refine e_next ?_
 refine c_ret ?_
 refine e_ret1 Try.results74 (.tmp rfl .nil) (fun w hm => ⟨?_, hm.since⟩)
 first
 | (rw [hl, hl2, seqL_len (by simp; omega)])
 | (rw [hl, hl2, ← hphi.2.2, seqL_no (by omega) (by omega) hE])
 | (rw [hl, hl2, ← hphi.2.2, List.drop_eq_nil_of_le (by simp; omega), List.drop_eq_nil_of_le (by simp; omega)]; rfl)))))
theorem c_csame_s (n : Nat) (ih : CsameIs n) (c c2 : ST) (ta sb ta2 sb2 : Value) {G : Ghost} (hz : SizeOf.sizeOf c ≤ n + 1) (ht : SlL G ta 3 tC t0 c.h.ts) (hs : Ss G sb c.subs) (ht2 : SlL G ta2 3 tC t0 c2.h.ts) (hs2 : Ss G sb2 c2.subs) (w : World) (hG : Has G w) :
    Calls Try.prog 62 #[Value.agg #[Value.int .i64 c.h.k, Value.int .i64 c.h.k0, Value.int .i64 c.h.k1, Value.int .i64 c.h.k2, ta, sb], Value.agg #[Value.int .i64 c2.h.k, Value.int .i64 c2.h.k0, Value.int .i64 c2.h.k1, Value.int .i64 c2.h.k2, ta2, sb2]] w (Ret fun r w' => r = Value.bool (seq c c2) ∧ Since nX w w') := by
 refine enter (args := [_, _]) (X := nX) (G := G) (l := [(0, Value.agg #[Value.int .i64 c.h.k, Value.int .i64 c.h.k0, Value.int .i64 c.h.k1, Value.int .i64 c.h.k2, ta, sb]), (1, Value.agg #[Value.int .i64 c2.h.k, Value.int .i64 c2.h.k0, Value.int .i64 c2.h.k1, Value.int .i64 c2.h.k2, ta2, sb2])]) Try.func62 rfl Try.ntmps62 hG ⟨rfl, rfl, trivial⟩ (Nat.le_of_ble_eq_true rfl) ?_
 refine c_seq (c_region ?_)
 refine r_box .none rfl rfl (IsRow.lit _) (fun b_1 => ?_)
 refine r_box .none rfl rfl (IsRow.lit _) (fun b_2 => ?_)
 refine r_val .none rfl (p_assign rfl) (r_nil (e_next (c_seq (c_region ?_))))
 refine r_val .none rfl (p_field Try.underlying50 rfl sz3 rfl) ?_
 refine r_val .none rfl (p_ld (k := 1) Try.underlying3 rfl rfl rfl (by first | exact odt rfl | omega) (rfl : _ = Value.int _ _)) ?_
 refine r_val .none rfl (p_field Try.underlying50 rfl sz3 rfl) ?_
 refine r_val .none rfl (p_ld (k := 0) Try.underlying3 rfl rfl rfl (by first | exact odt rfl | omega) (rfl : _ = Value.int _ _)) ?_
 refine r_val .none rfl (p_eq rfl rfl) ?_
 refine r_val .none rfl (p_move rfl) ?_
 refine' r_and (c := 10) (d := 16) [_, _, _, _, _, _] rfl (fun h_1 Q_2 hQ_3 => ?_) (fun h_1 Q_2 hQ_3 => ?_) ?_
 rotate_left 1
 · (
 replace h_1 := of_decide_eq_true h_1
 refine r_val (.some rfl rfl) rfl (p_field Try.underlying50 rfl sz47 rfl) ?_
 refine r_val (.some rfl rfl) rfl (p_lda (k := 1) Try.underlying47 rfl sz47 rfl rfl (by first | exact odt rfl | omega) (rfl : _ = Value.agg #[_, _, _])) ?_
 refine r_val (.some rfl rfl) rfl (p_field Try.underlying50 rfl sz47 rfl) ?_
 refine r_val (.some rfl rfl) rfl (p_lda (k := 0) Try.underlying47 rfl sz47 rfl rfl (by first | exact odt rfl | omega) (rfl : _ = Value.agg #[_, _, _])) ?_
 refine r_val (.some rfl rfl) rfl (p_eqa rfl rfl (eq_flat Try.underlying47 rfl lf47 ef47 eg47 (.cons (.int Try.underlying3) (.cons (.int Try.underlying3) (.cons (.int Try.underlying3) (.nil)))) (.cons (.int Try.underlying3) (.cons (.int Try.underlying3) (.cons (.int Try.underlying3) (.nil)))))) ?_
 refine r_val .none rfl (p_pick_t rfl rfl) ?_
 refine r_nil (e_fin (d := 16) hQ_3 rfl (by repeat (first | exact .refl | refine .put rfl ?_ | refine .say rfl ?_ | refine .say2 rfl (by first | assumption | simp_all) ?_))))
 · (
 repeat (first | refine r_skip rfl (.no rfl rfl) ?_ | refine r_skip rfl (.un rfl rfl) ?_)
 refine r_val (by first | exact .none | exact .some rfl rfl) rfl (p_pick_f rfl rfl) ?_
 refine r_nil (e_fin (d := 16) hQ_3 rfl (by repeat (first | exact .refl | refine .put rfl ?_ | refine .say rfl ?_ | refine .say2 rfl (by first | assumption | simp_all) ?_))))
 refine r_val .none rfl (p_move rfl) ?_
 refine' r_and (c := 17) (d := 23) [_, _, _, _, _, _] rfl (fun h_5 Q_6 hQ_7 => ?_) (fun h_5 Q_6 hQ_7 => ?_) ?_
 rotate_left 1
 · (
 try simp only [norms] at h_5
 refine r_val (.some rfl rfl) rfl (p_field Try.underlying50 rfl sz48 rfl) ?_
 refine r_val (.some rfl rfl) rfl (p_ld (k := 1) Try.underlying48 rfl rfl rfl (by first | exact odt rfl | omega) rfl) ?_
 refine r_val (.some rfl rfl) rfl (p_field Try.underlying50 rfl sz48 rfl) ?_
 refine r_val (.some rfl rfl) rfl (p_ld (k := 0) Try.underlying48 rfl rfl rfl (by first | exact odt rfl | omega) rfl) ?_
 refine r_call (vs := [_, _]) (.some rfl rfl) rfl cl73 rfl (fun w hw => c_eqT _ _ _ _ ht ht2 w hw) ?_
 refine r_val .none rfl (p_pick_t rfl rfl) ?_
 refine r_nil (e_fin (d := 23) hQ_7 rfl (by repeat (first | exact .refl | refine .put rfl ?_ | refine .say rfl ?_ | refine .say2 rfl (by first | assumption | simp_all) ?_))))
 · (
 repeat (first | refine r_skip rfl (.no rfl rfl) ?_ | refine r_skip rfl (.un rfl rfl) ?_)
 refine r_val (by first | exact .none | exact .some rfl rfl) rfl (p_pick_f rfl rfl) ?_
 refine r_nil (e_fin (d := 23) hQ_7 rfl (by repeat (first | exact .refl | refine .put rfl ?_ | refine .say rfl ?_ | refine .say2 rfl (by first | assumption | simp_all) ?_))))
 refine r_val .none rfl (p_move rfl) ?_
 refine' r_and (c := 24) (d := 30) [_, _, _, _, _, _] rfl (fun h_9 Q_10 hQ_11 => ?_) (fun h_9 Q_10 hQ_11 => ?_) ?_
 rotate_left 1
 · (
 try simp only [norms] at h_9
 refine r_val (.some rfl rfl) rfl (p_field Try.underlying50 rfl sz35 rfl) ?_
 refine r_val (.some rfl rfl) rfl (p_ld (k := 1) Try.underlying35 rfl rfl rfl (by first | exact odt rfl | omega) rfl) ?_
 refine r_val (.some rfl rfl) rfl (p_field Try.underlying50 rfl sz35 rfl) ?_
 refine r_val (.some rfl rfl) rfl (p_ld (k := 0) Try.underlying35 rfl rfl rfl (by first | exact odt rfl | omega) rfl) ?_
 refine r_call (vs := [_, _, _]) (.some rfl rfl) rfl cl74 rfl (fun w hw => c_eqfS n ih _ _ _ _ (fun x hx => by have := List.sizeOf_lt_of_mem hx; have := s_subs c; omega) hs hs2 w hw) ?_
 refine r_val .none rfl (p_pick_t rfl rfl) ?_
 refine r_nil (e_fin (d := 30) hQ_11 rfl (by repeat (first | exact .refl | refine .put rfl ?_ | refine .say rfl ?_ | refine .say2 rfl (by first | assumption | simp_all) ?_))))
 · (
 repeat (first | refine r_skip rfl (.no rfl rfl) ?_ | refine r_skip rfl (.un rfl rfl) ?_)
 refine r_val (by first | exact .none | exact .some rfl rfl) rfl (p_pick_f rfl rfl) ?_
 refine r_nil (e_fin (d := 30) hQ_11 rfl (by repeat (first | exact .refl | refine .put rfl ?_ | refine .say rfl ?_ | refine .say2 rfl (by first | assumption | simp_all) ?_))))
 refine r_val .none rfl (p_assign rfl) (r_nil (e_next ?_))
 refine c_ret ?_
 refine e_ret1 Try.results62 (.tmp rfl .nil) (fun w hm => ⟨?_, hm.since⟩)
 rw [seq_eq]
 first
 | rfl
 | (show _ = _; congr 1; simp only [Bool.and_assoc]; rfl)
theorem c_csame_n : ∀ n, CsameIs n
 | 0 => fun c c2 ta sb ta2 sb2 G w hz _ _ _ _ _ => absurd hz (by have := s_pos c; omega)
 | n + 1 => fun c c2 ta sb ta2 sb2 G w hz ht hs ht2 hs2 hG => c_csame_s n (c_csame_n n) c c2 ta sb ta2 sb2 hz ht hs ht2 hs2 w hG
theorem c_csame (c c2 : ST) (ta sb ta2 sb2 : Value) {G : Ghost} (ht : SlL G ta 3 tC t0 c.h.ts) (hs : Ss G sb c.subs) (ht2 : SlL G ta2 3 tC t0 c2.h.ts) (hs2 : Ss G sb2 c2.subs) (w : World) (hG : Has G w) : Calls Try.prog 62 #[Value.agg #[Value.int .i64 c.h.k, Value.int .i64 c.h.k0, Value.int .i64 c.h.k1, Value.int .i64 c.h.k2, ta, sb], Value.agg #[Value.int .i64 c2.h.k, Value.int .i64 c2.h.k0, Value.int .i64 c2.h.k1, Value.int .i64 c2.h.k2, ta2, sb2]] w (Ret fun r w' => r = Value.bool (seq c c2) ∧ Since nX w w') := c_csame_n _ c c2 ta sb ta2 sb2 G w (Nat.le_refl _) ht hs ht2 hs2 hG
end Go.Proofs.Ytdkfdncbldngdaa

/-
  GX: an assertion is brought to the front. Generic in the program.
-/
namespace Go.Gx
theorem Sep.front {w : World} : ∀ {L : List Asrt} {k : Nat} {A : Asrt} {U : Nat → Prop}, L[k]? = some A → Sep w L U → Sep w (A :: L.eraseIdx k) U
  | [], _, _, _, h, _ => by simp at h
  | B :: L, 0, A, U, h, hS => by
    simp at h; subst h; simpa using hS
  | B :: L, k + 1, A, U, h, ⟨F, hB, hF, hL⟩ => by
    simp at h
    obtain ⟨F2, hA, hF2, hR⟩ := Sep.front h hL
    refine ⟨F2, hA, fun b hb => (hF2 b hb).1, ?_⟩
    rw [List.eraseIdx_cons_succ]
    exact ⟨F, hB, fun b hb => ⟨hF b hb, fun h2 => (hF2 b h2).2 hb⟩, hR.mono (fun b _ hb => ⟨⟨hb.1.1, hb.2⟩, hb.1.2⟩)⟩
theorem Mem.front {X : Nat → Prop} {w0 w : World} {G : Ghost} {L : List Asrt} {k : Nat} {A : Asrt} (h : Mem X w0 G w L) (hL : L[k]? = some A) : Mem X w0 G w (A :: L.eraseIdx k) := ⟨h.since, h.has, h.sep.front hL⟩
section
variable {P : Program} {ops : Array Oper} {Q : Exit → Act → World → Prop} {N : Nat} {X : Nat → Prop} {w0 : World} {G : Ghost} {l : List (Nat × Value)} {L : List Asrt} {rest : List Oper} {k : Nat} {A : Asrt}
theorem r_front (hL : L[k]? = some A) (h : Runs P ops Q N X w0 G rest l (A :: L.eraseIdx k)) : Runs P ops Q N X w0 G rest l L := fun a w hS => h a w ⟨hS.fr, hS.mem.front hL⟩
theorem c_front {c : Code} (hL : L[k]? = some A) (h : CRuns P c Q N X w0 G l (A :: L.eraseIdx k)) : CRuns P c Q N X w0 G l L := fun a w hS => h a w ⟨hS.fr, hS.mem.front hL⟩
theorem e_front {e : Exit} (hL : L[k]? = some A) (h : ERuns Q e N X w0 G l (A :: L.eraseIdx k)) : ERuns Q e N X w0 G l L := fun a w hS => h a w ⟨hS.fr, hS.mem.front hL⟩
end
end Go.Gx
namespace Go.Gx
open Go.RowKit
section
variable {P : Program} {N : Nat} {X : Nat → Prop} {w0 : World} {G : Ghost} {l : List (Nat × Value)} {L : List Asrt} {d : Nat} {ty : TypeId} {pos : String} {after : Array Edge} {gd : Option (Nat × Bool)} {x : Operand}
end
end Go.Gx
namespace Go.Gx
open Go.RowKit
section
variable {P : Program} {N : Nat} {X : Nat → Prop} {w0 : World} {G : Ghost} {l : List (Nat × Value)} {L : List Asrt} {d : Nat} {ty : TypeId} {pos : String} {after : Array Edge} {gd : Option (Nat × Bool)} {x : Operand}
/-- A field of a value that is one cell. -/
theorem p_field1 {S : TypeId} {fs : Array Field} {fld : Field} {e : TypeDesc} {j M o : Nat} {c : Array Value} {g : Nat → Value} {u : Value} (hS' : P.underlying S = some (.struct fs)) (hf : fs[j]? = some fld) (hT : P.underlying fld.type = some e) (ha : e.aggB = false) (hm : SzIs P fld.type 1)
    (hx : ev l x = some (.agg c)) (hc : IsRow c M g) (ho : fld.offset = o) (hM : o + 1 ≤ M) (hv : g o = u) : PV P N X w0 G l L ⟨some d, .field S x j, ty, pos, after, gd⟩ u := by
  intro a w hS
  subst ho
  have h1 := hc.get fld.offset (by omega)
  simp only [execOp, hS.fr.eval hx]
  simp [Instr.field, asAgg, run_underlying hS', hf, hm.run, part, run_isAgg hT, ha, h1, ← hv]
end
end Go.Gx

/- Plain laws of chains of steps; no program in sight. -/
namespace Go.Gx.T8
open Go.Gx Go.Gx.T3 Go.Gx.T4 Go.Gx.T6
mutual
/-- The chains of what stands in a step, and its own. -/
def schain1 : List ST → ST → List (List ST)
  | ah, .mk h l => (if h.k = 3 then schains ah l else []) ++ [ah ++ [.mk h l]]
/-- The chains of steps behind a beginning. -/
def schains : List ST → List ST → List (List ST)
  | _, [] => []
  | ah, c :: t => schain1 ah c ++ schains (ah ++ [c]) t
end
theorem schain1_ncc {ah : List ST} {c : ST} (h : c.h.k = 3) : schain1 ah c = schains ah c.subs ++ [ah ++ [c]] := by
  cases c with | mk hd l => have h' : hd.k = 3 := h; rw [schain1, if_pos h']; rfl
theorem schain1_other {ah : List ST} {c : ST} (h : c.h.k ≠ 3) : schain1 ah c = [ah ++ [c]] := by
  cases c with | mk hd l => have h' : hd.k ≠ 3 := h; rw [schain1, if_neg h']; rfl
theorem schains_append (a b : List ST) : ∀ ah, schains ah (a ++ b) = schains ah a ++ schains (ah ++ a) b := by
  induction a with
  | nil => intro ah; simp [schains]
  | cons c t ih => intro ah; simp [schains, ih]
theorem schains_take {rs : List SVal} {k : Nat} {ah : List ST} (hk : k < rs.length) : schains ah ((rs.map Prod.fst).take (k + 1)) = schains ah ((rs.map Prod.fst).take k) ++ schain1 (ah ++ (rs.map Prod.fst).take k) (rs.getD k s0).1 := by
  rw [sv_take hk, schains_append]; simp [schains]
mutual
theorem schain1_len : ∀ (c : ST) (ah : List ST), (schain1 ah c).length ≤ ssz c
  | .mk h l, ah => by
    have := schains_len l ah
    rw [schain1, ssz]
    split <;> simp <;> omega
theorem schains_len : ∀ (l : List ST) (ah : List ST), (schains ah l).length ≤ sszL l
  | [], _ => by simp [schains, sszL]
  | c :: t, ah => by
    have h1 := schain1_len c ah
    have h2 := schains_len t (ah ++ [c])
    rw [schains, sszL, List.length_append]; omega
end
theorem sszL_append (a b : List ST) : sszL (a ++ b) = sszL a + sszL b := by
  induction a with
  | nil => simp [sszL]
  | cons c t ih => simp only [List.cons_append, sszL, ih]; omega
theorem sszL_take {rs : List SVal} {k : Nat} (hk : k < rs.length) : sszL ((rs.map Prod.fst).take (k + 1)) = sszL ((rs.map Prod.fst).take k) + ssz (rs.getD k s0).1 := by
  rw [sv_take hk, sszL_append]; simp [sszL]
theorem sszL_take_le : ∀ (l : List ST) (k : Nat), sszL (l.take k) ≤ sszL l
  | [], k => by simp
  | c :: t, 0 => by simp [sszL]
  | c :: t, k + 1 => by have := sszL_take_le t k; simp only [List.take_succ_cons, sszL]; omega
mutual
theorem schain1_size : ∀ (c : ST) (ah : List ST), ∀ x ∈ schain1 ah c, sszL x ≤ sszL ah + ssz c
  | .mk h l, ah, x, hx => by
    rw [schain1] at hx
    rcases List.mem_append.1 hx with hx | hx
    · split at hx
      · have := schains_size l ah x hx
        rw [ssz]; omega
      · cases hx
    · rw [List.mem_singleton.1 hx, sszL_append]
      simp [sszL]
theorem schains_size : ∀ (l : List ST) (ah : List ST), ∀ x ∈ schains ah l, sszL x ≤ sszL ah + sszL l
  | [], _, x, hx => by rw [schains] at hx; cases hx
  | c :: t, ah, x, hx => by
    rw [schains] at hx
    rcases List.mem_append.1 hx with hx | hx
    · have := schain1_size c ah x hx
      rw [sszL]; omega
    · have := schains_size t (ah ++ [c]) x hx
      rw [sszL_append] at this
      simp only [sszL] at this ⊢
      omega
end
theorem ssub_size {rs : List SVal} {k : Nat} (hk : k < rs.length) : SizeOf.sizeOf (rs.getD k s0).1.subs < SizeOf.sizeOf (rs.map Prod.fst) := by
  have h2 := List.sizeOf_lt_of_mem (sv_mem hk)
  have h3 := s_subs (rs.getD k s0).1
  omega
/-- What is known of chains of steps that were found. -/
abbrev StC (G : Ghost) (z : List (List ST × Value)) : Prop := ∀ q ∈ z, Ss G q.2 q.1
theorem StC.mono {G G' : Ghost} {z : List (List ST × Value)} (h : StC G z) (hle : GLe G G') : StC G' z := fun q hq => (h q hq).mono hle
theorem StC.snoc {G : Ghost} {z : List (List ST × Value)} {v : Value} {l : List ST} (h : StC G z) (hl : Ss G v l) : StC G (z ++ [(l, v)]) := fun q hq => by
  rcases List.mem_append.1 hq with h1 | h1
  · exact h q h1
  · rw [List.mem_singleton.1 h1]; exact hl
theorem StC.app {G : Ghost} {z z' : List (List ST × Value)} (h : StC G z) (h' : StC G z') : StC G (z ++ z') := fun q hq => by
  rcases List.mem_append.1 hq with h1 | h1
  · exact h q h1
  · exact h' q h1
theorem ss_ones {G : Ghost} {rs : List SVal} (hpt : ∀ p ∈ rs, SlL G p.2.1 3 tC t0 p.1.h.ts) (hps : ∀ p ∈ rs, Ss G p.2.2 p.1.subs) : ∀ i, i < rs.length → ∀ j, j < 6 → (at_ (sC (rs.getD i s0)) j).oneCell' = true := by
  intro i hi j hj
  have h1 := SlG.one (hpt _ (getD_mem (d := s0) hi))
  have h2 := (hps _ (getD_mem (d := s0) hi)).one
  match j, hj with
  | 0, _ => rfl
  | 1, _ => rfl
  | 2, _ => rfl
  | 3, _ => rfl
  | 4, _ => exact h1
  | 5, _ => exact h2
theorem ss_all {G : Ghost} {rs : List SVal} (hpt : ∀ p ∈ rs, SlL G p.2.1 3 tC t0 p.1.h.ts) (hps : ∀ p ∈ rs, Ss G p.2.2 p.1.subs) : ∀ u ∈ rs.flatMap sC, u.oneCell' = true := by
  intro u hu
  obtain ⟨p, h1, h2⟩ := List.mem_flatMap.1 hu
  have h3 := SlG.one (hpt p h1)
  have h4 := (hps p h1).one
  simp only [sC, List.mem_cons, List.not_mem_nil, or_false] at h2
  rcases h2 with rfl | rfl | rfl | rfl | rfl | rfl
  all_goals first | rfl | exact h3 | exact h4
theorem ss_one1 {G : Ghost} {z : List (List ST × Value)} (hz : StC G z) : ∀ i, i < z.length → ∀ j, j < 1 → (at_ (lC (z.getD i ([], .slice none 0 0))) j).oneCell' = true := by
  intro i hi j hj
  have h := (hz _ (getD_mem (d := ([], .slice none 0 0)) hi)).one
  match j, hj with
  | 0, _ => exact h
theorem ss_take {G : Ghost} {v : Value} {rs : List SVal} {k : Nat} (hk : k ≤ rs.length) (h : SlG G v k 6 (fun i => at_ (sC (rs.getD i s0)))) : SlL G v 6 sC s0 (rs.take k) := by
  unfold SlL
  rw [List.length_take, Nat.min_eq_left hk]
  refine h.congr fun i hi j _ => ?_
  simp [List.getD, List.getElem?_take, hi]
abbrev es6 : List ST × Value := ([], .slice none 0 0)
theorem schain_small {l : List ST} {qs : List (List ST × Value)} {k m : Nat} (hl : schains [] l = qs.map Prod.fst) (hk : k < qs.length) (hsz : sszL l ≤ m) : sszL (qs.getD k es6).1 ≤ m := by
  have h1 : (qs.getD k es6).1 ∈ schains [] l := by rw [hl]; exact List.mem_map.2 ⟨_, getD_mem hk, rfl⟩
  have := schains_size l [] _ h1
  simp only [sszL] at this
  omega
end Go.Gx.T8

/- Walks: what Go functions of this chapter come to, each as a function on plain data; no condition but those that each theorem names. Printed by a program of this work (gen.py). -/
namespace Go.Proofs.Ytdkfdncbldngdaa
open Go.Gx Go.Gx.T4 Go.Gx.T3 Go.Gx.T6 Go.Gx.T8 Go.Gx.T4 Go.Gx.T3 Go.Gx.T8 Go.Gx.T4 Go.Gx.T3 Go.Gx.T8 Go.Gx.T6 Go.Gx.T4 Go.Gx.T3
theorem sz41 : SzIs Try.prog 41 1 := by
 unfold SzIs
 kernel_rfl
theorem zr41 : ZeroIs Try.prog 41 (Value.slice none 0 0) := by
 unfold ZeroIs
 kernel_rfl
theorem cl61 : Callable Try.prog 61 := callable Try.func61 (by kernel_rfl) rfl
theorem cl72 : Callable Try.prog 72 := callable Try.func72 (by kernel_rfl) rfl
theorem bs35_10s3 (a0 : Option Addr) (a1 a2 : Nat) : Instr.fill (fun i => some (i * 1, 1)) ((Array.range (1 * 1)).map ((Value.slice none 0 0).cells[· % (Value.slice none 0 0).cells.size]!)) [(0, Value.slice a0 a1 a2)] = some #[Value.slice a0 a1 a2] := by
 kernel_rfl
theorem el35 : ElemIs Try.prog 35 1 24 (Value.slice none 0 0) := by
 unfold ElemIs
 kernel_rfl
def GrowSIs (n : Nat) : Prop := ∀ (va vl : Value) (ah l : List ST) (p : Nat) (z0 : List (List ST × Value)) (G : Ghost) (F : Nat → Prop) (w : World), SizeOf.sizeOf l ≤ n → ah.length + sszL l ≤ 1000 → z0.length + sszL l ≤ 9000 → Ss G va ah → Ss G vl l → StC G z0 → Has G w → (outA 41 35 p (z0)).holds w F → (∀ b, F b → G b = none) → Calls Try.prog 61 #[va, vl, Value.pointer (some ⟨p, 0, none⟩)] w (Ret fun r w' => ∃ G' z', GNew w F G G' ∧ Has G' w' ∧ (r = .tuple #[] ∧ z'.map Prod.fst = z0.map Prod.fst ++ schains ah l ∧ StC G' z') ∧ KeptG (outA 41 35 p (z')) F G' w w')
theorem c_cloneS_a (a : Option Addr) (cap : Nat) (rs : List (SVal)) {G : Ghost} (hr : SlL G (Value.slice a rs.length cap) 6 sC s0 rs) (hlen : rs.length ≤ 1000) (hpt : ∀ p ∈ rs, SlL G p.2.1 3 tC t0 p.1.h.ts) (hps : ∀ p ∈ rs, Ss G p.2.2 p.1.subs) (w : World) (hG : Has G w) :
    Calls Try.prog 72 #[Value.slice a rs.length cap] w (Ret fun r w' => Since nX w w' ∧ ∃ F', (rowA r 50 6 (rs).length ((rs).flatMap sC)).holds w' F' ∧ ∀ b, F' b → w.heap.size ≤ b) := by
 refine enter (args := [_]) (X := nX) (G := G) (l := [(0, Value.slice a rs.length cap)]) Try.func72 rfl Try.ntmps72 hG ⟨rfl, trivial⟩ (Nat.le_of_ble_eq_true rfl) ?_
 refine c_seq (c_region (r_val .none rfl (p_assign rfl) (r_nil (e_next ?_))))
 refine c_seq (c_seq (c_region (r_val .none rfl (p_move rfl) ?_)))
 refine r_val .none rfl (p_eqnil Try.underlying35 rfl rfl) ?_
 refine r_nil (e_next ?_)
 refine c_split (d := 4) rfl (fun h_1 => ?_) (fun h_1 => ?_)
 · (
 have hrs : rs = [] := by cases a with | none => exact nil_rs hr | some x => cases h_1
 refine c_cond_t rfl (c_seq (c_region (r_val .none rfl (p_assign rfl) ?_)))
 refine r_nilrow 50 6 ?_
 refine r_nil (e_next ?_)
 refine c_ret ?_
 refine e_ret_then ?_
 refine e_ret1 Try.results72 (.tmp rfl .nil) (fun w hm => hm.made [rowA (.slice none 0 0) 50 6 (rs).length ((rs).flatMap sC)] (.keep (fun _ _ h => rowA_congr (by rw [hrs]; rfl) (by rw [hrs]; rfl) _ _ h) (.nil)) _ (fun F' h => starL_one h)))
 · (
 refine c_cond_f rfl (c_skip (e_next (c_seq (c_region ?_))))
 refine r_bslice0 .none rfl Try.underlying35 el50 (fun v_2 => ?_)
 refine r_val .none rfl (p_move rfl) ?_
 refine r_append_g (k := 0) .none rfl Try.underlying35 el50 rfl (by decide) rfl rfl rfl hr (fun _ hi _ hj => ss_ones hpt hps _ hi _ hj) (by simp only [maxLen]; omega) (by omega) (fun v_3 => ?_)
 refine r_row1 (k := 0) rfl (fun o_4 => ?_)
 refine r_val .none rfl (p_assign rfl) (r_nil (e_next ?_))
 refine c_ret ?_
 refine e_ret1 Try.results72 (.tmp rfl .nil) (fun w hm => hm.made [rowA v_3 50 6 (rs).length ((rs).flatMap sC)] (.keep (fun _ _ h => rowA_congr (by omega) (by rw [flat_all (cells := sC) (fun _ => rfl)]; rfl) _ _ h) (.nil)) _ (fun F' h => starL_one h)))
theorem c_cloneS (v : Value) (rs : List (SVal)) {G : Ghost} (hr : SlL G v 6 sC s0 rs) (hlen : rs.length ≤ 1000) (hpt : ∀ p ∈ rs, SlL G p.2.1 3 tC t0 p.1.h.ts) (hps : ∀ p ∈ rs, Ss G p.2.2 p.1.subs) (w : World) (hG : Has G w) : Calls Try.prog 72 #[v] w (Ret fun r w' => Since nX w w' ∧ ∃ F', (rowA r 50 6 (rs).length ((rs).flatMap sC)).holds w' F' ∧ ∀ b, F' b → w.heap.size ≤ b) := by
 obtain ⟨a, cap, rfl⟩ := SlG.len hr
 exact c_cloneS_a a cap rs hr hlen hpt hps w hG
theorem c_growS_s (n : Nat) (ih : GrowSIs n) (va vl : Value) (ah l : List ST) (p : Nat) (z0 : List (List ST × Value)) {G : Ghost} {F : Nat → Prop} (hz : SizeOf.sizeOf l ≤ n + 1) (hsz : ah.length + sszL l ≤ 1000) (hlz : z0.length + sszL l ≤ 9000) (hsa : Ss G va ah) (hs : Ss G vl l) (hz0 : StC G z0) (w : World) (hG : Has G w) (hA : (outA 41 35 p (z0)).holds w F) (hFG : ∀ b, F b → G b = none) :
    Calls Try.prog 61 #[va, vl, Value.pointer (some ⟨p, 0, none⟩)] w (Ret fun r w' => ∃ G' z', GNew w F G G' ∧ Has G' w' ∧ (r = .tuple #[] ∧ z'.map Prod.fst = z0.map Prod.fst ++ schains ah l ∧ StC G' z') ∧ KeptG (outA 41 35 p (z')) F G' w w') := by
 refine enterO (args := [_, _, _]) (G := G) (A := outA 41 35 p (z0)) (l := [(0, va), (1, vl), (2, Value.pointer (some ⟨p, 0, none⟩))]) Try.func61 rfl Try.ntmps61 hG hA hFG ⟨rfl, rfl, rfl, trivial⟩ (Nat.le_of_ble_eq_true rfl) ?_
 obtain ⟨rs, hr, hpt, hps, rfl⟩ := hs.inv
 have hbd := hr.bound
 refine c_seq (c_region (r_val .none rfl (p_move rfl) ?_))
 refine r_val .none rfl (p_leng Try.underlying35 rfl hr) ?_
 have bd_1 := (hr).bound
 refine r_val .none rfl (p_move rfl) (r_nil (e_next (c_block ?_)))
 refine c_name (d := 2) rfl (fun u_2 hu_2 => ?_)
 refine c_name (d := 8) rfl (fun u_3 hu_3 => ?_)
 refine c_name (d := 9) rfl (fun u_4 hu_4 => ?_)
 refine c_loop (σ := Nat × Value × List (List ST × Value) × Ghost) (fun s => [(10, Value.int .i64 (s.1 : Nat)), (0, s.2.1), (2, u_2), (8, u_3), (9, u_4)]) (fun s => [outA 41 35 p (s.2.2.1)]) (fun s => s.2.2.2) (fun s => s.1 ≤ rs.length ∧ Ss s.2.2.2 s.2.1 (ah ++ (rs.map Prod.fst).take s.1) ∧ s.2.2.1.map Prod.fst = z0.map Prod.fst ++ schains ah ((rs.map Prod.fst).take s.1) ∧ StC s.2.2.2 s.2.2.1 ∧ GNew w F G s.2.2.2) (fun s => rs.length - s.1) ((0, _, z0, _)) ⟨Nat.zero_le _, by simpa using hsa, by simp [schains], hz0, GNew.refl _ _ _⟩ rfl ⟨rfl, rfl, rfl, rfl, rfl, trivial⟩ (.keep (fun _ _ h => h) (.nil)) (fun s hphi => ?_)
 subst hu_2
 subst hu_3
 subst hu_4
 obtain ⟨k, v, z, H⟩ := s
 obtain ⟨hk, hva, hzq, hzc, hgn⟩ := hphi
 dsimp only at hk hva hzq hzc hgn ⊢
 obtain ⟨es, ha, hat, hap, hal⟩ := hva.inv
 have hla : es.length = ah.length + k := by have := congrArg List.length hal; simp at this; omega
 have hzl : z.length = z0.length + (schains ah ((rs.map Prod.fst).take k)).length := by have := congrArg List.length hzq; simpa using this
 have hcl := schains_len ((rs.map Prod.fst).take k) ah
 have hst0 := sszL_take_le (rs.map Prod.fst) k
 have hll := sszL_len (rs.map Prod.fst)
 rw [List.length_map] at hll
 replace hsa := hsa.mono hgn.le
 replace hr := hr.mono hgn.le
 replace hpt := fun p hm0 => (hpt p hm0).mono hgn.le
 replace hps := fun p hm0 => (hps p hm0).mono hgn.le
 refine c_seq (c_region ?_)
 refine r_val .none rfl (p_lt rfl rfl) ?_
 refine r_nil (e_next (c_seq ?_))
 refine c_splitd (d := 11) rfl (fun h_5 => ?_) (fun h_5 => ?_)
 · (
 first
 | (exfalso; omega)
 | (
 refine c_cond_t rfl (c_skip (e_next (c_seq (c_block ?_))))
 refine c_seq (c_region ?_)
 refine r_iaddr_g .none rfl Try.underlying35 sz50 rfl hr rfl (by first | exact odt rfl | omega) (fun p_7 o_8 R_6 => ?_)
 have ht_9 := hpt _ (getD_mem (i := k) (d := s0) (by omega))
 have hc_10 := hps _ (getD_mem (i := k) (d := s0) (by omega))
 have hkl := sszL_len ((rs.map Prod.fst).take k)
 rw [List.length_take, List.length_map] at hkl
 have hsk := sszL_take (rs := rs) (k := k) (by omega)
 have hsk2 := sszL_take_le (rs.map Prod.fst) (k + 1)
 have hsq := ssz_eq (rs.getD k s0).1
 refine r_val .none rfl (p_ldga0 Try.underlying50 rfl sz50 rfl R_6 (by first | exact odt rfl | omega) (rfl : _ = Value.agg #[_, _, _, _, _, _])) ?_
 refine r_alloc .none rfl zr50 (IsRow.lit _) (fun b_1 => ?_)
 refine r_stw (k := 0) .none sz50 rfl rfl (IsRow.lit _) (one_lit rfl (all_cons rfl (all_cons rfl (all_cons rfl (all_cons rfl (all_cons (ht_9).one (all_cons (hc_10).one rfl))))))) rfl ?_
 refine r_nil (e_next (c_seq (c_seq (c_region ?_))))
 refine r_val .none rfl (p_field Try.underlying50 rfl sz3 rfl) ?_
 refine r_val .none rfl (p_ld (k := 0) Try.underlying3 rfl rfl rfl (by first | exact odt rfl | omega) (rfl : _ = Value.int _ _)) ?_
 refine r_val .none rfl (p_eq rfl rfl) ?_
 refine r_nil (e_next ?_)
 refine c_splitd (d := 16) rfl (fun h_11 => ?_) (fun h_11 => ?_)
 · (
 have hk3 := h_11
 first
 | (exfalso; omega)
 | (
 refine c_cond_t rfl (c_region (r_val .none rfl (p_move rfl) ?_))
 refine r_val .none rfl (p_field Try.underlying50 rfl sz35 rfl) ?_
 refine r_val .none rfl (p_ld (k := 0) Try.underlying35 rfl rfl rfl (by first | exact odt rfl | omega) rfl) ?_
 refine r_val .none rfl (p_move rfl) ?_
 refine r_callox (k := 1) (vs := [_, _, _]) .none rfl cl61 rfl rfl (fun w F hw hA hFG => ih _ _ _ _ _ _ _ _ w (Nat.le_of_lt_succ (Nat.lt_of_lt_of_le (ssub_size (by omega)) hz)) (by rw [List.length_append, List.length_take, List.length_map]; omega) (by omega) hva hc_10 hzc hw hA hFG) (fun G_12 v_15 z_17 hn_13 hr_14 => ?_)
 replace hsa := hsa.mono hn_13.le
 replace hr := hr.mono hn_13.le
 replace hpt := fun p hm0 => (hpt p hm0).mono hn_13.le
 replace hps := fun p hm0 => (hps p hm0).mono hn_13.le
 replace ha := ha.mono hn_13.le
 replace hat := fun p hm0 => (hat p hm0).mono hn_13.le
 replace hap := fun p hm0 => (hap p hm0).mono hn_13.le
 replace hva := hva.mono hn_13.le
 replace hzc := StC.mono hzc hn_13.le
 replace R_6 := R_6.mono hn_13.le
 replace ht_9 := ht_9.mono hn_13.le
 replace hc_10 := hc_10.mono hn_13.le
 obtain ⟨-, u_16q, u_16c⟩ := hr_14
 refine r_nil (e_next (c_seq ?_))
 refine c_region_d (fun _ => false) _ mixed (.keep (fun _ _ h => h) (.keep (fun _ _ h => h) (.nil))) ?_
 refine d_val1 0 rfl rfl (by kernel_rfl) (fun _ _ => rfl) .none rfl (p_move rfl) ?_
 refine d_val1 2 rfl rfl (by kernel_rfl) (fun _ _ => rfl) .none rfl (p_ldw (k := 0) Try.underlying50 rfl sz50 rfl rfl (rfl : _ = Value.agg #[_, _, _, _, _, _])) ?_
 refine d_eff2 1 3 rfl rfl (by kernel_rfl) (fun K_18 hKK_18 hcK_18 => ?_) (fun K_18 hKK_18 hcK_18 => ?_)
 · (
 refine r_callrow (vs := [_]) .none rfl cl72 rfl (fun w hw => c_cloneS _ es ha (by omega) hat hap w hw) (fun v_19 => ?_)
 refine r_nil (e_d (i := 1) (brk := (fun _ => false)) (ph' := true) hKK_18 hcK_18 rfl (fun _ => GLe.refl _) (fun _ => .drop (.keep (fun _ _ h => h) (.keep (fun _ _ h => h) (.nil)))) ?_)
 clear hKK_18 hcK_18 K_18
 refine d_eff 3 rfl (by kernel_rfl) (fun K_20 hKK_20 hcK_20 => ?_)
 refine r_bslice (vs := [(0, Value.agg #[_, _, _, _, _, _])]) (c := #[_, _, _, _, _, _]) .none rfl Try.underlying35 el50 rfl rfl rfl (bs50_10a6 _ _ _ _ _ _) (IsRow.lit _) (fun b_2 => ?_)
 refine r_nil (e_d (i := 3) (brk := (fun _ => false)) (ph' := true) hKK_20 hcK_20 rfl (fun _ => GLe.refl _) (fun _ => .drop (.drop (.keep (fun _ _ h => h) (.keep (fun _ _ h => h) (.nil))))) ?_)
 clear hKK_20 hcK_20 K_20
 refine d_eff 4 rfl (by kernel_rfl) (fun K_21 hKK_21 hcK_21 => ?_)
 refine r_append (k := 1) (k2 := 0) .none rfl Try.underlying35 el50 rfl (by decide) rfl rfl rfl rfl rfl (one_lit rfl (all_cons rfl (all_cons rfl (all_cons rfl (all_cons rfl (all_cons (ht_9).one (all_cons (hc_10).one rfl))))))) (by simp only [maxLen]; omega) (by omega) (fun v_22 => ?_)
 refine r_row1 (k := 1) rfl (fun o_23 => ?_)
 refine r_nil (e_d (i := 4) (brk := (fun _ => false)) (ph' := true) hKK_21 hcK_21 rfl (fun _ => GLe.refl _) (fun _ => .drop (.drop (.keep (fun _ _ h => h) (.keep (fun _ _ h => h) (.nil))))) ?_)
 clear hKK_21 hcK_21 K_21
 refine d_val1 5 rfl rfl (by kernel_rfl) (fun _ _ => rfl) .none rfl (p_assign rfl) ?_
 refine d_nil (by kernel_rfl) ?_
 refine e_next (c_region ?_)
 refine r_freeze (k := 1) rfl (fun G_24 hn_25 hs_26 => ?_)
 replace hsa := hsa.mono hn_25.le
 replace hr := hr.mono hn_25.le
 replace hpt := fun p hm0 => (hpt p hm0).mono hn_25.le
 replace hps := fun p hm0 => (hps p hm0).mono hn_25.le
 replace ha := ha.mono hn_25.le
 replace hat := fun p hm0 => (hat p hm0).mono hn_25.le
 replace hap := fun p hm0 => (hap p hm0).mono hn_25.le
 replace hva := hva.mono hn_25.le
 replace hzc := StC.mono hzc hn_25.le
 replace R_6 := R_6.mono hn_25.le
 replace ht_9 := ht_9.mono hn_25.le
 replace hc_10 := hc_10.mono hn_25.le
 replace u_16c := StC.mono u_16c hn_25.le
 have hs2 : SlL G_24 v_22 6 sC s0 (es ++ [rs.getD k s0]) := SlL.of2 s0 (fun _ => rfl) (by simp) (by rw [List.flatMap_append, List.flatMap_cons, List.flatMap_nil, List.append_nil]; rfl) hs_26
 have ht2 : ∀ p ∈ es ++ [rs.getD k s0], SlL G_24 p.2.1 3 tC t0 p.1.h.ts := fun p hp' => by rcases List.mem_append.1 hp' with h | h; exact hat p h; rw [List.mem_singleton.1 h]; exact ht_9
 have hp2 : ∀ p ∈ es ++ [rs.getD k s0], Ss G_24 p.2.2 p.1.subs := fun p hp' => by rcases List.mem_append.1 hp' with h | h; exact hap p h; rw [List.mem_singleton.1 h]; exact hc_10
 have hva2 : Ss G_24 v_22 (ah ++ (rs.map Prod.fst).take k ++ [(rs.getD k s0).1]) := by have h := Ss.mk _ hs2 ht2 hp2; rw [List.map_append, ← hal] at h; exact h
 refine r_front (k := 2) rfl ?_
 refine r_unpackout (fun ov => ?_)
 refine r_row1 (k := 1) rfl (fun o1 => ?_)
 refine r_val .none rfl (p_move rfl) (r_val .none rfl (p_move rfl) ?_)
 refine r_val .none rfl (p_nilcheck rfl) ?_
 refine r_val .none rfl (p_ld (k := 0) Try.underlying41 rfl rfl rfl (by first | exact odt rfl | omega) rfl) ?_
 refine r_val .none rfl (p_move rfl) ?_
 obtain ⟨a_27, c_28, rfl⟩ := SlG.len hs2
 refine r_bslice (vs := [(0, Value.slice _ _ _)]) (c := #[_]) .none rfl Try.underlying41 el35 rfl rfl rfl (bs35_10s3 _ _ _) (IsRow.lit _) (fun b_3 => ?_)
 refine r_append (k := 2) (k2 := 0) .none rfl Try.underlying41 el35 rfl (by decide) rfl rfl rfl rfl rfl (one_lit rfl rfl) (by first | (simp only [maxLen]; omega) | (have h9 := congrArg List.length u_16q; rw [List.length_append, List.length_map, List.length_map] at h9; have h10 := schains_len (rs.getD k s0).1.subs (ah ++ (rs.map Prod.fst).take k); simp only [maxLen]; omega)) (by first | omega | (have h9 := congrArg List.length u_16q; rw [List.length_append, List.length_map, List.length_map] at h9; have h10 := schains_len (rs.getD k s0).1.subs (ah ++ (rs.map Prod.fst).take k); omega)) (fun v_29 => ?_)
 refine r_row1 (k := 2) rfl (fun o_30 => ?_)
 refine r_val .none rfl (p_nilcheck rfl) ?_
 refine r_st (k := 1) .none sz41 rfl rfl o_30 rfl (by first | exact odt rfl | omega) ?_
 refine r_front (k := 1) rfl ?_
 refine r_front (k := 2) rfl ?_
 refine r_packout (rs := z_17 ++ [(ah ++ (rs.map Prod.fst).take k ++ [(rs.getD k s0).1], Value.slice a_27 (es ++ [rs.getD k s0]).length c_28)]) rfl (by simp) (by rw [List.flatMap_append]; rfl) ?_
 refine r_nil ?_
 refine e_norm_block ?_
 refine e_next (c_region ?_)
 refine r_val .none rfl (p_add rfl rfl (by omega)) ?_
 refine r_val .none rfl (p_move rfl) (r_nil ?_)
 refine e_round ((k + 1, _, z_17 ++ [(ah ++ (rs.map Prod.fst).take k ++ [(rs.getD k s0).1], Value.slice a_27 (es ++ [rs.getD k s0]).length c_28)], _)) ⟨⟨by dsimp only; omega, by rw [sv_take (by omega), ← List.append_assoc]; exact hva2, by rw [List.map_append, u_16q, hzq, schains_take (by omega), schain1_ncc hk3, List.append_assoc, List.append_assoc]; rfl, StC.snoc u_16c hva2, ((hgn.trans hn_13).trans hn_25)⟩, by dsimp only; omega⟩ rfl ⟨rfl, rfl, rfl, rfl, rfl, trivial⟩ (.keep (fun _ _ h => h) (.drop (.drop (.drop (.nil))))))
 · (
 refine r_bslice (vs := [(0, Value.agg #[_, _, _, _, _, _])]) (c := #[_, _, _, _, _, _]) .none rfl Try.underlying35 el50 rfl rfl rfl (bs50_10a6 _ _ _ _ _ _) (IsRow.lit _) (fun b_4 => ?_)
 refine r_nil (e_d (i := 3) (brk := (fun _ => false)) (ph' := true) hKK_18 hcK_18 rfl (fun _ => GLe.refl _) (fun _ => .drop (.keep (fun _ _ h => h) (.keep (fun _ _ h => h) (.nil)))) ?_)
 clear hKK_18 hcK_18 K_18
 refine d_eff 1 rfl (by kernel_rfl) (fun K_31 hKK_31 hcK_31 => ?_)
 refine r_callrow (vs := [_]) .none rfl cl72 rfl (fun w hw => c_cloneS _ es ha (by omega) hat hap w hw) (fun v_32 => ?_)
 refine r_nil (e_d (i := 1) (brk := (fun _ => false)) (ph' := true) hKK_31 hcK_31 rfl (fun _ => GLe.refl _) (fun _ => .drop (.drop (.keep (fun _ _ h => h) (.keep (fun _ _ h => h) (.nil))))) ?_)
 clear hKK_31 hcK_31 K_31
 refine d_eff 4 rfl (by kernel_rfl) (fun K_33 hKK_33 hcK_33 => ?_)
 refine r_append (k := 0) (k2 := 1) .none rfl Try.underlying35 el50 rfl (by decide) rfl rfl rfl rfl rfl (one_lit rfl (all_cons rfl (all_cons rfl (all_cons rfl (all_cons rfl (all_cons (ht_9).one (all_cons (hc_10).one rfl))))))) (by simp only [maxLen]; omega) (by omega) (fun v_34 => ?_)
 refine r_row1 (k := 0) rfl (fun o_35 => ?_)
 refine r_nil (e_d (i := 4) (brk := (fun _ => false)) (ph' := true) hKK_33 hcK_33 rfl (fun _ => GLe.refl _) (fun _ => .drop (.drop (.keep (fun _ _ h => h) (.keep (fun _ _ h => h) (.nil))))) ?_)
 clear hKK_33 hcK_33 K_33
 refine d_val1 5 rfl rfl (by kernel_rfl) (fun _ _ => rfl) .none rfl (p_assign rfl) ?_
 refine d_nil (by kernel_rfl) ?_
 refine e_next (c_region ?_)
 refine r_freeze (k := 0) rfl (fun G_36 hn_37 hs_38 => ?_)
 replace hsa := hsa.mono hn_37.le
 replace hr := hr.mono hn_37.le
 replace hpt := fun p hm0 => (hpt p hm0).mono hn_37.le
 replace hps := fun p hm0 => (hps p hm0).mono hn_37.le
 replace ha := ha.mono hn_37.le
 replace hat := fun p hm0 => (hat p hm0).mono hn_37.le
 replace hap := fun p hm0 => (hap p hm0).mono hn_37.le
 replace hva := hva.mono hn_37.le
 replace hzc := StC.mono hzc hn_37.le
 replace R_6 := R_6.mono hn_37.le
 replace ht_9 := ht_9.mono hn_37.le
 replace hc_10 := hc_10.mono hn_37.le
 replace u_16c := StC.mono u_16c hn_37.le
 have hs2 : SlL G_36 v_34 6 sC s0 (es ++ [rs.getD k s0]) := SlL.of2 s0 (fun _ => rfl) (by simp) (by rw [List.flatMap_append, List.flatMap_cons, List.flatMap_nil, List.append_nil]; rfl) hs_38
 have ht2 : ∀ p ∈ es ++ [rs.getD k s0], SlL G_36 p.2.1 3 tC t0 p.1.h.ts := fun p hp' => by rcases List.mem_append.1 hp' with h | h; exact hat p h; rw [List.mem_singleton.1 h]; exact ht_9
 have hp2 : ∀ p ∈ es ++ [rs.getD k s0], Ss G_36 p.2.2 p.1.subs := fun p hp' => by rcases List.mem_append.1 hp' with h | h; exact hap p h; rw [List.mem_singleton.1 h]; exact hc_10
 have hva2 : Ss G_36 v_34 (ah ++ (rs.map Prod.fst).take k ++ [(rs.getD k s0).1]) := by have h := Ss.mk _ hs2 ht2 hp2; rw [List.map_append, ← hal] at h; exact h
 refine r_front (k := 2) rfl ?_
 refine r_unpackout (fun ov => ?_)
 refine r_row1 (k := 1) rfl (fun o1 => ?_)
 refine r_val .none rfl (p_move rfl) (r_val .none rfl (p_move rfl) ?_)
 refine r_val .none rfl (p_nilcheck rfl) ?_
 refine r_val .none rfl (p_ld (k := 0) Try.underlying41 rfl rfl rfl (by first | exact odt rfl | omega) rfl) ?_
 refine r_val .none rfl (p_move rfl) ?_
 obtain ⟨a_39, c_40, rfl⟩ := SlG.len hs2
 refine r_bslice (vs := [(0, Value.slice _ _ _)]) (c := #[_]) .none rfl Try.underlying41 el35 rfl rfl rfl (bs35_10s3 _ _ _) (IsRow.lit _) (fun b_5 => ?_)
 refine r_append (k := 2) (k2 := 0) .none rfl Try.underlying41 el35 rfl (by decide) rfl rfl rfl rfl rfl (one_lit rfl rfl) (by first | (simp only [maxLen]; omega) | (have h9 := congrArg List.length u_16q; rw [List.length_append, List.length_map, List.length_map] at h9; have h10 := schains_len (rs.getD k s0).1.subs (ah ++ (rs.map Prod.fst).take k); simp only [maxLen]; omega)) (by first | omega | (have h9 := congrArg List.length u_16q; rw [List.length_append, List.length_map, List.length_map] at h9; have h10 := schains_len (rs.getD k s0).1.subs (ah ++ (rs.map Prod.fst).take k); omega)) (fun v_41 => ?_)
 refine r_row1 (k := 2) rfl (fun o_42 => ?_)
 refine r_val .none rfl (p_nilcheck rfl) ?_
 refine r_st (k := 1) .none sz41 rfl rfl o_42 rfl (by first | exact odt rfl | omega) ?_
 refine r_front (k := 1) rfl ?_
 refine r_front (k := 2) rfl ?_
 refine r_packout (rs := z_17 ++ [(ah ++ (rs.map Prod.fst).take k ++ [(rs.getD k s0).1], Value.slice a_39 (es ++ [rs.getD k s0]).length c_40)]) rfl (by simp) (by rw [List.flatMap_append]; rfl) ?_
 refine r_nil ?_
 refine e_norm_block ?_
 refine e_next (c_region ?_)
 refine r_val .none rfl (p_add rfl rfl (by omega)) ?_
 refine r_val .none rfl (p_move rfl) (r_nil ?_)
 refine e_round ((k + 1, _, z_17 ++ [(ah ++ (rs.map Prod.fst).take k ++ [(rs.getD k s0).1], Value.slice a_39 (es ++ [rs.getD k s0]).length c_40)], _)) ⟨⟨by dsimp only; omega, by rw [sv_take (by omega), ← List.append_assoc]; exact hva2, by rw [List.map_append, u_16q, hzq, schains_take (by omega), schain1_ncc hk3, List.append_assoc, List.append_assoc]; rfl, StC.snoc u_16c hva2, ((hgn.trans hn_13).trans hn_37)⟩, by dsimp only; omega⟩ rfl ⟨rfl, rfl, rfl, rfl, rfl, trivial⟩ (.keep (fun _ _ h => h) (.drop (.drop (.drop (.nil))))))))
 · (
 have hk3 := h_11
 first
 | (exfalso; omega)
 | (
 refine c_cond_f rfl (c_skip (e_next (c_seq ?_)))
 refine c_region_d (fun _ => false) _ mixed (.keep (fun _ _ h => h) (.keep (fun _ _ h => h) (.nil))) ?_
 refine d_val1 0 rfl rfl (by kernel_rfl) (fun _ _ => rfl) .none rfl (p_move rfl) ?_
 refine d_val1 2 rfl rfl (by kernel_rfl) (fun _ _ => rfl) .none rfl (p_ldw (k := 0) Try.underlying50 rfl sz50 rfl rfl (rfl : _ = Value.agg #[_, _, _, _, _, _])) ?_
 refine d_eff2 1 3 rfl rfl (by kernel_rfl) (fun K_43 hKK_43 hcK_43 => ?_) (fun K_43 hKK_43 hcK_43 => ?_)
 · (
 refine r_callrow (vs := [_]) .none rfl cl72 rfl (fun w hw => c_cloneS _ es ha (by omega) hat hap w hw) (fun v_44 => ?_)
 refine r_nil (e_d (i := 1) (brk := (fun _ => false)) (ph' := true) hKK_43 hcK_43 rfl (fun _ => GLe.refl _) (fun _ => .drop (.keep (fun _ _ h => h) (.keep (fun _ _ h => h) (.nil)))) ?_)
 clear hKK_43 hcK_43 K_43
 refine d_eff 3 rfl (by kernel_rfl) (fun K_45 hKK_45 hcK_45 => ?_)
 refine r_bslice (vs := [(0, Value.agg #[_, _, _, _, _, _])]) (c := #[_, _, _, _, _, _]) .none rfl Try.underlying35 el50 rfl rfl rfl (bs50_10a6 _ _ _ _ _ _) (IsRow.lit _) (fun b_6 => ?_)
 refine r_nil (e_d (i := 3) (brk := (fun _ => false)) (ph' := true) hKK_45 hcK_45 rfl (fun _ => GLe.refl _) (fun _ => .drop (.drop (.keep (fun _ _ h => h) (.keep (fun _ _ h => h) (.nil))))) ?_)
 clear hKK_45 hcK_45 K_45
 refine d_eff 4 rfl (by kernel_rfl) (fun K_46 hKK_46 hcK_46 => ?_)
 refine r_append (k := 1) (k2 := 0) .none rfl Try.underlying35 el50 rfl (by decide) rfl rfl rfl rfl rfl (one_lit rfl (all_cons rfl (all_cons rfl (all_cons rfl (all_cons rfl (all_cons (ht_9).one (all_cons (hc_10).one rfl))))))) (by simp only [maxLen]; omega) (by omega) (fun v_47 => ?_)
 refine r_row1 (k := 1) rfl (fun o_48 => ?_)
 refine r_nil (e_d (i := 4) (brk := (fun _ => false)) (ph' := true) hKK_46 hcK_46 rfl (fun _ => GLe.refl _) (fun _ => .drop (.drop (.keep (fun _ _ h => h) (.keep (fun _ _ h => h) (.nil))))) ?_)
 clear hKK_46 hcK_46 K_46
 refine d_val1 5 rfl rfl (by kernel_rfl) (fun _ _ => rfl) .none rfl (p_assign rfl) ?_
 refine d_nil (by kernel_rfl) ?_
 refine e_next (c_region ?_)
 refine r_freeze (k := 1) rfl (fun G_49 hn_50 hs_51 => ?_)
 replace hsa := hsa.mono hn_50.le
 replace hr := hr.mono hn_50.le
 replace hpt := fun p hm0 => (hpt p hm0).mono hn_50.le
 replace hps := fun p hm0 => (hps p hm0).mono hn_50.le
 replace ha := ha.mono hn_50.le
 replace hat := fun p hm0 => (hat p hm0).mono hn_50.le
 replace hap := fun p hm0 => (hap p hm0).mono hn_50.le
 replace hva := hva.mono hn_50.le
 replace hzc := StC.mono hzc hn_50.le
 replace R_6 := R_6.mono hn_50.le
 replace ht_9 := ht_9.mono hn_50.le
 replace hc_10 := hc_10.mono hn_50.le
 have hs2 : SlL G_49 v_47 6 sC s0 (es ++ [rs.getD k s0]) := SlL.of2 s0 (fun _ => rfl) (by simp) (by rw [List.flatMap_append, List.flatMap_cons, List.flatMap_nil, List.append_nil]; rfl) hs_51
 have ht2 : ∀ p ∈ es ++ [rs.getD k s0], SlL G_49 p.2.1 3 tC t0 p.1.h.ts := fun p hp' => by rcases List.mem_append.1 hp' with h | h; exact hat p h; rw [List.mem_singleton.1 h]; exact ht_9
 have hp2 : ∀ p ∈ es ++ [rs.getD k s0], Ss G_49 p.2.2 p.1.subs := fun p hp' => by rcases List.mem_append.1 hp' with h | h; exact hap p h; rw [List.mem_singleton.1 h]; exact hc_10
 have hva2 : Ss G_49 v_47 (ah ++ (rs.map Prod.fst).take k ++ [(rs.getD k s0).1]) := by have h := Ss.mk _ hs2 ht2 hp2; rw [List.map_append, ← hal] at h; exact h
 refine r_front (k := 2) rfl ?_
 refine r_unpackout (fun ov => ?_)
 refine r_row1 (k := 1) rfl (fun o1 => ?_)
 refine r_val .none rfl (p_move rfl) (r_val .none rfl (p_move rfl) ?_)
 refine r_val .none rfl (p_nilcheck rfl) ?_
 refine r_val .none rfl (p_ld (k := 0) Try.underlying41 rfl rfl rfl (by first | exact odt rfl | omega) rfl) ?_
 refine r_val .none rfl (p_move rfl) ?_
 obtain ⟨a_52, c_53, rfl⟩ := SlG.len hs2
 refine r_bslice (vs := [(0, Value.slice _ _ _)]) (c := #[_]) .none rfl Try.underlying41 el35 rfl rfl rfl (bs35_10s3 _ _ _) (IsRow.lit _) (fun b_7 => ?_)
 refine r_append (k := 2) (k2 := 0) .none rfl Try.underlying41 el35 rfl (by decide) rfl rfl rfl rfl rfl (one_lit rfl rfl) (by first | (simp only [maxLen]; omega) | (have h9 := congrArg List.length q; rw [List.length_append, List.length_map, List.length_map] at h9; have h10 := schains_len (rs.getD k s0).1.subs (ah ++ (rs.map Prod.fst).take k); simp only [maxLen]; omega)) (by first | omega | (have h9 := congrArg List.length q; rw [List.length_append, List.length_map, List.length_map] at h9; have h10 := schains_len (rs.getD k s0).1.subs (ah ++ (rs.map Prod.fst).take k); omega)) (fun v_54 => ?_)
 refine r_row1 (k := 2) rfl (fun o_55 => ?_)
 refine r_val .none rfl (p_nilcheck rfl) ?_
 refine r_st (k := 1) .none sz41 rfl rfl o_55 rfl (by first | exact odt rfl | omega) ?_
 refine r_front (k := 1) rfl ?_
 refine r_front (k := 2) rfl ?_
 refine r_packout (rs := z ++ [(ah ++ (rs.map Prod.fst).take k ++ [(rs.getD k s0).1], Value.slice a_52 (es ++ [rs.getD k s0]).length c_53)]) rfl (by simp) (by rw [List.flatMap_append]; rfl) ?_
 refine r_nil ?_
 refine e_norm_block ?_
 refine e_next (c_region ?_)
 refine r_val .none rfl (p_add rfl rfl (by omega)) ?_
 refine r_val .none rfl (p_move rfl) (r_nil ?_)
 refine e_round ((k + 1, _, z ++ [(ah ++ (rs.map Prod.fst).take k ++ [(rs.getD k s0).1], Value.slice a_52 (es ++ [rs.getD k s0]).length c_53)], _)) ⟨⟨by dsimp only; omega, by rw [sv_take (by omega), ← List.append_assoc]; exact hva2, by rw [List.map_append, hzq, schains_take (by omega), schain1_other hk3, List.append_assoc]; rfl, StC.snoc hzc hva2, (hgn.trans hn_50)⟩, by dsimp only; omega⟩ rfl ⟨rfl, rfl, rfl, rfl, rfl, trivial⟩ (.keep (fun _ _ h => h) (.drop (.drop (.drop (.nil))))))
 · (
 refine r_bslice (vs := [(0, Value.agg #[_, _, _, _, _, _])]) (c := #[_, _, _, _, _, _]) .none rfl Try.underlying35 el50 rfl rfl rfl (bs50_10a6 _ _ _ _ _ _) (IsRow.lit _) (fun b_8 => ?_)
 refine r_nil (e_d (i := 3) (brk := (fun _ => false)) (ph' := true) hKK_43 hcK_43 rfl (fun _ => GLe.refl _) (fun _ => .drop (.keep (fun _ _ h => h) (.keep (fun _ _ h => h) (.nil)))) ?_)
 clear hKK_43 hcK_43 K_43
 refine d_eff 1 rfl (by kernel_rfl) (fun K_56 hKK_56 hcK_56 => ?_)
 refine r_callrow (vs := [_]) .none rfl cl72 rfl (fun w hw => c_cloneS _ es ha (by omega) hat hap w hw) (fun v_57 => ?_)
 refine r_nil (e_d (i := 1) (brk := (fun _ => false)) (ph' := true) hKK_56 hcK_56 rfl (fun _ => GLe.refl _) (fun _ => .drop (.drop (.keep (fun _ _ h => h) (.keep (fun _ _ h => h) (.nil))))) ?_)
 clear hKK_56 hcK_56 K_56
 refine d_eff 4 rfl (by kernel_rfl) (fun K_58 hKK_58 hcK_58 => ?_)
 refine r_append (k := 0) (k2 := 1) .none rfl Try.underlying35 el50 rfl (by decide) rfl rfl rfl rfl rfl (one_lit rfl (all_cons rfl (all_cons rfl (all_cons rfl (all_cons rfl (all_cons (ht_9).one (all_cons (hc_10).one rfl))))))) (by simp only [maxLen]; omega) (by omega) (fun v_59 => ?_)
 refine r_row1 (k := 0) rfl (fun o_60 => ?_)
 refine r_nil (e_d (i := 4) (brk := (fun _ => false)) (ph' := true) hKK_58 hcK_58 rfl (fun _ => GLe.refl _) (fun _ => .drop (.drop (.keep (fun _ _ h => h) (.keep (fun _ _ h => h) (.nil))))) ?_)
 clear hKK_58 hcK_58 K_58
 refine d_val1 5 rfl rfl (by kernel_rfl) (fun _ _ => rfl) .none rfl (p_assign rfl) ?_
 refine d_nil (by kernel_rfl) ?_
 refine e_next (c_region ?_)
 refine r_freeze (k := 0) rfl (fun G_61 hn_62 hs_63 => ?_)
 replace hsa := hsa.mono hn_62.le
 replace hr := hr.mono hn_62.le
 replace hpt := fun p hm0 => (hpt p hm0).mono hn_62.le
 replace hps := fun p hm0 => (hps p hm0).mono hn_62.le
 replace ha := ha.mono hn_62.le
 replace hat := fun p hm0 => (hat p hm0).mono hn_62.le
 replace hap := fun p hm0 => (hap p hm0).mono hn_62.le
 replace hva := hva.mono hn_62.le
 replace hzc := StC.mono hzc hn_62.le
 replace R_6 := R_6.mono hn_62.le
 replace ht_9 := ht_9.mono hn_62.le
 replace hc_10 := hc_10.mono hn_62.le
 have hs2 : SlL G_61 v_59 6 sC s0 (es ++ [rs.getD k s0]) := SlL.of2 s0 (fun _ => rfl) (by simp) (by rw [List.flatMap_append, List.flatMap_cons, List.flatMap_nil, List.append_nil]; rfl) hs_63
 have ht2 : ∀ p ∈ es ++ [rs.getD k s0], SlL G_61 p.2.1 3 tC t0 p.1.h.ts := fun p hp' => by rcases List.mem_append.1 hp' with h | h; exact hat p h; rw [List.mem_singleton.1 h]; exact ht_9
 have hp2 : ∀ p ∈ es ++ [rs.getD k s0], Ss G_61 p.2.2 p.1.subs := fun p hp' => by rcases List.mem_append.1 hp' with h | h; exact hap p h; rw [List.mem_singleton.1 h]; exact hc_10
 have hva2 : Ss G_61 v_59 (ah ++ (rs.map Prod.fst).take k ++ [(rs.getD k s0).1]) := by have h := Ss.mk _ hs2 ht2 hp2; rw [List.map_append, ← hal] at h; exact h
 refine r_front (k := 2) rfl ?_
 refine r_unpackout (fun ov => ?_)
 refine r_row1 (k := 1) rfl (fun o1 => ?_)
 refine r_val .none rfl (p_move rfl) (r_val .none rfl (p_move rfl) ?_)
 refine r_val .none rfl (p_nilcheck rfl) ?_
 refine r_val .none rfl (p_ld (k := 0) Try.underlying41 rfl rfl rfl (by first | exact odt rfl | omega) rfl) ?_
 refine r_val .none rfl (p_move rfl) ?_
 obtain ⟨a_64, c_65, rfl⟩ := SlG.len hs2
 refine r_bslice (vs := [(0, Value.slice _ _ _)]) (c := #[_]) .none rfl Try.underlying41 el35 rfl rfl rfl (bs35_10s3 _ _ _) (IsRow.lit _) (fun b_9 => ?_)
 refine r_append (k := 2) (k2 := 0) .none rfl Try.underlying41 el35 rfl (by decide) rfl rfl rfl rfl rfl (one_lit rfl rfl) (by first | (simp only [maxLen]; omega) | (have h9 := congrArg List.length q; rw [List.length_append, List.length_map, List.length_map] at h9; have h10 := schains_len (rs.getD k s0).1.subs (ah ++ (rs.map Prod.fst).take k); simp only [maxLen]; omega)) (by first | omega | (have h9 := congrArg List.length q; rw [List.length_append, List.length_map, List.length_map] at h9; have h10 := schains_len (rs.getD k s0).1.subs (ah ++ (rs.map Prod.fst).take k); omega)) (fun v_66 => ?_)
 refine r_row1 (k := 2) rfl (fun o_67 => ?_)
 refine r_val .none rfl (p_nilcheck rfl) ?_
 refine r_st (k := 1) .none sz41 rfl rfl o_67 rfl (by first | exact odt rfl | omega) ?_
 refine r_front (k := 1) rfl ?_
 refine r_front (k := 2) rfl ?_
 refine r_packout (rs := z ++ [(ah ++ (rs.map Prod.fst).take k ++ [(rs.getD k s0).1], Value.slice a_64 (es ++ [rs.getD k s0]).length c_65)]) rfl (by simp) (by rw [List.flatMap_append]; rfl) ?_
 refine r_nil ?_
 refine e_norm_block ?_
 refine e_next (c_region ?_)
 refine r_val .none rfl (p_add rfl rfl (by omega)) ?_
 refine r_val .none rfl (p_move rfl) (r_nil ?_)
 refine e_round ((k + 1, _, z ++ [(ah ++ (rs.map Prod.fst).take k ++ [(rs.getD k s0).1], Value.slice a_64 (es ++ [rs.getD k s0]).length c_65)], _)) ⟨⟨by dsimp only; omega, by rw [sv_take (by omega), ← List.append_assoc]; exact hva2, by rw [List.map_append, hzq, schains_take (by omega), schain1_other hk3, List.append_assoc]; rfl, StC.snoc hzc hva2, (hgn.trans hn_62)⟩, by dsimp only; omega⟩ rfl ⟨rfl, rfl, rfl, rfl, rfl, trivial⟩ (.keep (fun _ _ h => h) (.drop (.drop (.drop (.nil))))))))))
 · (
 first
 | (exfalso; omega)
 | (
 refine c_cond_f rfl (c_exit (e_exit_then (e_exit_then ?_)))
 refine e_exit_block ?_
 refine e_end0 Try.results61 (fun w hm => ⟨_, z, hgn, hm.has, ⟨rfl, by rw [hzq, List.take_of_length_le (by simp; omega)], hzc⟩, hm.keptG [outA _ _ p z] (.keep (fun _ _ h => h) (.nil)) (outA _ _ p z) (fun F' h => starL_one h)⟩)))
theorem c_growS_n : ∀ n, GrowSIs n
 | 0 => fun va vl ah l p z0 G F w hz _ _ _ _ _ _ _ _ => absurd hz (by cases l <;> simp)
 | n + 1 => fun va vl ah l p z0 G F w hz hsz hlz hsa hs hz0 hG hA hFG => c_growS_s n (c_growS_n n) va vl ah l p z0 hz hsz hlz hsa hs hz0 w hG hA hFG
theorem c_growS (va vl : Value) (ah l : List ST) (p : Nat) (z0 : List (List ST × Value)) {G : Ghost} {F : Nat → Prop} (hsz : ah.length + sszL l ≤ 1000) (hlz : z0.length + sszL l ≤ 9000) (hsa : Ss G va ah) (hs : Ss G vl l) (hz0 : StC G z0) (w : World) (hG : Has G w) (hA : (outA 41 35 p (z0)).holds w F) (hFG : ∀ b, F b → G b = none) : Calls Try.prog 61 #[va, vl, Value.pointer (some ⟨p, 0, none⟩)] w (Ret fun r w' => ∃ G' z', GNew w F G G' ∧ Has G' w' ∧ (r = .tuple #[] ∧ z'.map Prod.fst = z0.map Prod.fst ++ schains ah l ∧ StC G' z') ∧ KeptG (outA 41 35 p (z')) F G' w w') := c_growS_n _ va vl ah l p z0 G F w (Nat.le_refl _) hsz hlz hsa hs hz0 hG hA hFG
theorem c_chainsS (v : Value) (l : List ST) {G : Ghost} (hsz : sszL l ≤ 1000) (hs : Ss G v l) (w : World) (hG : Has G w) :
    Calls Try.prog 32 #[v] w (Ret fun r w' => ∃ G', GNew w nX G G' ∧ Has G' w' ∧ Ls (fun G v l => Ss G v l) ([] : List ST) G' r (schains [] l) ∧ Since nX w w') := by
 refine enter (args := [_]) (X := nX) (G := G) (l := [(0, v)]) Try.func32 rfl Try.ntmps32 hG ⟨rfl, trivial⟩ (Nat.le_of_ble_eq_true rfl) ?_
 refine c_seq (c_region (r_val .none rfl (p_assign rfl) (r_nil (e_next ?_))))
 refine c_seq (c_region ?_)
 refine r_alloc .none rfl zr41 (IsRow.lit [_]) (fun b_1 => ?_)
 refine r_nil (e_next (c_seq (c_region (r_val .none rfl (p_move rfl) ?_))))
 refine r_nilrow 35 1 ?_
 refine r_packout (rs := ([] : List (List ST × Value))) rfl rfl rfl ?_
 refine r_callox (k := 0) (vs := [_, _, _]) .none rfl cl61 rfl rfl (fun w F hw hA hFG => c_growS _ _ [] _ _ [] (by simp; omega) (by simp; omega) Ss.nil hs (by simp [StC]) w hw hA hFG) (fun G_1 v_4 z_6 hn_2 hr_3 => ?_)
 replace hs := hs.mono hn_2.le
 obtain ⟨-, u_5q, u_5c⟩ := hr_3
 refine r_nil (e_next (c_seq (c_region ?_)))
 refine r_unpackout (fun ov => ?_)
 refine r_row1 (k := 1) rfl (fun o1 => ?_)
 refine r_val .none rfl (p_ld (k := 0) Try.underlying41 rfl rfl rfl (by first | exact odt rfl | omega) rfl) ?_
 refine r_val .none rfl (p_assign rfl) (r_nil (e_next ?_))
 refine c_ret ?_
 refine e_freeze (k := 1) rfl (fun G_7 hn_8 hs_9 => ?_)
 replace hs := hs.mono hn_8.le
 replace u_5c := StC.mono u_5c hn_8.le
 refine e_ret1 Try.results32 (.tmp rfl .nil) (fun w hm => ⟨_, (hn_2.trans hn_8), hm.has, ?_, hm.since⟩)
 rw [show schains [] l = z_6.map Prod.fst by rw [u_5q]; rfl]
 exact Ls.mk _ (SlL.of (([] : List ST), Value.slice none 0 0) (fun _ => rfl) rfl hs_9) u_5c
end Go.Proofs.Ytdkfdncbldngdaa

/- Walks: what Go functions of this chapter come to, each as a function on plain data; no condition but those that each theorem names. Printed by a program of this work (gen.py). -/
namespace Go.Proofs.Ytdkfdncbldngdaa
open Go.Gx Go.Gx.T4 Go.Gx.T3 Go.Gx.T6 Go.Gx.T8 Go.Gx.T4 Go.Gx.T3 Go.Gx.T8 Go.Gx.T4 Go.Gx.T3 Go.Gx.T8 Go.Gx.T6 Go.Gx.T4 Go.Gx.T3
theorem cl14 : Callable Try.prog 14 := callable Try.func14 (by kernel_rfl) rfl
theorem bs29_10s3 (a0 : Option Addr) (a1 a2 : Nat) : Instr.fill (fun i => some (i * 1, 1)) ((Array.range (1 * 1)).map ((Value.slice none 0 0).cells[· % (Value.slice none 0 0).cells.size]!)) [(0, Value.slice a0 a1 a2)] = some #[Value.slice a0 a1 a2] := by
 kernel_rfl
theorem el29 : ElemIs Try.prog 29 1 24 (Value.slice none 0 0) := by
 unfold ElemIs
 kernel_rfl
def RchSIs (n : Nat) : Prop := ∀ (va vl : Value) (es : List SVal) (l : List ST) (G : Ghost) (F : Nat → Prop) (w : World), SizeOf.sizeOf l ≤ n → es.length + sszL l ≤ 5000 → (∀ p ∈ es, SlL G p.2.1 3 tC t0 p.1.h.ts) → (∀ p ∈ es, Ss G p.2.2 p.1.subs) → Ss G vl l → Has G w → (rowA va 90 6 es.length (es.flatMap sC)).holds w F → (∀ b, F b → G b = none) → Calls Try.prog 14 #[va, vl] w (Ret fun r w' => ∃ G', GNew w F G G' ∧ Has G' w' ∧ Ls (fun G v l => Ss G v l) ([] : List ST) G' r (schains (es.map Prod.fst) l) ∧ KeptG (rowA va 90 6 es.length (es.flatMap sC)) F G' w w')
theorem c_rchS_s (n : Nat) (ih : RchSIs n) (va vl : Value) (es : List SVal) (l : List ST) {G : Ghost} {F : Nat → Prop} (hz : SizeOf.sizeOf l ≤ n + 1) (hsz : es.length + sszL l ≤ 5000) (het : ∀ p ∈ es, SlL G p.2.1 3 tC t0 p.1.h.ts) (hes : ∀ p ∈ es, Ss G p.2.2 p.1.subs) (hs : Ss G vl l) (w : World) (hG : Has G w) (hA : (rowA va 90 6 es.length (es.flatMap sC)).holds w F) (hFG : ∀ b, F b → G b = none) :
    Calls Try.prog 14 #[va, vl] w (Ret fun r w' => ∃ G', GNew w F G G' ∧ Has G' w' ∧ Ls (fun G v l => Ss G v l) ([] : List ST) G' r (schains (es.map Prod.fst) l) ∧ KeptG (rowA va 90 6 es.length (es.flatMap sC)) F G' w w') := by
 refine enterO (args := [_, _]) (G := G) (A := rowA va 90 6 es.length (es.flatMap sC)) (l := [(0, va), (1, vl)]) Try.func14 rfl Try.ntmps14 hG hA hFG ⟨rfl, rfl, trivial⟩ (Nat.le_of_ble_eq_true rfl) ?_
 obtain ⟨rs, hr, hpt, hps, rfl⟩ := hs.inv
 have hbd := hr.bound
 refine c_seq (c_region (r_val .none rfl (p_assign rfl) (r_nil (e_next ?_))))
 refine c_seq (c_region (r_val .none rfl (p_assign rfl) (r_nil (e_next ?_))))
 refine c_seq (c_seq (c_region (r_val .none rfl (p_move rfl) ?_)))
 refine r_val .none rfl (p_leng Try.underlying29 rfl hr) ?_
 have bd_1 := (hr).bound
 refine r_val .none rfl (p_move rfl) (r_nil (e_next (c_block ?_)))
 refine c_nilrow 29 1 ?_
 refine c_name (d := 0) rfl (fun u_2 hu_2 => ?_)
 refine c_name (d := 1) rfl (fun u_3 hu_3 => ?_)
 refine c_name (d := 4) rfl (fun u_4 hu_4 => ?_)
 refine c_name (d := 9) rfl (fun u_5 hu_5 => ?_)
 refine c_name (d := 10) rfl (fun u_6 hu_6 => ?_)
 refine c_nameL (k := 1) rfl (fun A_7 hA_7 => ?_)
 refine c_loop (σ := Nat × Value × List (List ST × Value) × Ghost) (fun s => [(11, Value.int .i64 (s.1 : Nat)), (5, s.2.1), (0, u_2), (1, u_3), (4, u_4), (9, u_5), (10, u_6)]) (fun s => [rowA (s.2.1) 29 1 (s.2.2.1).length ((s.2.2.1).flatMap lC), A_7]) (fun s => s.2.2.2) (fun s => s.1 ≤ rs.length ∧ s.2.2.1.map Prod.fst = schains (es.map Prod.fst) ((rs.map Prod.fst).take s.1) ∧ StC s.2.2.2 s.2.2.1 ∧ GNew w F G s.2.2.2) (fun s => rs.length - s.1) ((0, _, [], _)) ⟨Nat.zero_le _, by simp [schains], by simp [StC], GNew.refl _ _ _⟩ rfl ⟨rfl, rfl, rfl, rfl, rfl, rfl, rfl, trivial⟩ (.keep (fun _ _ h => rowA_nil rfl _ _ h) (.keep (fun _ _ h => h) (.nil))) (fun s hphi => ?_)
 subst hu_2
 subst hu_3
 subst hu_4
 subst hu_5
 subst hu_6
 subst hA_7
 obtain ⟨k, v, z, H⟩ := s
 obtain ⟨hk, hzq, hzc, hgn⟩ := hphi
 dsimp only at hk hzq hzc hgn ⊢
 have hzl : z.length = (schains (es.map Prod.fst) ((rs.map Prod.fst).take k)).length := by have := congrArg List.length hzq; simpa using this
 have hcl := schains_len ((rs.map Prod.fst).take k) (es.map Prod.fst)
 have hst0 := sszL_take_le (rs.map Prod.fst) k
 have hll := sszL_len (rs.map Prod.fst)
 rw [List.length_map] at hll
 have hm9 : (es ++ rs.take k).map Prod.fst = es.map Prod.fst ++ (rs.map Prod.fst).take k := by rw [List.map_append, List.map_take]
 refine c_row1 (k := 0) rfl (fun ov => ?_)
 refine c_rowlen (k := 0) rfl (fun l63 => ?_)
 replace hr := hr.mono hgn.le
 replace hpt := fun p hm0 => (hpt p hm0).mono hgn.le
 replace hps := fun p hm0 => (hps p hm0).mono hgn.le
 replace het := fun p hm0 => (het p hm0).mono hgn.le
 replace hes := fun p hm0 => (hes p hm0).mono hgn.le
 refine c_seq (c_region ?_)
 refine r_val .none rfl (p_lt rfl rfl) ?_
 refine r_nil (e_next (c_seq ?_))
 refine c_splitd (d := 12) rfl (fun h_8 => ?_) (fun h_8 => ?_)
 · (
 first
 | (exfalso; omega)
 | (
 refine c_cond_t rfl (c_skip (e_next (c_seq (c_block ?_))))
 refine c_seq (c_region (r_val .none rfl (p_move rfl) ?_))
 refine r_iaddr_g .none rfl Try.underlying29 sz90 rfl hr rfl (by first | exact odt rfl | omega) (fun p_10 o_11 R_9 => ?_)
 have ht_12 := hpt _ (getD_mem (i := k) (d := s0) (by omega))
 have hc_13 := hps _ (getD_mem (i := k) (d := s0) (by omega))
 have hkl := sszL_len ((rs.map Prod.fst).take k)
 rw [List.length_take, List.length_map] at hkl
 have hsk := sszL_take (rs := rs) (k := k) (by omega)
 have hsk2 := sszL_take_le (rs.map Prod.fst) (k + 1)
 have hsq := ssz_eq (rs.getD k s0).1
 refine r_val .none rfl (p_ldga0 Try.underlying90 rfl sz90 rfl R_9 (by first | exact odt rfl | omega) (rfl : _ = Value.agg #[_, _, _, _, _, _])) ?_
 refine r_alloc .none rfl zr90 (IsRow.lit _) (fun b_1 => ?_)
 refine r_val .none rfl (p_assign rfl) ?_
 refine r_stw (k := 0) .none sz90 rfl rfl (IsRow.lit _) (one_lit rfl (all_cons rfl (all_cons rfl (all_cons rfl (all_cons rfl (all_cons (ht_12).one (all_cons (hc_13).one rfl))))))) rfl ?_
 refine r_nil (e_next (c_seq (c_region (r_val .none rfl (p_assign rfl) ?_))))
 refine r_nil (e_next (c_seq (c_region (r_val .none rfl (p_move rfl) ?_))))
 refine r_val .none rfl (p_move rfl) ?_
 refine r_nilrow 90 6 ?_
 refine r_append_o (k := 0) (k2 := 3) .none rfl Try.underlying29 el90 rfl (by decide) rfl rfl rfl rfl (ss_all het hes) (by simp only [maxLen]; omega) (by omega) (fun v_15 => ?_)
 refine r_row1 (k := 0) rfl (fun o_16 => ?_)
 refine r_val .none rfl (p_assign rfl) (r_nil (e_next (c_seq (c_region ?_))))
 refine r_val .none rfl (p_move rfl) (r_val .none rfl (p_move rfl) (r_val .none rfl (p_move rfl) ?_))
 refine r_slice0 (k) .none rfl Try.underlying29 sz90 rfl hr rfl (by first | exact odt rfl | omega) (fun v_17 hs_18 => ?_)
 have hpt9_20 := ss_take (by omega) hs_18
 refine r_append_g (k := 0) .none rfl Try.underlying29 el90 rfl (by decide) rfl rfl rfl hpt9_20 (ss_ones (fun p hm0 => hpt p (List.mem_of_mem_take hm0)) (fun p hm0 => hps p (List.mem_of_mem_take hm0))) (by rw [List.length_take]; simp only [maxLen]; omega) (by rw [List.length_take]; omega) (fun v_21 => ?_)
 refine r_row1 (k := 0) rfl (fun o_22 => ?_)
 refine r_conv (B := rowA v_21 _ 6 (es ++ rs.take k).length ((es ++ rs.take k).flatMap sC)) (k := 0) rfl (fun _ _ h => rowA_congr (by simp) (by rw [List.nil_append, flat_all (cells := sC) (fun _ => rfl), List.flatMap_append]) _ _ h) ?_
 refine r_val .none rfl (p_assign rfl) (r_nil (e_next (c_seq (c_seq ?_))))
 refine c_region ?_
 refine r_val .none rfl (p_field Try.underlying90 rfl sz3 rfl) ?_
 refine r_val .none rfl (p_ld (k := 1) Try.underlying3 rfl rfl rfl (by first | exact odt rfl | omega) (rfl : _ = Value.int _ _)) ?_
 refine r_val .none rfl (p_eq rfl rfl) ?_
 refine r_nil (e_next ?_)
 refine c_splitd (d := 26) rfl (fun h_23 => ?_) (fun h_23 => ?_)
 · (
 have hk3 := h_23
 first
 | (exfalso; omega)
 | (
 refine c_cond_t rfl (c_region (r_val .none rfl (p_move rfl) (r_val .none rfl (p_move rfl) ?_)))
 refine r_val .none rfl (p_field Try.underlying90 rfl sz29 rfl) ?_
 refine r_val .none rfl (p_ld (k := 1) Try.underlying29 rfl rfl rfl (by first | exact odt rfl | omega) rfl) ?_
 refine r_callom (k := 0) (vs := [_, _]) .none rfl cl14 rfl rfl (fun w F hw hA hFG => ih _ _ _ _ _ _ w (Nat.le_of_lt_succ (Nat.lt_of_lt_of_le (ssub_size (by omega)) hz)) (by rw [List.length_append, List.length_take]; omega) (fun p hm0 => by rcases List.mem_append.1 hm0 with h | h; exact het p h; exact hpt p (List.mem_of_mem_take h)) (fun p hm0 => by rcases List.mem_append.1 hm0 with h | h; exact hes p h; exact hps p (List.mem_of_mem_take h)) hc_13 hw hA hFG) (fun G_24 v_27 hn_25 hr_26 => ?_)
 replace hr := hr.mono hn_25.le
 replace hpt := fun p hm0 => (hpt p hm0).mono hn_25.le
 replace hps := fun p hm0 => (hps p hm0).mono hn_25.le
 replace het := fun p hm0 => (het p hm0).mono hn_25.le
 replace hes := fun p hm0 => (hes p hm0).mono hn_25.le
 replace hzc := StC.mono hzc hn_25.le
 replace R_9 := R_9.mono hn_25.le
 replace ht_12 := ht_12.mono hn_25.le
 replace hc_13 := hc_13.mono hn_25.le
 replace hs_18 := hs_18.mono hn_25.le
 replace hpt9_20 := hpt9_20.mono hn_25.le
 obtain ⟨u_28z, u_28h, u_28p, u_28q⟩ := hr_26
 rw [hm9] at u_28q
 refine r_append_g (k := 2) .none rfl Try.underlying26 el29 rfl (by decide) rfl rfl rfl u_28h (ss_one1 u_28p) (by have h9 := congrArg List.length u_28q; rw [List.length_map] at h9; have h8 := schains_len (rs.getD k s0).1.subs (es.map Prod.fst ++ (rs.map Prod.fst).take k); simp only [maxLen]; omega) (by have h9 := congrArg List.length u_28q; rw [List.length_map] at h9; have h8 := schains_len (rs.getD k s0).1.subs (es.map Prod.fst ++ (rs.map Prod.fst).take k); omega) (fun v_29 => ?_)
 refine r_row1 (k := 2) rfl (fun o_30 => ?_)
 refine r_conv (B := rowA v_29 _ 1 (z ++ u_28z).length ((z ++ u_28z).flatMap lC)) (k := 2) rfl (fun _ _ h => rowA_congr (by simp) (by rw [flat_all (cells := lC) (fun _ => rfl), List.flatMap_append]) _ _ h) ?_
 refine r_val .none rfl (p_assign rfl) (r_nil (e_next (c_seq (c_region ?_))))
 refine r_val .none rfl (p_move rfl) ?_
 refine r_val .none rfl (p_ldw (k := 1) Try.underlying90 rfl sz90 rfl rfl (rfl : _ = Value.agg #[_, _, _, _, _, _])) ?_
 refine r_bslice (vs := [(0, Value.agg #[_, _, _, _, _, _])]) (c := #[_, _, _, _, _, _]) .none rfl Try.underlying29 el90 rfl rfl rfl (bs90_10a6 _ _ _ _ _ _) (IsRow.lit _) (fun b_2 => ?_)
 refine r_append (k := 1) (k2 := 0) .none rfl Try.underlying29 el90 rfl (by decide) rfl rfl rfl rfl rfl (one_lit rfl (all_cons rfl (all_cons rfl (all_cons rfl (all_cons rfl (all_cons (ht_12).one (all_cons (hc_13).one rfl))))))) (by rw [List.length_append, List.length_take]; simp only [maxLen]; omega) (by rw [List.length_append, List.length_take]; omega) (fun v_31 => ?_)
 refine r_row1 (k := 1) rfl (fun o_32 => ?_)
 refine r_val .none rfl (p_assign rfl) (r_nil (e_next (c_region (r_val .none rfl (p_move rfl) ?_))))
 refine r_val .none rfl (p_move rfl) ?_
 refine r_freeze (k := 1) rfl (fun G_33 hn_34 hs_35 => ?_)
 replace hr := hr.mono hn_34.le
 replace hpt := fun p hm0 => (hpt p hm0).mono hn_34.le
 replace hps := fun p hm0 => (hps p hm0).mono hn_34.le
 replace het := fun p hm0 => (het p hm0).mono hn_34.le
 replace hes := fun p hm0 => (hes p hm0).mono hn_34.le
 replace hzc := StC.mono hzc hn_34.le
 replace R_9 := R_9.mono hn_34.le
 replace ht_12 := ht_12.mono hn_34.le
 replace hc_13 := hc_13.mono hn_34.le
 replace hs_18 := hs_18.mono hn_34.le
 replace hpt9_20 := hpt9_20.mono hn_34.le
 replace u_28h := u_28h.mono hn_34.le
 replace u_28p := StC.mono u_28p hn_34.le
 have hs2 : SlL G_33 v_31 6 sC s0 ((es ++ rs.take k) ++ [rs.getD k s0]) := SlL.of2 s0 (fun _ => rfl) (by simp [Nat.add_assoc]) (by rw [List.flatMap_append (xs := es ++ rs.take k), List.flatMap_cons, List.flatMap_nil, List.append_nil]; rfl) hs_35
 have hva2 : Ss G_33 v_31 (es.map Prod.fst ++ (rs.map Prod.fst).take k ++ [(rs.getD k s0).1]) := by have h := Ss.mk _ hs2 (fun p hm0 => by rcases List.mem_append.1 hm0 with h | h; rcases List.mem_append.1 h with h | h; exact het p h; exact hpt p (List.mem_of_mem_take h); rw [List.mem_singleton.1 h]; exact ht_12) (fun p hm0 => by rcases List.mem_append.1 hm0 with h | h; rcases List.mem_append.1 h with h | h; exact hes p h; exact hps p (List.mem_of_mem_take h); rw [List.mem_singleton.1 h]; exact hc_13); rw [List.map_append, hm9] at h; exact h
 obtain ⟨a_36, c_37, rfl⟩ := SlG.len hs2
 refine r_bslice (vs := [(0, Value.slice _ _ _)]) (c := #[_]) .none rfl Try.underlying26 el29 rfl rfl rfl (bs29_10s3 _ _ _) (IsRow.lit _) (fun b_3 => ?_)
 refine r_append (k := 3) (k2 := 0) .none rfl Try.underlying26 el29 rfl (by decide) rfl rfl rfl rfl rfl (one_lit rfl rfl) (by first | (simp only [maxLen]; omega) | (have h9 := congrArg List.length u_28q; rw [List.length_map] at h9; have h8 := schains_len (rs.getD k s0).1.subs (es.map Prod.fst ++ (rs.map Prod.fst).take k); rw [List.length_append]; simp only [maxLen]; omega)) (by first | omega | (have h9 := congrArg List.length u_28q; rw [List.length_map] at h9; have h8 := schains_len (rs.getD k s0).1.subs (es.map Prod.fst ++ (rs.map Prod.fst).take k); rw [List.length_append]; omega)) (fun v_38 => ?_)
 refine r_row1 (k := 3) rfl (fun o_39 => ?_)
 refine r_val .none rfl (p_assign rfl) (r_nil ?_)
 refine e_norm_block ?_
 refine e_next (c_region ?_)
 refine r_val .none rfl (p_add rfl rfl (by omega)) ?_
 refine r_val .none rfl (p_move rfl) (r_nil ?_)
 refine e_round ((k + 1, _, (z ++ u_28z) ++ [(es.map Prod.fst ++ (rs.map Prod.fst).take k ++ [(rs.getD k s0).1], Value.slice a_36 ((es ++ rs.take k) ++ [rs.getD k s0]).length c_37)], _)) ⟨⟨by dsimp only; omega, by rw [schains_take (by omega), schain1_ncc hk3, List.map_append, List.map_append, hzq, ← u_28q, List.append_assoc]; rfl, StC.snoc (StC.app hzc u_28p) hva2, ((hgn.trans hn_25).trans hn_34)⟩, by dsimp only; omega⟩ rfl ⟨rfl, rfl, rfl, rfl, rfl, rfl, rfl, trivial⟩ (.drop (.drop (.drop (.keep (fun _ _ h => rowA_snoc (l := (z ++ u_28z)) (x := (es.map Prod.fst ++ (rs.map Prod.fst).take k ++ [(rs.getD k s0).1], Value.slice a_36 ((es ++ rs.take k) ++ [rs.getD k s0]).length c_37)) rfl rfl rfl rfl _ _ h) (.keep (fun _ _ h => h) (.nil))))))))
 · (
 have hk3 := h_23
 first
 | (exfalso; omega)
 | (
 refine c_cond_f rfl (c_skip (e_next (c_seq (c_region ?_))))
 refine r_val .none rfl (p_move rfl) ?_
 refine r_val .none rfl (p_ldw (k := 1) Try.underlying90 rfl sz90 rfl rfl (rfl : _ = Value.agg #[_, _, _, _, _, _])) ?_
 refine r_bslice (vs := [(0, Value.agg #[_, _, _, _, _, _])]) (c := #[_, _, _, _, _, _]) .none rfl Try.underlying29 el90 rfl rfl rfl (bs90_10a6 _ _ _ _ _ _) (IsRow.lit _) (fun b_4 => ?_)
 refine r_append (k := 1) (k2 := 0) .none rfl Try.underlying29 el90 rfl (by decide) rfl rfl rfl rfl rfl (one_lit rfl (all_cons rfl (all_cons rfl (all_cons rfl (all_cons rfl (all_cons (ht_12).one (all_cons (hc_13).one rfl))))))) (by rw [List.length_append, List.length_take]; simp only [maxLen]; omega) (by rw [List.length_append, List.length_take]; omega) (fun v_40 => ?_)
 refine r_row1 (k := 1) rfl (fun o_41 => ?_)
 refine r_val .none rfl (p_assign rfl) (r_nil (e_next (c_region (r_val .none rfl (p_move rfl) ?_))))
 refine r_val .none rfl (p_move rfl) ?_
 refine r_freeze (k := 1) rfl (fun G_42 hn_43 hs_44 => ?_)
 replace hr := hr.mono hn_43.le
 replace hpt := fun p hm0 => (hpt p hm0).mono hn_43.le
 replace hps := fun p hm0 => (hps p hm0).mono hn_43.le
 replace het := fun p hm0 => (het p hm0).mono hn_43.le
 replace hes := fun p hm0 => (hes p hm0).mono hn_43.le
 replace hzc := StC.mono hzc hn_43.le
 replace R_9 := R_9.mono hn_43.le
 replace ht_12 := ht_12.mono hn_43.le
 replace hc_13 := hc_13.mono hn_43.le
 replace hs_18 := hs_18.mono hn_43.le
 replace hpt9_20 := hpt9_20.mono hn_43.le
 have hs2 : SlL G_42 v_40 6 sC s0 ((es ++ rs.take k) ++ [rs.getD k s0]) := SlL.of2 s0 (fun _ => rfl) (by simp [Nat.add_assoc]) (by rw [List.flatMap_append (xs := es ++ rs.take k), List.flatMap_cons, List.flatMap_nil, List.append_nil]; rfl) hs_44
 have hva2 : Ss G_42 v_40 (es.map Prod.fst ++ (rs.map Prod.fst).take k ++ [(rs.getD k s0).1]) := by have h := Ss.mk _ hs2 (fun p hm0 => by rcases List.mem_append.1 hm0 with h | h; rcases List.mem_append.1 h with h | h; exact het p h; exact hpt p (List.mem_of_mem_take h); rw [List.mem_singleton.1 h]; exact ht_12) (fun p hm0 => by rcases List.mem_append.1 hm0 with h | h; rcases List.mem_append.1 h with h | h; exact hes p h; exact hps p (List.mem_of_mem_take h); rw [List.mem_singleton.1 h]; exact hc_13); rw [List.map_append, hm9] at h; exact h
 obtain ⟨a_45, c_46, rfl⟩ := SlG.len hs2
 refine r_bslice (vs := [(0, Value.slice _ _ _)]) (c := #[_]) .none rfl Try.underlying26 el29 rfl rfl rfl (bs29_10s3 _ _ _) (IsRow.lit _) (fun b_5 => ?_)
 refine r_append (k := 3) (k2 := 0) .none rfl Try.underlying26 el29 rfl (by decide) rfl rfl rfl rfl rfl (one_lit rfl rfl) (by first | (simp only [maxLen]; omega) | (have h9 := congrArg List.length q; rw [List.length_map] at h9; have h8 := schains_len (rs.getD k s0).1.subs (es.map Prod.fst ++ (rs.map Prod.fst).take k); rw [List.length_append]; simp only [maxLen]; omega)) (by first | omega | (have h9 := congrArg List.length q; rw [List.length_map] at h9; have h8 := schains_len (rs.getD k s0).1.subs (es.map Prod.fst ++ (rs.map Prod.fst).take k); rw [List.length_append]; omega)) (fun v_47 => ?_)
 refine r_row1 (k := 3) rfl (fun o_48 => ?_)
 refine r_val .none rfl (p_assign rfl) (r_nil ?_)
 refine e_norm_block ?_
 refine e_next (c_region ?_)
 refine r_val .none rfl (p_add rfl rfl (by omega)) ?_
 refine r_val .none rfl (p_move rfl) (r_nil ?_)
 refine e_round ((k + 1, _, z ++ [(es.map Prod.fst ++ (rs.map Prod.fst).take k ++ [(rs.getD k s0).1], Value.slice a_45 ((es ++ rs.take k) ++ [rs.getD k s0]).length c_46)], _)) ⟨⟨by dsimp only; omega, by rw [schains_take (by omega), schain1_other hk3, List.map_append, hzq]; rfl, StC.snoc hzc hva2, (hgn.trans hn_43)⟩, by dsimp only; omega⟩ rfl ⟨rfl, rfl, rfl, rfl, rfl, rfl, rfl, trivial⟩ (.drop (.drop (.drop (.keep (fun _ _ h => rowA_snoc (l := z) (x := (es.map Prod.fst ++ (rs.map Prod.fst).take k ++ [(rs.getD k s0).1], Value.slice a_45 ((es ++ rs.take k) ++ [rs.getD k s0]).length c_46)) rfl rfl rfl rfl _ _ h) (.keep (fun _ _ h => h) (.nil))))))))))
 · (
 first
 | (exfalso; omega)
 | (
 refine c_cond_f rfl (c_exit (e_exit_then (e_exit_then ?_)))
 refine e_exit_block ?_
 refine e_next (c_seq (c_region (r_val .none rfl (p_move rfl) (r_val .none rfl (p_assign rfl) ?_))))
 refine r_nil (e_next ?_)
 refine c_ret ?_
 refine e_freeze (k := 0) rfl (fun G_49 hn_50 hs_51 => ?_)
 replace hr := hr.mono hn_50.le
 replace hpt := fun p hm0 => (hpt p hm0).mono hn_50.le
 replace hps := fun p hm0 => (hps p hm0).mono hn_50.le
 replace het := fun p hm0 => (het p hm0).mono hn_50.le
 replace hes := fun p hm0 => (hes p hm0).mono hn_50.le
 replace hzc := StC.mono hzc hn_50.le
 refine e_ret1 Try.results14 (.tmp rfl .nil) (fun w hm => ⟨_, (hgn.trans hn_50), hm.has, ?_, hm.keptG [rowA _ 90 6 es.length (es.flatMap sC)] (.keep (fun _ _ h => h) (.nil)) _ (fun F' h => starL_one h)⟩)
 rw [show schains (es.map Prod.fst) (rs.map Prod.fst) = z.map Prod.fst by rw [hzq, List.take_of_length_le (by simp; omega)]]
 exact Ls.mk z (SlL.of (([] : List ST), Value.slice none 0 0) (fun _ => rfl) rfl hs_51) hzc))
theorem c_rchS_n : ∀ n, RchSIs n
 | 0 => fun va vl es l G F w hz _ _ _ _ _ _ _ => absurd hz (by cases l <;> simp)
 | n + 1 => fun va vl es l G F w hz hsz het hes hs hG hA hFG => c_rchS_s n (c_rchS_n n) va vl es l hz hsz het hes hs w hG hA hFG
theorem c_rchS (va vl : Value) (es : List SVal) (l : List ST) {G : Ghost} {F : Nat → Prop} (hsz : es.length + sszL l ≤ 5000) (het : ∀ p ∈ es, SlL G p.2.1 3 tC t0 p.1.h.ts) (hes : ∀ p ∈ es, Ss G p.2.2 p.1.subs) (hs : Ss G vl l) (w : World) (hG : Has G w) (hA : (rowA va 90 6 es.length (es.flatMap sC)).holds w F) (hFG : ∀ b, F b → G b = none) : Calls Try.prog 14 #[va, vl] w (Ret fun r w' => ∃ G', GNew w F G G' ∧ Has G' w' ∧ Ls (fun G v l => Ss G v l) ([] : List ST) G' r (schains (es.map Prod.fst) l) ∧ KeptG (rowA va 90 6 es.length (es.flatMap sC)) F G' w w') := c_rchS_n _ va vl es l G F w (Nat.le_refl _) hsz het hes hs hG hA hFG
end Go.Proofs.Ytdkfdncbldngdaa

/- Plain laws of tries: the document's lists and chains, and nodes; no program in sight. -/
namespace Go.Gx.T16
open Go.Gx Go.Gx.T3 Go.Gx.T4 Go.Gx.T6 Go.Gx.T8

/-! ### the document's -/
abbrev It := List ST × Bool
structure RT where
  lists : List (List ST)
  its : List It
/-- Chains are alike. -/
def ceq (a b : List ST) : Bool := seqL a b
theorem ceq_iff (a b : List ST) : ceq a b = true ↔ a = b := seqL_iff a b
theorem ceq_self (a : List ST) : ceq a a = true := (ceq_iff a a).2 rfl
/-- The numbers of those that are there and have something. -/
def numsF (p : List ST → Bool) : List It → Int → List Int
  | [], _ => []
  | x :: t, i => if x.2 = false ∧ p x.1 = true then i :: numsF p t (i + 1) else numsF p t (i + 1)
theorem numsF_append (p : List ST → Bool) : ∀ (a b : List It) (i : Int), numsF p (a ++ b) i = numsF p a i ++ numsF p b (i + a.length)
  | [], b, i => by simp [numsF]
  | x :: t, b, i => by
    rw [List.cons_append, numsF, numsF, numsF_append p t b (i + 1)]
    have e : i + 1 + (t.length : Int) = i + ((x :: t).length : Nat) := by simp; omega
    rw [e]
    split <;> simp
theorem numsF_ge {p : List ST → Bool} : ∀ {l : List It} {i k : Int}, k ∈ numsF p l i → i ≤ k ∧ k < i + l.length
  | [], i, k, h => by simp [numsF] at h
  | x :: t, i, k, h => by
    rw [numsF] at h
    split at h
    · rcases List.mem_cons.1 h with rfl | h
      · simp; omega
      · have := numsF_ge h; simp; omega
    · have := numsF_ge h; simp; omega
theorem numsF_mem {p : List ST → Bool} : ∀ {l : List It} {i k : Int}, k ∈ numsF p l i ↔ ∃ j c, k = i + (j : Nat) ∧ l[j]? = some (c, false) ∧ p c = true
  | [], i, k => by simp [numsF]
  | x :: t, i, k => by
    have ih := numsF_mem (p := p) (l := t) (i := i + 1) (k := k)
    have step : k ∈ numsF p (x :: t) i ↔ (x.2 = false ∧ p x.1 = true ∧ k = i) ∨ k ∈ numsF p t (i + 1) := by
      rw [numsF]
      split
      · rename_i h; simp [h.1, h.2]
      · rename_i h
        constructor
        · exact .inr
        · rintro (⟨h1, h2, _⟩ | h')
          · exact absurd ⟨h1, h2⟩ h
          · exact h'
    rw [step, ih]
    constructor
    · rintro (⟨h1, h2, rfl⟩ | ⟨j, c, rfl, h1, h2⟩)
      · exact ⟨0, x.1, by simp, by simp [← h1], h2⟩
      · exact ⟨j + 1, c, by push_cast; omega, by simpa using h1, h2⟩
    · rintro ⟨j, c, rfl, h1, h2⟩
      cases j with
      | zero => simp at h1; left; rw [h1]; exact ⟨rfl, h2, by simp⟩
      | succ j => right; exact ⟨j, c, by push_cast; omega, by simpa using h1, h2⟩
theorem numsF_none {p : List ST → Bool} : ∀ {l : List It} {i : Int}, (∀ x ∈ l, x.2 = false → p x.1 = false) → numsF p l i = []
  | [], _, _ => rfl
  | x :: t, i, h => by
    rw [numsF, numsF_none (l := t) (fun y hy => h y (List.mem_cons_of_mem _ hy)), if_neg]
    rintro ⟨h1, h2⟩
    rw [h x (by simp) h1] at h2; cases h2
theorem numsF_sorted {p : List ST → Bool} : ∀ {l : List It} {i : Int}, (numsF p l i).Pairwise (· < ·)
  | [], _ => List.Pairwise.nil
  | x :: t, i => by
    rw [numsF]
    split
    · refine List.Pairwise.cons (fun k hk => ?_) numsF_sorted
      have := numsF_ge hk; omega
    · exact numsF_sorted
/-- A chain's number. -/
def findF (c : List ST) : List It → Int → Int
  | [], _ => 0
  | x :: t, i => if x.2 = false ∧ ceq x.1 c = true then i else findF c t (i + 1)
def find (R : RT) (c : List ST) : Int := if c.length = 0 then 1 else findF c R.its 2
theorem findF_nums (c : List ST) : ∀ (l : List It) (i : Int), findF c l i = (numsF (ceq · c) l i).headD 0
  | [], _ => rfl
  | x :: t, i => by
    rw [findF, numsF]
    split
    · rfl
    · exact findF_nums c t (i + 1)
/-- The chain of a number. -/
def getF : List It → Int → Option (List ST)
  | [], _ => none
  | x :: t, k => if k = 0 then (if x.2 = false then some x.1 else none) else getF t (k - 1)
def getR (R : RT) (id : Int) : Option (List ST) := if id = 1 then some [] else getF R.its (id - 2)
theorem getF_iff : ∀ {l : List It} {k : Int} {c : List ST}, getF l k = some c ↔ ∃ j : Nat, k = j ∧ l[j]? = some (c, false)
  | [], k, c => by simp [getF]
  | x :: t, k, c => by
    rw [getF]
    split
    · rename_i h
      subst h
      constructor
      · intro h
        split at h
        · rename_i h1
          simp at h
          exact ⟨0, rfl, by rw [← h, ← h1]; rfl⟩
        · cases h
      · rintro ⟨j, h1, h2⟩
        obtain rfl : j = 0 := by omega
        simp at h2
        rw [h2]; simp
    · rename_i h
      rw [getF_iff (l := t)]
      constructor
      · rintro ⟨j, h1, h2⟩
        exact ⟨j + 1, by push_cast; omega, by simpa using h2⟩
      · rintro ⟨j, h1, h2⟩
        cases j with
        | zero => exact absurd h1 h
        | succ j => exact ⟨j, by push_cast at h1; omega, by simpa using h2⟩
theorem getR_iff {R : RT} {id : Int} {c : List ST} : getR R id = some c ↔ (id = 1 ∧ c = []) ∨ (id ≠ 1 ∧ ∃ j : Nat, id = j + 2 ∧ R.its[j]? = some (c, false)) := by
  unfold getR
  split
  · rename_i h
    subst h
    simp
  · rename_i h
    rw [getF_iff]
    constructor
    · rintro ⟨j, h1, h2⟩; exact .inr ⟨h, j, by omega, h2⟩
    · rintro (⟨h1, _⟩ | ⟨_, j, h1, h2⟩)
      · exact absurd h1 h
      · exact ⟨j, by omega, h2⟩
def usesOf (c : List ST) (l : List ST) : Bool := decide (c.length = 0) || (schains [] l).any (ceq · c)
def uses (R : RT) (c : List ST) : Nat := R.lists.countP (usesOf c)
def ends (R : RT) (c : List ST) : Nat := R.lists.countP (ceq · c)
theorem usesOf_iff {c l : List ST} : usesOf c l = true ↔ c = [] ∨ c ∈ schains [] l := by
  unfold usesOf
  rw [Bool.or_eq_true, decide_eq_true_eq, List.any_eq_true]
  constructor
  · rintro (h | ⟨x, h1, h2⟩)
    · exact .inl (List.eq_nil_of_length_eq_zero h)
    · rw [ceq_iff] at h2; subst h2; exact .inr h1
  · rintro (rfl | h)
    · exact .inl rfl
    · exact .inr ⟨c, h, ceq_self c⟩
def all (R : RT) : List Int := 1 :: numsF (fun _ => true) R.its 2
/-- The chain within that an Ncc's chain ends at. -/
def innerOf (c : List ST) : Option (List ST) := match c.getLast? with
  | some s => if s.h.k = 3 then some (c.dropLast ++ s.subs) else none
  | none => none
def inner (R : RT) (c : List ST) : Int := match innerOf c with
  | some e => find R e
  | none => 0
def isKid (c d : List ST) : Bool := decide (d.length = c.length + 1) && ceq d.dropLast c
theorem isKid_iff {c d : List ST} : isKid c d = true ↔ ∃ s, d = c ++ [s] := by
  unfold isKid
  rw [Bool.and_eq_true, decide_eq_true_eq, ceq_iff]
  constructor
  · rintro ⟨h1, h2⟩
    have hne : d ≠ [] := by intro e; rw [e] at h1; simp at h1
    exact ⟨d.getLast hne, by rw [← h2]; exact (List.dropLast_concat_getLast hne).symm⟩
  · rintro ⟨s, rfl⟩
    simp
def kidsR (R : RT) (c : List ST) : List Int := numsF (isKid c) R.its 2
def isOuter (c d : List ST) : Bool := match innerOf d with
  | some e => ceq e c
  | none => false
theorem isOuter_iff {c d : List ST} : isOuter c d = true ↔ innerOf d = some c := by
  unfold isOuter
  cases h : innerOf d with
  | none => simp
  | some e => simp [ceq_iff]
def outerR (R : RT) (c : List ST) : List Int := numsF (isOuter c) R.its 2
/-! ### nodes -/
structure PN where
  s : ST
  par : Int
  dep : Int
  uses : Int
  ends : Int
  inn : Int
  kids : List Int
  outer : List Int
abbrev sZ : ST := .mk ⟨0, 0, 0, 0, []⟩ []
def ndR (R : RT) (c : List ST) : PN := ⟨c.getLastD sZ, if c.length = 0 then 0 else find R c.dropLast, c.length, uses R c, ends R c, inner R c, kidsR R c, outerR R c⟩
/-- The nodes are just the document's. -/
def Inv (g : Int → Option PN) (R : RT) : Prop := ∀ id, g id = (getR R id).map (ndR R)
/-- Chains that are there: each once; what stands ahead is there, too, and what is within. -/
structure Clo (R : RT) : Prop where
  ne : ∀ x ∈ R.its, x.1 ≠ []
  once : ∀ (i j : Nat) (c : List ST), R.its[i]? = some (c, false) → R.its[j]? = some (c, false) → i = j
  up : ∀ (j : Nat) c, R.its[j]? = some (c, false) → find R c.dropLast ≠ 0 ∧ find R c.dropLast < j + 2
  inn : ∀ (j : Nat) c e, R.its[j]? = some (c, false) → innerOf c = some e → find R e ≠ 0 ∧ find R e < j + 2
theorem find_nil (R : RT) : find R [] = 1 := rfl
theorem find_some {R : RT} {c : List ST} (hne : ∀ x ∈ R.its, x.1 ≠ []) (h : find R c ≠ 0) : getR R (find R c) = some c := by
  unfold find at h ⊢
  split
  · rename_i hc
    rw [List.eq_nil_of_length_eq_zero hc]; rfl
  · rename_i hc
    rw [if_neg hc, findF_nums] at h
    rw [findF_nums]
    cases hn : numsF (ceq · c) R.its 2 with
    | nil => rw [hn] at h; exact absurd rfl h
    | cons k t =>
      have hk : k ∈ numsF (ceq · c) R.its 2 := by rw [hn]; simp
      obtain ⟨j, d, rfl, h1, h2⟩ := numsF_mem.1 hk
      rw [ceq_iff] at h2
      subst h2
      show getR R (2 + (j : Int)) = some d
      rw [getR_iff]
      exact .inr ⟨by omega, j, by omega, h1⟩
theorem find_of {R : RT} (hC : Clo R) {id : Int} {c : List ST} (h : getR R id = some c) : find R c = id := by
  rcases getR_iff.1 h with ⟨rfl, rfl⟩ | ⟨_, j, rfl, h1⟩
  · rfl
  · have hne : c ≠ [] := hC.ne _ (List.mem_of_getElem? h1)
    have hm : ((j : Int) + 2) ∈ numsF (ceq · c) R.its 2 := numsF_mem.2 ⟨j, c, by omega, h1, ceq_self c⟩
    unfold find
    rw [if_neg (fun e => hne (List.eq_nil_of_length_eq_zero e)), findF_nums]
    cases hn : numsF (ceq · c) R.its 2 with
    | nil => rw [hn] at hm; cases hm
    | cons k t =>
      have hk : k ∈ numsF (ceq · c) R.its 2 := by rw [hn]; simp
      obtain ⟨i, d, rfl, h3, h4⟩ := numsF_mem.1 hk
      rw [ceq_iff] at h4
      subst h4
      have := hC.once i j d h3 h1
      subst this
      show (2 : Int) + i = i + 2
      omega
theorem find_ne {R : RT} {c : List ST} (hc : c ≠ []) : find R c ≠ 0 ↔ (c, false) ∈ R.its := by
  unfold find
  rw [if_neg (fun e => hc (List.eq_nil_of_length_eq_zero e)), findF_nums]
  constructor
  · intro h
    cases hn : numsF (ceq · c) R.its 2 with
    | nil => rw [hn] at h; exact absurd rfl h
    | cons k t =>
      have hk : k ∈ numsF (ceq · c) R.its 2 := by rw [hn]; simp
      obtain ⟨j, d, _, h1, h2⟩ := numsF_mem.1 hk
      rw [ceq_iff] at h2; subst h2
      exact List.mem_of_getElem? h1
  · intro h
    obtain ⟨j, hj⟩ := List.getElem?_of_mem h
    have hm : (2 + (j : Int)) ∈ numsF (ceq · c) R.its 2 := numsF_mem.2 ⟨j, c, rfl, hj, ceq_self c⟩
    cases hn : numsF (ceq · c) R.its 2 with
    | nil => rw [hn] at hm; cases hm
    | cons k t =>
      have hk : k ∈ numsF (ceq · c) R.its 2 := by rw [hn]; simp
      have := numsF_ge hk
      show k ≠ 0
      omega
theorem find_nonneg (R : RT) (c : List ST) : 0 ≤ find R c ∧ find R c < 2 + R.its.length := by
  unfold find
  split
  · omega
  · rw [findF_nums]
    cases hn : numsF (ceq · c) R.its 2 with
    | nil => simp; omega
    | cons k t =>
      have hk : k ∈ numsF (ceq · c) R.its 2 := by rw [hn]; simp
      have := numsF_ge hk
      show 0 ≤ k ∧ k < _
      omega
/-! ### the program's way down -/
def belowL (g : Int → Option PN) (s : ST) : List Int → Int
  | [] => 0
  | k :: t => match g k with
    | some x => if seq x.s s = true then k else belowL g s t
    | none => belowL g s t
def below (g : Int → Option PN) (id : Int) (s : ST) : Int := match g id with
  | some x => belowL g s x.kids
  | none => 0
def fromG (g : Int → Option PN) : Int → List ST → Int
  | id, [] => id
  | id, s :: t => if below g id s = 0 then 0 else fromG g (below g id s) t
/-- Kids and steps are the document's. -/
def KInv (g : Int → Option PN) (R : RT) : Prop := ∀ id c, getR R id = some c → ∃ x, g id = some x ∧ x.kids = kidsR R c ∧ x.s = c.getLastD sZ
theorem Inv.k {g : Int → Option PN} {R : RT} (h : Inv g R) : KInv g R := fun id c hc => ⟨ndR R c, by rw [h, hc]; rfl, rfl, rfl⟩
theorem below_find {g : Int → Option PN} {R : RT} (hK : KInv g R) (hC : Clo R) {id : Int} {c : List ST} (s : ST) (h : getR R id = some c) : below g id s = find R (c ++ [s]) := by
  obtain ⟨x, hx, hk, _⟩ := hK id c h
  unfold below find
  rw [hx, if_neg (by simp), findF_nums]
  show belowL g s x.kids = _
  rw [hk]
  unfold kidsR
  have key : ∀ (l : List It) (i : Int), (∀ (j : Nat) d, l[j]? = some (d, false) → d ≠ [] ∧ ∃ x, g (i + j) = some x ∧ x.s = d.getLastD sZ) → belowL g s (numsF (isKid c) l i) = (numsF (ceq · (c ++ [s])) l i).headD 0 := by
    intro l
    induction l with
    | nil => intro i _; rfl
    | cons y t ih =>
      intro i hg
      have hg' : ∀ (j : Nat) d, t[j]? = some (d, false) → d ≠ [] ∧ ∃ x, g (i + 1 + j) = some x ∧ x.s = d.getLastD sZ := fun j d hd => by
        have := hg (j + 1) d (by simpa using hd)
        rw [show i + ((j + 1 : Nat) : Int) = i + 1 + j by push_cast; omega] at this
        exact this
      rw [numsF, numsF]
      cases hy : y.2 with
      | true =>
        rw [if_neg (by simp), if_neg (by simp)]
        exact ih (i + 1) hg'
      | false =>
        obtain ⟨d, o⟩ := y
        simp only at hy; subst hy
        obtain ⟨_, x, h1, h2⟩ := hg 0 d (by simp)
        simp only [Int.natCast_zero, Int.add_zero] at h1
        by_cases hk : isKid c d = true
        · obtain ⟨s', rfl⟩ := isKid_iff.1 hk
          have h3 : x.s = s' := by rw [h2]; simp
          simp only [true_and, hk, if_true]
          rw [belowL, h1]
          show (if seq x.s s = true then i else belowL g s _) = _
          rw [h3]
          by_cases hs : seq s' s = true
          · have hss := (seq_iff s' s).1 hs
            subst hss
            rw [if_pos hs, if_pos (ceq_self _)]; rfl
          · have hss : ¬ ceq (c ++ [s']) (c ++ [s]) = true := fun e => hs (by
              have := (ceq_iff _ _).1 e
              have h4 : s' = s := by simpa using this
              exact (seq_iff s' s).2 h4)
            rw [if_neg hs, if_neg hss]
            exact ih (i + 1) hg'
        · have hce : ¬ ceq d (c ++ [s]) = true := fun e => hk (isKid_iff.2 ⟨s, (ceq_iff _ _).1 e⟩)
          simp only [true_and, hk, hce, if_false]
          exact ih (i + 1) hg'
  refine key R.its 2 (fun j d hd => ?_)
  have hg : getR R (2 + (j : Int)) = some d := getR_iff.2 (.inr ⟨by omega, j, by omega, hd⟩)
  obtain ⟨x, h1, _, h3⟩ := hK _ _ hg
  exact ⟨hC.ne _ (List.mem_of_getElem? hd), x, h1, h3⟩
theorem find_pre {R : RT} (hC : Clo R) {a : List ST} {s : ST} (h : find R (a ++ [s]) ≠ 0) : find R a ≠ 0 := by
  obtain ⟨j, hj⟩ := List.getElem?_of_mem ((find_ne (by simp)).1 h)
  have := (hC.up j _ hj).1
  simpa using this
theorem from_find {g : Int → Option PN} {R : RT} (hK : KInv g R) (hC : Clo R) : ∀ (l : List ST) {id : Int} {c : List ST}, getR R id = some c → fromG g id l = find R (c ++ l)
  | [], id, c, h => by rw [fromG, List.append_nil, find_of hC h]
  | s :: t, id, c, h => by
    rw [fromG, below_find hK hC s h]
    have e : c ++ s :: t = c ++ [s] ++ t := by simp
    rw [e]
    by_cases hz : find R (c ++ [s]) = 0
    · rw [if_pos hz]
      refine Eq.symm (Decidable.byContradiction fun hn => ?_)
      have : ∀ (t : List ST) (a : List ST), find R (a ++ t) ≠ 0 → find R a ≠ 0 := by
        intro t
        induction t with
        | nil => intro a h; simpa using h
        | cons s' t ih =>
          intro a h
          have e : a ++ s' :: t = a ++ [s'] ++ t := by simp
          rw [e] at h
          exact find_pre hC (ih _ h)
      exact this t _ hn hz
    · rw [if_neg hz]
      exact from_find hK hC t (find_some hC.ne hz)
end Go.Gx.T16

/-
  GX: calls that read what is known of the call's own memory and change nothing. Generic in the program.
-/
namespace Go.Gx
open Go.RowKit Go.Maps Go.Sort

section
variable {P : Program} {ops : Array Oper} {Q : Exit → Act → World → Prop} {N : Nat} {X : Nat → Prop} {w0 : World} {G : Ghost} {l : List (Nat × Value)} {L : List Asrt}
variable {rest : List Oper} {d i j : Nat} {ty : TypeId} {pos : String} {after : Array Edge} {gd : Option (Nat × Bool)} {v : Value} {f : FuncId} {xs : List Operand} {vs : List Value} {ats : Array TypeId} {A1 A2 : Asrt}

end

/-- slices.Collect(maps.Keys(m)) at a map without entries. -/
def Coll0 (P : Program) (f g : FuncId) (K : TypeId) : Prop := ∀ (Bm b nn : Nat) (D0 : DataW Unit) (w : World), w.cell? ⟨Bm, 0, none⟩ = some (.map (some b)) → Bm < w.heap.size → w.ownsMap P K R0 b nn D0 → Maps.size D0 = 0 →
  Calls P f #[.func (.func g) #[] #[.pointer (some ⟨Bm, 0, none⟩)]] w fun e w' => e = .returned (.slice none 0 0) ∧ Below w.heap.size w w'

end Go.Gx

/-
  GX: strings in order; rows of one-cell elements that the library sorts by a function; the keys of a map of strings. Generic in the program.
-/
namespace Go.Gx
open Go.RowKit Go.Sort Go.Maps Go.Proofs
/-- Bytes, lexically. -/
def bLt (a b : ByteArray) : Bool := Op.bytesLess a.toList b.toList
section
variable {P : Program} {N : Nat} {X : Nat → Prop} {w0 : World} {G : Ghost} {l : List (Nat × Value)} {L : List Asrt}
variable {d : Nat} {ty : TypeId} {pos : String} {after : Array Edge} {gd : Option (Nat × Bool)} {x y : Operand} {T U : TypeId} {a b : ByteArray}
end
/-! ### a row of the call's own, sorted -/
abbrev cS (s : ByteArray) : List Value := [.string s]
section
variable {α : Type} [Inhabited α] {enc : α → Value}
omit [Inhabited α] in
theorem cells_one (zs : List α) : zs.flatMap (fun a => [enc a]) = zs.map enc := by
  induction zs with
  | nil => rfl
  | cons a t ih => simp [ih]
/-- What a call of the library that sorts comes to. -/
def Sort1C (P : Program) (f g : FuncId) (enc : α → Value) (srt : List α → List α) : Prop := ∀ (blk cap : Nat) (zs : List α) (w : World), Holds enc w blk 0 zs.toArray → blk < w.heap.size → zs.length < 4611686018427387904 →
  Calls P f #[.slice (some ⟨blk, 0, none⟩) zs.length cap, .func (.func g) #[] #[]] w fun e w' => e = .returned (.tuple #[]) ∧ ∃ n os, w' = grow (putRow enc (Sort.ahead w n) blk 0 (srt zs).toArray) os
def Sort1N (P : Program) (f g : FuncId) : Prop := ∀ (p : Option Addr) (cap : Nat) (w : World), Calls P f #[.slice p 0 cap, .func (.func g) #[] #[]] w fun e w' => e = .returned (.tuple #[]) ∧ w' = w
variable {P : Program} {ops : Array Oper} {Q : Exit → Act → World → Prop} {N : Nat} {X : Nat → Prop} {w0 : World} {G : Ghost} {l : List (Nat × Value)} {L : List Asrt}
variable {rest : List Oper} {d k n : Nat} {ty : TypeId} {pos : String} {after : Array Edge} {gd : Option (Nat × Bool)} {v : Value} {E : TypeId} {zs : List α} {f g : FuncId} {xs : List Operand} {ats : Array TypeId}
theorem own_holds1 {w : World} {g cap : Nat} {cur : Array Value} (hg : w.heap[g]? = some (.cells cur E (0, 0))) (hc : cur.size = cap) (hn : zs.length ≤ cap) (ht : cur.toList.take zs.length = zs.map enc) : Holds enc w g 0 zs.toArray := by
  intro j hj
  have hj' : j < zs.length := by simpa using hj
  constructor
  · rw [cell_of_row w g (0 + j) cur E (0, 0) hg, Nat.zero_add]
    have h1 := congrArg (fun l => l[j]?) ht
    simp [List.getElem?_take, hj'] at h1
    simp [h1, hj']
  · simp [World.frozen?, hg]
theorem own_after1 {w : World} {g cap q : Nat} {cur : Array Value} {os : Array Obj} {zs' : List α} (hg : w.heap[g]? = some (.cells cur E (0, 0))) (hc : cur.size = cap) (hcm : cap ≤ maxLen) (hz : zs'.length ≤ cap) :
    (rowA (.slice (some ⟨g, 0, none⟩) zs'.length cap) E 1 zs'.length (zs'.flatMap fun a => [enc a])).holds (grow (putRow enc (Sort.ahead w q) g 0 zs'.toArray) os) (fun b => b = g) := by
  have hg' : (Sort.ahead w q).heap[g]? = some (.cells cur E (0, 0)) := hg
  have h1 := putRow_heap (enc := enc) (n := 0) (d := zs'.toArray) hg'
  have hlt : g < (putRow enc (Sort.ahead w q) g 0 zs'.toArray).heap.size := lt_of_heap h1
  refine ⟨⟨?_, .inr ⟨g, cap, putCells enc 0 zs'.toArray cur, rfl, Nat.zero_le _, ?_, by omega, hcm, ?_, ?_⟩⟩, fun b => ⟨fun h => by subst h; rfl, fun h => by simp [Value.ownBlock] at h; exact h.symm⟩, by omega⟩
  · rw [cells_one]; simp
  · show ((putRow enc (Sort.ahead w q) g 0 zs'.toArray).heap ++ os)[g]? = _
    rw [Array.getElem?_append_left hlt]; exact h1
  · simp [putCells, hc]
  · rw [Nat.mul_one, putCells_take (by simp) (by simp; omega), cells_one]
    congr 1
    exact List.take_length
theorem since_sort1 {w : World} {g q : Nat} {os : Array Obj} {zs' : List α} {F : Nat → Prop} (hF : F g) : Since F w (grow (putRow enc (Sort.ahead w q) g 0 zs'.toArray) os) := by
  refine ⟨rfl, rfl, rfl, ?_, fun b hb hx => ?_⟩
  · show w.heap.size ≤ (((putRow enc (Sort.ahead w q) g 0 zs'.toArray).heap ++ os)).size
    have : (putRow enc (Sort.ahead w q) g 0 zs'.toArray).heap.size = w.heap.size := by
      show (w.heap.modify g _).size = _
      simp
    rw [Array.size_append]; omega
  · have hne : b ≠ g := fun e => hx (e ▸ hF)
    show ((putRow enc (Sort.ahead w q) g 0 zs'.toArray).heap ++ os)[b]? = _
    have hsz : (putRow enc (Sort.ahead w q) g 0 zs'.toArray).heap.size = w.heap.size := by
      show (w.heap.modify g _).size = _
      simp
    rw [Array.getElem?_append_left (by omega), putRow_other hne]
    rfl
end
/-! ### the keys of a map of strings -/
section
variable {ν : Type} {P : Program} {K : TypeId}
end
/-- slices.Collect(maps.Keys(m)): the second call, of what the first one made. -/
def CollC (P : Program) (f g : FuncId) (K : TypeId) : Prop := ∀ (Bm b nn : Nat) (D0 : DataW Unit) (w : World), w.cell? ⟨Bm, 0, none⟩ = some (.map (some b)) → Bm < w.heap.size → w.ownsMap P K R0 b nn D0 → Maps.size D0 ≤ maxLen → Maps.size D0 * 16 ≤ 140737488355328 →
  Calls P f #[.func (.func g) #[] #[.pointer (some ⟨Bm, 0, none⟩)]] w fun e w' => ∃ (v : Value) (ss : List (List UInt8)), e = .returned v ∧ ss.Perm (strKeys D0) ∧ w'.ownsRow w.heap.size K 1 v ss.length (ss.map fun l => Value.string ⟨l.toArray⟩) ∧ Below w.heap.size w w'
section
variable {P : Program} {ops : Array Oper} {Q : Exit → Act → World → Prop} {N : Nat} {X : Nat → Prop} {w0 : World} {G : Ghost} {l : List (Nat × Value)} {L : List Asrt}
variable {rest : List Oper} {d i j k n sz : Nat} {ty : TypeId} {pos : String} {after : Array Edge} {gd : Option (Nat × Bool)} {f : FuncId} {xs : List Operand} {vs : List Value} {ats : Array TypeId} {A1 A2 : Asrt} {E E' : TypeId} {r0 : Value} {zs : List Value}
variable {τ : Type} {S : τ → Prop} {R : Value → τ → Asrt}
end
/-! ### strings sorted by bytes -/
def cmpB (a b : ByteArray) : Int := if bLt a b = true then -1 else if bLt b a = true then 1 else 0
def sortB (zs : List ByteArray) : List ByteArray := zs.mergeSort fun x y => !(ltOf cmpB) y x
end Go.Gx

/-
  GX: objects that a map leads to: the map's list bears what each object is, and one assertion holds them all; one of them is taken out and put back. Generic in the program.
-/
namespace Go.Gx
open Go.RowKit
/-- Two assertions say the same. -/
def Asrt.Eqv (A B : Asrt) : Prop := ∀ w F, A.holds w F ↔ B.holds w F
theorem Asrt.Eqv.rfl {A : Asrt} : A.Eqv A := fun _ _ => Iff.rfl
theorem Asrt.Eqv.symm {A B : Asrt} (h : A.Eqv B) : B.Eqv A := fun w F => (h w F).symm
theorem Asrt.Eqv.trans {A B C : Asrt} (h : A.Eqv B) (k : B.Eqv C) : A.Eqv C := fun w F => (h w F).trans (k w F)
theorem star_congr {A A' B B' : Asrt} (h : A.Eqv A') (k : B.Eqv B') : (star A B).Eqv (star A' B') := fun w _ =>
  ⟨fun ⟨F1, F2, h1, h2, h3, h4⟩ => ⟨F1, F2, (h w F1).1 h1, (k w F2).1 h2, h3, h4⟩, fun ⟨F1, F2, h1, h2, h3, h4⟩ => ⟨F1, F2, (h w F1).2 h1, (k w F2).2 h2, h3, h4⟩⟩
theorem star_comm (A B : Asrt) : (star A B).Eqv (star B A) := by
  have key : ∀ (A B : Asrt) w F, (star A B).holds w F → (star B A).holds w F := fun A B w F ⟨F1, F2, h1, h2, h3, h4⟩ =>
    ⟨F2, F1, h2, h1, fun b hb ha => h3 b ha hb, fun b => (h4 b).trans Or.comm⟩
  exact fun w F => ⟨key A B w F, key B A w F⟩
theorem star_assoc (A B C : Asrt) : (star A (star B C)).Eqv (star (star A B) C) := fun w F => by
  constructor
  · rintro ⟨F1, F2, h1, ⟨F3, F4, h5, h6, h7, h8⟩, h3, h4⟩
    refine ⟨fun b => F1 b ∨ F3 b, F4, ⟨F1, F3, h1, h5, fun b ha hb => h3 b ha ((h8 b).2 (.inl hb)), fun _ => Iff.rfl⟩, h6, ?_, fun b => ?_⟩
    · rintro b (hb | hb) hc
      · exact h3 b hb ((h8 b).2 (.inr hc))
      · exact h7 b hb hc
    · rw [h4 b, h8 b, or_assoc]
  · rintro ⟨F1, F2, ⟨F3, F4, h5, h6, h7, h8⟩, h2, h3, h4⟩
    refine ⟨F3, fun b => F4 b ∨ F2 b, h5, ⟨F4, F2, h6, h2, fun b ha hb => h3 b ((h8 b).2 (.inr ha)) hb, fun _ => Iff.rfl⟩, ?_, fun b => ?_⟩
    · rintro b hb (hc | hc)
      · exact h7 b hb hc
      · exact h3 b ((h8 b).2 (.inl hb)) hc
    · rw [h4 b, h8 b, or_assoc]
theorem star_swap (A B C : Asrt) : (star A (star B C)).Eqv (star B (star A C)) :=
  (star_assoc A B C).trans ((star_congr (star_comm A B) .rfl).trans (star_assoc B A C).symm)
theorem Sep.one {w : World} {A B : Asrt} {L : List Asrt} {U : Nat → Prop} (h : ∀ F, A.holds w F → B.holds w F) : Sep w (A :: L) U → Sep w (B :: L) U :=
  fun ⟨F, h1, h2, h3⟩ => ⟨F, h F h1, h2, h3⟩
theorem Sep.unstar {w : World} {A B : Asrt} {L : List Asrt} {U : Nat → Prop} : Sep w (star A B :: L) U → Sep w (A :: B :: L) U := by
  rintro ⟨F, ⟨F1, F2, h1, h2, h3, h4⟩, h5, h6⟩
  refine ⟨F1, h1, fun b hb => h5 b ((h4 b).2 (.inl hb)), F2, h2, fun b hb => ⟨h5 b ((h4 b).2 (.inr hb)), fun ha => h3 b ha hb⟩, Sep.mono h6 (fun b _ hu => ⟨⟨hu.1, fun ha => hu.2 ((h4 b).2 (.inl ha))⟩, fun hb => hu.2 ((h4 b).2 (.inr hb))⟩)⟩
theorem Sep.restar {w : World} {A B : Asrt} {L : List Asrt} {U : Nat → Prop} : Sep w (A :: B :: L) U → Sep w (star A B :: L) U := by
  rintro ⟨F1, h1, h2, F2, h3, h4, h5⟩
  refine ⟨fun b => F1 b ∨ F2 b, ⟨F1, F2, h1, h3, fun b ha hb => (h4 b hb).2 ha, fun _ => Iff.rfl⟩, ?_, Sep.mono h5 (fun b _ hu => ⟨hu.1.1, ?_⟩)⟩
  · rintro b (hb | hb)
    · exact h2 b hb
    · exact (h4 b hb).1
  · rintro (hb | hb)
    · exact hu.1.2 hb
    · exact hu.2 hb
section
variable {κ ν : Type} [DecidableEq κ]
/-- All objects of a list. -/
def hoard (F : κ × ν → Asrt) (l : List (κ × ν)) : Asrt := starL (l.map F)
theorem hoard_pick (F : κ × ν → Asrt) : ∀ {l : List (κ × ν)} {k : κ} {v : ν}, lkp l k = some v → (hoard F l).Eqv (star (F (k, v)) (hoard F (mdel l k)))
  | [], _, _, h => by simp [lkp] at h
  | p :: t, k, v, h => by
    obtain ⟨pk, pv⟩ := p
    rw [lkp] at h
    rw [mdel]
    by_cases e : pk = k
    · simp only [e, if_true, Option.some.injEq] at h ⊢
      rw [h]; exact .rfl
    · simp only [e, if_false] at h ⊢
      exact (star_congr (Asrt.Eqv.rfl (A := F (pk, pv))) (hoard_pick F h)).trans (star_swap _ _ _)
theorem hoard_put (F : κ × ν → Asrt) : ∀ {l : List (κ × ν)} {k : κ} {u : ν} (v : ν), lkp l k = some u → (star (F (k, v)) (hoard F (mdel l k))).Eqv (hoard F (mput l k v))
  | [], _, _, _, h => by simp [lkp] at h
  | p :: t, k, u, v, h => by
    obtain ⟨pk, pv⟩ := p
    rw [lkp] at h
    rw [mdel, mput]
    by_cases e : pk = k
    · simp only [e, if_true]; exact .rfl
    · simp only [e, if_false] at h ⊢
      exact (star_swap _ _ _).trans (star_congr (Asrt.Eqv.rfl (A := F (pk, pv))) (hoard_put F v h))
theorem hoard_new (F : κ × ν → Asrt) : ∀ {l : List (κ × ν)} {k : κ} (v : ν), lkp l k = none → (star (F (k, v)) (hoard F l)).Eqv (hoard F (mput l k v))
  | [], _, _, _ => .rfl
  | p :: t, k, v, h => by
    obtain ⟨pk, pv⟩ := p
    rw [lkp] at h
    rw [mput]
    by_cases e : pk = k
    · rw [if_pos e] at h; cases h
    · simp only [e, if_false] at h ⊢
      exact (star_swap _ _ _).trans (star_congr (Asrt.Eqv.rfl (A := F (pk, pv))) (hoard_new F v h))
section
variable {X : Nat → Prop} {w0 w : World} {G : Ghost} {L : List Asrt} {F : κ × ν → Asrt} {l : List (κ × ν)} {k : κ} {u v : ν}
theorem Mem.focus (hk : lkp l k = some v) (h : Mem X w0 G w (hoard F l :: L)) : Mem X w0 G w (F (k, v) :: hoard F (mdel l k) :: L) :=
  ⟨h.since, h.has, (h.sep.one (fun f => (hoard_pick F hk w f).1)).unstar⟩
theorem Mem.unfocus (hk : lkp l k = some u) (h : Mem X w0 G w (F (k, v) :: hoard F (mdel l k) :: L)) : Mem X w0 G w (hoard F (mput l k v) :: L) :=
  ⟨h.since, h.has, h.sep.restar.one (fun f => (hoard_put F v hk w f).1)⟩
theorem Mem.fnew (hk : lkp l k = none) (h : Mem X w0 G w (F (k, v) :: hoard F l :: L)) : Mem X w0 G w (hoard F (mput l k v) :: L) :=
  ⟨h.since, h.has, h.sep.restar.one (fun f => (hoard_new F v hk w f).1)⟩
variable {P : Program} {ops : Array Oper} {Q : Exit → Act → World → Prop} {N : Nat} {fr : List (Nat × Value)} {rest : List Oper} {c : Code} {e : Exit}
end
/-! ### what a map's list says besides -/
omit [DecidableEq κ] in
theorem mapA_recast {m : Nat} {ke : κ → Value} {ve : ν → Value} {l l' : List (κ × ν)} (h : l.map (enc ke ve) = l'.map (enc ke ve)) {w : World} {F : Nat → Prop} (hb : (mapA m ke ve l).holds w F) : (mapA m ke ve l').holds w F := by
  obtain ⟨⟨es, c, hM⟩, hF⟩ := hb
  exact ⟨⟨es, c, ⟨hM.heap, hM.st, hM.eq.trans h⟩⟩, hF⟩
theorem mput_enc {ke : κ → Value} {ve : ν → Value} {l : List (κ × ν)} {k : κ} {u v : ν} (hk : lkp l k = some u) (hv : ve u = ve v) : l.map (enc ke ve) = (mput l k v).map (enc ke ve) := by
  induction l with
  | nil => simp [lkp] at hk
  | cons p t ih =>
    rw [lkp] at hk
    rw [mput]
    by_cases e : p.1 = k
    · rw [if_pos e] at hk ⊢
      simp only [Option.some.injEq] at hk
      simp [enc, hk, hv, e]
    · rw [if_neg e] at hk ⊢
      simp [ih hk]
/-- The same map, what one of its values leads to told anew. -/
theorem mapA_retell {m : Nat} {ke : κ → Value} {ve : ν → Value} {l : List (κ × ν)} {k : κ} {u v : ν} (hk : lkp l k = some u) (hv : ve u = ve v) {w : World} {F : Nat → Prop} (hb : (mapA m ke ve l).holds w F) : (mapA m ke ve (mput l k v)).holds w F :=
  mapA_recast (mput_enc hk hv) hb
end
section
variable {κ : Type} {P : Program} {N : Nat} {X : Nat → Prop} {w0 : World} {G : Ghost} {l : List (Nat × Value)} {L : List Asrt}
variable {d i : Nat} {ty : TypeId} {pos : String} {after : Array Edge} {gd : Option (Nat × Bool)} {x y : Operand} {T K E U : TypeId}
end
section
variable {P : Program} {ops : Array Oper} {Q : Exit → Act → World → Prop} {N : Nat} {X : Nat → Prop} {w0 : World} {G : Ghost} {l : List (Nat × Value)} {L : List Asrt}
variable {rest : List Oper} {d i : Nat} {ty : TypeId} {pos : String} {after : Array Edge} {gd : Option (Nat × Bool)} {x y : Operand} {T K E : TypeId}
end
end Go.Gx

/-
  GX: a function value that was handed in is called; an object of no blocks. Generic in the program.
-/
namespace Go.Gx
open Go.RowKit
/-- Nothing. -/
def empA : Asrt where
  holds _ F := ∀ b, ¬ F b
  frame := fun h _ => h
  dom := fun h hb => (h _ hb).elim
theorem evs_app {l : List (Nat × Value)} {cs : List Value} : ∀ {xs : List Operand} {us : List Value}, evs l xs = some us → evs l (xs ++ cs.map Operand.const) = some (us ++ cs)
  | [], us, h => by
    simp only [evs, Option.some.injEq] at h
    subst h
    rw [List.nil_append, List.nil_append]
    induction cs with
    | nil => rfl
    | cons c t ih => simp [evs, ih, ev]
  | x :: xs, us, h => by
    simp only [List.cons_append]
    unfold evs at h ⊢
    cases hx : ev l x with
    | none => simp [hx] at h
    | some u =>
      cases hr : evs l xs with
      | none => simp [hx, hr] at h
      | some r =>
        simp [hx, hr] at h
        subst h
        simp [evs_app hr]
section
variable {P : Program} {ops : Array Oper} {Q : Exit → Act → World → Prop} {N : Nat} {X : Nat → Prop} {w0 : World} {G : Ghost} {l : List (Nat × Value)} {L : List Asrt}
variable {rest : List Oper} {d : Nat} {ty : TypeId} {pos : String} {after : Array Edge} {gd : Option (Nat × Bool)}
end
section
variable {P : Program} {ops : Array Oper} {Q : Exit → Act → World → Prop} {N : Nat} {X : Nat → Prop} {w0 : World} {G : Ghost} {l l0 : List (Nat × Value)} {L : List Asrt}
variable {brk : Nat → Bool} {G0 : Ghost} {L0 : List Asrt} {n : Nat} {listed : Array Bool} {o o' o2 : Oper}
end
section
variable {P : Program} {ops : Array Oper} {brk : Nat → Bool} {G0 : Ghost} {L0 : List Asrt} {Q : Exit → Act → World → Prop} {N : Nat} {X : Nat → Prop} {w0 : World} {G : Ghost} {l : List (Nat × Value)} {L : List Asrt}
variable {d n : Nat} {listed : Array Bool} {ty : TypeId} {pos : String} {after : Array Edge} {gd : Option (Nat × Bool)} {v : Value} {T E : TypeId} {m sz : Nat} {q : IntKind} {f : Nat → Nat → Value} {x o : Operand}
end
section
variable {P : Program} {ops : Array Oper} {brk : Nat → Bool} {G0 : Ghost} {L0 : List Asrt} {Q : Exit → Act → World → Prop} {N : Nat} {X : Nat → Prop} {w0 : World} {G : Ghost} {l : List (Nat × Value)} {L : List Asrt} {ph : Bool} {m : Nat} {listed : Array Bool}
end
end Go.Gx
namespace Go.Gx
open Go.RowKit
section
variable {P : Program} {ops : Array Oper} {Q : Exit → Act → World → Prop} {N : Nat} {X : Nat → Prop} {w0 : World} {G : Ghost} {l : List (Nat × Value)} {L : List Asrt}
variable {rest : List Oper} {d : Nat} {ty : TypeId} {pos : String} {after : Array Edge} {gd : Option (Nat × Bool)}
end
/-- What is known of one block. -/
def oneG (b : Nat) (o : Obj) : Ghost := fun x => if x = b then some o else none
/-- A row that is known beside one block and lies elsewhere. -/
theorem RowAt.other {w : World} {G : Ghost} {b p o n : Nat} {ob : Obj} {g : Nat → Value} (hn : GNew w nX (oneG b ob) G) (h : RowAt G p o n g) (hne : p ≠ b) : RowAt (Gx.fr w G) p o n g := by
  refine h.fr ?_
  obtain ⟨c, T, f, h1, _⟩ := h
  have h2 : oneG b ob p = none := by unfold oneG; rw [if_neg hne]
  rcases hn.new p h2 (by rw [h1]; simp) with h3 | h3
  · exact h3
  · exact h3.elim
end Go.Gx

/-
  GX: rows of the call's own that are written in place, cut, cleared, turned; packs of assertions. Generic in the program.
-/
namespace Go.Gx
open Go.RowKit Go.Sort
/-- A list, written anew from place i on. -/
def putL (xs : List Value) (i : Nat) (vs : List Value) : List Value := xs.take i ++ vs ++ xs.drop (i + vs.length)
theorem putL_length {xs : List Value} {i : Nat} {vs : List Value} (h : i + vs.length ≤ xs.length) : (putL xs i vs).length = xs.length := by
  simp [putL]; omega
theorem putL_get {xs : List Value} {i : Nat} {vs : List Value} (h : i + vs.length ≤ xs.length) (k : Nat) : (putL xs i vs)[k]? = if i ≤ k ∧ k < i + vs.length then vs[k - i]? else xs[k]? := by
  unfold putL
  have hi : (xs.take i).length = i := by simp; omega
  by_cases h1 : k < i
  · rw [if_neg (by omega), List.append_assoc, List.getElem?_append_left (by omega), List.getElem?_take, if_pos h1]
  · by_cases h2 : k < i + vs.length
    · rw [if_pos (by omega), List.append_assoc, List.getElem?_append_right (by omega), hi, List.getElem?_append_left (by omega)]
    · rw [if_neg (by omega), List.getElem?_append_right (by simp; omega), List.getElem?_drop]
      congr 1
      simp; omega
theorem putL_flat {α : Type} {cells : α → List Value} {sz : Nat} (hc : ∀ x, (cells x).length = sz) : ∀ (l : List α) (i : Nat) (a : α), i < l.length → putL (l.flatMap cells) (i * sz) (cells a) = (l.set i a).flatMap cells
  | [], _, _, h => by simp at h
  | x :: t, 0, a, _ => by
    simp only [putL, Nat.zero_mul, List.take_zero, List.nil_append, Nat.zero_add, List.set_cons_zero, List.flatMap_cons]
    rw [hc a, ← hc x, List.drop_left]
  | x :: t, i + 1, a, h => by
    have ih := putL_flat hc t i a (by simpa using h)
    simp only [List.set_cons_succ, List.flatMap_cons, ← ih]
    unfold putL
    have e1 : (i + 1) * sz = (cells x).length + i * sz := by rw [hc x, Nat.add_mul]; omega
    rw [e1, List.take_append, List.take_of_length_le (by omega), List.drop_append, List.drop_eq_nil_of_le (by omega), List.nil_append]
    simp only [Nat.add_sub_cancel_left, List.append_assoc]
    congr 4
    omega
section
variable {P : Program} {ops : Array Oper} {Q : Exit → Act → World → Prop} {N : Nat} {X : Nat → Prop} {w0 : World} {G : Ghost} {l : List (Nat × Value)} {L : List Asrt}
variable {rest : List Oper} {d k : Nat} {ty : TypeId} {pos : String} {after : Array Edge} {gd : Option (Nat × Bool)} {x y : Operand} {v u : Value} {T E : TypeId} {n sz i b cap : Nat} {xs vs : List Value} {q : IntKind}
theorem rowA_write {w : World} {F : Nat → Prop} (h : (rowA v E sz n xs).holds w F) (hv : v = .slice (some ⟨b, 0, none⟩) n cap) (hi : i + vs.length ≤ n * sz) (h1 : ∀ z ∈ vs, z.oneCell' = true) :
    ∃ w', (storeCells ⟨b, i, none⟩ vs 0).run P w = .ok () w' ∧ (rowA v E sz n (putL xs i vs)).holds w' F ∧ Since F w w' := by
  obtain ⟨⟨hlen, hown⟩, hF, hmax⟩ := h
  rcases hown with ⟨rfl, _⟩ | ⟨g, cap', cur, rfl, _, hg, hnc, hcm, hcs, htk⟩
  · cases hv
  cases hv
  have hle : n * sz ≤ cap * sz := Nat.mul_le_mul_right _ hnc
  have hB : BoxAt w b (cap * sz) E (fun k => cur.toList.getD k undef) := ⟨cur, hg, hcs, fun k hk => by
    have : k < cur.size := by omega
    simp [List.getD, this]⟩
  obtain ⟨w', hr, ⟨c, hc1, hc2⟩, hs⟩ := run_storeCells_box (P := P) vs i 0 w b (cap * sz) E _ hB (by omega) h1
  refine ⟨w', hr, ⟨⟨by rw [putL_length (by omega)]; exact hlen, .inr ⟨b, cap, c, rfl, Nat.zero_le _, hc1, hnc, hcm, hc2.size, ?_⟩⟩, hF, hmax⟩, ⟨hs.os, hs.tape, hs.output, hs.size, fun k hk hx => hs.block k hk (fun e => hx ((hF k).2 (by subst e; rfl)))⟩⟩
  apply List.ext_getElem?
  intro k
  rw [putL_get (by omega)]
  by_cases hk : k < n * sz
  · have h2 := hc2.get k (by omega)
    rw [List.getElem?_take, if_pos hk, Array.getElem?_toList, h2, updR_eq]
    by_cases h3 : i ≤ k ∧ k < i + vs.length
    · rw [if_pos (by omega), if_pos h3, Nat.add_zero]
      exact (at_get vs (k - i) (by omega)).symm
    · rw [if_neg (by omega), if_neg h3]
      have h4 := congrArg (fun z : List Value => z[k]?) htk
      simp only [List.getElem?_take, if_pos hk] at h4
      rw [← h4]
      have : k < cur.size := by omega
      simp [List.getD, this]
  · rw [List.getElem?_take, if_neg hk, if_neg (by omega), List.getElem?_eq_none (by omega)]
/-- A store into a row of the call's own. -/
theorem r_sto (hw : Wt ops l gd) (hs : SzIs P T vs.length) (hx : ev l x = some (.pointer (some ⟨b, i, none⟩))) (hy : ev l y = some u) (hu : u.cells = vs.toArray) (h1 : ∀ z ∈ vs, z.oneCell' = true) (hL : L[k]? = some (rowA v E sz n xs)) (hv : v = .slice (some ⟨b, 0, none⟩) n cap) (hi : i + vs.length ≤ n * sz)
    (h : Runs P ops Q N X w0 G rest l (L.set k (rowA v E sz n (putL xs i vs)))) : Runs P ops Q N X w0 G (⟨none, .store T x y, ty, pos, after, gd⟩ :: rest) l L := by
  refine Runs.step hw (fun a w hS => ?_)
  show Oper.upon P _ a _ Q _
  obtain ⟨F, hA, _, hput⟩ := hS.mem.take hL
  obtain ⟨w', hr, hB, hs'⟩ := rowA_write (P := P) hA hv hi h1
  have hr : (execOp a.eval ⟨none, .store T x y, ty, pos, after, gd⟩).run P w = .ok .skip w' := by
    simp only [execOp, hS.fr.eval hx, hS.fr.eval hy]
    simp [Instr.storeAt, Instr.sureAddr, storeVar, hs.run, hu, hr]
  rw [hr, Oper.upon_skip]
  exact h _ _ ⟨hS.fr, hput _ _ F hs' hB (fun b hb => .inl hb)⟩
/-- A store of an element. -/
theorem r_stoe {α : Type} {cells : α → List Value} {zs : List α} (a : α) (hc : ∀ x, (cells x).length = sz) (hw : Wt ops l gd) (hs : SzIs P T sz) (hx : ev l x = some (.pointer (some ⟨b, i * sz, none⟩))) (hy : ev l y = some u) (hu : u.cells = (cells a).toArray) (h1 : ∀ z ∈ cells a, z.oneCell' = true) (hL : L[k]? = some (rowA v E sz zs.length (zs.flatMap cells))) (hv : v = .slice (some ⟨b, 0, none⟩) zs.length cap) (hi : i < zs.length)
    (h : Runs P ops Q N X w0 G rest l (L.set k (rowA v E sz (zs.set i a).length ((zs.set i a).flatMap cells)))) : Runs P ops Q N X w0 G (⟨none, .store T x y, ty, pos, after, gd⟩ :: rest) l L := by
  have hm : i * sz + sz ≤ zs.length * sz := by rw [← Nat.succ_mul]; exact Nat.mul_le_mul_right _ hi
  refine r_sto (vs := cells a) hw (by rw [hc]; exact hs) hx hy hu h1 hL hv (by rw [hc]; exact hm) ?_
  rw [putL_flat hc zs i a hi]
  rw [List.length_set] at h
  exact h
/-- s[a:b] of a row of the call's own, as a value. -/
theorem p_slice_o {a m : Nat} {q' : IntKind} (hT : P.underlying T = some (.slice E)) (hE : SzIs P E sz) (hx : ev l x = some v) (hv : v = .slice (some ⟨b, 0, none⟩) n cap) (hn : n ≤ cap) (lo hi : Option Operand)
    (hlo : match lo with | none => a = 0 | some o => ev l o = some (.int q (a : Nat))) (hhi : match hi with | none => m = n | some o => ev l o = some (.int q' (m : Nat))) (ham : a ≤ m) (hmn : m ≤ n) :
    PV P N X w0 G l L ⟨some d, .slice T x lo hi none, ty, pos, after, gd⟩ (.slice (if cap = a then some ⟨b, 0, none⟩ else some ⟨b, a * sz, none⟩) (m - a) (cap - a)) := by
  intro ac w hS
  subst hv
  have hbc : (0 : Int) ≤ (m : Int) ∧ (m : Int) ≤ (cap : Int) := by omega
  have hab' : (0 : Int) ≤ (a : Int) ∧ (a : Int) ≤ (m : Int) := by omega
  have hp : ∀ (o : Option Addr), (o = some ⟨b, 0, none⟩) → (if cap = a then o else o.map (·.add (a * sz))) = (if cap = a then some ⟨b, 0, none⟩ else some ⟨b, a * sz, none⟩) := by rintro _ rfl; simp [addr_add]
  have hrun : (Instr.sliceAt T (.slice (some ⟨b, 0, none⟩) n cap) (lo.map ac.eval) (hi.map ac.eval) none).run P w = .ok (.slice (if cap = a then some ⟨b, 0, none⟩ else some ⟨b, a * sz, none⟩) (m - a) (cap - a)) w := by
    cases lo with
    | none =>
      simp only at hlo
      subst hlo
      cases hi with
      | none =>
        simp only at hhi
        subst hhi
        simp [Instr.sliceAt, Instr.slice, run_underlying hT, Instr.sliceBounds, hE.run, addr_add]
      | some o =>
        simp only at hhi
        simp [Instr.sliceAt, Instr.slice, run_underlying hT, Instr.sliceBounds, Instr.sliceBound, asIntOf, hS.fr.eval hhi, hE.run, show m ≤ cap by omega, addr_add]
    | some o2 =>
      simp only at hlo
      cases hi with
      | none =>
        simp only at hhi
        subst hhi
        simp [Instr.sliceAt, Instr.slice, run_underlying hT, Instr.sliceBounds, Instr.sliceBound, asIntOf, hS.fr.eval hlo, hE.run, ham, addr_add]
      | some o =>
        simp only at hhi
        simp [Instr.sliceAt, Instr.slice, run_underlying hT, Instr.sliceBounds, Instr.sliceBound, asIntOf, hS.fr.eval hlo, hS.fr.eval hhi, hE.run, ham, show m ≤ cap by omega, addr_add]
  simp only [execOp, hS.fr.eval hx]
  simp [hrun]
theorem rowA_cap {w : World} {F : Nat → Prop} (h : (rowA v E sz n xs).holds w F) (hv : v = .slice (some ⟨b, 0, none⟩) n cap) : n ≤ cap := by
  obtain ⟨⟨_, hown⟩, _⟩ := h
  rcases hown with ⟨rfl, _⟩ | ⟨g, cap', cur, rfl, _, hg, hnc, _⟩
  · cases hv
  · cases hv; exact hnc
/-- A row with elements has a block. -/
theorem r_rowblk (hL : L[k]? = some (rowA v E sz n xs)) (hn : 0 < n) (h : ∀ b cap, v = .slice (some ⟨b, 0, none⟩) n cap → n ≤ cap → Runs P ops Q N X w0 G rest l L) : Runs P ops Q N X w0 G rest l L := by
  intro a w hS
  obtain ⟨F, hA, _, _⟩ := hS.mem.take hL
  obtain ⟨b, cap, hv⟩ := rowA_slice hA hn
  exact h b cap hv (rowA_cap hA hv) a w hS
/-- The beginning of a row takes the row's place. -/
theorem rowA_cut {w : World} {F : Nat → Prop} {m : Nat} (h : (rowA v E sz n xs).holds w F) (hv : v = .slice (some ⟨b, 0, none⟩) n cap) (hm : m ≤ n) : (rowA (.slice (some ⟨b, 0, none⟩) m cap) E sz m (xs.take (m * sz))).holds w F := by
  obtain ⟨⟨hlen, hown⟩, hF, hmax⟩ := h
  have hle : m * sz ≤ n * sz := Nat.mul_le_mul_right _ hm
  rcases hown with ⟨rfl, _⟩ | ⟨g, cap', cur, rfl, _, hg, hnc, hcm, hcs, htk⟩
  · cases hv
  · cases hv
    refine ⟨⟨by rw [List.length_take]; omega, .inr ⟨b, cap, cur, rfl, Nat.zero_le _, hg, by omega, hcm, hcs, ?_⟩⟩, hF, by omega⟩
    rw [← htk, List.take_take, Nat.min_eq_left hle]
theorem r_cut {m : Nat} (hL : L[k]? = some (rowA v E sz n xs)) (hv : v = .slice (some ⟨b, 0, none⟩) n cap) (hm : m ≤ n)
    (h : Runs P ops Q N X w0 G rest l (L.set k (rowA (.slice (some ⟨b, 0, none⟩) m cap) E sz m (xs.take (m * sz))))) : Runs P ops Q N X w0 G rest l L := by
  intro a w hS
  obtain ⟨F, hA, _, hput⟩ := hS.mem.take hL
  exact h a w ⟨hS.fr, hput w _ F (Since.refl _ _) (rowA_cut hA hv hm) (fun b hb => .inl hb)⟩
/-- clear(s[a:]) of a row of the call's own: what stands ahead stays. -/
theorem r_clear {a c' bytes : Nat} {zv : Value} {p : Option Addr} (hw : Wt ops l gd) (hT : P.underlying T = some (.slice E)) (hE : ElemIs P E sz bytes zv) (hz : zv.cells.size = sz) (h1 : ∀ z ∈ zv.cells.toList, z.oneCell' = true) (hpos : 0 < sz)
    (hx : ev l x = some (.slice p (n - a) c')) (hp : a < n → p = some ⟨b, a * sz, none⟩) (ha : a ≤ n) (hL : L[k]? = some (rowA v E sz n xs)) (hv : v = .slice (some ⟨b, 0, none⟩) n cap)
    (h : ∀ ys, ys.take (a * sz) = xs.take (a * sz) → Runs P ops Q N X w0 G rest l (L.set k (rowA v E sz n ys))) : Runs P ops Q N X w0 G (⟨none, .call ⟨.builtin .clear, #[x], #[T]⟩, ty, pos, after, gd⟩ :: rest) l L := by
  refine Runs.step hw (fun ac w hS => ?_)
  show Oper.upon P _ ac _ Q _
  obtain ⟨F, hA, _, hput⟩ := hS.mem.take hL
  obtain ⟨inf, hi1, hi2, hi3, hi4⟩ := hE.info
  have hzr : (zeroValue E).run P w = .ok zv w := ZeroIs.run (by unfold ZeroIs; rw [hi1]; exact hi2) w
  rcases Nat.lt_or_ge a n with han | han
  · have hpp := hp han
    subst hpp
    have hlen := hA.1.1
    have hm : a * sz + (n - a) * sz = n * sz := by rw [← Nat.add_mul]; congr 1; omega
    let vs := (Builtin.zeroCells zv.cells (n - a)).toList
    have hvl : vs.length = (n - a) * sz := by simp [vs, Builtin.zeroCells, hz]
    have hones : ∀ z ∈ vs, z.oneCell' = true := by
      intro z hz'
      simp only [vs, Builtin.zeroCells, Array.toList_map, List.mem_map, Array.mem_toList_iff, Array.mem_range] at hz'
      obtain ⟨j, _, rfl⟩ := hz'
      have hlt : j % zv.cells.size < zv.cells.size := Nat.mod_lt _ (by omega)
      rw [getElem!_pos zv.cells _ hlt]
      exact h1 _ (by simp)
    obtain ⟨w', hr, hB, hs'⟩ := rowA_write (P := P) (i := a * sz) (vs := vs) hA hv (by rw [hvl]; omega) hones
    have hr2 : (execOp ac.eval ⟨none, .call ⟨.builtin .clear, #[x], #[T]⟩, ty, pos, after, gd⟩).run P w = .ok (.value (.tuple #[])) w' := by
      obtain ⟨m, hm⟩ : ∃ m, n - a = m + 1 := ⟨n - a - 1, by omega⟩
      have hr' : (storeCells ⟨b, a * sz, none⟩ (Builtin.zeroCells zv.cells (m + 1)).toList).run P w = .ok () w' := by rw [← hm]; exact hr
      have hr3 : (Builtin.clear_ #[T] ty #[.slice (some ⟨b, a * sz, none⟩) (n - a) c']).run P w = .ok (.tuple #[]) w' := by
        rw [hm]
        simp [Builtin.clear_, run_underlying hT, hzr, hr']
      simp [execOp, resolve, invoke, builtin, hS.fr.eval hx, hr3]
    rw [hr2, Oper.upon_value]
    refine h (putL xs (a * sz) vs) ?_ _ _ ⟨hS.fr, hput _ _ F hs' hB (fun b hb => .inl hb)⟩
    unfold putL
    rw [List.append_assoc, List.take_append_of_le_length (by simp; omega), List.take_take, Nat.min_self]
  · have e : n - a = 0 := by omega
    rw [e] at hx
    have hr2 : (execOp ac.eval ⟨none, .call ⟨.builtin .clear, #[x], #[T]⟩, ty, pos, after, gd⟩).run P w = .ok (.value (.tuple #[])) w := by
      cases p <;> simp [execOp, resolve, invoke, builtin, Builtin.clear_, hS.fr.eval hx, run_underlying hT]
    rw [hr2, Oper.upon_value]
    have e2 : L.set k (rowA v E sz n xs) = L := set_self hL
    have h' := h xs rfl
    rw [e2] at h'
    exact h' _ _ ⟨hS.fr, hS.mem⟩
/-- s[:m] of a row of the call's own, as a value. -/
theorem p_slice_o0 {m : Nat} {q' : IntKind} {o : Operand} (hT : P.underlying T = some (.slice E)) (hE : SzIs P E sz) (hx : ev l x = some v) (hv : v = .slice (some ⟨b, 0, none⟩) n cap) (hn : n ≤ cap) (hhi : ev l o = some (.int q' (m : Nat))) (hmn : m ≤ n) :
    PV P N X w0 G l L ⟨some d, .slice T x none (some o) none, ty, pos, after, gd⟩ (.slice (some ⟨b, 0, none⟩) m cap) := by
  have h := p_slice_o (P := P) (N := N) (X := X) (w0 := w0) (G := G) (L := L) (d := d) (ty := ty) (pos := pos) (after := after) (gd := gd) (q := .i64) (q' := q') (a := 0) (m := m) hT hE hx hv hn none (some o) rfl hhi (Nat.zero_le _) hmn
  simpa using h
/-- A function value that was handed in is called: it changes one object. -/
theorem r_yieldo {f : FuncId} {xs : List Operand} {us cs : List Value} {ats : Array TypeId} {A B : Asrt} {z : Operand} {r : Value} (hw : Wt ops l gd) (hd : Nat.blt d N = true) (hy : ev l z = some (.func (.func f) #[] cs.toArray)) (hx : evs l xs = some us) (hf : Callable P f) (hL : L[k]? = some A)
    (hc : ∀ w F, Has G w → A.holds w F → (∀ b, F b → G b = none) → Calls P f (us ++ cs).toArray w (Ret fun r' w' => r' = r ∧ Kept B F w w'))
    (h : Runs P ops Q N X w0 G rest ((d, r) :: l) (L.set k B)) : Runs P ops Q N X w0 G (⟨some d, .call ⟨.value z, xs.toArray, ats⟩, ty, pos, after, gd⟩ :: rest) l L :=
  r_fun hw hy (r_callo (vs := us ++ cs) hw hd hf (evs_app hx) hL hc h)
/-! ### packs -/
theorem r_pack (Ls : List Asrt) (h : Runs P ops Q N X w0 G rest l (starL Ls :: L)) : Runs P ops Q N X w0 G rest l (Ls ++ L) :=
  fun a w hS => h a w ⟨hS.fr, hS.mem.pack⟩
theorem r_unpack {Ls : List Asrt} (h : Runs P ops Q N X w0 G rest l (Ls ++ L)) : Runs P ops Q N X w0 G rest l (starL Ls :: L) :=
  fun a w hS => h a w ⟨hS.fr, hS.mem.unpack⟩
theorem r_unex {α : Type} {A : α → Asrt} (h : ∀ x, Runs P ops Q N X w0 G rest l (A x :: L)) : Runs P ops Q N X w0 G rest l (exA A :: L) := by
  intro a w hS
  obtain ⟨x, hm⟩ := hS.mem.unex
  exact h x a w ⟨hS.fr, hm⟩
theorem r_unand {p : Prop} {A : Asrt} (h : p → Runs P ops Q N X w0 G rest l (A :: L)) : Runs P ops Q N X w0 G rest l (andA p A :: L) := by
  intro a w hS
  obtain ⟨hp, hm⟩ := hS.mem.unand
  exact h hp a w ⟨hS.fr, hm⟩
end
/-! ### what a function takes out of a list, one by one -/
section
variable {α σ : Type}
def dels (p : α → σ → Bool × σ) : List α → σ → List α × σ
  | [], s => ([], s)
  | x :: t, s => (if (p x s).1 = true then (dels p t (p x s).2).1 else x :: (dels p t (p x s).2).1, (dels p t (p x s).2).2)
theorem dels_append (p : α → σ → Bool × σ) : ∀ (a b : List α) (s : σ), dels p (a ++ b) s = ((dels p a s).1 ++ (dels p b (dels p a s).2).1, (dels p b (dels p a s).2).2)
  | [], b, s => by simp [dels]
  | x :: t, b, s => by
    simp only [List.cons_append, dels, dels_append p t b]
    split <;> simp
theorem dels_next (p : α → σ → Bool × σ) (e : α) {l : List α} {j : Nat} (hj : j < l.length) (s : σ) : dels p (l.take (j + 1)) s = ((dels p (l.take j) s).1 ++ (if (p (l.getD j e) (dels p (l.take j) s).2).1 = true then [] else [l.getD j e]), (p (l.getD j e) (dels p (l.take j) s).2).2) := by
  have h : l.take (j + 1) = l.take j ++ [l.getD j e] := by rw [List.take_succ_eq_append_getElem hj]; simp [List.getD, hj]
  rw [h, dels_append]
  simp only [dels]
/-- The first thing that is taken out. -/
def ixD (p : α → σ → Bool × σ) : List α → Nat → σ → Int × σ
  | [], _, s => (-1, s)
  | x :: t, j, s => if (p x s).1 = true then ((j : Int), (p x s).2) else ixD p t (j + 1) (p x s).2
theorem ixD_none (p : α → σ → Bool × σ) : ∀ (l : List α) (j : Nat) (s : σ), (ixD p l j s).1 = -1 → dels p l s = (l, (ixD p l j s).2)
  | [], _, _, _ => rfl
  | x :: t, j, s, h => by
    rw [ixD] at h ⊢
    split at h
    · omega
    · rename_i h1
      rw [if_neg h1, dels, if_neg h1, ixD_none p t (j + 1) _ h]
theorem ixD_some (p : α → σ → Bool × σ) : ∀ (l : List α) (j : Nat) (s : σ), ¬ (ixD p l j s).1 = -1 → ∃ i, (ixD p l j s).1 = ((j + i : Nat) : Int) ∧ i < l.length ∧ dels p (l.take (i + 1)) s = (l.take i, (ixD p l j s).2)
  | [], _, _, h => absurd rfl h
  | x :: t, j, s, h => by
    rw [ixD] at h ⊢
    split at h
    · rename_i h1
      exact ⟨0, by rw [if_pos h1]; simp, by simp, by rw [if_pos h1]; simp [dels, h1]⟩
    · rename_i h1
      obtain ⟨i, h2, h3, h4⟩ := ixD_some p t (j + 1) _ h
      refine ⟨i + 1, by rw [if_neg h1, h2]; congr 1; omega, by simp; omega, ?_⟩
      rw [if_neg h1, List.take_succ_cons, dels, if_neg h1, h4]; rfl
theorem ixD_some0 (p : α → σ → Bool × σ) (l : List α) (s : σ) (h : ¬ (ixD p l 0 s).1 = -1) : ∃ i : Nat, (ixD p l 0 s).1 = (i : Int) ∧ i < l.length ∧ dels p (l.take (i + 1)) s = (l.take i, (ixD p l 0 s).2) := by
  obtain ⟨i, h1, h2, h3⟩ := ixD_some p l 0 s h
  exact ⟨i, by rw [h1, Nat.zero_add], h2, h3⟩
theorem flatMap_take {cells : α → List Value} {sz : Nat} (hc : ∀ x, (cells x).length = sz) : ∀ (l : List α) (i : Nat), (l.flatMap cells).take (i * sz) = (l.take i).flatMap cells
  | [], i => by simp
  | x :: t, 0 => by simp
  | x :: t, i + 1 => by
    have e1 : (i + 1) * sz = (cells x).length + i * sz := by rw [hc x, Nat.add_mul]; omega
    rw [List.take_succ_cons, List.flatMap_cons, List.flatMap_cons, e1, List.take_append, List.take_of_length_le (by omega), Nat.add_sub_cancel_left, flatMap_take hc t i]
theorem ixD_no {p : α → σ → Bool × σ} {l : List α} {j : Nat} {s : σ} (e : α) (hj : j < l.length) (h : ¬ (p (l.getD j e) s).1 = true) : ixD p (l.drop j) j s = ixD p (l.drop (j + 1)) (j + 1) (p (l.getD j e) s).2 := by
  have e1 : l.getD j e = l[j] := by simp [List.getD, hj]
  rw [List.drop_eq_getElem_cons hj, ixD, ← e1, if_neg h]
theorem ixD_yes {p : α → σ → Bool × σ} {l : List α} {j : Nat} {s : σ} (e : α) (hj : j < l.length) (h : (p (l.getD j e) s).1 = true) : ixD p (l.drop j) j s = ((j : Int), (p (l.getD j e) s).2) := by
  have e1 : l.getD j e = l[j] := by simp [List.getD, hj]
  rw [List.drop_eq_getElem_cons hj, ixD, ← e1, if_pos h]
theorem set_take {l : List α} {i : Nat} {a : α} (hi : i < l.length) : (l.set i a).take (i + 1) = l.take i ++ [a] := by
  rw [List.take_succ_eq_append_getElem (by simpa using hi)]
  rw [List.take_set_of_le (Nat.le_refl _)]
  simp
theorem set_drop {l : List α} {i j : Nat} {a : α} (h : i < j) : (l.set i a).drop j = l.drop j := by
  rw [List.drop_set, if_pos h]
theorem drop_getD {l m : List α} {j : Nat} (e : α) (h : l.drop j = m.drop j) : l.getD j e = m.getD j e := by
  have h1 := congrArg (fun z : List α => z[0]?) h
  simp only [List.getElem?_drop, Nat.add_zero] at h1
  simp [List.getD, h1]
theorem drop_next {l m : List α} {j : Nat} (h : l.drop j = m.drop j) : l.drop (j + 1) = m.drop (j + 1) := by
  have h1 := congrArg (List.drop 1) h
  simpa [List.drop_drop, Nat.add_comm] using h1
/-- What a function that was handed in comes to: it changes one object. -/
def HCL (P : Program) (g : FuncId) (cs : List Value) (val : α → Value) (A : σ → Asrt) (p : α → σ → Bool × σ) (G : Ghost) : Prop := ∀ x s w F, Has G w → (A s).holds w F → (∀ b, F b → G b = none) → Calls P g ([val x] ++ cs).toArray w (Ret fun r w' => r = .bool (p x s).1 ∧ Kept (A (p x s).2) F w w')
theorem HCL.mono {P : Program} {g : FuncId} {cs : List Value} {val : α → Value} {A : σ → Asrt} {p : α → σ → Bool × σ} {G G' : Ghost} (h : HCL P g cs val A p G) (hle : GLe G G') : HCL P g cs val A p G' :=
  fun x s w F hG hA hF => h x s w F (fun b o e => hG b o (hle b o e)) hA (fun b hb => by
    cases e : G b with
    | none => rfl
    | some o => have := hle b o e; rw [hF b hb] at this; cases this)
/-- A function that asks nothing of a state: a filter. -/
theorem dels_pure (p : α → Bool) : ∀ (l : List α), (dels (fun x (_ : Unit) => (p x, ())) l ()).1 = l.filter (fun x => !p x)
  | [] => rfl
  | x :: t => by
    have ih := dels_pure p t
    simp only [dels, List.filter_cons]
    cases h : p x <;> simp [ih]
end
end Go.Gx

/-
  GX: maps of maps and of objects: what a look-up comes to where the key is there, and where it isn't; inner maps taken out and put back; sorted keys of a nil map. Generic in the program.
-/
namespace Go.Gx
open Go.RowKit Go.Sort Go.Maps
section
variable {κ ν : Type} [DecidableEq κ]
theorem lkp_map {μ : Type} (f : ν → μ) (l : List (κ × ν)) (k : κ) : lkp (l.map fun p => (p.1, f p.2)) k = (lkp l k).map f := by
  induction l with
  | nil => rfl
  | cons p t ih =>
    simp only [List.map_cons, lkp]
    split
    · rfl
    · exact ih
theorem mput_map {μ : Type} (f : ν → μ) (l : List (κ × ν)) (k : κ) (v : ν) : (mput l k v).map (fun p => (p.1, f p.2)) = mput (l.map fun p => (p.1, f p.2)) k (f v) := by
  induction l with
  | nil => rfl
  | cons p t ih =>
    simp only [List.map_cons, mput]
    split
    · rfl
    · simp [ih]
theorem mdel_map {μ : Type} (f : ν → μ) (l : List (κ × ν)) (k : κ) : (mdel l k).map (fun p => (p.1, f p.2)) = mdel (l.map fun p => (p.1, f p.2)) k := by
  induction l with
  | nil => rfl
  | cons p t ih =>
    simp only [List.map_cons, mdel]
    split
    · rfl
    · simp [ih]
/-- The zero value besides. -/
def veO (ve : ν → Value) (zv : Value) : Option ν → Value
  | none => zv
  | some v => ve v
omit [DecidableEq κ] in
theorem MapIs.opt {w : World} {m : Nat} {ke : κ → Value} {ve : ν → Value} {l : List (κ × ν)} {es : Array MapEntry} {clock : Nat} (zv : Value) (h : MapIs w m ke ve l es clock) : MapIs w m ke (veO ve zv) (l.map fun p => (p.1, some p.2)) es clock :=
  ⟨h.heap, h.st, by rw [h.eq, List.map_map]; rfl⟩
variable {P : Program} {K : TypeId} {ke : κ → Value} {ve : ν → Value} {N : Nat} {X : Nat → Prop} {w0 : World} {G : Ghost} {l : List (Nat × Value)} {L : List Asrt}
variable {d i m : Nat} {ty : TypeId} {pos : String} {after : Array Edge} {gd : Option (Nat × Bool)} {x y : Operand} {T E : TypeId} {mv : List (κ × ν)} {k : κ} {a : ν} {zv : Value}
theorem p_lookup_yes (hT : P.underlying T = some (.map K E)) (hk : KeyT P K ke) (hz : ZeroIs P E zv) (hx : ev l x = some (.map (some m))) (hL : L[i]? = some (mapA m ke ve mv)) (hy : ev l y = some (ke k)) (ha : lkp mv k = some a) :
    PV P N X w0 G l L ⟨some d, .lookup T x y false, ty, pos, after, gd⟩ (ve a) := by
  intro ac w hS
  obtain ⟨F, ⟨⟨es, clock, hM⟩, _⟩, _, _⟩ := hS.mem.take hL
  have h := run_lookup hT hk (ve := veO ve zv) none hz (hM.opt zv) (k := k) false
  rw [lkp_map, ha] at h
  simp only [execOp, hS.fr.eval hx, hS.fr.eval hy]
  simp [veO] at h
  simp [h]
theorem p_lookup_no (hT : P.underlying T = some (.map K E)) (hk : KeyT P K ke) (hz : ZeroIs P E zv) (hx : ev l x = some (.map (some m))) (hL : L[i]? = some (mapA m ke ve mv)) (hy : ev l y = some (ke k)) (ha : lkp mv k = none) :
    PV P N X w0 G l L ⟨some d, .lookup T x y false, ty, pos, after, gd⟩ zv := by
  intro ac w hS
  obtain ⟨F, ⟨⟨es, clock, hM⟩, _⟩, _, _⟩ := hS.mem.take hL
  have h := run_lookup hT hk (ve := veO ve zv) none hz (hM.opt zv) (k := k) false
  rw [lkp_map, ha] at h
  simp only [execOp, hS.fr.eval hx, hS.fr.eval hy]
  simp [veO] at h
  simp [h]
end
/-! ### maps of maps of numbers -/
abbrev NM := Nat × List (Int × Int)
def veN (v : NM) : Value := .map (some v.1)
def FN {κ : Type} (p : κ × NM) : Asrt := mapA p.2.1 kI kI p.2.2
/-- What a map of maps holds. -/
def eraN {κ : Type} (l : List (κ × NM)) : List (κ × List (Int × Int)) := l.map fun p => (p.1, p.2.2)
section
variable {κ : Type} [DecidableEq κ]
variable {P : Program} {ops : Array Oper} {Q : Exit → Act → World → Prop} {N : Nat} {X : Nat → Prop} {w0 : World} {G : Ghost} {fr : List (Nat × Value)} {L : List Asrt} {rest : List Oper} {c : Code} {e : Exit}
variable {l : List (κ × NM)} {k : κ} {m : Nat} {h h' : List (Int × Int)} {u : NM}
omit [DecidableEq κ] in
theorem Mem.hnil {μ : Type} (F : κ × μ → Asrt) {w : World} (H : Mem X w0 G w L) : Mem X w0 G w (hoard F [] :: L) := ⟨H.since, H.has, (fun _ => False), ⟨trivial, fun _ hb => hb⟩, fun _ hb => hb.elim, H.sep.mono (fun _ _ hb => ⟨hb, id⟩)⟩
omit [DecidableEq κ] in
theorem e_hnil {μ : Type} (F : κ × μ → Asrt) (H : ERuns Q e N X w0 G fr (hoard F [] :: L)) : ERuns Q e N X w0 G fr L := fun a w hS => H a w ⟨hS.fr, hS.mem.hnil F⟩
omit [DecidableEq κ] in
theorem r_hnil {μ : Type} (F : κ × μ → Asrt) (H : Runs P ops Q N X w0 G rest fr (hoard F [] :: L)) : Runs P ops Q N X w0 G rest fr L := fun a w hS => H a w ⟨hS.fr, hS.mem.hnil F⟩
end
/-! ### sorted keys of a nil map -/
def KeysNil (P : Program) (f g : FuncId) (K : TypeId) : Prop := ∀ (Bm : Nat) (w : World), w.cell? ⟨Bm, 0, none⟩ = some (.map none) → Bm < w.heap.size →
  Calls P f #[.func (.func g) #[] #[.pointer (some ⟨Bm, 0, none⟩)]] w fun e w' => ∃ v, e = .returned v ∧ w'.ownsRow w.heap.size K 1 v 0 [] ∧ Below w.heap.size w w'
section
variable {P : Program} {ops : Array Oper} {Q : Exit → Act → World → Prop} {N : Nat} {X : Nat → Prop} {w0 : World} {G : Ghost} {l : List (Nat × Value)} {L : List Asrt}
variable {rest : List Oper} {d j Bm : Nat} {ty : TypeId} {pos : String} {after : Array Edge} {gd : Option (Nat × Bool)} {K T : TypeId} {f g : FuncId} {x : Operand} {ats : Array TypeId}
end
end Go.Gx

/-
  GX: make([]T, n) of a few elements; shifts and masks of small numbers; a call that hands back a row beside an object. Generic in the program.
-/
namespace Go.Gx
open Go.RowKit
section
variable {P : Program} {ops : Array Oper} {Q : Exit → Act → World → Prop} {N : Nat} {X : Nat → Prop} {w0 : World} {G : Ghost} {l : List (Nat × Value)} {L : List Asrt}
variable {rest : List Oper} {d k : Nat} {ty : TypeId} {pos : String} {after : Array Edge} {gd : Option (Nat × Bool)} {x y : Operand} {T U E : TypeId} {sz bytes : Nat}
/-- A call that changes one object, told by what it hands back. -/
theorem r_callor {f : FuncId} {xs : List Operand} {vs : List Value} {ats : Array TypeId} {A : Asrt} {B : Value → Asrt} (hw : Wt ops l gd) (hd : Nat.blt d N = true) (hf : Callable P f) (hv : evs l xs = some vs) (hL : L[k]? = some A)
    (hc : ∀ w F, Has G w → A.holds w F → (∀ b, F b → G b = none) → Calls P f vs.toArray w (Ret fun r w' => Kept (B r) F w w'))
    (h : ∀ r, Runs P ops Q N X w0 G rest ((d, r) :: l) (L.set k (B r))) : Runs P ops Q N X w0 G (⟨some d, .call ⟨.value (.func f), xs.toArray, ats⟩, ty, pos, after, gd⟩ :: rest) l L := by
  refine Runs.step hw (fun a w hS => ?_)
  show Oper.upon P _ a _ Q _
  rw [run_call hS.fr hv hf, Oper.upon_enter]
  obtain ⟨F, hA, hG, hput⟩ := hS.mem.take hL
  refine (hc w F hS.mem.has hA hG).mono (fun e w' hR => ?_)
  cases e with
  | returned r =>
    obtain ⟨hs, F', hB, hF'⟩ := hR
    exact h r _ _ ⟨hS.fr.put (by simpa using hd) _, hput w' _ F' hs hB hF'⟩
  | panicked c => exact hR.elim
  | outgrown => exact hR.elim
end
end Go.Gx
namespace Go.Gx
open Go.RowKit
section
variable {P : Program} {ops : Array Oper} {brk : Nat → Bool} {G0 : Ghost} {L0 : List Asrt} {Q : Exit → Act → World → Prop} {N : Nat} {X : Nat → Prop} {w0 : World} {G : Ghost} {l l' : List (Nat × Value)} {L L' : List Asrt} {n : Nat} {listed : Array Bool}
variable {d d' : Nat} {ty ty' : TypeId} {pos pos' : String} {after after' : Array Edge} {gd gd' : Option (Nat × Bool)} {T T' : TypeId} {v v' : Value} {m m' : Nat} {f f' : Nat → Value}
end
end Go.Gx

/- A call that changes an object, while a row of the caller's own is seen by it. -/
namespace Go.Gx
open Go.RowKit
theorem with_row {P : Program} {f : FuncId} {vs : Array Value} {v : Value} {E : TypeId} {sz n : Nat} {xs : List Value} {A : Asrt} {B : Value → Asrt} {R : Value → Prop} {G : Ghost} {w : World} {F : Nat → Prop}
    (hc : ∀ (G' : Ghost) (F' : Nat → Prop), GLe G G' → SlG G' v n sz (fun i j => xs.getD (i * sz + j) undef) → Has G' w → A.holds w F' → (∀ b, F' b → G' b = none) → Calls P f vs w (Ret fun r w' => R r ∧ Kept (B r) F' w w'))
    (hG : Has G w) (hA : (starL [rowA v E sz n xs, A]).holds w F) (hF : ∀ b, F b → G b = none) : Calls P f vs w (Ret fun r w' => R r ∧ Kept (starL [rowA v E sz n xs, B r]) F w w') := by
  obtain ⟨F1, F2, hrow, ⟨FA, F0, hAA, hnil, _, h2⟩, hdis, h1⟩ := hA
  have hM : Mem F1 w G w [rowA v E sz n xs] := ⟨Since.refl _ _, hG, F1, hrow, fun b hb => ⟨.inr hb, hF b ((h1 b).2 (.inl hb))⟩, trivial⟩
  obtain ⟨G', hn, hs, hM2⟩ := hM.freeze (k := 0) rfl
  have hFA : ∀ b, FA b → F2 b := fun b hb => (h2 b).2 (.inl hb)
  have hnone : ∀ b, FA b → G' b = none := fun b hb => by
    cases e : G' b with
    | none => rfl
    | some o =>
      rcases hn.new b (hF b ((h1 b).2 (.inr (hFA b hb)))) (by rw [e]; simp) with h | h
      · have := A.dom hAA hb; omega
      · exact absurd (hFA b hb) (hdis b h)
  refine (hc G' FA hn.le hs hM2.has hAA hnone).mono (fun e w' hR => ?_)
  cases e with
  | returned r =>
    obtain ⟨hr, hsn, F', hB, hF'⟩ := hR
    refine ⟨hr, ⟨hsn.os, hsn.tape, hsn.output, hsn.size, fun k hk hn2 => hsn.block k hk (fun hfa => hn2 ((h1 k).2 (.inr (hFA k hfa))))⟩, fun b => F1 b ∨ F' b, ⟨F1, F', ?_, ⟨F', fun _ => False, hB, ⟨trivial, fun _ h => h⟩, fun _ _ h => h, fun b => ⟨.inl, fun h => h.elim id False.elim⟩⟩, fun b hb hb2 => ?_, fun b => Iff.rfl⟩, fun b hb => ?_⟩
    · exact Asrt.frame _ hrow (fun b hb => hsn.block b (Asrt.dom _ hrow hb) (fun hfa => hdis b hb (hFA b hfa)))
    · rcases hF' b hb2 with h | h
      · exact hdis b hb (hFA b h)
      · have := Asrt.dom _ hrow hb; omega
    · rcases hb with hb | hb
      · exact .inl ((h1 b).2 (.inl hb))
      · rcases hF' b hb with h | h
        · exact .inl ((h1 b).2 (.inr (hFA b h)))
        · exact .inr h
  | panicked c => exact hR.elim
  | outgrown => exact hR.elim
end Go.Gx

/- Trees of tokens in memory: a map that leads to tokens, and two maps of maps. Generic in the program and in what a place is. -/
namespace Go.Gx
open Go.RowKit
/-! ### what is seen by a call while it is another's own -/
theorem with_seen {P : Program} {f : FuncId} {vs : Array Value} {H A : Asrt} {B : Value → Asrt} {R : Value → Prop} {S : Ghost → Prop} {G : Ghost} {w : World} {F : Nat → Prop}
    (hfr : ∀ F1, Mem F1 w G w [H] → ∃ G', GNew w F1 G G' ∧ S G' ∧ Has G' w)
    (hc : ∀ (G' : Ghost) (F' : Nat → Prop), GLe G G' → S G' → Has G' w → A.holds w F' → (∀ b, F' b → G' b = none) → Calls P f vs w (Ret fun r w' => R r ∧ Kept (B r) F' w w'))
    (hG : Has G w) (hA : (starL [H, A]).holds w F) (hF : ∀ b, F b → G b = none) : Calls P f vs w (Ret fun r w' => R r ∧ Kept (starL [H, B r]) F w w') := by
  obtain ⟨F1, F2, hrow, ⟨FA, F0, hAA, hnil, _, h2⟩, hdis, h1⟩ := hA
  have hM : Mem F1 w G w [H] := ⟨Since.refl _ _, hG, F1, hrow, fun b hb => ⟨.inr hb, hF b ((h1 b).2 (.inl hb))⟩, trivial⟩
  obtain ⟨G', hn, hs, hM2⟩ := hfr F1 hM
  have hFA : ∀ b, FA b → F2 b := fun b hb => (h2 b).2 (.inl hb)
  have hnone : ∀ b, FA b → G' b = none := fun b hb => by
    cases e : G' b with
    | none => rfl
    | some o =>
      rcases hn.new b (hF b ((h1 b).2 (.inr (hFA b hb)))) (by rw [e]; simp) with h | h
      · have := A.dom hAA hb; omega
      · exact absurd (hFA b hb) (hdis b h)
  refine (hc G' FA hn.le hs hM2 hAA hnone).mono (fun e w' hR => ?_)
  cases e with
  | returned r =>
    obtain ⟨hr, hsn, F', hB, hF'⟩ := hR
    refine ⟨hr, ⟨hsn.os, hsn.tape, hsn.output, hsn.size, fun k hk hn2 => hsn.block k hk (fun hfa => hn2 ((h1 k).2 (.inr (hFA k hfa))))⟩, fun b => F1 b ∨ F' b, ⟨F1, F', ?_, ⟨F', fun _ => False, hB, ⟨trivial, fun _ h => h⟩, fun _ _ h => h, fun b => ⟨.inl, fun h => h.elim id False.elim⟩⟩, fun b hb hb2 => ?_, fun b => Iff.rfl⟩, fun b hb => ?_⟩
    · exact Asrt.frame _ hrow (fun b hb => hsn.block b (Asrt.dom _ hrow hb) (fun hfa => hdis b hb (hFA b hfa)))
    · rcases hF' b hb2 with h | h
      · exact hdis b hb (hFA b h)
      · have := Asrt.dom _ hrow hb; omega
    · rcases hb with hb | hb
      · exact .inl ((h1 b).2 (.inl hb))
      · rcases hF' b hb with h | h
        · exact .inl ((h1 b).2 (.inr (hFA b h)))
        · exact .inr h
  | panicked c => exact hR.elim
  | outgrown => exact hR.elim
theorem star_tt (A : Asrt) : (star A (pureA True)).Eqv A := fun w F => by
  constructor
  · rintro ⟨F1, F2, h1, ⟨_, h2⟩, h3, h4⟩
    have e : F = F1 := by funext b; exact propext ⟨fun h => ((h4 b).1 h).elim id (fun h => (h2 b h).elim), fun h => (h4 b).2 (.inl h)⟩
    rw [e]; exact h1
  · intro h
    exact ⟨F, fun _ => False, h, ⟨trivial, fun _ h => h⟩, fun _ _ h => h, fun b => ⟨.inl, fun h => h.elim id False.elim⟩⟩
theorem starL_oneE {A : Asrt} : (starL [A]).Eqv A := star_tt A
theorem starL_two {A B : Asrt} : (starL [A, B]).Eqv (star A B) := star_congr .rfl (star_tt B)
theorem Kept.imp {A B : Asrt} {F : Nat → Prop} {w w' : World} (h : Kept A F w w') (hi : ∀ w F, A.holds w F → B.holds w F) : Kept B F w w' :=
  ⟨h.1, by obtain ⟨F', h1, h2⟩ := h.2; exact ⟨F', hi _ _ h1, h2⟩⟩
/-- One's own, a third's between two. -/
theorem star_turn {Z R H : Asrt} : (starL [H, starL [Z, R]]).Eqv (starL [Z, starL [R, H]]) :=
  starL_two.trans ((star_congr .rfl starL_two).trans ((star_swap H Z R).trans ((star_congr .rfl ((star_comm H R).trans starL_two.symm)).trans starL_two.symm)))
theorem star_flip {A B : Asrt} : (starL [A, B]).Eqv (starL [B, A]) := starL_two.trans ((star_comm A B).trans starL_two.symm)
/-! ### tokens -/
structure Tk (α : Type) where
  pla : α
  par : Int
  fac : Int
  kids : List Int
abbrev TB (α : Type) := Nat × Value × Tk α
def veB {α : Type} (v : TB α) : Value := .pointer (some ⟨v.1, 0, none⟩)
def tkC {α : Type} (ke : α → Value) (v : TB α) : List Value := [ke v.2.2.pla, .int .i64 v.2.2.par, .int .i64 v.2.2.fac, v.2.1]
def tkA {α : Type} (T E : TypeId) (ke : α → Value) (v : TB α) : Asrt := starL [box v.1 4 T (at_ (tkC ke v)), rowA v.2.1 E 1 v.2.2.kids.length (v.2.2.kids.flatMap cI)]
def FT {α : Type} (T E : TypeId) (ke : α → Value) (p : Int × TB α) : Asrt := tkA T E ke p.2
def TokAt {α : Type} (G : Ghost) (ke : α → Value) (v : TB α) : Prop := RowAt G v.1 0 4 (at_ (tkC ke v)) ∧ SlL G v.2.1 1 cI (0 : Int) v.2.2.kids
theorem TokAt.mono {α : Type} {G G' : Ghost} {ke : α → Value} {v : TB α} (h : TokAt G ke v) (hle : GLe G G') : TokAt G' ke v := ⟨h.1.mono hle, h.2.mono hle⟩
section
variable {P : Program} {ops : Array Oper} {Q : Exit → Act → World → Prop} {N : Nat} {X : Nat → Prop} {w0 w : World} {G : Ghost} {fr : List (Nat × Value)} {L : List Asrt} {rest : List Oper} {c : Code} {e : Exit}
theorem Mem.freezeX {k n b E : Nat} {f : Nat → Value} (hm : Mem X w0 G w L) (hL : L[k]? = some (box b n E f)) : ∃ G', GNew w0 X G G' ∧ RowAt G' b 0 n f ∧ Mem X w0 G' w (L.eraseIdx k) := by
  obtain ⟨G', h1, h2, h3⟩ := hm.freezeB (m := 1) (sz := n) hL (by omega) (by omega)
  obtain ⟨_, _, e, _, h4⟩ := h2
  obtain ⟨b', o, e2, h5⟩ := h4 (by omega)
  simp only [Value.slice.injEq] at e
  obtain ⟨rfl, _⟩ := e
  simp only [Option.some.injEq, Addr.mk.injEq] at e2
  obtain ⟨rfl, rfl, _⟩ := e2
  have h6 := h5 0 (by omega)
  simp only [Nat.zero_mul, Nat.add_zero, Nat.zero_add] at h6
  exact ⟨G', h1, h6, h3⟩
variable {α : Type} {T E : TypeId} {ke : α → Value}
def mdels {κ ν : Type} [DecidableEq κ] (l : List (κ × ν)) (ks : List κ) : List (κ × ν) := ks.foldl mdel l
theorem lkp_mdel_ne {κ ν : Type} [DecidableEq κ] {l : List (κ × ν)} {k k' : κ} (h : ¬ k = k') : lkp (mdel l k) k' = lkp l k' := by
  induction l with
  | nil => rfl
  | cons p t ih =>
    simp only [mdel]
    split
    · rename_i e; simp [lkp, e, h]
    · simp only [lkp, ih]
end
/-! ### maps of maps -/
def nestA {κ : Type} (ke : κ → Value) (m : Nat) (c : List (κ × List (Int × Int))) : Asrt := exA fun l : List (κ × NM) => andA (c = eraN l) (starL [mapA m ke veN l, hoard FN l])
def nput {κ : Type} [DecidableEq κ] (c : List (κ × List (Int × Int))) (k : κ) (id : Int) : List (κ × List (Int × Int)) := mput c k (mput ((lkp c k).getD []) id 1)
def ndrop {κ : Type} [DecidableEq κ] (c : List (κ × List (Int × Int))) (k : κ) (id : Int) : List (κ × List (Int × Int)) :=
  if (mdel ((lkp c k).getD []) id).length = 0 then mdel c k else mput c k (mdel ((lkp c k).getD []) id)
/-! ### the tree -/
structure TS (τ α : Type) where
  toks : List (Int × τ)
  pl : List (α × List (Int × Int))
  fc : List (Int × List (Int × Int))
  last : Int
def eraT {α : Type} (l : List (Int × TB α)) : List (Int × Tk α) := l.map fun p => (p.1, p.2.2.2)
section
variable {α : Type} (T TT E : TypeId) (ke : α → Value) (p : Nat)
def treeC {τ : Type} (s : TS τ α) (z : Nat × Nat × Nat) : List Value := [.map (some z.1), .map (some z.2.1), .map (some z.2.2), .int .i64 s.last]
def treeL (s : TS (TB α) α) (z : Nat × Nat × Nat) : List Asrt := [box p 4 T (at_ (treeC s z)), mapA z.1 kI veB s.toks, nestA ke z.2.1 s.pl, nestA kI z.2.2 s.fc]
/-- All but the tokens. -/
def treeR (s : TS (TB α) α) : Asrt := exA fun z : Nat × Nat × Nat => starL (treeL T ke p s z)
def treeE (s : TS (Tk α) α) : Asrt := exA fun l : List (Int × TB α) => andA (s.toks = eraT l) (starL [treeR T ke p ⟨l, s.pl, s.fc, s.last⟩, hoard (FT TT E ke) l])
end
section
variable {α : Type} {T TT E : TypeId} {ke : α → Value} {p : Nat}
variable {P : Program} {ops : Array Oper} {Q : Exit → Act → World → Prop} {N : Nat} {X : Nat → Prop} {w0 w : World} {G : Ghost} {fr : List (Nat × Value)} {L : List Asrt} {rest : List Oper} {c : Code} {e : Exit}
end
end Go.Gx

/- Trees of tokens in memory: looking one up, a row turned about, maps of maps opened and shut. Generic in the program. -/
namespace Go.Gx
open Go.RowKit Go.Sort Go.Lib
section
variable {κ ν : Type} [DecidableEq κ] {P : Program} {K : TypeId} {ke : κ → Value} {ve : ν → Value} {N : Nat} {X : Nat → Prop} {w0 : World} {G : Ghost} {l : List (Nat × Value)} {L : List Asrt}
variable {d i m : Nat} {ty : TypeId} {pos : String} {after : Array Edge} {gd : Option (Nat × Bool)} {x y : Operand} {T E : TypeId} {mv : List (κ × ν)} {k : κ} {zv : Value}
end
section
variable {κ : Type} {ke : κ → Value} {m : Nat} {c0 : List (κ × List (Int × Int))} {l : List (κ × NM)}
variable {P : Program} {ops : Array Oper} {Q : Exit → Act → World → Prop} {N : Nat} {X : Nat → Prop} {w0 w : World} {G : Ghost} {fr : List (Nat × Value)} {L : List Asrt} {rest : List Oper} {c : Code} {e : Exit}
end
section
variable {P : Program} {ops : Array Oper} {Q : Exit → Act → World → Prop} {N : Nat} {X : Nat → Prop} {w0 : World} {G : Ghost} {l : List (Nat × Value)} {L : List Asrt} {rest : List Oper} {d k : Nat} {ty : TypeId} {pos : String} {after : Array Edge} {gd : Option (Nat × Bool)}
end
/-! ### a row of the call's own, turned about -/
def Rev1C (P : Program) {α : Type} [Inhabited α] (f : FuncId) (enc : α → Value) : Prop := ∀ (blk cap : Nat) (zs : List α) (w : World), Holds enc w blk 0 zs.toArray → zs.length ≤ 9223372036854775807 →
  Calls P f #[.slice (some ⟨blk, 0, none⟩) zs.length cap] w fun e w' => e = .returned (.tuple #[]) ∧ ∃ n, w' = putRow enc (Sort.ahead w n) blk 0 zs.reverse.toArray
def Rev1N (P : Program) (f : FuncId) : Prop := ∀ (p : Option Addr) (cap : Nat) (w : World), Calls P f #[.slice p 0 cap] w fun e w' => e = .returned (.tuple #[]) ∧ w' = w
section
variable {α : Type} [Inhabited α] {enc : α → Value}
variable {P : Program} {ops : Array Oper} {Q : Exit → Act → World → Prop} {N : Nat} {X : Nat → Prop} {w0 : World} {G : Ghost} {l : List (Nat × Value)} {L : List Asrt}
variable {rest : List Oper} {d k n : Nat} {ty : TypeId} {pos : String} {after : Array Edge} {gd : Option (Nat × Bool)} {v : Value} {E : TypeId} {zs : List α} {f g : FuncId} {xs : List Operand} {ats : Array TypeId}
omit [Inhabited α] in
theorem grow_none (w : World) : grow w #[] = w := by
  show ({ w with heap := w.heap ++ #[] } : World) = w
  rw [Array.append_empty]
theorem r_rev1 (hw : Wt ops l gd) (hd : Nat.blt d N = true) (hf : Callable P f) (hv : evs l xs = some [v]) (hL : L[k]? = some (rowA v E 1 zs.length (zs.flatMap fun a => [enc a]))) (hs : Rev1C P f enc) (hn : Rev1N P f) (hlen : zs.length < 4611686018427387904)
    (h : Runs P ops Q N X w0 G rest ((d, .tuple #[]) :: l) (L.set k (rowA v E 1 zs.reverse.length (zs.reverse.flatMap fun a => [enc a])))) : Runs P ops Q N X w0 G (⟨some d, .call ⟨.value (.func f), xs.toArray, ats⟩, ty, pos, after, gd⟩ :: rest) l L := by
  refine Runs.step hw (fun a w hS => ?_)
  show Oper.upon P _ a _ Q _
  rw [run_call hS.fr hv hf, Oper.upon_enter]
  obtain ⟨F, ⟨⟨hlen1, hown⟩, hF, hmax⟩, _, hput⟩ := hS.mem.take hL
  by_cases hz : zs.length = 0
  · have hz' : zs = [] := List.eq_nil_of_length_eq_zero hz
    subst hz'
    rw [List.reverse_nil, set_same hL] at h
    have hv2 : ∃ p c, v = .slice p 0 c := by
      rcases hown with ⟨rfl, _⟩ | ⟨g, cap, cur, rfl, _⟩
      · exact ⟨_, _, rfl⟩
      · exact ⟨_, _, rfl⟩
    obtain ⟨p, c, rfl⟩ := hv2
    refine (hn p c w).mono (fun e w' hR => ?_)
    obtain ⟨rfl, rfl⟩ := hR
    exact h _ _ ⟨hS.fr.put (by simpa using hd) _, hS.mem⟩
  · rcases hown with ⟨_, h0⟩ | ⟨g, cap, cur, rfl, _, hg, hnc, hcm, hcs, htk⟩
    · exact absurd h0 hz
    · have hcs' : cur.size = cap := by simpa using hcs
      have htk' : cur.toList.take zs.length = zs.map enc := by rw [← cells_one]; simpa using htk
      refine (hs g cap zs w (own_holds1 hg hcs' hnc htk') (by omega)).mono (fun e w' hR => ?_)
      obtain ⟨rfl, q, rfl⟩ := hR
      have hFg : F g := (hF g).2 rfl
      rw [← grow_none (putRow enc (Sort.ahead w q) g 0 zs.reverse.toArray)]
      refine h _ _ ⟨hS.fr.put (by simpa using hd) _, hput _ _ (fun b => b = g) (since_sort1 hFg) ?_ (fun b hb => .inl (hb ▸ hFg))⟩
      have h2 := own_after1 (enc := enc) (q := q) (os := #[]) (zs' := zs.reverse) hg hcs' hcm (by simpa using hnc)
      rw [List.length_reverse] at h2 ⊢
      exact h2
end
section
variable {α : Type}
end
section
variable {α : Type} {T TT E : TypeId} {ke : α → Value} {p : Nat}
variable {P : Program} {ops : Array Oper} {Q : Exit → Act → World → Prop} {N : Nat} {X : Nat → Prop} {w0 w : World} {G : Ghost} {fr : List (Nat × Value)} {L : List Asrt} {rest : List Oper} {c : Code} {e : Exit}
variable {l : List (Int × TB α)} {k : Int} {u v : TB α}
end
end Go.Gx

/- Nodes in memory: a map that leads to boxes with two rows of numbers each; what a call sees of them, and one taken out and put back. Generic in the program and in what else a node has. -/
namespace Go.Gx
open Go.RowKit
/-- A node's cells: those ahead of its rows, between them, behind them. -/
structure NK (σ : Type) where
  T : TypeId
  E : TypeId
  n : Nat
  cells : σ → Value → Value → List Value
  kids : σ → List Int
  outer : σ → List Int
abbrev NB (σ : Type) := Nat × Value × Value × σ
def veN2 {σ : Type} (v : NB σ) : Value := .pointer (some ⟨v.1, 0, none⟩)
def ndL {σ : Type} (K : NK σ) (v : NB σ) : List Asrt := [box v.1 K.n K.T (at_ (K.cells v.2.2.2 v.2.1 v.2.2.1)), rowA v.2.1 K.E 1 (K.kids v.2.2.2).length ((K.kids v.2.2.2).flatMap cI), rowA v.2.2.1 K.E 1 (K.outer v.2.2.2).length ((K.outer v.2.2.2).flatMap cI)]
def ndA {σ : Type} (K : NK σ) (v : NB σ) : Asrt := starL (ndL K v)
def FK {σ : Type} (K : NK σ) (p : Int × NB σ) : Asrt := ndA K p.2
def NodeAt {σ : Type} (K : NK σ) (G : Ghost) (v : NB σ) : Prop := RowAt G v.1 0 K.n (at_ (K.cells v.2.2.2 v.2.1 v.2.2.1)) ∧ SlL G v.2.1 1 cI (0 : Int) (K.kids v.2.2.2) ∧ SlL G v.2.2.1 1 cI (0 : Int) (K.outer v.2.2.2)
theorem NodeAt.mono {σ : Type} {K : NK σ} {G G' : Ghost} {v : NB σ} (h : NodeAt K G v) (hle : GLe G G') : NodeAt K G' v := ⟨h.1.mono hle, h.2.1.mono hle, h.2.2.mono hle⟩
/-- What is known of nodes, but for where they lie. -/
def eraK {σ : Type} (l : List (Int × NB σ)) : List (Int × σ) := l.map fun p => (p.1, p.2.2.2.2)
theorem eraK_lkp {σ : Type} (l : List (Int × NB σ)) (k : Int) : lkp (eraK l) k = (lkp l k).map (·.2.2.2) := lkp_map (fun v : NB σ => v.2.2.2) l k
theorem eraK_len {σ : Type} (l : List (Int × NB σ)) : (eraK l).length = l.length := by simp [eraK]
theorem eraK_mput {σ : Type} (l : List (Int × NB σ)) (k : Int) (v : NB σ) : eraK (mput l k v) = mput (eraK l) k v.2.2.2 := mput_map (fun v : NB σ => v.2.2.2) l k v
theorem eraK_mdel {σ : Type} (l : List (Int × NB σ)) (k : Int) : eraK (mdel l k) = mdel (eraK l) k := mdel_map (fun v : NB σ => v.2.2.2) l k
theorem eraK_some {σ : Type} {l : List (Int × NB σ)} {k : Int} {x : σ} (h : lkp (eraK l) k = some x) : ∃ b kv ov, lkp l k = some (b, kv, ov, x) := by
  rw [eraK_lkp] at h
  obtain ⟨⟨b, kv, ov, y⟩, h1, h2⟩ := Option.map_eq_some_iff.1 h
  exact ⟨b, kv, ov, by rw [h1]; simp only at h2; rw [h2]⟩
section
variable {σ : Type} {K : NK σ}
variable {P : Program} {ops : Array Oper} {Q : Exit → Act → World → Prop} {N : Nat} {X : Nat → Prop} {w0 w : World} {G : Ghost} {fr : List (Nat × Value)} {L : List Asrt} {rest : List Oper} {c : Code} {e : Exit}
theorem Mem.freezeN2 {v : NB σ} (hm : Mem X w0 G w (ndA K v :: L)) : ∃ G', GNew w0 X G G' ∧ NodeAt K G' v ∧ Mem X w0 G' w L := by
  have h0 := hm.unpack
  obtain ⟨G1, n1, r1, h1⟩ := h0.freezeX (k := 0) rfl
  obtain ⟨G2, n2, r2, h2⟩ := h1.freeze (k := 0) rfl
  obtain ⟨G3, n3, r3, h3⟩ := h2.freeze (k := 0) rfl
  exact ⟨G3, (n1.trans n2).trans n3, ⟨r1.mono (GLe.trans n2.le n3.le), (SlL.of (cells := cI) (0 : Int) (fun _ => rfl) rfl r2).mono n3.le, SlL.of (cells := cI) (0 : Int) (fun _ => rfl) rfl r3⟩, h3⟩
theorem Mem.freezeHK : ∀ {l : List (Int × NB σ)} {G : Ghost}, Mem X w0 G w (hoard (FK K) l :: L) → ∃ G', GNew w0 X G G' ∧ (∀ q ∈ l, NodeAt K G' q.2) ∧ Mem X w0 G' w L
  | [], G, hm => ⟨G, GNew.refl _ _ _, by simp, hm.imp (.drop (Imp.refl _))⟩
  | q :: t, G, hm => by
    have h0 : Mem X w0 G w (ndA K q.2 :: hoard (FK K) t :: L) := ⟨hm.since, hm.has, Sep.unstar hm.sep⟩
    obtain ⟨G1, n1, r1, h1⟩ := h0.freezeN2
    obtain ⟨G2, n2, r2, h2⟩ := Mem.freezeHK h1
    refine ⟨G2, n1.trans n2, fun x hx => ?_, h2⟩
    rcases List.mem_cons.1 hx with rfl | hx
    · exact r1.mono n2.le
    · exact r2 x hx
end
/-! ### the trie -/
structure KS (τ : Type) where
  nodes : List (Int × τ)
  last : Int
section
variable {σ : Type} (K : NK σ) (T : TypeId) (p : Nat)
def trC {τ : Type} (s : KS τ) (z : Nat) : List Value := [.map (some z), .int .i64 s.last]
def trL (s : KS (NB σ)) (z : Nat) : List Asrt := [box p 2 T (at_ (trC s z)), mapA z kI veN2 s.nodes]
/-- All but the nodes. -/
def trR (s : KS (NB σ)) : Asrt := exA fun z : Nat => starL (trL T p s z)
def trE (s : KS σ) : Asrt := exA fun l : List (Int × NB σ) => andA (s.nodes = eraK l) (starL [trR T p ⟨l, s.last⟩, hoard (FK K) l])
end
section
variable {σ : Type} {K : NK σ} {T : TypeId} {p : Nat}
variable {P : Program} {ops : Array Oper} {Q : Exit → Act → World → Prop} {N : Nat} {X : Nat → Prop} {w0 w : World} {G : Ghost} {fr : List (Nat × Value)} {L : List Asrt} {rest : List Oper} {c : Code} {e : Exit}
theorem Mem.shutK {s : KS (NB σ)} (z : Nat) (h : Mem X w0 G w (trL T p s z ++ L)) : Mem X w0 G w (trR T p s :: L) := by
  obtain ⟨F, h1, h2, h3⟩ := Sep.packL (trL T p s z) h.sep
  exact ⟨h.since, h.has, F, ⟨z, h1⟩, h2, h3⟩
theorem Mem.openK {s : KS (NB σ)} (h : Mem X w0 G w (trR T p s :: L)) : ∃ z, Mem X w0 G w (trL T p s z ++ L) := by
  obtain ⟨z, hz⟩ := h.unex
  exact ⟨z, hz.unpack⟩
theorem r_openK {s : KS (NB σ)} (H : ∀ z : Nat, Runs P ops Q N X w0 G rest fr (box p 2 T (at_ (trC s z)) :: mapA z kI veN2 s.nodes :: L)) : Runs P ops Q N X w0 G rest fr (trR T p s :: L) := fun a w hS => by
  obtain ⟨z, hz⟩ := hS.mem.openK
  exact H z a w ⟨hS.fr, hz⟩
theorem c_openK {s : KS (NB σ)} (H : ∀ z : Nat, CRuns P c Q N X w0 G fr (box p 2 T (at_ (trC s z)) :: mapA z kI veN2 s.nodes :: L)) : CRuns P c Q N X w0 G fr (trR T p s :: L) := fun a w hS => by
  obtain ⟨z, hz⟩ := hS.mem.openK
  exact H z a w ⟨hS.fr, hz⟩
theorem r_shutK {s : KS (NB σ)} (z : Nat) (H : Runs P ops Q N X w0 G rest fr (trR T p s :: L)) : Runs P ops Q N X w0 G rest fr (box p 2 T (at_ (trC s z)) :: mapA z kI veN2 s.nodes :: L) := fun a w hS => H a w ⟨hS.fr, hS.mem.shutK z⟩
/-- A call that sees the nodes, and hands back something beside the trie. -/
theorem trie_see {f : FuncId} {vs : Array Value} {Z : Value → Asrt} {R : Value → Prop} {F : Nat → Prop} {s : KS σ}
    (hc : ∀ (l : List (Int × NB σ)) (G' : Ghost) (F' : Nat → Prop), s.nodes = eraK l → GLe G G' → (∀ q ∈ l, NodeAt K G' q.2) → Has G' w → (trR T p ⟨l, s.last⟩).holds w F' → (∀ b, F' b → G' b = none) →
      Calls P f vs w (Ret fun r w' => R r ∧ Kept (starL [Z r, trR T p ⟨l, s.last⟩]) F' w w'))
    (hG : Has G w) (hA : (trE K T p s).holds w F) (hF : ∀ b, F b → G b = none) : Calls P f vs w (Ret fun r w' => R r ∧ Kept (starL [Z r, trE K T p s]) F w w') := by
  obtain ⟨l, hl, hA⟩ := hA
  refine (with_seen (H := hoard (FK K) l) (S := fun G' => ∀ q ∈ l, NodeAt K G' q.2) (R := R) (B := fun r => starL [Z r, trR T p ⟨l, s.last⟩]) (fun F1 hM => ?_) (fun G' F' hle hs hG' hA' hF' => hc l G' F' hl hle hs hG' hA' hF') hG ((star_flip w F).1 hA) hF).mono (fun e w' hR => ?_)
  · obtain ⟨G', h1, h2, h3⟩ := hM.freezeHK
    exact ⟨G', h1, h2, h3.has⟩
  · cases e with
    | returned r => exact ⟨hR.1, hR.2.imp (fun w F h => by
        obtain ⟨F1, F2, h1, ⟨F3, F4, h5, h6⟩, h3⟩ := (star_turn w F).1 h
        exact ⟨F1, F2, h1, ⟨F3, F4, ⟨l, hl, h5⟩, h6⟩, h3⟩)⟩
    | panicked c => exact hR.elim
    | outgrown => exact hR.elim
theorem trie_see0 {f : FuncId} {vs : Array Value} {R : Value → Prop} {F : Nat → Prop} {s : KS σ}
    (hc : ∀ (l : List (Int × NB σ)) (G' : Ghost) (F' : Nat → Prop), s.nodes = eraK l → GLe G G' → (∀ q ∈ l, NodeAt K G' q.2) → Has G' w → (trR T p ⟨l, s.last⟩).holds w F' → (∀ b, F' b → G' b = none) →
      Calls P f vs w (Ret fun r w' => R r ∧ Kept (trR T p ⟨l, s.last⟩) F' w w'))
    (hG : Has G w) (hA : (trE K T p s).holds w F) (hF : ∀ b, F b → G b = none) : Calls P f vs w (Ret fun r w' => R r ∧ Kept (trE K T p s) F w w') := by
  obtain ⟨l, hl, hA⟩ := hA
  refine (with_seen (H := hoard (FK K) l) (S := fun G' => ∀ q ∈ l, NodeAt K G' q.2) (R := R) (B := fun r => trR T p ⟨l, s.last⟩) (fun F1 hM => ?_) (fun G' F' hle hs hG' hA' hF' => hc l G' F' hl hle hs hG' hA' hF') hG ((star_flip w F).1 hA) hF).mono (fun e w' hR => ?_)
  · obtain ⟨G', h1, h2, h3⟩ := hM.freezeHK
    exact ⟨G', h1, h2, h3.has⟩
  · cases e with
    | returned r => exact ⟨hR.1, hR.2.imp (fun w F h => ⟨l, hl, (star_flip w F).1 h⟩)⟩
    | panicked c => exact hR.elim
    | outgrown => exact hR.elim
theorem shut_rowK {Z : Asrt} {s : KS (NB σ)} (z : Nat) {w : World} {F : Nat → Prop} (h : (starL (Z :: trL T p s z)).holds w F) : (starL [Z, trR T p s]).holds w F := by
  obtain ⟨F1, F2, h1, h2, h3⟩ := h
  exact ⟨F1, F2, h1, (starL_oneE w F2).2 ⟨z, h2⟩, h3⟩
variable {l : List (Int × NB σ)} {k : Int} {u v : NB σ}
theorem r_fnode (hk : lkp l k = some v) (H : Runs P ops Q N X w0 G rest fr (box v.1 K.n K.T (at_ (K.cells v.2.2.2 v.2.1 v.2.2.1)) :: rowA v.2.1 K.E 1 (K.kids v.2.2.2).length ((K.kids v.2.2.2).flatMap cI) :: rowA v.2.2.1 K.E 1 (K.outer v.2.2.2).length ((K.outer v.2.2.2).flatMap cI) :: hoard (FK K) (mdel l k) :: L)) : Runs P ops Q N X w0 G rest fr (hoard (FK K) l :: L) := fun a w hS =>
  H a w ⟨hS.fr, (hS.mem.focus hk).unpack⟩
theorem Mem.nodeIn (h : Mem X w0 G w (box v.1 K.n K.T (at_ (K.cells v.2.2.2 v.2.1 v.2.2.1)) :: rowA v.2.1 K.E 1 (K.kids v.2.2.2).length ((K.kids v.2.2.2).flatMap cI) :: rowA v.2.2.1 K.E 1 (K.outer v.2.2.2).length ((K.outer v.2.2.2).flatMap cI) :: L)) : Mem X w0 G w (FK K (k, v) :: L) := by
  obtain ⟨F, h1, h2, h3⟩ := Sep.packL (ndL K v) h.sep
  exact ⟨h.since, h.has, F, h1, h2, h3⟩
theorem Mem.nodeBack (hk : lkp l k = some u) (h : Mem X w0 G w (box v.1 K.n K.T (at_ (K.cells v.2.2.2 v.2.1 v.2.2.1)) :: rowA v.2.1 K.E 1 (K.kids v.2.2.2).length ((K.kids v.2.2.2).flatMap cI) :: rowA v.2.2.1 K.E 1 (K.outer v.2.2.2).length ((K.outer v.2.2.2).flatMap cI) :: hoard (FK K) (mdel l k) :: L)) : Mem X w0 G w (hoard (FK K) (mput l k v) :: L) :=
  (Mem.nodeIn (k := k) h).unfocus hk
theorem r_nodeBack (hk : lkp l k = some u) (H : Runs P ops Q N X w0 G rest fr (hoard (FK K) (mput l k v) :: L)) : Runs P ops Q N X w0 G rest fr (box v.1 K.n K.T (at_ (K.cells v.2.2.2 v.2.1 v.2.2.1)) :: rowA v.2.1 K.E 1 (K.kids v.2.2.2).length ((K.kids v.2.2.2).flatMap cI) :: rowA v.2.2.1 K.E 1 (K.outer v.2.2.2).length ((K.outer v.2.2.2).flatMap cI) :: hoard (FK K) (mdel l k) :: L) := fun a w hS => H a w ⟨hS.fr, hS.mem.nodeBack hk⟩
end
end Go.Gx

/- Plain laws of tries: nodes that are made, used and taken away; no program in sight. -/
namespace Go.Gx.T16
open Go.Gx Go.Gx.T3 Go.Gx.T4 Go.Gx.T6 Go.Gx.T8

/-- A node, with its step's values. -/
structure Nd where
  st : SVal
  par : Int
  dep : Int
  uses : Int
  ends : Int
  inn : Int
  kids : List Int
  outer : List Int
def Nd.pn (x : Nd) : PN := ⟨x.st.1, x.par, x.dep, x.uses, x.ends, x.inn, x.kids, x.outer⟩
def gP (l : List (Int × Nd)) (id : Int) : Option PN := (lkp l id).map Nd.pn
theorem gP_some {l : List (Int × Nd)} {id : Int} {x : Nd} (h : lkp l id = some x) : gP l id = some x.pn := by unfold gP; rw [h]; rfl
theorem gP_inv {l : List (Int × Nd)} {id : Int} {y : PN} (h : gP l id = some y) : ∃ x, lkp l id = some x ∧ x.pn = y := by
  unfold gP at h
  obtain ⟨x, h1, h2⟩ := Option.map_eq_some_iff.1 h
  exact ⟨x, h1, h2⟩
theorem gP_none {l : List (Int × Nd)} {id : Int} : gP l id = none ↔ lkp l id = none := by unfold gP; simp
theorem gP_mput (l : List (Int × Nd)) (k id : Int) (x : Nd) : gP (mput l k x) id = if k = id then some x.pn else gP l id := by
  unfold gP
  rw [lkp_mput]
  split <;> rfl
/-! ### one chain more -/
def push (R : RT) (c : List ST) : RT := ⟨R.lists, R.its ++ [(c, false)]⟩
theorem getR_push (R : RT) (c : List ST) (id : Int) : getR (push R c) id = if id = R.its.length + 2 then some c else getR R id := by
  split
  · rename_i h
    subst h
    exact getR_iff.2 (.inr ⟨by omega, R.its.length, rfl, by simp [push]⟩)
  · rename_i h
    cases hg : getR R id with
    | some d =>
      rcases getR_iff.1 hg with ⟨rfl, rfl⟩ | ⟨h1, j, rfl, h2⟩
      · rfl
      · refine getR_iff.2 (.inr ⟨h1, j, rfl, ?_⟩)
        obtain ⟨hj, _⟩ := List.getElem?_eq_some_iff.1 h2
        simp only [push]
        rw [List.getElem?_append_left hj]; exact h2
    | none =>
      cases hp : getR (push R c) id with
      | none => rfl
      | some d =>
        exfalso
        rcases getR_iff.1 hp with ⟨rfl, rfl⟩ | ⟨h1, j, rfl, h2⟩
        · cases hg
        · simp only [push] at h2
          by_cases hj : j < R.its.length
          · rw [List.getElem?_append_left hj] at h2
            rw [getR_iff.2 (.inr ⟨h1, j, rfl, h2⟩)] at hg; cases hg
          · by_cases hj2 : j = R.its.length
            · subst hj2; exact h rfl
            · rw [List.getElem?_eq_none (by simp; omega)] at h2; cases h2
theorem find_push {R : RT} {c : List ST} (hc : c ≠ []) (d : List ST) : find (push R c) d = if find R d ≠ 0 then find R d else if ceq c d = true then (R.its.length : Int) + 2 else 0 := by
  by_cases hd : d = []
  · subst hd; simp [find_nil]
  · have h0 : ¬ d.length = 0 := fun e => hd (List.eq_nil_of_length_eq_zero e)
    unfold find
    rw [if_neg h0, if_neg h0, findF_nums, findF_nums]
    show (numsF _ (R.its ++ [(c, false)]) 2).headD 0 = _
    rw [numsF_append]
    cases hn : numsF (ceq · d) R.its 2 with
    | cons k t =>
      have hk : k ∈ numsF (ceq · d) R.its 2 := by rw [hn]; simp
      have := numsF_ge hk
      have hk0 : ¬ k = 0 := by omega
      simp [hk0]
    | nil =>
      simp only [List.nil_append, numsF, List.headD_nil, ne_eq, not_true_eq_false, if_false, true_and]
      by_cases he : c = d
      · subst he
        rw [if_pos (ceq_self c), if_pos (ceq_self c)]
        show (2 : Int) + R.its.length = _
        omega
      · rw [if_neg (by rw [ceq_iff]; exact he), if_neg (by rw [ceq_iff]; exact he)]; rfl
theorem find_push_old {R : RT} {c d : List ST} (hc : c ≠ []) (h : find R d ≠ 0) : find (push R c) d = find R d := by rw [find_push hc, if_pos h]
theorem find_push_new {R : RT} {c : List ST} (hc : c ≠ []) (h : find R c = 0) : find (push R c) c = (R.its.length : Int) + 2 := by
  rw [find_push hc, if_neg (fun e => e h), if_pos (ceq_self c)]
/-- What a chain must meet, so that it may come. -/
structure Fit (R : RT) (c : List ST) : Prop where
  ne : c ≠ []
  no : find R c = 0
  up : find R c.dropLast ≠ 0
  inn : ∀ e, innerOf c = some e → find R e ≠ 0
theorem push_at {R : RT} {c d : List ST} {j : Nat} (h : (push R c).its[j]? = some (d, false)) : R.its[j]? = some (d, false) ∨ j = R.its.length ∧ d = c := by
  simp only [push] at h
  by_cases hj : j < R.its.length
  · rw [List.getElem?_append_left hj] at h; exact .inl h
  · by_cases hj2 : j = R.its.length
    · subst hj2; simp at h; exact .inr ⟨rfl, h.symm⟩
    · rw [List.getElem?_eq_none (by simp; omega)] at h; cases h
theorem push_clo {R : RT} {c : List ST} (hC : Clo R) (hF : Fit R c) : Clo (push R c) := by
  have hlt : ∀ d, find R d ≠ 0 → find R d < (R.its.length : Int) + 2 := fun d _ => by have := (find_nonneg R d).2; omega
  refine ⟨fun x hx => ?_, fun i j d h1 h2 => ?_, fun j d h => ?_, fun j d e h he => ?_⟩
  · rcases List.mem_append.1 hx with hx | hx
    · exact hC.ne x hx
    · rw [List.mem_singleton.1 hx]; exact hF.ne
  · rcases push_at h1 with k1 | ⟨e1, f1⟩
    · rcases push_at h2 with k2 | ⟨_, f2⟩
      · exact hC.once i j d k1 k2
      · subst f2; exact absurd hF.no ((find_ne hF.ne).2 (List.mem_of_getElem? k1))
    · rcases push_at h2 with k2 | ⟨e2, _⟩
      · subst f1; exact absurd hF.no ((find_ne hF.ne).2 (List.mem_of_getElem? k2))
      · omega
  · rcases push_at h with h | ⟨rfl, rfl⟩
    · have := hC.up j d h
      rw [find_push_old hF.ne this.1]; exact this
    · rw [find_push_old hF.ne hF.up]; exact ⟨hF.up, hlt _ hF.up⟩
  · rcases push_at h with h | ⟨rfl, rfl⟩
    · have := hC.inn j d e h he
      rw [find_push_old hF.ne this.1]; exact this
    · rw [find_push_old hF.ne (hF.inn e he)]; exact ⟨hF.inn e he, hlt _ (hF.inn e he)⟩
theorem kids_push (R : RT) (c d : List ST) : kidsR (push R c) d = kidsR R d ++ if isKid d c = true then [(R.its.length : Int) + 2] else [] := by
  unfold kidsR push
  rw [numsF_append]
  congr 1
  simp only [numsF, true_and]
  split
  · simp; omega
  · rfl
theorem outer_push (R : RT) (c d : List ST) : outerR (push R c) d = outerR R d ++ if isOuter d c = true then [(R.its.length : Int) + 2] else [] := by
  unfold outerR push
  rw [numsF_append]
  congr 1
  simp only [numsF, true_and]
  split
  · simp; omega
  · rfl
/-- An old node when there is one chain more. -/
theorem ndR_push_old {R : RT} {c : List ST} (hC : Clo R) (hF : Fit R c) {id : Int} {d : List ST} (h : getR R id = some d) :
    ndR (push R c) d = { ndR R d with kids := kidsR R d ++ (if isKid d c = true then [(R.its.length : Int) + 2] else []), outer := outerR R d ++ (if isOuter d c = true then [(R.its.length : Int) + 2] else []) } := by
  have hp : (if d.length = 0 then (0 : Int) else find (push R c) d.dropLast) = if d.length = 0 then 0 else find R d.dropLast := by
    split
    · rfl
    · rename_i hd
      rcases getR_iff.1 h with ⟨_, rfl⟩ | ⟨_, j, _, h2⟩
      · exact absurd rfl hd
      · exact find_push_old hF.ne (hC.up j d h2).1
  have hi : inner (push R c) d = inner R d := by
    unfold inner
    cases he : innerOf d with
    | none => rfl
    | some e =>
      rcases getR_iff.1 h with ⟨_, rfl⟩ | ⟨_, j, _, h2⟩
      · simp [innerOf] at he
      · exact find_push_old hF.ne (hC.inn j d e h2 he).1
  unfold ndR
  rw [hp, hi, kids_push, outer_push]
  rfl
theorem kids_none {R : RT} {c : List ST} (hC : Clo R) (h : find R c = 0) : kidsR R c = [] := by
  refine numsF_none fun x hx ho => ?_
  obtain ⟨d, o⟩ := x
  simp only at ho; subst ho
  cases hk : isKid c d with
  | false => rfl
  | true =>
    obtain ⟨s, rfl⟩ := isKid_iff.1 hk
    obtain ⟨j, hj⟩ := List.getElem?_of_mem hx
    have := (hC.up j _ hj).1
    rw [List.dropLast_concat] at this
    exact absurd h this
theorem outer_none {R : RT} {c : List ST} (hC : Clo R) (h : find R c = 0) : outerR R c = [] := by
  refine numsF_none fun x hx ho => ?_
  obtain ⟨d, o⟩ := x
  simp only at ho; subst ho
  cases hk : isOuter c d with
  | false => rfl
  | true =>
    obtain ⟨j, hj⟩ := List.getElem?_of_mem hx
    exact absurd h (hC.inn j _ _ hj (isOuter_iff.1 hk)).1
theorem not_kid_self (c : List ST) : isKid c c = false := by
  cases h : isKid c c with
  | false => rfl
  | true => obtain ⟨s, hs⟩ := isKid_iff.1 h; have := congrArg List.length hs; simp at this
/-- The new node, but for how many lists have it. -/
theorem ndR_push_new {R : RT} {c : List ST} (hC : Clo R) (hF : Fit R c) (hno : isOuter c c = false) (hu : ∀ l ∈ R.lists, c ∉ schains [] l) (he : ∀ l ∈ R.lists, l ≠ c) :
    ndR (push R c) c = ⟨c.getLastD sZ, find R c.dropLast, c.length, 0, 0, inner R c, [], []⟩ := by
  have h0 : ¬ c.length = 0 := fun e => hF.ne (List.eq_nil_of_length_eq_zero e)
  have hi : inner (push R c) c = inner R c := by
    unfold inner
    cases h : innerOf c with
    | none => rfl
    | some e => exact find_push_old hF.ne (hF.inn e h)
  have hus : uses (push R c) c = 0 := List.countP_eq_zero.2 fun l hl => by
    show ¬ usesOf c l = true
    rw [usesOf_iff]
    rintro (h | h)
    · exact hF.ne h
    · exact hu l hl h
  have hes : ends (push R c) c = 0 := List.countP_eq_zero.2 fun l hl => by
    show ¬ ceq l c = true
    rw [ceq_iff]; exact he l hl
  unfold ndR
  rw [if_neg h0, find_push_old hF.ne hF.up, hi, hus, hes, kids_push, outer_push, kids_none hC hF.no, outer_none hC hF.no, not_kid_self, hno]
  rfl
end Go.Gx.T16

/- Plain laws of tries: a node that is made; no program in sight. -/
namespace Go.Gx.T16
open Go.Gx Go.Gx.T3 Go.Gx.T4 Go.Gx.T6 Go.Gx.T8

/-- The chains of all lists are there. -/
def Lst (R : RT) : Prop := ∀ l ∈ R.lists, ∀ c ∈ schains [] l, find R c ≠ 0
/-- A trie's nodes are the document's. -/
structure TI (s : KS Nd) (R : RT) : Prop where
  inv : Inv (gP s.nodes) R
  clo : Clo R
  last : s.last = (R.its.length : Int) + 1
  lst : Lst R
  nod : (s.nodes.map (·.1)).Nodup
theorem TI.at {s : KS Nd} {R : RT} (h : TI s R) {id : Int} {c : List ST} (hg : getR R id = some c) : ∃ x, lkp s.nodes id = some x ∧ x.pn = ndR R c :=
  gP_inv (by rw [h.inv id, hg]; rfl)
theorem last_chain {l : List ST} (hl : l ≠ []) : l ∈ schains [] l := by
  have e : l = l.dropLast ++ [l.getLast hl] := (List.dropLast_concat_getLast hl).symm
  rw [e, schains_append]
  refine List.mem_append_right _ ?_
  rw [schains, schains, List.append_nil]
  cases hc : l.getLast hl with
  | mk h u => rw [schain1]; simp
theorem innerOf_snoc (a : List ST) (s : ST) : innerOf (a ++ [s]) = if s.h.k = 3 then some (a ++ s.subs) else none := by simp [innerOf]
theorem isKid_snoc {a d : List ST} {s : ST} : isKid d (a ++ [s]) = true ↔ d = a := by
  rw [isKid_iff]
  constructor
  · rintro ⟨s', h⟩; exact (List.append_inj_left' h rfl).symm
  · rintro rfl; exact ⟨s, rfl⟩
theorem mput_nodup {α : Type} : ∀ {l : List (Int × α)} (k : Int) (v : α), (l.map (·.1)).Nodup → ((mput l k v).map (·.1)).Nodup := by
  intro l k v h
  have hm : ∀ {l : List (Int × α)} {x : Int}, x ∈ (mput l k v).map (·.1) → x = k ∨ x ∈ l.map (·.1) := by
    intro l
    induction l with
    | nil => intro x hx; simp [mput] at hx; exact .inl hx
    | cons p t ih =>
      intro x hx
      rw [mput] at hx
      split at hx
      · rcases List.mem_cons.1 hx with rfl | hx
        · exact .inl rfl
        · exact .inr (List.mem_cons_of_mem _ hx)
      · rcases List.mem_cons.1 hx with rfl | hx
        · exact .inr (by simp)
        · rcases ih hx with h | h
          · exact .inl h
          · exact .inr (List.mem_cons_of_mem _ h)
  induction l with
  | nil => simp [mput]
  | cons p t ih =>
    rw [List.map_cons, List.nodup_cons] at h
    rw [mput]
    split
    · rename_i e
      rw [List.map_cons, List.nodup_cons]
      exact ⟨by rw [← e]; exact h.1, h.2⟩
    · rename_i e
      rw [List.map_cons, List.nodup_cons]
      refine ⟨fun hx => ?_, ih h.2⟩
      rcases hm hx with h1 | h1
      · exact e h1
      · exact h.1 h1
/-- A new node below one, as it is first. -/
def mkN (s : KS Nd) (id : Int) (x : Nd) (st : SVal) (i : Int) : Nd := ⟨st, id, x.dep + 1, 0, 0, i, [], []⟩
def mkX (s : KS Nd) (x : Nd) : Nd := { x with kids := x.kids ++ [s.last + 1] }
def mkL (s : KS Nd) (id : Int) (x : Nd) (st : SVal) : List (Int × Nd) := mput (mput s.nodes (s.last + 1) (mkN s id x st 0)) id (mkX s x)
section
variable {s : KS Nd} {R : RT} {id : Int} {a : List ST} {x : Nd} {st : SVal}
theorem get_lt {R : RT} {id : Int} {c : List ST} (h : getR R id = some c) : 1 ≤ id ∧ id < (R.its.length : Int) + 2 := by
  rcases getR_iff.1 h with ⟨rfl, _⟩ | ⟨_, j, rfl, h2⟩
  · omega
  · obtain ⟨hj, _⟩ := List.getElem?_eq_some_iff.1 h2
    omega
theorem mkL_at (hT : TI s R) (ha : getR R id = some a) (k : Int) : gP (mkL s id x st) k = if k = (R.its.length : Int) + 2 then some (mkN s id x st 0).pn else if k = id then some (mkX s x).pn else gP s.nodes k := by
  have h1 := get_lt ha
  have h2 := hT.last
  unfold mkL
  rw [gP_mput, gP_mput]
  by_cases e1 : k = (R.its.length : Int) + 2
  · rw [if_pos e1, if_neg (by omega), if_pos (by omega)]
  · rw [if_neg e1]
    by_cases e2 : k = id
    · rw [if_pos e2.symm, if_pos e2]
    · rw [if_neg (fun e => e2 e.symm), if_neg e2, if_neg (by omega)]
theorem mk_pn (hT : TI s R) (ha : getR R id = some a) (hx : lkp s.nodes id = some x) : x.pn = ndR R a := by
  obtain ⟨y, h1, h2⟩ := hT.at ha
  rw [hx] at h1
  simp only [Option.some.injEq] at h1
  subst h1; exact h2
theorem kid_here (hT : TI s R) (ha : getR R id = some a) {k : Int} {d : List ST} (hd : getR R k = some d) (st : ST) : (isKid d (a ++ [st]) = true) ↔ k = id := by
  rw [isKid_snoc]
  constructor
  · rintro rfl; rw [← find_of hT.clo hd, ← find_of hT.clo ha]
  · rintro rfl; rw [ha] at hd; simpa using hd.symm
theorem last_of {c : List ST} {s : ST} : (c ++ [s]).getLastD sZ = s := by simp
theorem mkL_k (hT : TI s R) (ha : getR R id = some a) (hx : lkp s.nodes id = some x) (hF : Fit R (a ++ [st.1])) : KInv (gP (mkL s id x st)) (push R (a ++ [st.1])) := by
  intro k d hd
  rw [getR_push] at hd
  have hp := mk_pn hT ha hx
  by_cases e1 : k = (R.its.length : Int) + 2
  · rw [if_pos e1] at hd
    simp only [Option.some.injEq] at hd
    refine ⟨(mkN s id x st 0).pn, by rw [mkL_at hT ha, if_pos e1], ?_, ?_⟩
    · rw [← hd, kids_push, kids_none hT.clo hF.no, not_kid_self]; rfl
    · rw [← hd, last_of]; rfl
  · rw [if_neg e1] at hd
    by_cases e2 : k = id
    · subst e2
      obtain rfl : a = d := by rw [ha] at hd; simpa using hd
      refine ⟨(mkX s x).pn, by rw [mkL_at hT ha, if_neg e1, if_pos rfl], ?_, ?_⟩
      · rw [kids_push, if_pos ((kid_here hT ha hd _).2 rfl)]
        show x.kids ++ [s.last + 1] = _
        rw [show x.kids = kidsR R a from congrArg PN.kids hp, hT.last]
        congr 2
      · exact congrArg PN.s hp
    · refine ⟨ndR R d, by rw [mkL_at hT ha, if_neg e1, if_neg e2, hT.inv k, hd]; rfl, ?_, rfl⟩
      rw [kids_push, if_neg (fun h => e2 ((kid_here hT ha hd _).1 h)), List.append_nil]; rfl
theorem push_lst (hT : TI s R) {c : List ST} (hF : Fit R c) : Lst (push R c) := fun l hl d hd => by
  rw [find_push_old hF.ne (hT.lst l hl d hd)]; exact hT.lst l hl d hd
theorem new_nd (hT : TI s R) {c : List ST} (hF : Fit R c) : ndR (push R c) c = ⟨c.getLastD sZ, find R c.dropLast, c.length, 0, 0, inner R c, [], []⟩ := by
  refine ndR_push_new hT.clo hF ?_ (fun l hl h => hT.lst l hl _ h hF.no) (fun l hl h => ?_)
  · cases e : isOuter c c with
    | false => rfl
    | true => exact absurd hF.no (hF.inn c (isOuter_iff.1 e))
  · exact hT.lst l hl c (by rw [← h]; exact last_chain (by rw [h]; exact hF.ne)) hF.no
/-- No Ncc: that is all. -/
theorem mk_other (hT : TI s R) (ha : getR R id = some a) (hx : lkp s.nodes id = some x) (hF : Fit R (a ++ [st.1])) (hk : ¬ st.1.h.k = 3) : TI ⟨mkL s id x st, s.last + 1⟩ (push R (a ++ [st.1])) := by
  have hp := mk_pn hT ha hx
  refine ⟨fun k => ?_, push_clo hT.clo hF, by simp only [push, List.length_append]; have := hT.last; simp; omega, push_lst hT hF, mput_nodup _ _ (mput_nodup _ _ hT.nod)⟩
  have hno : ∀ d, isOuter d (a ++ [st.1]) = false := fun d => by
    cases e : isOuter d (a ++ [st.1]) with
    | false => rfl
    | true => rw [isOuter_iff, innerOf_snoc, if_neg hk] at e; cases e
  show gP (mkL s id x st) k = _
  rw [mkL_at hT ha, getR_push]
  by_cases e1 : k = (R.its.length : Int) + 2
  · rw [if_pos e1, if_pos e1, Option.map_some, new_nd hT hF, last_of, List.dropLast_concat, find_of hT.clo ha]
    show some (PN.mk st.1 id (x.dep + 1) 0 0 0 [] []) = _
    rw [show x.dep = (a.length : Int) from congrArg PN.dep hp, show inner R (a ++ [st.1]) = 0 by unfold inner; rw [innerOf_snoc, if_neg hk]]
    simp
  · rw [if_neg e1, if_neg e1]
    by_cases e2 : k = id
    · subst e2
      rw [if_pos rfl, ha, Option.map_some, ndR_push_old hT.clo hF ha, if_pos ((kid_here hT ha ha _).2 rfl), hno, ← hp]
      show some (mkX s x).pn = some { x.pn with kids := kidsR R a ++ [(R.its.length : Int) + 2], outer := outerR R a ++ [] }
      rw [← show x.kids = kidsR R a from congrArg PN.kids hp, ← show x.outer = outerR R a from congrArg PN.outer hp, List.append_nil, show (R.its.length : Int) + 2 = s.last + 1 by have := hT.last; omega]
      rfl
    · rw [if_neg e2, hT.inv k]
      cases hd : getR R k with
      | none => rfl
      | some d =>
        rw [Option.map_some, Option.map_some, ndR_push_old hT.clo hF hd, if_neg (fun h => e2 ((kid_here hT ha hd _).1 h)), hno]
        simp only [Bool.false_eq_true, if_false, List.append_nil]
        rfl
/-- Where an Ncc's inner chain ends. -/
theorem mk_inner (hT : TI s R) (ha : getR R id = some a) (hx : lkp s.nodes id = some x) (hF : Fit R (a ++ [st.1])) (hk : st.1.h.k = 3) :
    fromG (gP (mkL s id x st)) id st.1.subs = find R (a ++ st.1.subs) ∧ find R (a ++ st.1.subs) ≠ 0 := by
  have hi := hF.inn _ (by rw [innerOf_snoc, if_pos hk])
  have h1 := get_lt ha
  have hg : getR (push R (a ++ [st.1])) id = some a := by rw [getR_push, if_neg (by omega)]; exact ha
  exact ⟨by rw [from_find (mkL_k hT ha hx hF) (push_clo hT.clo hF) _ hg, find_push_old hF.ne hi], hi⟩
def mkL3 (s : KS Nd) (id : Int) (x : Nd) (st : SVal) (i : Int) (z : Nd) : List (Int × Nd) := mput (mput (mkL s id x st) (s.last + 1) (mkN s id x st i)) i { z with outer := z.outer ++ [s.last + 1] }
theorem mk_ncc (hT : TI s R) (ha : getR R id = some a) (hx : lkp s.nodes id = some x) (hF : Fit R (a ++ [st.1])) (hk : st.1.h.k = 3) {z : Nd}
    (hz : lkp (mput (mkL s id x st) (s.last + 1) (mkN s id x st (find R (a ++ st.1.subs)))) (find R (a ++ st.1.subs)) = some z) :
    TI ⟨mkL3 s id x st (find R (a ++ st.1.subs)) z, s.last + 1⟩ (push R (a ++ [st.1])) := by
  have hp := mk_pn hT ha hx
  have hi := (mk_inner hT ha hx hF hk).2
  have hgi := find_some hT.clo.ne hi
  have hlt := get_lt hgi
  have hla := hT.last
  refine ⟨fun k => ?_, push_clo hT.clo hF, by simp only [push, List.length_append]; simp; omega, push_lst hT hF, mput_nodup _ _ (mput_nodup _ _ (mput_nodup _ _ (mput_nodup _ _ hT.nod)))⟩
  have hou : ∀ {k d}, getR R k = some d → (isOuter d (a ++ [st.1]) = true ↔ k = find R (a ++ st.1.subs)) := fun {k d} hd => by
    rw [isOuter_iff, innerOf_snoc, if_pos hk, Option.some.injEq]
    constructor
    · intro e; rw [e]; exact (find_of hT.clo hd).symm
    · rintro rfl; rw [hgi] at hd; simpa using hd
  have hold : ∀ {k d}, getR R k = some d → gP (mkL s id x st) k = some { ndR R d with kids := kidsR R d ++ if isKid d (a ++ [st.1]) = true then [(R.its.length : Int) + 2] else [] } := fun {k d} hd => by
    have := get_lt hd
    rw [mkL_at hT ha, if_neg (by omega)]
    by_cases e2 : k = id
    · subst e2
      obtain rfl : a = d := by rw [ha] at hd; simpa using hd
      rw [if_pos rfl, if_pos ((kid_here hT ha ha _).2 rfl), ← hp]
      show some (mkX s x).pn = some { x.pn with kids := kidsR R a ++ [(R.its.length : Int) + 2] }
      rw [← show x.kids = kidsR R a from congrArg PN.kids hp, show (R.its.length : Int) + 2 = s.last + 1 by omega]
      rfl
    · rw [if_neg e2, hT.inv k, hd, if_neg (fun h => e2 ((kid_here hT ha hd _).1 h)), List.append_nil]; rfl
  show gP (mkL3 s id x st _ z) k = _
  unfold mkL3
  rw [gP_mput, gP_mput, getR_push]
  by_cases e1 : k = (R.its.length : Int) + 2
  · rw [if_neg (by omega), if_pos (by omega), if_pos e1, Option.map_some, new_nd hT hF, last_of, List.dropLast_concat, find_of hT.clo ha]
    show some (PN.mk st.1 id (x.dep + 1) 0 0 _ [] []) = _
    rw [show x.dep = (a.length : Int) from congrArg PN.dep hp, show inner R (a ++ [st.1]) = find R (a ++ st.1.subs) by unfold inner; rw [innerOf_snoc, if_pos hk]]
    simp
    rfl
  · rw [if_neg e1]
    by_cases e2 : k = find R (a ++ st.1.subs)
    · subst e2
      rw [if_pos rfl, hgi, Option.map_some, ndR_push_old hT.clo hF hgi, if_pos ((hou hgi).2 rfl)]
      have hz2 : z.pn = { ndR R (a ++ st.1.subs) with kids := kidsR R (a ++ st.1.subs) ++ if isKid (a ++ st.1.subs) (a ++ [st.1]) = true then [(R.its.length : Int) + 2] else [] } := by
        have h1 := hold hgi
        have h2 := gP_some hz
        rw [gP_mput, if_neg (by omega), h1] at h2
        simp only [Option.some.injEq] at h2
        exact h2.symm
      show some { z.pn with outer := z.pn.outer ++ [s.last + 1] } = _
      rw [hz2, show (s.last + 1) = (R.its.length : Int) + 2 by omega]
      rfl
    · rw [if_neg (fun e => e2 e.symm), if_neg (by omega)]
      cases hd : getR R k with
      | none =>
        rw [mkL_at hT ha, if_neg e1, if_neg (fun e => by rw [e, ha] at hd; cases hd), hT.inv k, hd]; rfl
      | some d =>
        rw [hold hd, Option.map_some, ndR_push_old hT.clo hF hd, if_neg (fun h => e2 ((hou hd).1 h)), List.append_nil]
        rfl
end
end Go.Gx.T16

/- Plain laws of rising lists without a twin: what sorting and making runs one leaves; no program in sight. -/
namespace Go.Gx.Set
open Go.Lib

theorem cu (d : Array Int) (hs : ∀ i j, i ≤ j → j < d.size → d[i]! ≤ d[j]!) : ∀ m, m ≤ d.size → (compactUpTo d m).Pairwise (· < ·) ∧ ∀ x, x ∈ compactUpTo d m ↔ ∃ j, j < m ∧ d[j]! = x
  | 0, _ => ⟨by simp [compactUpTo], fun x => by simp [compactUpTo]⟩
  | m + 1, hm => by
    obtain ⟨h1, h2⟩ := cu d hs m (by omega)
    rw [compactUpTo_succ]
    by_cases hk : keeps d m = true
    · rw [if_pos hk]
      refine ⟨List.pairwise_append.2 ⟨h1, by simp, fun x hx y hy => ?_⟩, fun x => ?_⟩
      · obtain ⟨j, hj, rfl⟩ := (h2 x).1 hx
        obtain rfl : y = d[m]! := by simpa using hy
        have e1 := hs j (m - 1) (by omega) (by omega)
        have e2 := hs (m - 1) m (by omega) (by omega)
        have e3 : d[m]! ≠ d[m - 1]! := by
          have : decide (m = 0 ∨ d[m]! ≠ d[m - 1]!) = true := hk
          rcases of_decide_eq_true this with h | h
          · omega
          · exact h
        omega
      · rw [List.mem_append, h2]
        constructor
        · rintro (⟨j, hj, e⟩ | h)
          · exact ⟨j, by omega, e⟩
          · exact ⟨m, by omega, by simpa using (List.mem_singleton.1 h).symm⟩
        · rintro ⟨j, hj, e⟩
          by_cases hjm : j = m
          · subst hjm; exact .inr (by simp [e])
          · exact .inl ⟨j, by omega, e⟩
    · rw [if_neg hk, List.append_nil]
      refine ⟨h1, fun x => ?_⟩
      rw [h2]
      have e3 : 0 < m ∧ d[m]! = d[m - 1]! := by
        have : ¬ (m = 0 ∨ d[m]! ≠ d[m - 1]!) := fun h => hk (decide_eq_true h)
        exact ⟨by omega, by
          apply Classical.byContradiction
          intro h; exact this (.inr h)⟩
      constructor
      · rintro ⟨j, hj, e⟩; exact ⟨j, by omega, e⟩
      · rintro ⟨j, hj, e⟩
        by_cases hjm : j = m
        · subst hjm; exact ⟨j - 1, by omega, by rw [← e3.2, e]⟩
        · exact ⟨j, by omega, e⟩

/-- The list, rising, each element once. -/
def once (l : List Int) : List Int := compact (l.mergeSort fun x y => decide (x ≤ y))

theorem once_both (l : List Int) : (once l).Pairwise (· < ·) ∧ ∀ x, x ∈ once l ↔ x ∈ l := by
  have hp := List.mergeSort_perm l fun x y => decide (x ≤ y)
  have hs : (l.mergeSort fun x y => decide (x ≤ y)).Pairwise fun x y => x ≤ y :=
    (List.pairwise_mergeSort (le := fun x y : Int => decide (x ≤ y)) (by intro a b c; simp; omega) (by intro a b; simp; omega) l).imp (by simp)
  have hm : ∀ x, x ∈ (l.mergeSort fun x y => decide (x ≤ y)) ↔ x ∈ l := fun x => hp.mem_iff
  unfold once compact
  generalize (l.mergeSort fun x y => decide (x ≤ y)) = s at hs hm
  have hg : ∀ i j, i ≤ j → j < s.toArray.size → s.toArray[i]! ≤ s.toArray[j]! := by
    intro i j hij hj
    have hj' : j < s.length := by simpa using hj
    rw [getElem!_pos s.toArray i (by simp; omega), getElem!_pos s.toArray j hj]
    by_cases e : i = j
    · subst e; exact Int.le_refl _
    · simpa using List.pairwise_iff_getElem.1 hs i j (by omega) hj' (by omega)
  obtain ⟨h1, h2⟩ := cu s.toArray hg s.length (by simp)
  refine ⟨h1, fun x => ?_⟩
  rw [h2, ← hm]
  constructor
  · rintro ⟨j, hj, rfl⟩
    rw [getElem!_pos s.toArray j (by simpa using hj)]
    simp
  · intro hx
    obtain ⟨j, hj, rfl⟩ := List.mem_iff_getElem.1 hx
    exact ⟨j, hj, by rw [getElem!_pos s.toArray j (by simpa using hj)]; simp⟩

theorem once_rises (l : List Int) : (once l).Pairwise (· < ·) := (once_both l).1
theorem mem_once {l : List Int} {x : Int} : x ∈ once l ↔ x ∈ l := (once_both l).2 x

/-- How many of a list lie below a bound. -/
def below (U : List Int) (n : Int) : Nat := U.countP fun x => decide (x < n)
end Go.Gx.Set

/- Plain laws of tries: lists that come; no program in sight. -/
namespace Go.Gx.T16
open Go.Gx Go.Gx.T3 Go.Gx.T4 Go.Gx.T6 Go.Gx.T8

def step (R : RT) (c : List ST) : RT := if find R c = 0 then push R c else R
def pushes (R : RT) : List (List ST) → RT
  | [] => R
  | c :: t => pushes (step R c) t
theorem pushes_append (a b : List (List ST)) : ∀ R, pushes R (a ++ b) = pushes (pushes R a) b := by
  induction a with
  | nil => intro R; rfl
  | cons c t ih => intro R; exact ih _
/-- One after the other may come. -/
def Good : RT → List (List ST) → Prop
  | _, [] => True
  | R, c :: t => (c ≠ [] ∧ find R c.dropLast ≠ 0 ∧ ∀ e, innerOf c = some e → find R e ≠ 0) ∧ Good (step R c) t
theorem good_append (a b : List (List ST)) : ∀ R, Good R (a ++ b) ↔ Good R a ∧ Good (pushes R a) b := by
  induction a with
  | nil => intro R; simp [Good, pushes]
  | cons c t ih => intro R; rw [List.cons_append, Good, Good, ih, pushes]; simp only [and_assoc]
theorem find_step {R : RT} {c : List ST} (hc : c ≠ []) : find (step R c) c ≠ 0 := by
  unfold step
  split
  · rename_i h; rw [find_push_new hc h]; omega
  · rename_i h; exact h
theorem find_step_old {R : RT} {c d : List ST} (hc : c ≠ []) (h : find R d ≠ 0) : find (step R c) d = find R d := by
  unfold step
  split
  · exact find_push_old hc h
  · rfl
theorem find_pushes_old : ∀ {cs : List (List ST)} {R : RT} {d : List ST}, (∀ c ∈ cs, c ≠ []) → find R d ≠ 0 → find (pushes R cs) d = find R d
  | [], _, _, _, _ => rfl
  | c :: t, R, d, hc, h => by
    have h1 := find_step_old (c := c) (hc c (by simp)) h
    rw [pushes, find_pushes_old (fun x hx => hc x (List.mem_cons_of_mem _ hx)) (by rw [h1]; exact h), h1]
theorem find_pushes : ∀ {cs : List (List ST)} {R : RT}, (∀ c ∈ cs, c ≠ []) → ∀ c ∈ cs, find (pushes R cs) c ≠ 0
  | [], _, _, c, h => by cases h
  | x :: t, R, hc, c, h => by
    have ht : ∀ c ∈ t, c ≠ [] := fun y hy => hc y (List.mem_cons_of_mem _ hy)
    rcases List.mem_cons.1 h with rfl | h
    · have h1 := find_step (R := R) (hc c (by simp))
      rw [pushes, find_pushes_old ht h1]; exact h1
    · rw [pushes]; exact find_pushes ht c h
theorem good_ne : ∀ {cs : List (List ST)} {R : RT}, Good R cs → ∀ c ∈ cs, c ≠ []
  | [], _, _, _, h => by cases h
  | x :: t, R, hg, c, h => by
    rw [Good] at hg
    rcases List.mem_cons.1 h with rfl | h
    · exact hg.1.1
    · exact good_ne hg.2 c h
theorem mem_schains_last {ah l : List ST} (hl : l ≠ []) : ah ++ l ∈ schains ah l := by
  have e : l = l.dropLast ++ [l.getLast hl] := (List.dropLast_concat_getLast hl).symm
  rw [e, schains_append]
  refine List.mem_append_right _ ?_
  rw [schains, schains, List.append_nil]
  cases hc : l.getLast hl with
  | mk h u => rw [schain1]; simp
mutual
theorem schain1_good : ∀ (s : ST) (ah : List ST) (R : RT), find R ah ≠ 0 → Good R (schain1 ah s)
  | .mk h l, ah, R, ha => by
    by_cases hk : h.k = 3
    · rw [schain1, if_pos hk, good_append]
      have h1 := schains_good l ah R ha
      refine ⟨h1, ?_⟩
      have h2 : find (pushes R (schains ah l)) ah ≠ 0 := by rw [find_pushes_old (good_ne h1) ha]; exact ha
      refine ⟨⟨by simp, by rw [List.dropLast_concat]; exact h2, fun e he => ?_⟩, trivial⟩
      rw [innerOf_snoc] at he
      split at he
      · simp only [Option.some.injEq] at he
        subst he
        show find _ (ah ++ l) ≠ 0
        cases l with
        | nil => rw [List.append_nil]; exact h2
        | cons x t => exact find_pushes (good_ne h1) _ (mem_schains_last (by simp))
      · cases he
    · rw [schain1, if_neg hk, List.nil_append]
      refine ⟨⟨by simp, by rw [List.dropLast_concat]; exact ha, fun e he => ?_⟩, trivial⟩
      rw [innerOf_snoc, if_neg (show ¬ (ST.mk h l).h.k = 3 from hk)] at he; cases he
theorem schains_good : ∀ (l : List ST) (ah : List ST) (R : RT), find R ah ≠ 0 → Good R (schains ah l)
  | [], _, _, _ => trivial
  | s :: t, ah, R, ha => by
    rw [schains, good_append]
    have h1 := schain1_good s ah R ha
    refine ⟨h1, schains_good t (ah ++ [s]) _ (find_pushes (good_ne h1) _ ?_)⟩
    cases s with
    | mk h u => rw [schain1]; simp
end
theorem schains_good0 (l : List ST) (R : RT) : Good R (schains [] l) := schains_good l [] R (by rw [find_nil]; omega)
theorem good_at {R : RT} {cs : List (List ST)} {k : Nat} {c : List ST} (hg : Good R cs) (hk : cs[k]? = some c) :
    c ≠ [] ∧ find (pushes R (cs.take k)) c.dropLast ≠ 0 ∧ ∀ e, innerOf c = some e → find (pushes R (cs.take k)) e ≠ 0 := by
  obtain ⟨hlt, h2⟩ := List.getElem?_eq_some_iff.1 hk
  have e : cs = cs.take k ++ (c :: cs.drop (k + 1)) := by
    rw [← h2, ← List.drop_eq_getElem_cons hlt, List.take_append_drop]
  rw [e, good_append] at hg
  exact hg.2.1
theorem pushes_take {R : RT} {cs : List (List ST)} {k : Nat} {c : List ST} (hk : cs[k]? = some c) : pushes R (cs.take (k + 1)) = step (pushes R (cs.take k)) c := by
  obtain ⟨hlt, h2⟩ := List.getElem?_eq_some_iff.1 hk
  rw [List.take_succ_eq_append_getElem hlt, pushes_append, h2]; rfl
theorem pushes_lists : ∀ (cs : List (List ST)) (R : RT), (pushes R cs).lists = R.lists
  | [], _ => rfl
  | c :: t, R => by
    rw [pushes, pushes_lists t]
    unfold step push
    split <;> rfl
theorem pushes_len : ∀ (cs : List (List ST)) (R : RT), R.its.length ≤ (pushes R cs).its.length ∧ (pushes R cs).its.length ≤ R.its.length + cs.length
  | [], _ => by simp [pushes]
  | c :: t, R => by
    have := pushes_len t (step R c)
    have h2 : R.its.length ≤ (step R c).its.length ∧ (step R c).its.length ≤ R.its.length + 1 := by
      unfold step push
      split <;> simp
    rw [pushes, List.length_cons]; omega
/-! ### which chains a chain's list has -/
mutual
theorem schain1_up : ∀ (s : ST) (ah : List ST), ∀ d ∈ schain1 ah s, d ≠ [] ∧ (d.dropLast = ah ∨ d.dropLast ∈ schain1 ah s) ∧ ∀ e, innerOf d = some e → e = d.dropLast ∨ e ∈ schain1 ah s
  | .mk h l, ah, d, hd => by
    rw [schain1] at hd ⊢
    rcases List.mem_append.1 hd with hd | hd
    · split at hd
      · rename_i hk
        obtain ⟨h1, h2, h3⟩ := schains_up l ah d hd
        simp only [if_pos hk]
        exact ⟨h1, h2.imp id (List.mem_append_left _), fun e he => (h3 e he).imp id (List.mem_append_left _)⟩
      · cases hd
    · rw [List.mem_singleton] at hd
      subst hd
      refine ⟨by simp, .inl (by simp), fun e he => ?_⟩
      rw [innerOf_snoc] at he
      split at he
      · rename_i hk
        simp only [Option.some.injEq] at he
        subst he
        cases l with
        | nil => left; simp [ST.subs]
        | cons x t =>
          right
          have hk' : h.k = 3 := hk
          rw [if_pos hk']
          exact List.mem_append_left _ (mem_schains_last (by simp))
      · cases he
theorem schains_up : ∀ (l : List ST) (ah : List ST), ∀ d ∈ schains ah l, d ≠ [] ∧ (d.dropLast = ah ∨ d.dropLast ∈ schains ah l) ∧ ∀ e, innerOf d = some e → e = d.dropLast ∨ e ∈ schains ah l
  | [], _, d, hd => by cases hd
  | s :: t, ah, d, hd => by
    rw [schains] at hd ⊢
    rcases List.mem_append.1 hd with hd | hd
    · obtain ⟨h1, h2, h3⟩ := schain1_up s ah d hd
      exact ⟨h1, h2.imp id (List.mem_append_left _), fun e he => (h3 e he).imp id (List.mem_append_left _)⟩
    · obtain ⟨h1, h2, h3⟩ := schains_up t (ah ++ [s]) d hd
      refine ⟨h1, .inr ?_, fun e he => (h3 e he).imp id (List.mem_append_right _)⟩
      rcases h2 with h2 | h2
      · refine List.mem_append_left _ ?_
        rw [h2]
        cases s with
        | mk h u => rw [schain1]; simp
      · exact List.mem_append_right _ h2
end
theorem uses_up {l d c : List ST} (hd : d ≠ []) (h : usesOf d l = true) (hc : d.dropLast = c ∨ innerOf d = some c) : usesOf c l = true := by
  rw [usesOf_iff] at h ⊢
  rcases h with h | h
  · exact absurd h hd
  · obtain ⟨_, h2, h3⟩ := schains_up l [] d h
    rcases hc with hc | hc
    · rcases h2 with h2 | h2
      · left; rw [← hc, h2]
      · right; rw [← hc]; exact h2
    · rcases h3 c hc with h3 | h3
      · rcases h2 with h2 | h2
        · left; rw [h3, h2]
        · right; rw [h3]; exact h2
      · exact .inr h3
theorem uses_le {R : RT} {d c : List ST} (hd : d ≠ []) (hc : d.dropLast = c ∨ innerOf d = some c) : uses R d ≤ uses R c :=
  List.countP_mono_left fun _ _ h => uses_up hd h hc
/-! ### use -/
def useL (y : Int) : List Int → List (Int × Nd) → List (Int × Nd)
  | [], l => l
  | k :: t, l => match lkp l k with
    | some x => useL y t (mput l k { x with uses := x.uses + y })
    | none => useL y t l
theorem useL_at (y : Int) : ∀ {ks : List Int} {l : List (Int × Nd)} (_ : ks.Nodup) (k : Int), lkp (useL y ks l) k = (lkp l k).map fun x => if k ∈ ks then { x with uses := x.uses + y } else x
  | [], l, _, k => by simp [useL]
  | i :: t, l, hn, k => by
    rw [List.nodup_cons] at hn
    rw [useL]
    cases hi : lkp l i with
    | none =>
      show lkp (useL y t l) k = _
      rw [useL_at y hn.2]
      cases hk : lkp l k with
      | none => rfl
      | some x =>
        have : k ≠ i := fun e => by rw [e, hi] at hk; cases hk
        simp [this]
    | some x =>
      show lkp (useL y t _) k = _
      rw [useL_at y hn.2, lkp_mput]
      by_cases e : i = k
      · subst e
        rw [if_pos rfl, hi]
        simp [hn.1]
      · rw [if_neg e]
        cases hk : lkp l k with
        | none => rfl
        | some z => simp [show k ≠ i from fun h => e h.symm]
theorem useL_nodup (y : Int) : ∀ {ks : List Int} {l : List (Int × Nd)}, (l.map (·.1)).Nodup → ((useL y ks l).map (·.1)).Nodup
  | [], _, h => h
  | i :: t, l, h => by
    rw [useL]
    cases hi : lkp l i with
    | none => exact useL_nodup y h
    | some x => exact useL_nodup y (mput_nodup _ _ h)
/-! ### a list more -/
theorem ndR_lists (R : RT) (ls : List (List ST)) (c : List ST) : ndR ⟨ls, R.its⟩ c = { ndR R c with uses := ls.countP (usesOf c), ends := ls.countP (ceq · c) } := rfl
theorem getR_lists (R : RT) (ls : List (List ST)) (id : Int) : getR ⟨ls, R.its⟩ id = getR R id := rfl
theorem find_lists (R : RT) (ls : List (List ST)) (c : List ST) : find ⟨ls, R.its⟩ c = find R c := rfl
theorem clo_lists {R : RT} (ls : List (List ST)) (h : Clo R) : Clo ⟨ls, R.its⟩ := ⟨h.ne, h.once, h.up, h.inn⟩
/-- Lists told anew: uses and ends are told anew. -/
theorem TI.retell {s : KS Nd} {R : RT} (h : TI s R) {ls : List (List ST)} {l' : List (Int × Nd)} (hl : Lst ⟨ls, R.its⟩) (hn : (l'.map (·.1)).Nodup)
    (hk : ∀ k c, getR R k = some c → ∀ x, lkp s.nodes k = some x → ∃ y, lkp l' k = some y ∧ y.pn = { x.pn with uses := ls.countP (usesOf c), ends := ls.countP (ceq · c) }) (h0 : ∀ k, lkp s.nodes k = none → lkp l' k = none) : TI ⟨l', s.last⟩ ⟨ls, R.its⟩ := by
  refine ⟨fun k => ?_, clo_lists ls h.clo, h.last, hl, hn⟩
  rw [getR_lists]
  cases hg : getR R k with
  | none =>
    have := h.inv k
    rw [hg] at this
    exact gP_none.2 (h0 k (gP_none.1 this))
  | some c =>
    obtain ⟨x, h1, h2⟩ := h.at hg
    obtain ⟨y, h3, h4⟩ := hk k c hg x h1
    rw [Option.map_some, ndR_lists, ← h2, ← h4]
    exact gP_some h3
end Go.Gx.T16

/- Tries: what the walks of the functions that read one go by; no program in sight. -/
namespace Go.Gx.T16
open Go.Gx Go.Gx.T3 Go.Gx.T4 Go.Gx.T6 Go.Gx.T8

/-- The cells of a step's values. -/
def ndC (x : Nd) (kv ov : Value) : List Value := [.int .i64 x.st.1.h.k, .int .i64 x.st.1.h.k0, .int .i64 x.st.1.h.k1, .int .i64 x.st.1.h.k2, x.st.2.1, x.st.2.2, .int .i64 x.par, kv, .int .i64 x.dep, .int .i64 x.uses, .int .i64 x.ends, .int .i64 x.inn, ov]
def nkD (T E : TypeId) : NK Nd := ⟨T, E, 13, ndC, Nd.kids, Nd.outer⟩
/-- A step's tests and what stands below it. -/
def StAt (G : Ghost) (st : SVal) : Prop := SlL G st.2.1 3 tC t0 st.1.h.ts ∧ Ss G st.2.2 st.1.subs ∧ ssz st.1 ≤ 1000
theorem StAt.mono {G G' : Ghost} {st : SVal} (h : StAt G st) (hle : GLe G G') : StAt G' st := ⟨h.1.mono hle, h.2.1.mono hle, h.2.2⟩
abbrev NL := List (Int × NB Nd)
/-- All that is known of nodes that are seen. -/
structure Seen (T E : TypeId) (G : Ghost) (l : NL) (R : RT) : Prop where
  at' : ∀ q ∈ l, NodeAt (nkD T E) G q.2
  st : ∀ q ∈ l, StAt G q.2.2.2.2.st
  k : KInv (gP (eraK l)) R
  clo : Clo R
theorem Seen.mono {T E : TypeId} {G G' : Ghost} {l : NL} {R : RT} (h : Seen T E G l R) (hle : GLe G G') : Seen T E G' l R := ⟨fun q hq => (h.at' q hq).mono hle, fun q hq => (h.st q hq).mono hle, h.k, h.clo⟩
theorem gP_era {l : NL} {k : Int} {b : Nat} {kv ov : Value} {x : Nd} (h : lkp l k = some (b, kv, ov, x)) : gP (eraK l) k = some x.pn := gP_some (by rw [eraK_lkp, h]; rfl)
theorem gP_eraN {l : NL} {k : Int} (h : lkp l k = none) : gP (eraK l) k = none := gP_none.2 (by rw [eraK_lkp, h]; rfl)
/-- What a node is that isn't there. -/
abbrev pn0 : PN := ⟨sZ, 0, 0, 0, 0, 0, [], []⟩
section
variable {T E : TypeId} {G : Ghost} {l : NL} {R : RT} {id : Int} {c : List ST}
theorem Seen.node (h : Seen T E G l R) (hc : getR R id = some c) : ∃ bx kv ov x, lkp l id = some (bx, kv, ov, x) ∧ x.kids = kidsR R c ∧ x.st.1 = c.getLastD sZ := by
  obtain ⟨y, h1, h2, h3⟩ := h.k id c hc
  obtain ⟨x, h4, rfl⟩ := gP_inv h1
  obtain ⟨b, kv, ov, h5⟩ := eraK_some h4
  exact ⟨b, kv, ov, x, h5, h2, h3⟩
theorem Seen.row (h : Seen T E G l R) {bx : Nat} {kv ov : Value} {x : Nd} (hl : lkp l id = some (bx, kv, ov, x)) : RowAt G bx 0 13 (at_ (ndC x kv ov)) ∧ SlL G kv 1 cI (0 : Int) x.kids ∧ SlL G ov 1 cI (0 : Int) x.outer ∧ SlL G x.st.2.1 3 tC t0 x.st.1.h.ts ∧ Ss G x.st.2.2 x.st.1.subs ∧ ssz x.st.1 ≤ 1000 :=
  ⟨(h.at' _ (lkp_some hl)).1, (h.at' _ (lkp_some hl)).2.1, (h.at' _ (lkp_some hl)).2.2, (h.st _ (lkp_some hl)).1, (h.st _ (lkp_some hl)).2⟩
theorem kid_get {k : Int} (h : k ∈ kidsR R c) : ∃ s, getR R k = some (c ++ [s]) := by
  obtain ⟨j, d, rfl, h1, h2⟩ := numsF_mem.1 h
  obtain ⟨s, rfl⟩ := isKid_iff.1 h2
  exact ⟨s, getR_iff.2 (.inr ⟨by omega, j, by omega, h1⟩)⟩
theorem below_kids {g : Int → Option PN} {x : PN} {s : ST} (hK : KInv g R) (hC : Clo R) (hc : getR R id = some c) (hx : x.kids = kidsR R c) : belowL g s x.kids = find R (c ++ [s]) := by
  obtain ⟨y, h1, h2, _⟩ := hK id c hc
  rw [← below_find hK hC s hc, hx, ← h2]
  unfold below
  rw [h1]
theorem kids_drop {ks : List Int} {j : Nat} (hj : j < ks.length) : ks.drop j = ks.getD j 0 :: ks.drop (j + 1) := by
  rw [List.drop_eq_getElem_cons hj]; simp [List.getD, List.getElem?_eq_getElem hj]
theorem below_go {g : Int → Option PN} {s : ST} {ks : List Int} {j : Nat} {v : Int} {y : PN} (h : belowL g s (ks.drop j) = v) (hj : j < ks.length) (hy : g (ks.getD j 0) = some y) (hs : seq y.s s = false) : belowL g s (ks.drop (j + 1)) = v := by
  rw [kids_drop hj, belowL, hy] at h
  simp only [hs, Bool.false_eq_true, if_false] at h
  exact h
theorem below_hit {g : Int → Option PN} {s : ST} {ks : List Int} {j : Nat} {v : Int} {y : PN} (h : belowL g s (ks.drop j) = v) (hj : j < ks.length) (hy : g (ks.getD j 0) = some y) (hs : seq y.s s = true) : ks.getD j 0 = v := by
  rw [kids_drop hj, belowL, hy] at h
  simp only [hs, if_true] at h
  exact h
theorem below_end {g : Int → Option PN} {s : ST} {ks : List Int} {j : Nat} {v : Int} (h : belowL g s (ks.drop j) = v) (hj : ks.length ≤ j) : (0 : Int) = v := by
  rw [List.drop_eq_nil_of_le hj, belowL] at h
  exact h
theorem find_longer (hC : Clo R) : ∀ (t : List ST) (a : List ST), find R a = 0 → find R (a ++ t) = 0
  | [], a, h => by rw [List.append_nil]; exact h
  | s :: t, a, h => by
    have e : a ++ s :: t = a ++ [s] ++ t := by simp
    rw [e]
    refine find_longer hC t _ (Decidable.byContradiction fun hn => find_pre hC hn h)
theorem chain_take {rs : List SVal} {k : Nat} (hk : k < rs.length) : (rs.map Prod.fst).take (k + 1) = (rs.map Prod.fst).take k ++ [(rs.getD k s0).1] := sv_take hk
theorem find_no {rs : List SVal} {k : Nat} (hC : Clo R) (h : find R (c ++ ((rs.map Prod.fst).take k)) = 0) : find R (c ++ rs.map Prod.fst) = 0 := by
  have := find_longer hC ((rs.map Prod.fst).drop k) _ h
  rw [List.append_assoc, List.take_append_drop] at this
  exact this
end
/-- A call that keeps all but the nodes just where it is. -/
theorem see_z {P : Program} {f : FuncId} {vs : Array Value} {TT : TypeId} {p : Nat} {s : KS (NB Nd)} {R : Value → Prop} {w : World} {F : Nat → Prop}
    (hc : ∀ z, (starL (trL TT p s z)).holds w F → Calls P f vs w (Ret fun r w' => R r ∧ Kept (starL (trL TT p s z)) F w w')) (hA : (trR TT p s).holds w F) : Calls P f vs w (Ret fun r w' => R r ∧ Kept (trR TT p s) F w w') := by
  obtain ⟨z, hz⟩ := hA
  refine (hc z hz).mono (fun e w' hR => ?_)
  cases e with
  | returned r => exact ⟨hR.1, hR.2.imp (fun w F h => ⟨z, h⟩)⟩
  | panicked c => exact hR.elim
  | outgrown => exact hR.elim
end Go.Gx.T16

/-
  DERIVED: THE SHELF's CONTRACTS AT THIS DUMP, IN PLAIN WORDS (tools/lay-plain.mjs out of 'TryShelf7.lean', which tools/lay-shelf.mjs wrote): THE SAME DECLARATIONS UNDER THE SAME NAMES: 'import', 'namespace', 'open', 'def', 'theorem' AND NOTHING ELSE: no command of the shelf's: FOR A HAND-IN. Each laying: the table of numbers ('.._ren') and one theorem, a field a fact of the dump's own or the kernel's comparison; each contract: ONE APPLICATION.
-/
namespace Go.Proofs
open Go.Shelf
def Try.lays128_ren : Go.Shelf.Ren := ⟨fun | 128 => 86 | n => n, fun | 51 => 147 | 3 => 3 | 4 => 4 | 46 => 130 | 5 => 5 | 9 => 9 | n => n, fun | n => n⟩
def Try.lays125_ren : Go.Shelf.Ren := ⟨fun | 125 => 68 | 128 => 86 | 129 => 87 | n => n, fun | 46 => 130 | 3 => 3 | 51 => 147 | 53 => 149 | 4 => 4 | 5 => 5 | 9 => 9 | n => n, fun | n => n⟩
def Try.lays215_ren : Go.Shelf.Ren := ⟨fun | 215 => 94 | n => n, fun | 3 => 3 | 4 => 4 | n => n, fun | n => n⟩
def Try.lays129_ren : Go.Shelf.Ren := ⟨fun | 129 => 87 | n => n, fun | 53 => 149 | 3 => 3 | 4 => 4 | 46 => 130 | 5 => 5 | 9 => 9 | n => n, fun | n => n⟩
def Try.lays189_ren : Go.Shelf.Ren := ⟨fun | 189 => 42 | 125 => 68 | 257 => 67 | 128 => 86 | 129 => 87 | 294 => 77 | 295 => 78 | 296 => 79 | 297 => 80 | 298 => 81 | 299 => 82 | 216 => 83 | 300 => 84 | 301 => 85 | 328 => 89 | 329 => 90 | 330 => 91 | 331 => 92 | 332 => 93 | 215 => 94 | 343 => 95 | n => n, fun | 28 => 33 | 3 => 3 | 46 => 130 | 0 => 0 | 51 => 147 | 53 => 149 | 4 => 4 | 183 => 139 | 182 => 138 | 131 => 144 | 5 => 5 | 9 => 9 | 218 => 151 | 222 => 116 | 228 => 156 | 229 => 157 | n => n, fun | n => n⟩
theorem Try.lays189 : Go.Proofs.Lays.n189 Try.prog Try.lays189_ren := {
  mixed := by kernel_rfl
  f125 := Try.func68.trans (congrArg some (by kernel_rfl))
  f128 := Try.func86.trans (congrArg some (by kernel_rfl))
  f129 := Try.func87.trans (congrArg some (by kernel_rfl))
  f189 := Try.func42.trans (congrArg some (by kernel_rfl))
  f215 := Try.func94.trans (congrArg some (by kernel_rfl))
  f216 := Try.func83.trans (congrArg some (by kernel_rfl))
  f257 := Try.func67.trans (congrArg some (by kernel_rfl))
  f294 := Try.func77.trans (congrArg some (by kernel_rfl))
  f295 := Try.func78.trans (congrArg some (by kernel_rfl))
  f296 := Try.func79.trans (congrArg some (by kernel_rfl))
  f297 := Try.func80.trans (congrArg some (by kernel_rfl))
  f298 := Try.func81.trans (congrArg some (by kernel_rfl))
  f299 := Try.func82.trans (congrArg some (by kernel_rfl))
  f300 := Try.func84.trans (congrArg some (by kernel_rfl))
  f301 := Try.func85.trans (congrArg some (by kernel_rfl))
  f328 := Try.func89.trans (congrArg some (by kernel_rfl))
  f329 := Try.func90.trans (congrArg some (by kernel_rfl))
  f330 := Try.func91.trans (congrArg some (by kernel_rfl))
  f331 := Try.func92.trans (congrArg some (by kernel_rfl))
  f332 := Try.func93.trans (congrArg some (by kernel_rfl))
  f343 := Try.func95.trans (congrArg some (by kernel_rfl))
  t0 := Try.underlying0
  a0 := Try.isAgg0
  z0 := Try.sizeOf0
  v0 := Try.zeroValue0
  t3 := Try.underlying3
  a3 := Try.isAgg3
  z3 := Try.sizeOf3
  v3 := Try.zeroValue3
  t4 := Try.underlying4
  a4 := Try.isAgg4
  z4 := Try.sizeOf4
  v4 := Try.zeroValue4
  t5 := Try.underlying5
  a5 := Try.isAgg5
  z5 := Try.sizeOf5
  v5 := Try.zeroValue5
  t9 := Try.underlying9
  a9 := Try.isAgg9
  z9 := Try.sizeOf9
  v9 := Try.zeroValue9
  t28 := Try.underlying33
  a28 := Try.isAgg33
  z28 := Try.sizeOf33
  v28 := Try.zeroValue33
  t46 := Try.underlying130
  a46 := Try.isAgg130
  z46 := Try.sizeOf130
  v46 := Try.zeroValue130
  t51 := Try.underlying147
  a51 := Try.isAgg147
  z51 := Try.sizeOf147
  v51 := Try.zeroValue147
  t53 := Try.underlying149
  a53 := Try.isAgg149
  z53 := Try.sizeOf149
  v53 := Try.zeroValue149
  t131 := Try.underlying144
  a131 := Try.isAgg144
  z131 := Try.sizeOf144
  v131 := Try.zeroValue144
  t182 := Try.underlying138
  a182 := Try.isAgg138
  z182 := Try.sizeOf138
  v182 := Try.zeroValue138
  t183 := Try.underlying139
  a183 := Try.isAgg139
  z183 := Try.sizeOf139
  v183 := Try.zeroValue139
  t218 := Try.underlying151
  a218 := Try.isAgg151
  z218 := Try.sizeOf151
  v218 := Try.zeroValue151
  t222 := Try.underlying116
  a222 := Try.isAgg116
  z222 := Try.sizeOf116
  v222 := Try.zeroValue116
  t228 := Try.underlying156
  a228 := Try.isAgg156
  z228 := Try.sizeOf156
  v228 := Try.zeroValue156
  t229 := Try.underlying157
  a229 := Try.isAgg157
  z229 := Try.sizeOf157
  v229 := Try.zeroValue157 }
open Go.Sort Go.RowKit in
theorem Try.slices_Sort_int (blk off cap : Nat) (zs : List Int) (w : World) (hH : Holds (Value.int .i64) w blk off zs.toArray) (hblk : blk < w.heap.size) (hsz : zs.length < 4611686018427387904) :
    Calls Try.prog 42 #[.slice (some ⟨blk, off, none⟩) zs.length cap] w fun e w' =>
      e = .returned (.tuple #[]) ∧ ∃ n os, w' = grow (putRow (Value.int .i64) (Sort.ahead w n) blk off (zs.mergeSort fun x y => decide (x ≤ y)).toArray) os := Any.slices_Sort_int Try.lays189 blk off cap zs w hH hblk hsz
def Try.lays112_ren : Go.Shelf.Ren := ⟨fun | 112 => 44 | n => n, fun | 28 => 33 | 3 => 3 | 4 => 4 | 0 => 0 | n => n, fun | n => n⟩
theorem Try.lays112 : Go.Proofs.Lays.n112 Try.prog Try.lays112_ren := {
  mixed := by kernel_rfl
  f112 := Try.func44.trans (congrArg some (by kernel_rfl))
  t0 := Try.underlying0
  a0 := Try.isAgg0
  z0 := Try.sizeOf0
  v0 := Try.zeroValue0
  t3 := Try.underlying3
  a3 := Try.isAgg3
  z3 := Try.sizeOf3
  v3 := Try.zeroValue3
  t4 := Try.underlying4
  a4 := Try.isAgg4
  z4 := Try.sizeOf4
  v4 := Try.zeroValue4
  t28 := Try.underlying33
  a28 := Try.isAgg33
  z28 := Try.sizeOf33
  v28 := Try.zeroValue33 }
open Go.RowKit Go.Lib Go.Sort in
/-- slices.Reverse at []int: "Reverse reverses the elements of the slice in place.": THE SLICE's CELLS HOLD 'zs.reverse' BEHIND THE CALL; all else is as it was, but for the count of draws (the exchange 's[i], s[j] = s[j], s[i]' draws its order, once a round). IN THE WORDS OF slices.Sort's CONTRACT: 'Holds': the cells hold zs and none is frozen; 'putRow': the world with those cells holding another array. A slice of length 0 that is not nil is among them ('zs = []'); nil: '.._nil'. (LAID: no walk: one application.) -/
theorem Try.slices_Reverse_int (blk off cap : Nat) (zs : List Int) (w : World) (hH : Holds (Value.int .i64) w blk off zs.toArray) (hsz : zs.length ≤ 9223372036854775807) :
    Calls Try.prog 44 #[.slice (some ⟨blk, off, none⟩) zs.length cap] w fun e w' => e = .returned (.tuple #[]) ∧ ∃ n, w' = putRow (Value.int .i64) (Sort.ahead w n) blk off zs.reverse.toArray := Any.slices_Reverse_int Try.lays112 blk off cap zs w hH hsz
open Go.RowKit Go.Lib Go.Sort in
/-- The same at a slice of length 0, a nil one too: nothing is read, nothing written, nothing drawn. (LAID: no walk: one application.) -/
theorem Try.slices_Reverse_int_empty (a : Option Addr) (cap : Nat) (w : World) :
    Calls Try.prog 44 #[.slice a 0 cap] w fun e w' => e = .returned (.tuple #[]) ∧ w' = w := Any.slices_Reverse_int_empty Try.lays112 a cap w
def Try.laysNm215_ren : Go.Shelf.Ren := ⟨fun | 15 => 64 | n => n, fun | 22 => 33 | 3 => 3 | 4 => 4 | n => n, fun | n => n⟩
def Try.laysNm220_ren : Go.Shelf.Ren := ⟨fun | 20 => 43 | n => n, fun | 22 => 33 | 3 => 3 | 4 => 4 | 0 => 0 | n => n, fun | n => n⟩
theorem Try.laysNm220 : Go.Proofs.Lays2.n20 Try.prog Try.laysNm220_ren := {
  mixed := by kernel_rfl
  f20 := Try.func43.trans (congrArg some (by kernel_rfl))
  t0 := Try.underlying0
  a0 := Try.isAgg0
  z0 := Try.sizeOf0
  v0 := Try.zeroValue0
  t3 := Try.underlying3
  a3 := Try.isAgg3
  z3 := Try.sizeOf3
  v3 := Try.zeroValue3
  t4 := Try.underlying4
  a4 := Try.isAgg4
  z4 := Try.sizeOf4
  v4 := Try.zeroValue4
  t22 := Try.underlying33
  a22 := Try.isAgg33
  z22 := Try.sizeOf33
  v22 := Try.zeroValue33
  i3 := by kernel_rfl }
open Go.RowKit Go.Lib Go.Sort in
/-- slices.Compact at []int: "Compact replaces consecutive runs of equal elements with a single copy. This is like the uniq command found on Unix. Compact modifies the contents of the slice s and returns the modified slice, which may have a smaller length. Compact zeroes the elements between the new length and the original length. The result preserves the nilness of s.": IT RETURNS THE SLICE CUT TO 'Lib.compact zs'; ITS CELLS HOLD 'Lib.compact zs', THEN ZERO VALUES up to the old length; all else is as it was, but for the count of draws. IN THE WORDS OF slices.Sort's CONTRACT ('Holds', 'putRow'): so the everyday 'slices.Sort(xs); xs = slices.Compact(xs)' goes from the one contract to the other. It asks 'zs.length ≤ cap' (every slice's: the reslicing 's[:k]' looks at it). Length 0, nil: '.._empty'. (LAID: no walk: one application.) -/
theorem Try.slices_Compact_int (blk off cap : Nat) (zs : List Int) (w : World) (hH : Holds (Value.int .i64) w blk off zs.toArray) (hsz : zs.length ≤ 9223372036854775807) (hcap : zs.length ≤ cap) :
    Calls Try.prog 43 #[.slice (some ⟨blk, off, none⟩) zs.length cap] w fun e w' => e = .returned (.slice (some ⟨blk, off, none⟩) (Lib.compact zs).length cap) ∧ ∃ q, w' = putRow (Value.int .i64) (Sort.ahead w q) blk off (Lib.compact zs ++ List.replicate (zs.length - (Lib.compact zs).length) 0).toArray := Any.slices_Compact_int Try.laysNm220 blk off cap zs w hH hsz hcap
open Go.RowKit Go.Lib Go.Sort in
/-- The same at a slice of length 0, a nil one too: it comes back as it is. (LAID: no walk: one application.) -/
theorem Try.slices_Compact_int_empty (a : Option Addr) (cap : Nat) (w : World) :
    Calls Try.prog 43 #[.slice a 0 cap] w fun e w' => e = .returned (.slice a 0 cap) ∧ w' = w := Any.slices_Compact_int_empty Try.laysNm220 a cap w
def Try.laysNm237_ren : Go.Shelf.Ren := ⟨fun | 37 => 94 | n => n, fun | 3 => 3 | 4 => 4 | n => n, fun | n => n⟩
def Try.laysNm231_ren : Go.Shelf.Ren := ⟨fun | 31 => 83 | 37 => 94 | n => n, fun | 3 => 3 | 4 => 4 | n => n, fun | n => n⟩
open Go.RowKit Go.Sort in
/-- .. and plain. (LAID: no walk: one application.) -/
theorem Try.slices_Sort_int_none (p : Option Addr) (cap : Nat) (w : World) :
    Calls Try.prog 42 #[.slice p 0 cap] w fun e w' => e = .returned (.tuple #[]) ∧ w' = w := Any.slices_Sort_int_none Try.lays189 p cap w
def Try.laysSlE041_f64_ren : Go.Shelf.Ren := ⟨fun | 41 => 64 | n => n, fun | 22 => 33 | 23 => 3 | 4 => 4 | n => n, fun | n => n⟩
def Try.keysI_ren : Go.Shelf.Ren := ⟨fun | 7 => 41 | 10 => 66 | n => n, fun | 23 => 72 | 26 => 3 | 3 => 69 | 28 => 103 | 0 => 0 | 27 => 102 | 33 => 127 | 4 => 4 | n => n, fun | n => n⟩
theorem Try.keysI : Go.Proofs.SlLaysZI.n7 Try.prog Try.keysI_ren := {
  mixed := by kernel_rfl
  f7 := ⟨Try.f41.name, by decide, Try.func41.trans (congrArg some (by kernel_rfl))⟩
  f10 := ⟨Try.f66.name, by decide, Try.func66.trans (congrArg some (by kernel_rfl))⟩
  t0 := Try.underlying0
  a0 := Try.isAgg0
  z0 := Try.sizeOf0
  v0 := Try.zeroValue0
  t4 := Try.underlying4
  a4 := Try.isAgg4
  z4 := Try.sizeOf4
  v4 := Try.zeroValue4
  t23 := Try.underlying72
  a23 := Try.isAgg72
  z23 := Try.sizeOf72
  v23 := Try.zeroValue72
  t26 := Try.underlying3
  a26 := Try.isAgg3
  z26 := Try.sizeOf3
  v26 := Try.zeroValue3
  t27 := Try.underlying102
  a27 := Try.isAgg102
  z27 := Try.sizeOf102
  v27 := Try.zeroValue102
  t28 := Try.underlying103
  a28 := Try.isAgg103
  z28 := Try.sizeOf103
  v28 := Try.zeroValue103
  t33 := Try.underlying127
  a33 := Try.isAgg127
  z33 := Try.sizeOf127
  v33 := Try.zeroValue127 }
def Try.sortedI_ren : Go.Shelf.Ren := ⟨fun | 6 => 40 | 8 => 65 | 9 => 42 | 11 => 76 | 13 => 68 | 12 => 67 | 23 => 86 | 24 => 87 | 14 => 77 | 15 => 78 | 16 => 79 | 17 => 80 | 18 => 81 | 19 => 82 | 20 => 83 | 21 => 84 | 22 => 85 | 25 => 89 | 26 => 90 | 27 => 91 | 28 => 92 | 29 => 93 | 30 => 94 | 31 => 95 | n => n, fun | 26 => 3 | 28 => 103 | 24 => 33 | 0 => 0 | 3 => 3 | 37 => 130 | 48 => 147 | 50 => 149 | 4 => 4 | 40 => 139 | 39 => 138 | 45 => 144 | 5 => 5 | 9 => 9 | 51 => 151 | 55 => 116 | 57 => 156 | 58 => 157 | 33 => 127 | n => n, fun | n => n⟩
theorem Try.sortedI : Go.Proofs.SlLaysZI.n6 Try.prog Try.sortedI_ren := {
  mixed := by kernel_rfl
  f6 := ⟨Try.f40.name, by decide, Try.func40.trans (congrArg some (by kernel_rfl))⟩
  f8 := ⟨Try.f65.name, by decide, Try.func65.trans (congrArg some (by kernel_rfl))⟩
  f11 := ⟨Try.f76.name, by decide, Try.func76.trans (congrArg some (by kernel_rfl))⟩
  t0 := Try.underlying0
  a0 := Try.isAgg0
  z0 := Try.sizeOf0
  v0 := Try.zeroValue0
  t24 := Try.underlying33
  a24 := Try.isAgg33
  z24 := Try.sizeOf33
  v24 := Try.zeroValue33
  t26 := Try.underlying3
  a26 := Try.isAgg3
  z26 := Try.sizeOf3
  v26 := Try.zeroValue3
  t28 := Try.underlying103
  a28 := Try.isAgg103
  z28 := Try.sizeOf103
  v28 := Try.zeroValue103
  i26 := by kernel_rfl }
end Go.Proofs

/- Walks: what Go functions of this chapter come to, each as a function on plain data; no condition but those that each theorem names. Printed by a program of this work (gen.py). -/
namespace Go.Proofs.Ytdkfdncbldngdaa
open Go.Gx Go.Gx.T16 Go.Gx.T8 Go.Gx.T6 Go.Gx.T4 Go.Gx.T3 Go.Gx.T8 Go.Gx.T4 Go.Gx.T3 Go.Gx.T8 Go.Gx.T6 Go.Gx.T4 Go.Gx.T3
theorem sz33 : SzIs Try.prog 33 1 := by
 unfold SzIs
 kernel_rfl
theorem sz72 : SzIs Try.prog 72 1 := by
 unfold SzIs
 kernel_rfl
theorem zr69 : ZeroIs Try.prog 69 (Value.pointer none) := by
 unfold ZeroIs
 kernel_rfl
theorem c_zbelow {F : Nat → Prop} {G : Ghost} (p : Nat) (id : Int) (c : List ST) (c2 : ST) (ta sb : Value) (l : NL) (ls : Int) (R : RT) (z : Nat) (hV : Seen 71 3 G l R) (hc : getR R id = some c) (ht : SlL G ta 3 tC t0 c2.h.ts) (hs : Ss G sb c2.subs) (w : World) (hG : Has G w) (hA : (starL (trL 74 p (KS.mk l ls) z)).holds w F) (hFG : ∀ b, F b → G b = none) :
    Calls Try.prog 33 #[Value.pointer (some ⟨p, 0, none⟩), Value.int .i64 id, Value.agg #[Value.int .i64 c2.h.k, Value.int .i64 c2.h.k0, Value.int .i64 c2.h.k1, Value.int .i64 c2.h.k2, ta, sb]] w (Ret fun r w' => r = Value.int .i64 (find R (c ++ [c2])) ∧ Kept (starL (trL 74 p (KS.mk l ls) z)) F w w') := by
 refine enterO (args := [_, _, _]) (G := G) (A := starL (trL 74 p (KS.mk l ls) z)) (l := [(0, Value.pointer (some ⟨p, 0, none⟩)), (1, Value.int .i64 id), (2, Value.agg #[Value.int .i64 c2.h.k, Value.int .i64 c2.h.k0, Value.int .i64 c2.h.k1, Value.int .i64 c2.h.k2, ta, sb])]) Try.func33 rfl Try.ntmps33 hG hA hFG ⟨rfl, rfl, rfl, trivial⟩ (Nat.le_of_ble_eq_true rfl) ?_
 refine c_unpack ?_
 dsimp only [trL, trC, List.cons_append, List.nil_append]
 obtain ⟨bx, kv, ov, x, hN, hxk, hxs⟩ := hV.node hc
 obtain ⟨hR, hK, hO, hst, hss, hsz⟩ := hV.row hN
 replace hR : RowAt G bx 0 13 (at_ [.int .i64 x.st.1.h.k, .int .i64 x.st.1.h.k0, .int .i64 x.st.1.h.k1, .int .i64 x.st.1.h.k2, x.st.2.1, x.st.2.2, .int .i64 x.par, kv, .int .i64 x.dep, .int .i64 x.uses, .int .i64 x.ends, .int .i64 x.inn, ov]) := hR
 have hkb := below_kids (s := c2) (x := x.pn) hV.k hV.clo hc hxk
 have hbk := hK.bound
 refine c_seq (c_region ?_)
 refine r_box .none rfl rfl (IsRow.lit _) (fun b_1 => ?_)
 refine r_val .none rfl (p_assign rfl) (r_nil (e_next (c_seq (c_seq ?_))))
 refine c_region (r_val .none rfl (p_move rfl) ?_)
 refine r_val .none rfl (p_nilcheck rfl) ?_
 refine r_val .none rfl (p_field Try.underlying74 rfl sz72 rfl) ?_
 refine r_val .none rfl (p_ld (k := 1) Try.underlying72 rfl rfl rfl (by first | exact odt rfl | omega) (rfl : _ = Value.map _)) ?_
 refine r_val .none rfl (p_move rfl) ?_
 refine r_val .none rfl (p_lookup_yes (i := 2) Try.underlying72 (KeyT.int Try.underlying3) zr69 rfl rfl rfl hN) ?_
 refine r_val .none rfl (p_nilcheck rfl) ?_
 refine r_val .none rfl (p_field Try.underlying71 rfl sz33 rfl) ?_
 refine r_val .none rfl (p_ldg (j := 7) Try.underlying33 rfl rfl hR (by first | exact odt rfl | omega) rfl) ?_
 refine r_val .none rfl (p_leng Try.underlying33 rfl hK) ?_
 have bd_1 := (hK).bound
 refine r_val .none rfl (p_move rfl) (r_nil (e_next (c_block ?_)))
 refine c_name (d := 0) rfl (fun u_2 hu_2 => ?_)
 refine c_name (d := 5) rfl (fun u_3 hu_3 => ?_)
 refine c_name (d := 17) rfl (fun u_4 hu_4 => ?_)
 refine c_name (d := 18) rfl (fun u_5 hu_5 => ?_)
 refine c_nameL (k := 0) rfl (fun A_6 hA_6 => ?_)
 refine c_nameL (k := 1) rfl (fun A_7 hA_7 => ?_)
 refine c_nameL (k := 2) rfl (fun A_8 hA_8 => ?_)
 refine c_loop (σ := Nat) (fun j => [(19, Value.int .i64 (j : Nat)), (0, u_2), (5, u_3), (17, u_4), (18, u_5)]) (fun j => [A_6, A_7, A_8]) (fun _ => _) (fun j => j ≤ x.kids.length ∧ belowL (gP (eraK l)) c2 (x.kids.drop j) = find R (c ++ [c2])) (fun j => x.kids.length - j) (0) ⟨Nat.zero_le _, hkb⟩ rfl ⟨rfl, rfl, rfl, rfl, rfl, trivial⟩ (.keep (fun _ _ h => h) (.keep (fun _ _ h => h) (.keep (fun _ _ h => h) (.nil)))) (fun j hphi => ?_)
 subst hu_2
 subst hu_3
 subst hu_4
 subst hu_5
 subst hA_6
 subst hA_7
 subst hA_8
 refine c_seq (c_region ?_)
 refine r_val .none rfl (p_lt rfl rfl) ?_
 refine r_nil (e_next (c_seq ?_))
 refine c_splitd (d := 20) rfl (fun h_9 => ?_) (fun h_9 => ?_)
 · (
 have hj := h_9
 obtain ⟨s2, hg2⟩ := kid_get (c := c) (R := R) (k := x.kids.getD j 0) (by rw [← hxk]; exact getD_mem (by omega))
 obtain ⟨bx2, kv2, ov2, x2, hN2, hxk2, hxs2⟩ := hV.node hg2
 first
 | (exfalso; omega)
 | (
 refine c_cond_t rfl (c_skip (e_next (c_seq (c_block ?_))))
 refine c_seq (c_region ?_)
 refine r_iaddr_g .none rfl Try.underlying33 sz3 rfl hK rfl (by first | exact odt rfl | omega) (fun p_11 o_12 R_10 => ?_)
 refine r_val .none rfl (p_ldg0 Try.underlying3 rfl rfl R_10 (by first | exact odt rfl | omega) (rfl : _ = Value.int _ _)) ?_
 refine r_val .none rfl (p_assign rfl) (r_nil (e_next (c_seq ?_)))
 obtain ⟨hR2, hK2, hO2, hst2, hss2, hsz2⟩ := hV.row hN2
 replace hR2 : RowAt G bx2 0 13 (at_ [.int .i64 x2.st.1.h.k, .int .i64 x2.st.1.h.k0, .int .i64 x2.st.1.h.k1, .int .i64 x2.st.1.h.k2, x2.st.2.1, x2.st.2.2, .int .i64 x2.par, kv2, .int .i64 x2.dep, .int .i64 x2.uses, .int .i64 x2.ends, .int .i64 x2.inn, ov2]) := hR2
 refine c_region_q mixed (by kernel_rfl) ?_
 refine q_val .none rfl (p_move rfl) ?_
 refine q_val .none rfl (p_nilcheck rfl) ?_
 refine q_val .none rfl (p_field Try.underlying74 rfl sz72 rfl) ?_
 refine q_val .none rfl (p_ld (k := 1) Try.underlying72 rfl rfl rfl (by first | exact odt rfl | omega) (rfl : _ = Value.map _)) ?_
 refine q_val .none rfl (p_move rfl) ?_
 refine q_val .none rfl (p_lookup_yes (i := 2) Try.underlying72 (KeyT.int Try.underlying3) zr69 rfl rfl rfl hN2) ?_
 refine q_val .none rfl (p_nilcheck rfl) ?_
 refine q_val .none rfl (p_field Try.underlying71 rfl sz50 rfl) ?_
 refine q_val .none rfl (p_ldga0 Try.underlying50 rfl sz50 rfl hR2 (by first | exact odt rfl | omega) (rfl : _ = Value.agg #[_, _, _, _, _, _])) ?_
 refine q_val .none rfl (p_ldw (k := 0) Try.underlying50 rfl sz50 rfl rfl (rfl : _ = Value.agg #[_, _, _, _, _, _])) ?_
 refine q_call (vs := [_, _]) .none rfl cl62 rfl (fun w hw => c_csame x2.st.1 c2 _ _ _ _ hst2 hss2 ht hs w hw) ?_
 refine q_nil ?_
 refine e_next ?_
 refine c_split (d := 33) rfl (fun h_13 => ?_) (fun h_13 => ?_)
 · (
 have hE := h_13
 first
 | (exfalso; omega)
 | (
 refine c_cond_t rfl (c_seq (c_region (r_val .none rfl (p_move rfl) (r_val .none rfl (p_assign rfl) ?_))))
 refine r_nil (e_next ?_)
 refine c_ret ?_
 refine e_ret_block ?_
 refine e_ret_then ?_
 refine e_ret_then ?_
 refine e_ret_block ?_
 refine e_ret_then ?_
 refine e_ret1 Try.results33 (.tmp rfl .nil) (fun w hm => ⟨?_, hm.kept [box p 2 74 (at_ (trC (KS.mk l ls) z)), mapA z kI veN2 l] (.drop (.keep (fun _ _ h => h) (.keep (fun _ _ h => h) (.nil)))) (starL (trL 74 p (KS.mk l ls) z)) (fun F' h => h)⟩)
 first
 | exact congrArg (Value.int .i64) (below_hit hphi.2 (by omega) (gP_era hN2) hE)
 | exact congrArg (Value.int .i64) (below_end hphi.2 (by omega))))
 · (
 have hE := h_13
 first
 | (exfalso; omega)
 | (
 refine c_cond_f rfl (c_skip ?_)
 refine e_norm_block ?_
 refine e_next (c_region ?_)
 refine r_val .none rfl (p_add rfl rfl (by omega)) ?_
 refine r_val .none rfl (p_move rfl) (r_nil ?_)
 refine e_round (j + 1) ⟨⟨by omega, below_go hphi.2 (by omega) (gP_era hN2) hE⟩, by omega⟩ rfl ⟨rfl, rfl, rfl, rfl, rfl, trivial⟩ (.keep (fun _ _ h => h) (.keep (fun _ _ h => h) (.keep (fun _ _ h => h) (.nil))))))))
 · (
 first
 | (exfalso; omega)
 | (
 refine c_cond_f rfl (c_exit (e_exit_then (e_exit_then ?_)))
 refine e_exit_block ?_
 refine e_next (c_seq (c_region (r_val .none rfl (p_assign rfl) (r_nil ?_))))
 refine e_next ?_
 refine c_ret ?_
 refine e_ret1 Try.results33 (.tmp rfl .nil) (fun w hm => ⟨?_, hm.kept [box p 2 74 (at_ (trC (KS.mk l ls) z)), mapA z kI veN2 l] (.drop (.keep (fun _ _ h => h) (.keep (fun _ _ h => h) (.nil)))) (starL (trL 74 p (KS.mk l ls) z)) (fun F' h => h)⟩)
 first
 | exact congrArg (Value.int .i64) (below_hit hphi.2 (by omega) (gP_era hN2) hE)
 | exact congrArg (Value.int .i64) (below_end hphi.2 (by omega))))
theorem c_kbelow {F : Nat → Prop} {G : Ghost} (p : Nat) (id : Int) (c : List ST) (c2 : ST) (ta sb : Value) (l : NL) (ls : Int) (R : RT) (hV : Seen 71 3 G l R) (hc : getR R id = some c) (ht : SlL G ta 3 tC t0 c2.h.ts) (hs : Ss G sb c2.subs) (w : World) (hG : Has G w) (hA : (trR 74 p (KS.mk l ls)).holds w F) (hFG : ∀ b, F b → G b = none) : Calls Try.prog 33 #[Value.pointer (some ⟨p, 0, none⟩), Value.int .i64 id, Value.agg #[Value.int .i64 c2.h.k, Value.int .i64 c2.h.k0, Value.int .i64 c2.h.k1, Value.int .i64 c2.h.k2, ta, sb]] w (Ret fun r w' => r = Value.int .i64 (find R (c ++ [c2])) ∧ Kept (trR 74 p (KS.mk l ls)) F w w') :=
 see_z (R := fun r => r = Value.int .i64 (find R (c ++ [c2]))) (fun z hA => c_zbelow p id c c2 ta sb l ls R z hV hc ht hs w hG hA hFG) hA
end Go.Proofs.Ytdkfdncbldngdaa
