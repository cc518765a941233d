/-
  GX: reading and writing rows of the call's own, element by element. Generic in the program.
-/
import Derived.Test.YtoflaphnlfggkaaGxStr
namespace Go.Gx
open Go.RowKit

section
variable {P : Program} {ops : Array Oper} {Q : Exit → Act → World → Prop} {N : Nat} {X : Nat → Prop} {w0 : World} {G : Ghost} {l : List (Nat × Value)} {L : List Asrt}
variable {rest : List Oper} {d k : Nat} {ty : TypeId} {pos : String} {after : Array Edge} {gd : Option (Nat × Bool)} {x y : Operand} {v u : Value} {T E : TypeId} {n sz i j b cap : Nat} {xs : List Value} {q : IntKind}

theorem rowA_slice {w : World} {F : Nat → Prop} (h : (rowA v E sz n xs).holds w F) (hn : 0 < n) : ∃ b cap, v = .slice (some ⟨b, 0, none⟩) n cap := by
  rcases h.1.2 with ⟨_, rfl⟩ | ⟨g, cap, cur, rfl, _⟩
  · omega
  · exact ⟨g, cap, rfl⟩

theorem iaddr_o (hT : P.underlying T = some (.slice E)) (hE : SzIs P E sz) (hx : ev l x = some v) (hv : v = .slice (some ⟨b, 0, none⟩) n cap) (hy : ev l y = some (.int q (i : Nat))) (hi : i < n) :
    PV P N X w0 G l L ⟨some d, .indexAddr T x y, ty, pos, after, gd⟩ (.pointer (some ⟨b, i * sz, none⟩)) := by
  intro ac w hS
  subst hv
  simp only [execOp, hS.fr.eval hx, hS.fr.eval hy]
  simp [Instr.indexAt, asIntOf, run_underlying hT, hE.run, addr_add, hi]

theorem r_iaddr_o (hw : Wt ops l gd) (hd : Nat.blt d N = true) (hT : P.underlying T = some (.slice E)) (hE : SzIs P E sz) (hx : ev l x = some v) (hL : L[k]? = some (rowA v E sz n xs)) (hy : ev l y = some (.int q (i : Nat))) (hi : i < n)
    (h : ∀ b cap, v = .slice (some ⟨b, 0, none⟩) n cap → Runs P ops Q N X w0 G rest ((d, .pointer (some ⟨b, i * sz, none⟩)) :: l) L) : Runs P ops Q N X w0 G (⟨some d, .indexAddr T x y, ty, pos, after, gd⟩ :: rest) l L := by
  intro a w hS
  obtain ⟨F, hF, _⟩ := hS.mem.take hL
  obtain ⟨b, cap, hv⟩ := rowA_slice hF (by omega)
  exact r_val hw hd (iaddr_o hT hE hx hv hy hi) (h b cap hv) a w hS

theorem q_row {v : Value} (hL : L[k]? = some (rowA v E sz n xs)) (hn : 0 < n) (h : ∀ b cap, v = .slice (some ⟨b, 0, none⟩) n cap → Quiets P ops Q N X w0 G rest l L) : Quiets P ops Q N X w0 G rest l L := by
  intro a hF
  by_cases hC : ∃ w, Mem X w0 G w L
  · obtain ⟨w, hw⟩ := hC
    obtain ⟨F, hF2, _⟩ := hw.take hL
    obtain ⟨b, cap, hv⟩ := rowA_slice hF2 hn
    exact h b cap hv a hF
  · exact wpQuiet_void (fun w hw => hC ⟨w, hw⟩) (fun a w' hM => (hC ⟨w', hM⟩).elim) rest a

theorem q_iaddr_o (hw : Wt ops l gd) (hd : Nat.blt d N = true) (hT : P.underlying T = some (.slice E)) (hE : SzIs P E sz) (hx : ev l x = some v) (hL : L[k]? = some (rowA v E sz n xs)) (hy : ev l y = some (.int q (i : Nat))) (hi : i < n)
    (h : ∀ b cap, v = .slice (some ⟨b, 0, none⟩) n cap → Quiets P ops Q N X w0 G rest ((d, .pointer (some ⟨b, i * sz, none⟩)) :: l) L) : Quiets P ops Q N X w0 G (⟨some d, .indexAddr T x y, ty, pos, after, gd⟩ :: rest) l L :=
  q_row hL (by omega) (fun b cap hv => q_val hw hd (iaddr_o hT hE hx hv hy hi) (h b cap hv))

theorem rowA_cell {w : World} {F : Nat → Prop} (h : (rowA v E sz n xs).holds w F) (hv : v = .slice (some ⟨b, 0, none⟩) n cap) {j : Nat} (hj : j < n * sz) : w.cell? ⟨b, j, none⟩ = some (xs.getD j undef) := by
  have h1 : xs[j]? = some (xs.getD j undef) := by
    have : j < xs.length := by have := h.1.1; omega
    simp [List.getD, this]
  have := h.1.cells (g := b) (by rw [hv]; rfl) j _ h1
  simpa [addr_add] using this

theorem p_ldo {e : TypeDesc} (hT : P.underlying T = some e) (hs : e.aggB = false) (hx : ev l x = some (.pointer (some ⟨b, i * sz + j, none⟩))) (hv : v = .slice (some ⟨b, 0, none⟩) n cap) (hL : L[k]? = some (rowA v E sz n xs)) (hi : i < n) (hj : j < sz) (he : xs.getD (i * sz + j) undef = u) :
    PV P N X w0 G l L ⟨some d, .load T x, ty, pos, after, gd⟩ u := by
  intro a w hS
  obtain ⟨F, hF, _⟩ := hS.mem.take hL
  have hlt : i * sz + j < n * sz := by
    have := Nat.mul_le_mul_right sz (show i + 1 ≤ n from hi)
    rw [Nat.add_mul, Nat.one_mul] at this; omega
  have hc := rowA_cell hF hv hlt
  rw [he] at hc
  simp [execOp, hS.fr.eval hx, Instr.loadAt, Instr.sureAddr, run_loadVar_scal hT hs hc]

theorem p_ldo0 {e : TypeDesc} (hT : P.underlying T = some e) (hs : e.aggB = false) (hx : ev l x = some (.pointer (some ⟨b, i * sz, none⟩))) (hv : v = .slice (some ⟨b, 0, none⟩) n cap) (hL : L[k]? = some (rowA v E sz n xs)) (hi : i < n) (hj : 0 < sz) (he : xs.getD (i * sz + 0) undef = u) :
    PV P N X w0 G l L ⟨some d, .load T x, ty, pos, after, gd⟩ u := p_ldo (j := 0) hT hs hx hv hL hi hj he

/-- Several cells of an element, from cell j of it on. -/
theorem p_ldoa {e : TypeDesc} {m : Nat} {f : Nat → Value} (hT : P.underlying T = some e) (hs : e.aggB = true) (hm : SzIs P T m) (hx : ev l x = some (.pointer (some ⟨b, i * sz + j, none⟩))) (hv : v = .slice (some ⟨b, 0, none⟩) n cap) (hL : L[k]? = some (rowA v E sz n xs)) (hi : i < n) (hj : j + m ≤ sz)
    (he : ∀ c, c < m → xs.getD (i * sz + (j + c)) undef = f c) (hu : aggF m f = u) : PV P N X w0 G l L ⟨some d, .load T x, ty, pos, after, gd⟩ u := by
  intro a w hS
  obtain ⟨F, hF, _⟩ := hS.mem.take hL
  have hlt : ∀ c, c < m → i * sz + (j + c) < n * sz := fun c hc => by
    have := Nat.mul_le_mul_right sz (show i + 1 ≤ n from hi)
    rw [Nat.add_mul, Nat.one_mul] at this; omega
  have hc := run_loadVar_agg (P := P) (w := w) (b := b) (i := i * sz + j) (f := f) hT hs hm (fun c hc => by
    have := rowA_cell hF hv (hlt c hc)
    rw [he c hc] at this
    rw [Nat.add_assoc]; exact this)
  rw [hu] at hc
  simp [execOp, hS.fr.eval hx, Instr.loadAt, Instr.sureAddr, hc]

theorem p_ldoa0 {e : TypeDesc} {m : Nat} {f : Nat → Value} (hT : P.underlying T = some e) (hs : e.aggB = true) (hm : SzIs P T m) (hx : ev l x = some (.pointer (some ⟨b, i * sz, none⟩))) (hv : v = .slice (some ⟨b, 0, none⟩) n cap) (hL : L[k]? = some (rowA v E sz n xs)) (hi : i < n) (hj : m ≤ sz)
    (he : ∀ c, c < m → xs.getD (i * sz + c) undef = f c) (hu : aggF m f = u) : PV P N X w0 G l L ⟨some d, .load T x, ty, pos, after, gd⟩ u :=
  p_ldoa (j := 0) hT hs hm hx hv hL hi (by omega) (fun c hc => by rw [Nat.zero_add]; exact he c hc) hu

/-- A row that is nil may be laid anywhere. -/
theorem Sep.nilAt {w : World} (E : TypeId) (sz : Nat) : ∀ (k : Nat) {L : List Asrt} {U : Nat → Prop}, Sep w L U → Sep w (L.take k ++ rowA (.slice none 0 0) E sz 0 [] :: L.drop k) U
  | 0, L, U, h => ⟨(fun _ => False), ⟨World.ownsRow_nil w 0 E sz, fun k => by simp [Value.ownBlock], Nat.zero_le _⟩, fun b hb => hb.elim, by rw [List.drop_zero]; exact h.mono (fun b _ hb => ⟨hb, id⟩)⟩
  | k + 1, [], U, h => ⟨(fun _ => False), ⟨World.ownsRow_nil w 0 E sz, fun k => by simp [Value.ownBlock], Nat.zero_le _⟩, fun b hb => hb.elim, trivial⟩
  | k + 1, A :: L, U, ⟨F, hA, hs, hL⟩ => ⟨F, hA, hs, Sep.nilAt E sz k hL⟩

theorem e_nilrow {e : Exit} (k : Nat) (E : TypeId) (sz : Nat) (h : ERuns Q e N X w0 G l (L.take k ++ rowA (.slice none 0 0) E sz 0 [] :: L.drop k)) : ERuns Q e N X w0 G l L :=
  fun a w hS => h a w ⟨hS.fr, hS.mem.since, hS.mem.has, hS.mem.sep.nilAt E sz k⟩

end
section
variable {P : Program} {ops : Array Oper} {Q : Exit → Act → World → Prop} {N : Nat} {X : Nat → Prop} {w0 : World} {G : Ghost} {l : List (Nat × Value)} {L : List Asrt}
variable {rest : List Oper} {d : Nat} {ty : TypeId} {pos : String} {after : Array Edge} {gd : Option (Nat × Bool)} {x : Operand} {lo hi : Option Operand} {v : Value} {T E : TypeId} {n sz a b : Nat} {q q' : IntKind} {f : Nat → Nat → Value}
theorem r_slice (a b : Nat) (hw : Wt ops l gd) (hd : Nat.blt d N = true) (hT : P.underlying T = some (.slice E)) (hE : SzIs P E sz) (hx : ev l x = some v) (hs : SlG G v n sz f)
    (hlo : match lo with | none => a = 0 | some o => ev l o = some (.int q (a : Nat))) (hhi : match hi with | none => b = n | some o => ev l o = some (.int q' (b : Nat))) (hab : a ≤ b) (hbn : b ≤ n)
    (h : ∀ v', SlG G v' (b - a) sz (fun i j => f (a + i) j) → Runs P ops Q N X w0 G rest ((d, v') :: l) L) : Runs P ops Q N X w0 G (⟨some d, .slice T x lo hi none, ty, pos, after, gd⟩ :: rest) l L := by
  obtain ⟨v', h1, h2⟩ := p_slice (P := P) (N := N) (X := X) (w0 := w0) (L := L) (d := d) (ty := ty) (pos := pos) (after := after) (gd := gd) hT hE hx hs lo hi hlo hhi hab hbn
  exact r_val hw hd h2 (h v' h1)
theorem q_slice (a b : Nat) (hw : Wt ops l gd) (hd : Nat.blt d N = true) (hT : P.underlying T = some (.slice E)) (hE : SzIs P E sz) (hx : ev l x = some v) (hs : SlG G v n sz f)
    (hlo : match lo with | none => a = 0 | some o => ev l o = some (.int q (a : Nat))) (hhi : match hi with | none => b = n | some o => ev l o = some (.int q' (b : Nat))) (hab : a ≤ b) (hbn : b ≤ n)
    (h : ∀ v', SlG G v' (b - a) sz (fun i j => f (a + i) j) → Quiets P ops Q N X w0 G rest ((d, v') :: l) L) : Quiets P ops Q N X w0 G (⟨some d, .slice T x lo hi none, ty, pos, after, gd⟩ :: rest) l L := by
  obtain ⟨v', h1, h2⟩ := p_slice (P := P) (N := N) (X := X) (w0 := w0) (L := L) (d := d) (ty := ty) (pos := pos) (after := after) (gd := gd) hT hE hx hs lo hi hlo hhi hab hbn
  exact q_val hw hd h2 (h v' h1)
theorem SlG.from0 {n' : Nat} {v : Value} (h : SlG G v (n' - 0) sz (fun i j => f (0 + i) j)) : SlG G v n' sz f := by
  rw [Nat.sub_zero] at h
  exact h.congr (fun i _ j _ => by rw [Nat.zero_add])
theorem r_slice0 (b : Nat) (hw : Wt ops l gd) (hd : Nat.blt d N = true) (hT : P.underlying T = some (.slice E)) (hE : SzIs P E sz) (hx : ev l x = some v) (hs : SlG G v n sz f)
    (hhi : match hi with | none => b = n | some o => ev l o = some (.int q' (b : Nat))) (hbn : b ≤ n)
    (h : ∀ v', SlG G v' b sz f → Runs P ops Q N X w0 G rest ((d, v') :: l) L) : Runs P ops Q N X w0 G (⟨some d, .slice T x none hi none, ty, pos, after, gd⟩ :: rest) l L :=
  r_slice (q := .i64) 0 b hw hd hT hE hx hs rfl hhi (Nat.zero_le _) hbn (fun v' h' => h v' h'.from0)
theorem q_slice0 (b : Nat) (hw : Wt ops l gd) (hd : Nat.blt d N = true) (hT : P.underlying T = some (.slice E)) (hE : SzIs P E sz) (hx : ev l x = some v) (hs : SlG G v n sz f)
    (hhi : match hi with | none => b = n | some o => ev l o = some (.int q' (b : Nat))) (hbn : b ≤ n)
    (h : ∀ v', SlG G v' b sz f → Quiets P ops Q N X w0 G rest ((d, v') :: l) L) : Quiets P ops Q N X w0 G (⟨some d, .slice T x none hi none, ty, pos, after, gd⟩ :: rest) l L :=
  q_slice (q := .i64) 0 b hw hd hT hE hx hs rfl hhi (Nat.zero_le _) hbn (fun v' h' => h v' h'.from0)
end

theorem row_at : ∀ (l : List Value) (k : Nat), k ≤ l.length → row (at_ l) 0 k = l.take k := by
  intro l k hk
  apply List.ext_getElem?
  intro i
  by_cases h : i < k
  · rw [row_get _ _ _ _ h, Nat.zero_add, List.getElem?_take_of_lt h, at_get l i (by omega)]
  · rw [List.getElem?_eq_none (by rw [row_length]; omega), List.getElem?_eq_none (by simp; omega)]

theorem flat_drop {α : Type} {cells : α → List Value} {sz : Nat} (hc : ∀ x, (cells x).length = sz) (e : α) (l : List α) : ∀ (m i : Nat), i + m = l.length → flat (fun i => at_ (cells (l.getD i e))) sz i m = (l.drop i).flatMap cells
  | 0, i, h => by rw [List.drop_eq_nil_of_le (by omega)]; rfl
  | m + 1, i, h => by
    have h1 : l.drop i = l.getD i e :: l.drop (i + 1) := by
      rw [List.drop_eq_getElem_cons (by omega)]; simp [List.getD, show i < l.length by omega]
    rw [flat, flat_drop hc e l m (i + 1) (by omega), h1, List.flatMap_cons, row_at _ _ (by rw [hc]; exact Nat.le_refl _), List.take_of_length_le (by rw [hc]; exact Nat.le_refl _)]

/-- All of a slice, appended. -/
theorem flat_all {α : Type} {cells : α → List Value} {sz : Nat} (hc : ∀ x, (cells x).length = sz) (e : α) (l : List α) : flat (fun i => at_ (cells (l.getD i e))) sz 0 l.length = l.flatMap cells := flat_drop hc e l l.length 0 (by omega)

theorem SlL.of2 {α : Type} {G : Ghost} {v : Value} {sz n : Nat} {cells : α → List Value} {l : List α} {xs : List Value} (e : α) (hc : ∀ x, (cells x).length = sz) (hn : n = l.length) (hx : xs = l.flatMap cells) (h : SlG G v n sz (fun i j => xs.getD (i * sz + j) undef)) : SlL G v sz cells e l := by
  subst hx; exact SlL.of e hc hn h
end Go.Gx
