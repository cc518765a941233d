/-
  GX: slices: those that stay as they are (told by the ghost), and rows that the call itself appends to. Generic in the program.
-/
import Derived.Test.YtoflaphnlfggkaaGxFlat
namespace Go.Gx
open Go.RowKit

def GLe (G G' : Ghost) : Prop := ∀ b o, G b = some o → G' b = some o
theorem GLe.refl (G : Ghost) : GLe G G := fun _ _ h => h
theorem GLe.trans {A B C : Ghost} (h : GLe A B) (k : GLe B C) : GLe A C := fun b o e => k b o (h b o e)

/-- Cells from place o of block b on read as g says. -/
def RowAt (G : Ghost) (b o n : Nat) (g : Nat → Value) : Prop := ∃ (c : Array Value) (T : TypeId) (fr : Nat × Nat), G b = some (.cells c T fr) ∧ ∀ j, j < n → c[o + j]? = some (g j)

theorem RowAt.mono {G G' : Ghost} {b o n : Nat} {g : Nat → Value} (h : RowAt G b o n g) (hle : GLe G G') : RowAt G' b o n g := by
  obtain ⟨c, T, fr, h1, h2⟩ := h
  exact ⟨c, T, fr, hle _ _ h1, h2⟩

theorem RowAt.cell {G : Ghost} {w : World} {b o n j : Nat} {g : Nat → Value} (h : RowAt G b o n g) (hw : Has G w) (hj : j < n) : w.cell? ⟨b, o + j, none⟩ = some (g j) := by
  obtain ⟨c, T, fr, h1, h2⟩ := h
  rw [cell_of_row w b (o + j) c T fr (hw _ _ h1)]
  exact h2 j hj

/-- The value v is a slice of n elements of sz cells; cell j of element i is f i j. -/
def SlG (G : Ghost) (v : Value) (n sz : Nat) (f : Nat → Nat → Value) : Prop :=
  ∃ (a : Option Addr) (cap : Nat), v = .slice a n cap ∧ (n ≤ cap ∧ n ≤ maxLen) ∧ (0 < n → ∃ b o, a = some ⟨b, o, none⟩ ∧ ∀ i, i < n → RowAt G b (o + i * sz) sz (f i))

theorem SlG.mono {G G' : Ghost} {v : Value} {n sz : Nat} {f : Nat → Nat → Value} (h : SlG G v n sz f) (hle : GLe G G') : SlG G' v n sz f := by
  obtain ⟨a, cap, rfl, hc, h⟩ := h
  exact ⟨a, cap, rfl, hc, fun hn => by obtain ⟨b, o, h1, h2⟩ := h hn; exact ⟨b, o, h1, fun i hi => (h2 i hi).mono hle⟩⟩

theorem SlG.congr {G : Ghost} {v : Value} {n sz : Nat} {f g : Nat → Nat → Value} (h : SlG G v n sz f) (e : ∀ i, i < n → ∀ j, j < sz → f i j = g i j) : SlG G v n sz g := by
  obtain ⟨a, cap, rfl, hc, h⟩ := h
  refine ⟨a, cap, rfl, hc, fun hn => ?_⟩
  obtain ⟨b, o, h1, h2⟩ := h hn
  refine ⟨b, o, h1, fun i hi => ?_⟩
  obtain ⟨c, T, fr, h3, h4⟩ := h2 i hi
  exact ⟨c, T, fr, h3, fun j hj => by rw [h4 j hj, e i hi j hj]⟩

theorem SlG.nil (G : Ghost) (sz : Nat) (f : Nat → Nat → Value) : SlG G (.slice none 0 0) 0 sz f := ⟨none, 0, rfl, ⟨Nat.le_refl _, Nat.zero_le _⟩, fun h => by omega⟩

theorem SlG.len {G : Ghost} {v : Value} {n sz : Nat} {f : Nat → Nat → Value} (h : SlG G v n sz f) : ∃ a cap, v = .slice a n cap := by
  obtain ⟨a, cap, h, _⟩ := h
  exact ⟨a, cap, h⟩

theorem SlG.bound {G : Ghost} {v : Value} {n sz : Nat} {f : Nat → Nat → Value} (h : SlG G v n sz f) : n ≤ 9223372036854775807 := by
  obtain ⟨_, _, _, ⟨_, h⟩, _⟩ := h
  simpa only [maxLen] using h

/-! ### a row of the call's own -/

def rowA (v : Value) (E : TypeId) (sz n : Nat) (xs : List Value) : Asrt where
  holds w F := w.ownsRow 0 E sz v n xs ∧ (∀ k, F k ↔ v.ownBlock = some k) ∧ n ≤ maxLen
  frame := by
    rintro w w' F ⟨⟨h1, h2⟩, hF⟩ hk
    refine ⟨⟨h1, ?_⟩, hF⟩
    rcases h2 with h2 | ⟨g, cap, cur, rfl, hb, hg, r⟩
    · exact .inl h2
    · exact .inr ⟨g, cap, cur, rfl, hb, by rw [hk g ((hF.1 g).2 rfl)]; exact hg, r⟩
  dom := by
    rintro w F b ⟨⟨_, h2⟩, hF⟩ hb
    have := (hF.1 b).1 hb
    rcases h2 with ⟨rfl, _⟩ | ⟨g, cap, cur, rfl, _, hg, _⟩
    · cases this
    · simp only [Value.ownBlock, Option.some.injEq] at this
      subst this
      exact lt_of_heap hg

/-- What is known of an element type. -/
def ElemIs (P : Program) (E : TypeId) (sz bytes : Nat) (z : Value) : Prop := (P.info? E).map (fun i => (i.zero, i.size, i.bytes)) = some (some z, sz, bytes)

theorem ElemIs.info {P : Program} {E : TypeId} {sz bytes : Nat} {z : Value} (h : ElemIs P E sz bytes z) : ∃ i, P.info? E = some i ∧ i.zero = some z ∧ i.size = sz ∧ i.bytes = bytes := by
  unfold ElemIs at h
  cases hi : P.info? E with
  | none => rw [hi] at h; cases h
  | some i => rw [hi] at h; simp at h; exact ⟨i, rfl, h.1, h.2.1, h.2.2⟩

section
variable {P : Program} {ops : Array Oper} {Q : Exit → Act → World → Prop} {N : Nat} {X : Nat → Prop} {w0 : World} {G : Ghost} {l : List (Nat × Value)} {L : List Asrt}
variable {o : Oper} {rest : List Oper} {d : Nat} {ty : TypeId} {pos : String} {after : Array Edge} {gd : Option (Nat × Bool)} {x y z : Operand} {v u : Value}

theorem Mem.nilRow {w : World} (h : Mem X w0 G w L) (E : TypeId) (sz : Nat) : Mem X w0 G w (rowA (.slice none 0 0) E sz 0 [] :: L) :=
  ⟨h.since, h.has, (fun _ => False), ⟨World.ownsRow_nil w 0 E sz, fun k => by simp [Value.ownBlock], Nat.zero_le _⟩, fun b hb => hb.elim, h.sep.mono (fun b _ hb => ⟨hb, id⟩)⟩

/-- A row that is nil may be laid at any time. -/
theorem r_nilrow (E : TypeId) (sz : Nat) (h : Runs P ops Q N X w0 G rest l (rowA (.slice none 0 0) E sz 0 [] :: L)) : Runs P ops Q N X w0 G rest l L :=
  fun a w hS => h a w ⟨hS.fr, hS.mem.nilRow E sz⟩
theorem c_nilrow {c : Code} (E : TypeId) (sz : Nat) (h : CRuns P c Q N X w0 G l (rowA (.slice none 0 0) E sz 0 [] :: L)) : CRuns P c Q N X w0 G l L :=
  fun a w hS => h a w ⟨hS.fr, hS.mem.nilRow E sz⟩

/-! ### reading a slice that stays -/

theorem iaddr_g {T E : TypeId} {n sz i : Nat} {q : IntKind} {f : Nat → Nat → Value} (hT : P.underlying T = some (.slice E)) (hE : SzIs P E sz) (hx : ev l x = some v) (hs : SlG G v n sz f) (hy : ev l y = some (.int q (i : Nat))) (hi : i < n) :
    ∃ b o, RowAt G b o sz (f i) ∧ PV P N X w0 G l L ⟨some d, .indexAddr T x y, ty, pos, after, gd⟩ (.pointer (some ⟨b, o, none⟩)) := by
  obtain ⟨a, cap, rfl, _, h⟩ := hs
  obtain ⟨b, o, rfl, h2⟩ := h (by omega)
  refine ⟨b, o + i * sz, h2 i hi, fun ac w hS => ?_⟩
  simp only [execOp, hS.fr.eval hx, hS.fr.eval hy]
  simp [Instr.indexAt, asIntOf, run_underlying hT, hE.run, addr_add, hi]

theorem r_iaddr_g {T E : TypeId} {n sz i : Nat} {q : IntKind} {f : Nat → Nat → Value} (hw : Wt ops l gd) (hd : Nat.blt d N = true) (hT : P.underlying T = some (.slice E)) (hE : SzIs P E sz) (hx : ev l x = some v) (hs : SlG G v n sz f) (hy : ev l y = some (.int q (i : Nat))) (hi : i < n)
    (h : ∀ b o, RowAt G b o sz (f i) → Runs P ops Q N X w0 G rest ((d, .pointer (some ⟨b, o, none⟩)) :: l) L) : Runs P ops Q N X w0 G (⟨some d, .indexAddr T x y, ty, pos, after, gd⟩ :: rest) l L := by
  obtain ⟨b, o, h1, h2⟩ := iaddr_g hT hE hx hs hy hi
  exact r_val hw hd h2 (h b o h1)

theorem q_iaddr_g {T E : TypeId} {n sz i : Nat} {q : IntKind} {f : Nat → Nat → Value} (hw : Wt ops l gd) (hd : Nat.blt d N = true) (hT : P.underlying T = some (.slice E)) (hE : SzIs P E sz) (hx : ev l x = some v) (hs : SlG G v n sz f) (hy : ev l y = some (.int q (i : Nat))) (hi : i < n)
    (h : ∀ b o, RowAt G b o sz (f i) → Quiets P ops Q N X w0 G rest ((d, .pointer (some ⟨b, o, none⟩)) :: l) L) : Quiets P ops Q N X w0 G (⟨some d, .indexAddr T x y, ty, pos, after, gd⟩ :: rest) l L := by
  obtain ⟨b, o, h1, h2⟩ := iaddr_g hT hE hx hs hy hi
  exact q_val hw hd h2 (h b o h1)

theorem p_ldg {T : TypeId} {e : TypeDesc} {b o j n : Nat} {g : Nat → Value} (hT : P.underlying T = some e) (hs : e.aggB = false) (hx : ev l x = some (.pointer (some ⟨b, o + j, none⟩))) (hR : RowAt G b o n g) (hj : j < n) (hv : g j = v) :
    PV P N X w0 G l L ⟨some d, .load T x, ty, pos, after, gd⟩ v := by
  intro a w hS
  have hc := hR.cell hS.mem.has hj
  rw [hv] at hc
  simp [execOp, hS.fr.eval hx, Instr.loadAt, Instr.sureAddr, run_loadVar_scal hT hs hc]

theorem p_ldg0 {T : TypeId} {e : TypeDesc} {b o n : Nat} {g : Nat → Value} (hT : P.underlying T = some e) (hs : e.aggB = false) (hx : ev l x = some (.pointer (some ⟨b, o, none⟩))) (hR : RowAt G b o n g) (hj : 0 < n) (hv : g 0 = v) :
    PV P N X w0 G l L ⟨some d, .load T x, ty, pos, after, gd⟩ v := p_ldg (j := 0) hT hs hx hR hj hv

/-- Several cells, from cell j on. -/
theorem p_ldga {T : TypeId} {e : TypeDesc} {b o j m n : Nat} {g : Nat → Value} (hT : P.underlying T = some e) (hs : e.aggB = true) (hm : SzIs P T m) (hx : ev l x = some (.pointer (some ⟨b, o + j, none⟩))) (hR : RowAt G b o n g) (hj : j + m ≤ n) (hv : aggF m (fun k => g (j + k)) = v) :
    PV P N X w0 G l L ⟨some d, .load T x, ty, pos, after, gd⟩ v := by
  intro a w hS
  have hc := run_loadVar_agg (P := P) (w := w) (b := b) (i := o + j) (f := fun k => g (j + k)) hT hs hm (fun k hk => by rw [Nat.add_assoc]; exact hR.cell hS.mem.has (by omega))
  rw [hv] at hc
  simp [execOp, hS.fr.eval hx, Instr.loadAt, Instr.sureAddr, hc]

theorem p_ldga0 {T : TypeId} {e : TypeDesc} {b o m n : Nat} {g : Nat → Value} (hT : P.underlying T = some e) (hs : e.aggB = true) (hm : SzIs P T m) (hx : ev l x = some (.pointer (some ⟨b, o, none⟩))) (hR : RowAt G b o n g) (hj : m ≤ n) (hv : aggF m g = v) :
    PV P N X w0 G l L ⟨some d, .load T x, ty, pos, after, gd⟩ v := by
  intro a w hS
  have hc := run_loadVar_agg (P := P) (w := w) (b := b) (i := o) (f := g) hT hs hm (fun k hk => hR.cell hS.mem.has (by omega))
  rw [hv] at hc
  simp [execOp, hS.fr.eval hx, Instr.loadAt, Instr.sureAddr, hc]

theorem p_len {T : TypeId} {E : TypeId} {a : Option Addr} {n c : Nat} (hT : P.underlying T = some (.slice E)) (hx : ev l x = some (.slice a n c)) :
    PV P N X w0 G l L ⟨some d, .call ⟨.builtin .len, #[x], #[T]⟩, ty, pos, after, gd⟩ (.int .i64 (n : Int)) := by
  intro ac w hS
  simp [execOp, resolve, invoke, builtin, Builtin.len_, hS.fr.eval hx, run_underlying hT, goInt]

theorem p_leng {T : TypeId} {E : TypeId} {n sz : Nat} {f : Nat → Nat → Value} (hT : P.underlying T = some (.slice E)) (hx : ev l x = some v) (hs : SlG G v n sz f) :
    PV P N X w0 G l L ⟨some d, .call ⟨.builtin .len, #[x], #[T]⟩, ty, pos, after, gd⟩ (.int .i64 (n : Int)) := by
  obtain ⟨a, c, rfl⟩ := hs.len
  exact p_len hT hx

theorem p_leno {T E E' : TypeId} {n sz k : Nat} {xs : List Value} (hT : P.underlying T = some (.slice E)) (hx : ev l x = some v) (hL : L[k]? = some (rowA v E' sz n xs)) :
    PV P N X w0 G l L ⟨some d, .call ⟨.builtin .len, #[x], #[T]⟩, ty, pos, after, gd⟩ (.int .i64 (n : Int)) := by
  intro ac w hS
  obtain ⟨F, ⟨⟨_, h2⟩, _⟩, _⟩ := hS.mem.take hL
  have : ∃ a c, v = .slice a n c := by
    rcases h2 with ⟨rfl, rfl⟩ | ⟨g, cap, cur, rfl, _⟩
    · exact ⟨none, 0, rfl⟩
    · exact ⟨_, _, rfl⟩
  obtain ⟨a, c, rfl⟩ := this
  exact p_len hT hx ac w hS

/-! ### append -/

theorem r_bslice {T E : TypeId} {sz m bytes : Nat} {zv : Value} {ps : List (Nat × Operand)} {vs : List (Nat × Value)} {c : Array Value} {n : Nat} {f : Nat → Value} (hw : Wt ops l gd) (hd : Nat.blt d N = true) (hT : P.underlying T = some (.slice E)) (hE : ElemIs P E sz bytes zv)
    (hp : ps.map (fun p => (p.1, ev l p.2)) = vs.map (fun p => (p.1, some p.2))) (hsm : Nat.ble (m * sz) 1000 = true) (hm : Nat.blt 0 (m * sz) = true)
    (hf : Instr.fill (fun i => some (i * sz, sz)) ((Array.range (m * sz)).map (zv.cells[· % zv.cells.size]!)) vs = some c) (hc : IsRow c n f)
    (h : ∀ b, Runs P ops Q N X w0 G rest ((d, .slice (some ⟨b, 0, none⟩) m m) :: l) (box b n E f :: L)) :
    Runs P ops Q N X w0 G (⟨some d, .buildSlice T m ps.toArray, ty, pos, after, gd⟩ :: rest) l L := by
  refine Runs.step hw (fun a w hS => ?_)
  show Oper.upon P _ a _ Q _
  obtain ⟨i, hi, hz, hs, _⟩ := hE.info
  have e := evp hS.fr hp
  have h1 : (ps.toArray.map fun x => (x.1, a.eval x.2)) = vs.toArray := by rw [← e]; simp
  have hsm' : m * sz ≤ 1000 := by simpa using hsm
  have hm' : 0 < m * sz := by simpa using hm
  have hr : (execOp a.eval ⟨some d, .buildSlice T m ps.toArray, ty, pos, after, gd⟩).run P w = .ok (.value (.slice (some ⟨w.heap.size, 0, none⟩) m m)) (w.alloc (.cells c E)) := by
    have h2 : execOp a.eval ⟨some d, .buildSlice T m ps.toArray, ty, pos, after, gd⟩ = (do pure (Next.value (← Instr.buildSlice T m (ps.toArray.map fun x => (x.1, a.eval x.2)))) : Sem Next) := rfl
    rw [h2, h1]
    have h3 : (sizeOf E).run P w = .ok sz w := by simp [sizeOf, typeInfo, hi, hs]
    have h4 : (zeroValue E).run P w = .ok zv w := by simp [zeroValue, typeInfo, hi, hz]
    simp only [Instr.buildSlice, Sem.run_bind, run_underlying hT, Result.andThen_ok, h3]
    rw [if_neg (by omega), if_neg (by omega)]
    simp [h4, hf, newRow]
  rw [hr, Oper.upon_value]
  exact h _ _ _ ⟨hS.fr.put (by simpa using hd) _, hS.mem.alloc _ _ (box_new w E hc)⟩

theorem since_grown {w w' : World} {r : Option Nat} (h : w.grownBy w' r) (F : Nat → Prop) (hF : ∀ k, r = some k → F k) : Since F w w' :=
  ⟨h.os, h.tape, h.output, h.size, fun k hk hx => h.block k hk (fun e => hx (hF k e.symm))⟩

theorem append_block {T E : TypeId} {sz n m bytes : Nat} {zv : Value} {xs news : List Value} {w w' : World} {v' : Value} {ad : Addr} {c : Nat} (hT : P.underlying T = some (.slice E)) (hE : ElemIs P E sz bytes zv) (hz : zv.cells.size = sz) (hsz : 0 < sz)
    (hown : w.ownsRow 0 E sz v n xs) (hl : news.length = m * sz) (hnews : ∀ j u, news[j]? = some u → w.cell? (ad.add j) = some u) (h1 : ∀ u ∈ news, u.oneCell' = true) (h63 : n + m ≤ maxLen) (hbytes : (n + m) * bytes ≤ 140737488355328)
    (hr : (Builtin.append_ #[T, T] ty #[v, .slice (some ad) m c]).run P w = .ok v' w') {b : Nat} (hb : v'.ownBlock = some b) (hlt : b < w.heap.size) : v.ownBlock = some b := by
  obtain ⟨i, hi, hz0, hs, hby⟩ := hE.info
  subst hs
  rcases hown.2 with ⟨rfl, rfl⟩ | ⟨g, cap, cur, rfl, _, hg, hn, hm, hcs, htk⟩
  · have hx : xs = [] := List.eq_nil_of_length_eq_zero (by simpa using hown.1)
    subst hx
    obtain ⟨v2, w2, hr2, h2, _⟩ := run_append_own (P := P) w w.heap.size T ty E i zv i.size bytes hT hi hz0 rfl hby hz hsz (.slice none 0 0) 0 [] (World.ownsRow_nil w w.heap.size E i.size) ad m c news hl hnews h1 h63 hbytes (Nat.le_refl _)
    rw [hr] at hr2
    simp only [Result.ok.injEq] at hr2
    obtain ⟨rfl, rfl⟩ := hr2
    have := (h2.lt b hb).1
    omega
  · by_cases hroom : n + m ≤ cap
    · have hfit : n * i.size + news.length ≤ cur.size := by rw [hl, hcs, ← Nat.add_mul]; exact Nat.mul_le_mul_right _ hroom
      have hr2 := run_append_room (P := P) w T ty E i hT hi g n cap cur hg ad m c news hl hnews h1 hroom hfit
      rw [hr] at hr2
      simp only [Result.ok.injEq] at hr2
      obtain ⟨rfl, _⟩ := hr2
      exact hb
    · have holds : ∀ j u, xs[j]? = some u → w.cell? ((⟨g, 0, none⟩ : Addr).add j) = some u := hown.cells (g := g) rfl
      have hr2 := run_append_grow (P := P) w T ty E i zv hT hi hz0 ⟨g, 0, none⟩ n cap xs hown.1 holds ad m c news hl hnews (by omega) (by simp only [maxLen] at h63; omega) (growslice_fits (by omega) (by rw [hby]; exact hbytes))
      rw [hr] at hr2
      simp only [Result.ok.injEq] at hr2
      obtain ⟨rfl, _⟩ := hr2
      simp only [Value.ownBlock, Option.some.injEq] at hb
      omega

/-- The end of every append to a row of the call's own. -/
theorem append_end {E : TypeId} {sz n m bytes k : Nat} {zv : Value} {xs news : List Value} {T : TypeId} (hT : P.underlying T = some (.slice E)) (hE : ElemIs P E sz bytes zv) (hz : zv.cells.size = sz) (hsz : 0 < sz)
    {a : Act} {w : World} (hS : St N X w0 G l L a w) (hL : L[k]? = some (rowA v E sz n xs)) (hx : ev l x = some v) {ad : Addr} {c : Nat} (hy : ev l y = some (.slice (some ad) m c))
    (hl : news.length = m * sz) (hnews : ∀ j u, news[j]? = some u → w.cell? (ad.add j) = some u) (h1 : ∀ u ∈ news, u.oneCell' = true) (h63 : n + m ≤ maxLen) (hbytes : (n + m) * bytes ≤ 140737488355328) (hd : Nat.blt d N = true) :
    ∃ v' w', (execOp a.eval ⟨some d, .call ⟨.builtin .append, #[x, y], #[T, T]⟩, ty, pos, after, gd⟩).run P w = .ok (.value v') w' ∧ St N X w0 G ((d, v') :: l) (L.set k (rowA v' E sz (n + m) (xs ++ news))) (a.put (some d) v') w' := by
  obtain ⟨i, hi, hz0, hs, hb⟩ := hE.info
  obtain ⟨F, ⟨hown, hF⟩, _, hput⟩ := hS.mem.take hL
  obtain ⟨v', w', hr, h2, h3, h4⟩ := run_append_own (P := P) w 0 T ty E i zv sz bytes hT hi hz0 hs hb hz hsz v n xs hown ad m c news hl hnews h1 h63 hbytes (Nat.zero_le _)
  refine ⟨v', w', ?_, hS.fr.put (by simpa using hd) v', ?_⟩
  · simp only [execOp, resolve, invoke, builtin, Sem.run_bind, Sem.run_pure, Result.andThen_ok, List.map_toArray, List.map_cons, List.map_nil, hS.fr.eval hx, hS.fr.eval hy, hr]
  · refine hput w' _ (fun k => v'.ownBlock = some k) (since_grown h3 F (fun k e => (hF.1 k).2 e)) ⟨h2, fun _ => Iff.rfl, h63⟩ (fun b hb => ?_)
    -- the row's block is the old one or a new one
    rcases Nat.lt_or_ge b w.heap.size with hlt | hge
    · refine .inl ((hF.1 b).2 ?_)
      rcases h2.2 with ⟨rfl, _⟩ | ⟨g, cap, cur, rfl, _, hg, hn, hm, hcs, htk⟩
      · cases hb
      · simp only [Value.ownBlock, Option.some.injEq] at hb
        subst hb
        exact append_block (b := g) hT hE hz hsz hown hl hnews h1 h63 hbytes hr rfl hlt
    · exact .inr hge

theorem mem_row {f : Nat → Value} {n : Nat} {u : Value} (h : u ∈ row f 0 n) : ∃ j, j < n ∧ f j = u := by
  obtain ⟨j, hj⟩ := List.getElem?_of_mem h
  have hjn : j < n := by
    rcases Nat.lt_or_ge j n with h | h
    · exact h
    · rw [List.getElem?_eq_none (by rw [row_length]; exact h)] at hj; cases hj
  rw [row_get f n 0 j hjn] at hj
  simp only [Nat.zero_add, Option.some.injEq] at hj
  exact ⟨j, hjn, hj⟩

theorem row_some {f : Nat → Value} {n j : Nat} {u : Value} (hj : (row f 0 n)[j]? = some u) : j < n ∧ f j = u := by
  have hjn : j < n := by
    rcases Nat.lt_or_ge j n with h | h
    · exact h
    · rw [List.getElem?_eq_none (by rw [row_length]; exact h)] at hj; cases hj
  rw [row_get f n 0 j hjn] at hj
  simp only [Nat.zero_add, Option.some.injEq] at hj
  exact ⟨hjn, hj⟩

/-- append(out, x): x lies in a box of its own. -/
theorem r_append {T E E' : TypeId} {sz n m bytes k k2 b N' : Nat} {zv : Value} {xs : List Value} {f : Nat → Value} (hw : Wt ops l gd) (hd : Nat.blt d N = true) (hT : P.underlying T = some (.slice E)) (hE : ElemIs P E sz bytes zv) (hz : zv.cells.size = sz) (hsz : 0 < sz)
    (hx : ev l x = some v) (hL : L[k]? = some (rowA v E sz n xs)) (hy : ev l y = some (.slice (some ⟨b, 0, none⟩) m m)) (hL2 : L[k2]? = some (box b N' E' f)) (hN : N' = m * sz) (h1 : ∀ j, j < m * sz → (f j).oneCell' = true) (h63 : n + m ≤ maxLen) (hbytes : (n + m) * bytes ≤ 140737488355328)
    (h : ∀ v', Runs P ops Q N X w0 G rest ((d, v') :: l) (L.set k (rowA v' E sz (n + m) (xs ++ row f 0 (m * sz))))) : Runs P ops Q N X w0 G (⟨some d, .call ⟨.builtin .append, #[x, y], #[T, T]⟩, ty, pos, after, gd⟩ :: rest) l L := by
  refine Runs.step hw (fun a w hS => ?_)
  show Oper.upon P _ a _ Q _
  subst hN
  obtain ⟨F2, ⟨hB, _⟩, _⟩ := hS.mem.take hL2
  obtain ⟨v', w', hr, hS'⟩ := append_end (ty := ty) (pos := pos) (after := after) (gd := gd) (d := d) hT hE hz hsz hS hL hx hy (news := row f 0 (m * sz)) (row_length f (m * sz) 0)
    (fun j u hj => by obtain ⟨h2, rfl⟩ := row_some hj; rw [addr_add, Nat.zero_add]; exact hB.cell h2) (fun u hu => by obtain ⟨j, hj, rfl⟩ := mem_row hu; exact h1 j hj) h63 hbytes hd
  rw [hr, Oper.upon_value]
  exact h v' _ _ hS'

def flat (f : Nat → Nat → Value) (sz : Nat) : Nat → Nat → List Value
  | _, 0 => []
  | i, m + 1 => row (f i) 0 sz ++ flat f sz (i + 1) m

theorem flat_length (f : Nat → Nat → Value) (sz : Nat) : ∀ m i, (flat f sz i m).length = m * sz
  | 0, _ => by simp [flat]
  | m + 1, i => by simp [flat, row_length, flat_length f sz m, Nat.add_mul]; omega

theorem flat_get (f : Nat → Nat → Value) (sz : Nat) : ∀ m i j u, (flat f sz i m)[j]? = some u → ∃ a c, a < m ∧ c < sz ∧ j = a * sz + c ∧ u = f (i + a) c
  | 0, _, j, u, h => by simp [flat] at h
  | m + 1, i, j, u, h => by
    simp only [flat] at h
    rcases Nat.lt_or_ge j sz with hj | hj
    · rw [List.getElem?_append_left (by rw [row_length]; exact hj), row_get _ _ _ _ hj] at h
      simp at h
      exact ⟨0, j, by omega, hj, by simp, by simpa using h.symm⟩
    · rw [List.getElem?_append_right (by rw [row_length]; exact hj), row_length] at h
      obtain ⟨a, c, h1, h2, h3, h4⟩ := flat_get f sz m (i + 1) (j - sz) u h
      refine ⟨a + 1, c, by omega, h2, ?_, by rw [h4]; congr 1; omega⟩
      rw [Nat.add_mul]; omega

theorem p_append_nil {T E E' : TypeId} {sz sz' n k c : Nat} {xs : List Value} (hT : P.underlying T = some (.slice E)) (hE : SzIs P E sz) (hx : ev l x = some v) (hL : L[k]? = some (rowA v E' sz' n xs)) (hy : ev l y = some (.slice none 0 c)) :
    PV P N X w0 G l L ⟨some d, .call ⟨.builtin .append, #[x, y], #[T, T]⟩, ty, pos, after, gd⟩ v := by
  intro a w hS
  obtain ⟨F, ⟨⟨_, h2⟩, _⟩, _⟩ := hS.mem.take hL
  have : ∃ ad m cp, v = .slice ad m cp ∧ m ≤ cp := by
    rcases h2 with ⟨rfl, rfl⟩ | ⟨g, cap, cur, rfl, _, _, h, _⟩
    · exact ⟨none, 0, 0, rfl, Nat.le_refl _⟩
    · exact ⟨_, _, _, rfl, h⟩
  obtain ⟨ad, m, cp, rfl, hle⟩ := this
  have hr : (Builtin.append_ #[T, T] ty #[.slice ad m cp, .slice none 0 c]).run P w = .ok (.slice ad m cp) w := by
    cases ad with
    | none => simp [Builtin.append_, run_underlying hT, hE.run, Builtin.lenOf, hle, Builtin.firstCells]
    | some ad => simp [Builtin.append_, run_underlying hT, hE.run, Builtin.lenOf, hle, Builtin.firstCells, storeCells]
  simp only [execOp, resolve, invoke, builtin, Sem.run_bind, Sem.run_pure, Result.andThen_ok, List.map_toArray, List.map_cons, List.map_nil, hS.fr.eval hx, hS.fr.eval hy, hr]

theorem set_self {k : Nat} {A : Asrt} (hL : L[k]? = some A) : L.set k A = L := by
  apply List.ext_getElem?
  intro i
  by_cases h : k = i
  · subst h; rw [List.getElem?_set_self']; rw [hL]; rfl
  · rw [List.getElem?_set_ne h]

/-- append(out, xs...): xs stays as it is. -/
theorem r_append_g {T E : TypeId} {sz n m bytes k : Nat} {zv : Value} {xs : List Value} {f : Nat → Nat → Value} (hw : Wt ops l gd) (hd : Nat.blt d N = true) (hT : P.underlying T = some (.slice E)) (hE : ElemIs P E sz bytes zv) (hz : zv.cells.size = sz) (hsz : 0 < sz)
    (hx : ev l x = some v) (hL : L[k]? = some (rowA v E sz n xs)) (hy : ev l y = some u) (hs : SlG G u m sz f) (h1 : ∀ i, i < m → ∀ j, j < sz → (f i j).oneCell' = true) (h63 : n + m ≤ maxLen) (hbytes : (n + m) * bytes ≤ 140737488355328)
    (h : ∀ v', Runs P ops Q N X w0 G rest ((d, v') :: l) (L.set k (rowA v' E sz (n + m) (xs ++ flat f sz 0 m)))) : Runs P ops Q N X w0 G (⟨some d, .call ⟨.builtin .append, #[x, y], #[T, T]⟩, ty, pos, after, gd⟩ :: rest) l L := by
  obtain ⟨i0, hi0, _, hs0, _⟩ := hE.info
  obtain ⟨a, c, rfl, hmc, hrow⟩ := hs
  by_cases hm : m = 0
  · subst hm
    cases a with
    | none =>
      have hsz' : SzIs P E sz := by simp [SzIs, hi0, hs0]
      have h' := h v
      simp only [Nat.add_zero, flat, List.append_nil, set_self hL] at h'
      refine r_val hw hd (p_append_nil (c := c) hT hsz' hx hL ?_) h'
      exact hy
    | some ad =>
      refine Runs.step hw (fun ac w hS => ?_)
      show Oper.upon P _ ac _ Q _
      obtain ⟨v', w', hr, hS'⟩ := append_end (ty := ty) (pos := pos) (after := after) (gd := gd) (d := d) (news := []) hT hE hz hsz hS hL hx hy (by simp) (fun j u hj => by simp at hj) (by simp) h63 hbytes hd
      rw [hr, Oper.upon_value]
      exact h v' _ _ hS'
  · obtain ⟨b, o, rfl, hR⟩ := hrow (by omega)
    refine Runs.step hw (fun ac w hS => ?_)
    show Oper.upon P _ ac _ Q _
    obtain ⟨v', w', hr, hS'⟩ := append_end (ty := ty) (pos := pos) (after := after) (gd := gd) (d := d) (news := flat f sz 0 m) hT hE hz hsz hS hL hx hy (flat_length f sz m 0)
      (fun j u hj => by
        obtain ⟨a, c, h2, h3, rfl, rfl⟩ := flat_get f sz m 0 j u hj
        rw [addr_add, Nat.zero_add, ← Nat.add_assoc]
        exact (hR a h2).cell hS.mem.has h3)
      (fun u hu => by
        obtain ⟨j, hj⟩ := List.getElem?_of_mem hu
        obtain ⟨a, c, h2, h3, _, rfl⟩ := flat_get f sz m 0 j u hj
        rw [Nat.zero_add]; exact h1 a h2 c h3) h63 hbytes hd
    rw [hr, Oper.upon_value]
    exact h v' _ _ hS'

theorem rowA_congr {v : Value} {E : TypeId} {sz n n' : Nat} {xs xs' : List Value} (hn : n = n') (hx : xs = xs') (w : World) (F : Nat → Prop) (h : (rowA v E sz n xs).holds w F) : (rowA v E sz n' xs').holds w F := by
  subst hn; subst hx; exact h

/-! ### what is made stays: the ghost grows -/

structure GNew (w0 : World) (X : Nat → Prop) (G G' : Ghost) : Prop where
  le : GLe G G'
  new : ∀ b, G b = none → G' b ≠ none → w0.heap.size ≤ b ∨ X b

theorem GNew.refl (w0 : World) (X : Nat → Prop) (G : Ghost) : GNew w0 X G G := ⟨GLe.refl G, fun _ h h' => absurd h h'⟩
theorem GNew.trans {A B C : Ghost} (h : GNew w0 X A B) (k : GNew w0 X B C) : GNew w0 X A C :=
  ⟨h.le.trans k.le, fun b h1 h2 => by
    cases e : B b with
    | none => exact k.new b e h2
    | some o => exact h.new b h1 (by rw [e]; simp)⟩

theorem Sep.erase {w : World} : ∀ {L : List Asrt} {U : Nat → Prop} {k : Nat} {A : Asrt}, Sep w L U → L[k]? = some A → ∃ F, A.holds w F ∧ (∀ b, F b → U b) ∧ Sep w (L.eraseIdx k) (fun b => U b ∧ ¬ F b)
  | [], _, _, _, _, h => by simp at h
  | B :: L, U, 0, A, ⟨F, hB, hs, hL⟩, h => by
    simp at h; subst h
    exact ⟨F, hB, hs, hL⟩
  | B :: L, U, k + 1, A, ⟨F, hB, hs, hL⟩, h => by
    simp at h
    obtain ⟨F', h1, h2, h3⟩ := Sep.erase hL h
    refine ⟨F', h1, fun b hb => (h2 b hb).1, F, hB, fun b hb => ⟨hs b hb, fun hf => (h2 b hf).2 hb⟩, h3.mono (fun b _ hb => ⟨⟨hb.1.1, hb.2⟩, hb.1.2⟩)⟩

/-- A row of the call's own stays as it is from now on. -/
theorem Mem.freeze {w : World} {k n sz : Nat} {E : TypeId} {xs : List Value} (h : Mem X w0 G w L) (hL : L[k]? = some (rowA v E sz n xs)) :
    ∃ G', GNew w0 X G G' ∧ SlG G' v n sz (fun i j => xs.getD (i * sz + j) undef) ∧ Mem X w0 G' w (L.eraseIdx k) := by
  obtain ⟨F, ⟨hown, hF⟩, hU, hsep⟩ := h.sep.erase hL
  rcases hown.2 with ⟨rfl, rfl⟩ | ⟨g, cap, cur, rfl, _, hg, hn, hm, hcs, htk⟩
  · exact ⟨G, GNew.refl _ _ _, SlG.nil _ _ _, h.since, h.has, hsep.mono (fun b _ hb => hb.1)⟩
  · have hgF : F g := (hF.1 g).2 rfl
    have hgU := hU g hgF
    refine ⟨fun b => if b = g then some (.cells cur E (0, 0)) else G b, ⟨fun b o e => ?_, fun b e e' => ?_⟩, ?_, h.since, fun b o e => ?_, hsep.mono (fun b _ hb => ⟨hb.1.1, ?_⟩)⟩
    · have : b ≠ g := fun e2 => by subst e2; rw [hgU.2] at e; cases e
      simp only [if_neg this]; exact e
    · by_cases e2 : b = g
      · subst e2; exact hgU.1
      · simp only [if_neg e2] at e'; exact absurd e e'
    · refine ⟨some ⟨g, 0, none⟩, cap, rfl, ⟨hn, hF.2⟩, fun _ => ⟨g, 0, rfl, fun i hi => ⟨cur, E, (0, 0), by simp, fun j hj => ?_⟩⟩⟩
      have hlt : i * sz + j < n * sz := by
        have := Nat.mul_le_mul_right sz (show i + 1 ≤ n from hi)
        rw [Nat.add_mul, Nat.one_mul] at this; omega
      have hlt2 : n * sz ≤ cur.size := by rw [hcs]; exact Nat.mul_le_mul_right _ hn
      rw [Nat.zero_add, ← htk]
      have h3 : i * sz + j < cur.size := by omega
      simp [List.getD, hlt, h3]
    · by_cases e2 : b = g
      · subst e2; simp only [if_true, Option.some.injEq] at e; subst e; exact hg
      · simp only [if_neg e2] at e; exact h.has b o e
    · have : b ≠ g := fun e2 => hb.2 (by rw [e2]; exact hgF)
      simp only [if_neg this]; exact hb.1.2

theorem r_freeze {k n sz : Nat} {E : TypeId} {xs : List Value} (hL : L[k]? = some (rowA v E sz n xs))
    (h : ∀ G', GNew w0 X G G' → SlG G' v n sz (fun i j => xs.getD (i * sz + j) undef) → Runs P ops Q N X w0 G' rest l (L.eraseIdx k)) : Runs P ops Q N X w0 G rest l L := by
  intro a w hS
  obtain ⟨G', h1, h2, h3⟩ := hS.mem.freeze hL
  exact h G' h1 h2 a w ⟨hS.fr, h3⟩

theorem c_freeze {c : Code} {k n sz : Nat} {E : TypeId} {xs : List Value} (hL : L[k]? = some (rowA v E sz n xs))
    (h : ∀ G', GNew w0 X G G' → SlG G' v n sz (fun i j => xs.getD (i * sz + j) undef) → CRuns P c Q N X w0 G' l (L.eraseIdx k)) : CRuns P c Q N X w0 G l L := by
  intro a w hS
  obtain ⟨G', h1, h2, h3⟩ := hS.mem.freeze hL
  exact h G' h1 h2 a w ⟨hS.fr, h3⟩

theorem e_freeze {e : Exit} {k n sz : Nat} {E : TypeId} {xs : List Value} (hL : L[k]? = some (rowA v E sz n xs))
    (h : ∀ G', GNew w0 X G G' → SlG G' v n sz (fun i j => xs.getD (i * sz + j) undef) → ERuns Q e N X w0 G' l (L.eraseIdx k)) : ERuns Q e N X w0 G l L := by
  intro a w hS
  obtain ⟨G', h1, h2, h3⟩ := hS.mem.freeze hL
  exact h G' h1 h2 a w ⟨hS.fr, h3⟩

theorem Mem.callG {w w' : World} {G' : Ghost} (h : Mem X w0 G w L) (hs : Since nX w w') (hn : GNew w nX G G') (hh : Has G' w') : Mem X w0 G' w' L := by
  have h1 := h.call hs
  refine ⟨h1.since, hh, ?_⟩
  have h2 : Sep w L (fun b => (w0.heap.size ≤ b ∨ X b) ∧ G' b = none) := h.sep.mono (fun b hb hu => ⟨hu.1, by
    cases e : G' b with
    | none => rfl
    | some o => rcases hn.new b hu.2 (by rw [e]; simp) with h3 | h3
                · omega
                · exact h3.elim⟩)
  exact h2.keep (fun b hb _ => hs.block b hb id)

theorem GNew.up {w : World} {G' : Ghost} (h : GNew w nX G G') (hsz : w0.heap.size ≤ w.heap.size) : GNew w0 X G G' :=
  ⟨h.le, fun b h1 h2 => .inl (by rcases h.new b h1 h2 with h3 | h3; exact Nat.le_trans hsz h3; exact h3.elim)⟩

/-- A call that leaves all that was there alone, and whose result lies in memory that stays. -/
theorem r_callm {f : FuncId} {xs : List Operand} {vs : List Value} {ats : Array TypeId} {S : Ghost → Value → Prop} (hw : Wt ops l gd) (hd : Nat.blt d N = true) (hf : Callable P f) (hv : evs l xs = some vs)
    (hc : ∀ w, Has G w → Calls P f vs.toArray w (Ret fun r w' => ∃ G', GNew w nX G G' ∧ Has G' w' ∧ S G' r ∧ Since nX w w'))
    (h : ∀ G' r, GNew w0 X G G' → S G' r → Runs P ops Q N X w0 G' rest ((d, r) :: l) L) : Runs P ops Q N X w0 G (⟨some d, .call ⟨.value (.func f), xs.toArray, ats⟩, ty, pos, after, gd⟩ :: rest) l L := by
  refine Runs.step hw (fun a w hS => ?_)
  show Oper.upon P _ a _ Q _
  rw [run_call hS.fr hv hf, Oper.upon_enter]
  refine (hc w hS.mem.has).mono (fun e w' hR => ?_)
  cases e with
  | returned r =>
    obtain ⟨G', hn, hh, hr, hs⟩ := hR
    exact h G' r (hn.up hS.mem.since.size) hr _ _ ⟨hS.fr.put (by simpa using hd) _, hS.mem.callG hs hn hh⟩
  | panicked c => exact hR.elim
  | outgrown => exact hR.elim

end
end Go.Gx
