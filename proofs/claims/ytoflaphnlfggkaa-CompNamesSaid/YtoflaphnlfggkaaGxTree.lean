/-
  GX: trees: slices whose elements hold slices of the like: what is known of one, and one that came in, opened. Generic in the program.
-/
import Derived.Test.YtoflaphnlfggkaaGxNum
import Derived.Test.YtoflaphnlfggkaaGxMap
namespace Go.Gx
open Go.RowKit Go.ChangeShapes Go.WideShapes Go.ChangeAt

/-- The value v is a slice of trees: each element's cells bear a slice of its own below it. -/
inductive Tr {α : Type} (subs : α → List α) (cf : α × Value → List Value) (sz : Nat) (d : α × Value) (G : Ghost) : Value → List α → Prop
  | mk {v : Value} (rs : List (α × Value)) (h : SlL G v sz cf d rs) (hs : ∀ p ∈ rs, Tr subs cf sz d G p.2 (subs p.1)) : Tr subs cf sz d G v (rs.map Prod.fst)

section
variable {α : Type} {subs : α → List α} {cf : α × Value → List Value} {sz : Nat} {d : α × Value} {G G' : Ghost} {v : Value} {l : List α}
theorem Tr.inv (h : Tr subs cf sz d G v l) : ∃ rs : List (α × Value), SlL G v sz cf d rs ∧ (∀ p ∈ rs, Tr subs cf sz d G p.2 (subs p.1)) ∧ l = rs.map Prod.fst := by
  cases h with
  | mk rs h hs => exact ⟨rs, h, hs, rfl⟩
theorem Tr.mono (h : Tr subs cf sz d G v l) (hle : GLe G G') : Tr subs cf sz d G' v l := by
  induction h with
  | mk rs h _ ih => exact .mk rs (h.mono hle) ih
theorem Tr.one (h : Tr subs cf sz d G v l) : v.oneCell' = true := by
  cases h with
  | mk rs h _ => exact h.one
theorem Tr.nil : Tr subs cf sz d G (.slice none 0 0) [] := Tr.mk [] (SlG.nil _ _ _) (by simp)
theorem all_cons {β : Type} {p : β → Bool} {a : β} {l : List β} (h : p a = true) (t : l.all p = true) : (a :: l).all p = true := by rw [List.all_cons, h, t]; rfl
theorem Tr.len (h : Tr subs cf sz d G v l) : ∃ a cap, v = .slice a l.length cap := by
  cases h with
  | mk rs h _ => obtain ⟨a, c, e⟩ := SlG.len h; exact ⟨a, c, by simpa using e⟩
section
variable {P : Program} {ops : Array Oper} {Q : Exit → Act → World → Prop} {N : Nat} {X : Nat → Prop} {w0 : World} {G : Ghost} {l : List (Nat × Value)} {L : List Asrt} {rest : List Oper}
theorem p_lengx {d : Nat} {ty : TypeId} {pos : String} {after : Array Edge} {gd : Option (Nat × Bool)} {x : Operand} {v : Value} {T E : TypeId} {n sz : Nat} {f : Nat → Nat → Value} {G2 : Ghost} (hT : P.underlying T = some (.slice E)) (hx : ev l x = some v) (hs : SlG G2 v n sz f) :
    PV P N X w0 G l L ⟨some d, .call ⟨.builtin .len, #[x], #[T]⟩, ty, pos, after, gd⟩ (.int .i64 (n : Int)) := by
  obtain ⟨a, c, rfl, _⟩ := hs
  exact p_len hT hx
/-- A row's value is a slice. -/
theorem r_rowsl {E : TypeId} {k n sz : Nat} {v : Value} {xs : List Value} (hL : L[k]? = some (rowA v E sz n xs)) (h : ∀ a c, v = .slice a n c → Runs P ops Q N X w0 G rest l L) : Runs P ops Q N X w0 G rest l L := by
  intro ac w hS
  obtain ⟨F, ⟨⟨hlen, hown⟩, _⟩, _, _⟩ := hS.mem.take hL
  rcases hown with ⟨rfl, h0⟩ | ⟨g, cap, cur, rfl, _⟩
  · exact h _ _ (by rw [h0]) ac w hS
  · exact h _ _ rfl ac w hS
end
theorem getD_mem {β : Type} {rs : List β} {i : Nat} {d : β} (h : i < rs.length) : rs.getD i d ∈ rs := by
  simp [List.getD, List.getElem?_eq_getElem h]
theorem map_getD {rs : List (α × Value)} {i : Nat} (h : i < rs.length) : (rs.map Prod.fst).getD i d.1 = (rs.getD i d).1 := by
  simp [List.getD, List.getElem?_eq_getElem h]
theorem map_getElem {rs : List (α × Value)} {i : Nat} (h : i < rs.length) : (rs.map Prod.fst)[i]? = some (rs.getD i d).1 := by
  simp [List.getD, List.getElem?_eq_getElem h]
theorem map_drop {rs : List (α × Value)} {i : Nat} (h : i < rs.length) : (rs.map Prod.fst).drop i = (rs.getD i d).1 :: (rs.map Prod.fst).drop (i + 1) := by
  rw [List.drop_eq_getElem_cons (by simpa using h)]
  simp [List.getD, List.getElem?_eq_getElem h]
theorem map_take {rs : List (α × Value)} {i : Nat} (h : i < rs.length) : (rs.map Prod.fst).take (i + 1) = (rs.map Prod.fst).take i ++ [(rs.getD i d).1] := by
  rw [List.take_succ_eq_append_getElem (by simpa using h)]
  simp [List.getD, List.getElem?_eq_getElem h]
end

section
variable {H : Type} {enc : TypeId × Value → H} {P : Program} {W : World} {base : Nat} {sp : Nat → Bool} {held : Bool} {B : Nat}

/-- A cell that reads as a value of type T, with so much fuel at most. -/
def LeafB (enc : TypeId × Value → H) (P : Program) (W : World) (base : Nat) (sp : Nat → Bool) (held : Bool) (B : Nat) (T : TypeId) (v : Value) : Prop := ∃ fuel x, fuel ≤ B ∧ DataW.trod enc P W base sp held fuel T [v] = some x
theorem LeafB.leaf {T : TypeId} {v : Value} (h : LeafB enc P W base sp held B T v) : Leaf enc P W base sp held T v := by
  obtain ⟨f, x, _, h⟩ := h
  exact ⟨f, x, h⟩

inductive LeavesB (enc : TypeId × Value → H) (P : Program) (W : World) (base : Nat) (sp : Nat → Bool) (held : Bool) (B : Nat) : List TypeId → List Value → Prop
  | nil : LeavesB enc P W base sp held B [] []
  | cons {T : TypeId} {v : Value} {ts : List TypeId} {vs : List Value} : LeafB enc P W base sp held B T v → LeavesB enc P W base sp held B ts vs → LeavesB enc P W base sp held B (T :: ts) (v :: vs)

theorem LeavesB.append {a b : List TypeId} {c d : List Value} (h : LeavesB enc P W base sp held B a c) (k : LeavesB enc P W base sp held B b d) : LeavesB enc P W base sp held B (a ++ b) (c ++ d) := by
  induction h with
  | nil => exact k
  | cons h1 _ ih => exact .cons h1 ih
theorem LeavesB.inv {T : TypeId} {ts : List TypeId} {vs : List Value} (h : LeavesB enc P W base sp held B (T :: ts) vs) : ∃ v r, vs = v :: r ∧ LeafB enc P W base sp held B T v ∧ LeavesB enc P W base sp held B ts r := by
  cases h with
  | cons h1 h2 => exact ⟨_, _, rfl, h1, h2⟩
theorem LeavesB.inv0 {vs : List Value} (h : LeavesB enc P W base sp held B [] vs) : vs = [] := by
  cases h; rfl

theorem leavesB_of (d : Nat) : (∀ (t : TypeId) (l : List TypeId) (fuel : Nat) (cs : List Value) (x : DataW H × List MemPlace), fuel ≤ B → leafT P d t = some l → DataW.trod enc P W base sp held fuel t cs = some x → LeavesB enc P W base sp held B l cs) ∧
    (∀ (fs : List Field) (off : Nat) (l : List TypeId) (n : Nat) (cs : List Value), n ≤ B → leafF P d off fs = some l → cs.length = off + l.length → (∀ (i : Nat) (f : Field), fs[i]? = some f → ∃ x, DataW.trod enc P W base sp held n f.type ((cs.drop f.offset).take (P.cellsOf f.type)) = some x) →
      LeavesB enc P W base sp held B l (cs.drop off)) := by
  induction d with
  | zero =>
    refine ⟨fun t l _ _ _ _ h => by simp [leafT] at h, fun fs off l n cs _ h hl _ => ?_⟩
    cases fs with
    | nil =>
      simp [leafF] at h; subst h
      rw [List.drop_eq_nil_of_le (by simp at hl; omega)]
      exact .nil
    | cons f fs => simp [leafF] at h
  | succ d ih =>
    obtain ⟨ihT, ihF⟩ := ih
    constructor
    · intro t l fuel cs x hB hl h
      cases hu : P.underlying t with
      | none => unfold leafT at hl; rw [hu] at hl; cases hl
      | some e =>
        by_cases hs : e.aggB = false
        · have e1 := one_of_scal hu hs hl
          subst e1
          obtain ⟨v, rfl⟩ := trod_one hu hs h
          exact .cons ⟨fuel, x, hB, h⟩ .nil
        · cases e <;> simp [TypeDesc.aggB] at hs
          case array n E =>
            unfold leafT at hl
            rw [hu] at hl
            simp only [Option.bind_eq_some_iff] at hl
            obtain ⟨le, h1, h2⟩ := hl
            split at h2
            · rename_i hlen
              simp at h2; subst h2
              obtain ⟨xs, m, hfu, _, hcl, hxl, hget⟩ := DataW.trod_array hu h
              have key : ∀ (k j : Nat), j + k = n → LeavesB enc P W base sp held B (List.replicate k le).flatten ((cs.drop (j * P.cellsOf E)).take (k * P.cellsOf E)) := by
                intro k
                induction k with
                | zero => intro j _; simp; exact .nil
                | succ k ihk =>
                  intro j hj
                  have hjn : j < n := by omega
                  have hg := hget j hjn
                  have hsome : ∃ y, xs[j]? = some y := ⟨xs[j], List.getElem?_eq_getElem (by omega)⟩
                  obtain ⟨y, hy⟩ := hsome
                  rw [hy] at hg
                  have h3 := ihT E le m _ y (by omega) h1 hg
                  have h4 := ihk (j + 1) (by omega)
                  have e2 : (cs.drop (j * P.cellsOf E)).take ((k + 1) * P.cellsOf E) = (cs.drop (j * P.cellsOf E)).take (P.cellsOf E) ++ (cs.drop ((j + 1) * P.cellsOf E)).take (k * P.cellsOf E) := by
                    rw [Nat.add_mul k 1, Nat.one_mul, Nat.add_comm (k * P.cellsOf E), List.take_add, List.drop_drop, Nat.add_mul j 1, Nat.one_mul]
                  rw [List.replicate_succ, List.flatten_cons, e2]
                  exact h3.append h4
              have := key n 0 (by omega)
              simp only [Nat.zero_mul, List.drop_zero] at this
              have hc : cs.take (n * P.cellsOf E) = cs := by
                rw [List.take_of_length_le]
                rw [hcl, ← hlen.2, hlen.1]
                exact Nat.le_refl _
              rw [hc] at this
              exact this
            · cases h2
          case struct fs =>
            unfold leafT at hl
            rw [hu] at hl
            simp only [Option.bind_eq_some_iff] at hl
            obtain ⟨lf, hl, hl2⟩ := hl
            split at hl2
            rotate_left
            · cases hl2
            rename_i hlen
            simp only [Option.some.injEq] at hl2; subst hl2
            obtain ⟨xs, n, hfu, _, hcl, hxl, hget⟩ := DataW.trod_struct hu h
            have := ihF fs.toList 0 lf n cs (by omega) hl (by rw [hcl, hlen]; omega) (fun i f hf => by
              have hg := hget i f (by simpa using hf)
              have hi : i < xs.length := by
                rw [hxl]
                rcases Nat.lt_or_ge i fs.size with h | h
                · exact h
                · rw [List.getElem?_eq_none (by simpa using h)] at hf; cases hf
              exact ⟨xs[i], by rw [hg]; exact List.getElem?_eq_getElem hi⟩)
            simpa using this
    · intro fs off l n cs hB hl hlen hget
      cases fs with
      | nil =>
        simp [leafF] at hl; subst hl
        rw [List.drop_eq_nil_of_le (by simp at hlen; omega)]
        exact .nil
      | cons f fs =>
        unfold leafF at hl
        split at hl
        · rename_i hoff
          simp only [Option.bind_eq_some_iff] at hl
          obtain ⟨lf, h1, h2⟩ := hl
          split at h2
          · rename_i hlf
            simp only [Option.map_eq_some_iff] at h2
            obtain ⟨lr, h3, rfl⟩ := h2
            obtain ⟨x, hx⟩ := hget 0 f (by simp)
            have h4 := ihT f.type lf n _ x hB h1 hx
            have h5 := ihF fs (off + lf.length) lr n cs hB h3 (by simp at hlen; omega) (fun i g hg => hget (i + 1) g (by simpa using hg))
            have e2 : cs.drop off = (cs.drop off).take (P.cellsOf f.type) ++ cs.drop (off + lf.length) := by
              rw [← hlf, ← List.drop_drop, List.take_append_drop]
            rw [e2]
            rw [hoff] at h4
            exact h4.append h5
          · cases h2
        · cases hl

/-- A struct's cells, each with less fuel. -/
theorem leavesB_struct {t : TypeId} {fs : Array Field} {l : List TypeId} {fuel : Nat} {cs : List Value} {x : DataW H × List MemPlace} (d : Nat) (hu : P.underlying t = some (.struct fs)) (hl : leafT P (d + 1) t = some l) (h : DataW.trod enc P W base sp held fuel t cs = some x) :
    ∃ n, fuel = n + 1 ∧ LeavesB enc P W base sp held n l cs := by
  unfold leafT at hl
  rw [hu] at hl
  simp only [Option.bind_eq_some_iff] at hl
  obtain ⟨lf, hl, hl2⟩ := hl
  split at hl2
  rotate_left
  · cases hl2
  rename_i hlen
  simp only [Option.some.injEq] at hl2; subst hl2
  obtain ⟨xs, n, hfu, _, hcl, hxl, hget⟩ := DataW.trod_struct hu h
  have := (leavesB_of (B := n) d).2 fs.toList 0 lf n cs (Nat.le_refl _) hl (by rw [hcl, hlen]; omega) (fun i f hf => by
    have hg := hget i f (by simpa using hf)
    have hi : i < xs.length := by
      rw [hxl]
      rcases Nat.lt_or_ge i fs.size with h | h
      · exact h
      · rw [List.getElem?_eq_none (by simpa using h)] at hf; cases hf
    exact ⟨xs[i], by rw [hg]; exact List.getElem?_eq_getElem hi⟩)
  exact ⟨n, hfu, by simpa using this⟩

theorem agg_of_wide {t : TypeId} {e : TypeDesc} {v : Value} {r : Reach} (he : P.underlying t = some e) (ha : e.aggB = true) (hv : Value.okWide P W r base t v) : ∃ cs, v = .agg cs := by
  unfold Value.okWide at hv
  rw [he] at hv
  cases e <;> simp [TypeDesc.aggB] at ha <;> exact ⟨_, hv.choose_spec.1⟩

/-- A slice whose elements each read as some α of which more is known. -/
theorem open_slB {α : Type} {cells : α → List Value} {Qa : α → Prop} {t e : TypeId} {sz : Nat} {v : Value} (e0 : α) (ht : P.underlying t = some (.slice e)) (hsz : P.cellsOf e = sz) (hpos : 0 < sz)
    (hp : ∀ n cs' y, n < B → DataW.trod enc P W base sp held n e cs' = some y → ∃ a : α, cs' = cells a ∧ Qa a)
    (h : LeafB enc P W base sp held B t v) : ∃ l, SlL (GW W) v sz cells e0 l ∧ ∀ a ∈ l, Qa a := by
  obtain ⟨fuel, x, hB, h⟩ := h
  rcases DataW.trod_slice ht h with ⟨hv, _⟩ | ⟨a, len, cap, elems, rest, n, hfu, hv, _, _, hl, hm, hlen, hel, _, _⟩
  · simp at hv; subst hv
    exact ⟨[], SlG.nil _ _ _, by simp⟩
  · simp at hv; subst hv
    subst hsz
    obtain ⟨A, hA⟩ := @Go.Deep.choose_lt α ⟨e0⟩ len (fun i v => W.cells? base (a.add (i * P.cellsOf e)) (P.cellsOf e) = some (cells v) ∧ Qa v) (fun i hi => by
      have h1 := hel i hi
      rw [List.getElem?_eq_getElem (by omega)] at h1
      obtain ⟨cs', h2, h3⟩ := Option.bind_eq_some_iff.1 h1
      obtain ⟨v, rfl, hq⟩ := hp _ _ _ (by omega) h3
      exact ⟨v, h2, hq⟩)
    refine ⟨(List.range len).map A, ⟨some a, cap, by simp, ⟨by simpa using hl, by simp; omega⟩, fun hn => ?_⟩, fun b hb => ?_⟩
    rotate_left
    · simp only [List.mem_map, List.mem_range] at hb
      obtain ⟨i, hi, rfl⟩ := hb
      exact (hA i hi).2
    simp only [List.length_map, List.length_range] at hn ⊢
    have h0 := (World.cells?_some (hA 0 hn).1).2.2 0 hpos
    have hlen0 := (World.cells?_some (hA 0 hn).1).2.1
    simp only [Nat.zero_mul] at h0
    have e1 : (a.add 0).add 0 = a := by simp [Addr.add]
    rw [e1, List.getElem?_eq_getElem (by omega)] at h0
    obtain ⟨hspot, c, T, fr, hc, _⟩ := cells_of_cell h0
    obtain ⟨ab, ao, as⟩ := a
    simp only at hspot; subst hspot
    refine ⟨ab, ao, rfl, fun i hi => ⟨c, T, fr, hc, fun j hj => ?_⟩⟩
    have h1 := (World.cells?_some (hA i hi).1).2.2 j hj
    have hlen := (World.cells?_some (hA i hi).1).2.1
    rw [addr_add, addr_add, List.getElem?_eq_getElem (by omega)] at h1
    obtain ⟨_, c', T', fr', hc', h2⟩ := cells_of_cell h1
    simp only at hc hc' h2
    rw [hc] at hc'
    cases hc'
    rw [h2]
    have h3 : ((List.range len).map A).getD i e0 = A i := by simp [List.getD, hi]
    rw [h3]
    have h4 := at_get (cells (A i)) j (by omega)
    rw [List.getElem?_eq_getElem (by omega)] at h4
    simpa using h4

theorem Trod.leafB {r : Reach} {b0 : Nat} {t : TypeId} {e : TypeDesc} {v : Value} {x : DataW H} {ps : List MemPlace} (ht : P.underlying t = some e) (hs : e.aggB = false) (h : DataW.Trod enc P W base sp held t v x ps) (hv : v.cells.toList = [v]) : ∃ B, LeafB enc P W base sp held B t v := by
  obtain ⟨fuel, hf⟩ := h
  exact ⟨fuel, fuel, _, Nat.le_refl _, by rw [← hv]; exact hf⟩
end
end Go.Gx
