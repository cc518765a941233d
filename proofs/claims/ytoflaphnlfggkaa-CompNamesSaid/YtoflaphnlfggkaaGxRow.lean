/-
  GX: what came in, opened: a flat aggregate cell by cell. Generic in the program.
-/
import Derived.Test.YtoflaphnlfggkaaGxEq
import Derived.ProofKit
import Derived.OpenShut
import Derived.ShutString
import Derived.ChangeOld
namespace Go.Gx
open Go.RowKit Go.ChangeShapes Go.WideShapes Go.ChangeAt

section
variable {H : Type} {enc : TypeId × Value → H} {P : Program} {W : World} {base : Nat} {sp : Nat → Bool} {held : Bool}

/-- A cell that reads as a value of type T. -/
def Leaf (enc : TypeId × Value → H) (P : Program) (W : World) (base : Nat) (sp : Nat → Bool) (held : Bool) (T : TypeId) (v : Value) : Prop := ∃ fuel x, DataW.trod enc P W base sp held fuel T [v] = some x

mutual
/-- The types of the cells of a type, in their order. -/
def leafT (P : Program) : Nat → TypeId → Option (List TypeId)
  | 0, _ => none
  | d + 1, t =>
    match P.underlying t with
    | some (.struct fs) => (leafF P d 0 fs.toList).bind fun l => if l.length = P.cellsOf t then some l else none
    | some (.array n e) => (leafT P d e).bind fun l => if l.length = P.cellsOf e ∧ n * l.length = P.cellsOf t then some (List.replicate n l).flatten else none
    | some _ => some [t]
    | none => none
def leafF (P : Program) : Nat → Nat → List Field → Option (List TypeId)
  | _, _, [] => some []
  | 0, _, _ => none
  | d + 1, off, f :: fs => if f.offset = off then (leafT P d f.type).bind fun l => if l.length = P.cellsOf f.type then (leafF P d (off + l.length) fs).map (l ++ ·) else none else none
end

inductive Leaves (enc : TypeId × Value → H) (P : Program) (W : World) (base : Nat) (sp : Nat → Bool) (held : Bool) : List TypeId → List Value → Prop
  | nil : Leaves enc P W base sp held [] []
  | cons {T : TypeId} {v : Value} {ts : List TypeId} {vs : List Value} : Leaf enc P W base sp held T v → Leaves enc P W base sp held ts vs → Leaves enc P W base sp held (T :: ts) (v :: vs)

theorem Leaves.append {a b : List TypeId} {c d : List Value} (h : Leaves enc P W base sp held a c) (k : Leaves enc P W base sp held b d) : Leaves enc P W base sp held (a ++ b) (c ++ d) := by
  induction h with
  | nil => exact k
  | cons h1 _ ih => exact .cons h1 ih

theorem Leaves.length {a : List TypeId} {c : List Value} (h : Leaves enc P W base sp held a c) : c.length = a.length := by
  induction h with
  | nil => rfl
  | cons _ _ ih => simp [ih]

theorem one_of_scal {d : Nat} {t : TypeId} {l : List TypeId} {e : TypeDesc} (he : P.underlying t = some e) (hs : e.aggB = false) (hl : leafT P (d + 1) t = some l) : l = [t] := by
  unfold leafT at hl
  rw [he] at hl
  cases e <;> simp [TypeDesc.aggB] at hs hl <;> exact hl.symm

theorem trod_one {fuel : Nat} {t : TypeId} {cs : List Value} {x : DataW H × List MemPlace} {e : TypeDesc} (he : P.underlying t = some e) (hs : e.aggB = false) (h : DataW.trod enc P W base sp held fuel t cs = some x) : ∃ v, cs = [v] := by
  cases fuel with
  | zero => simp [DataW.trod] at h
  | succ n =>
    unfold DataW.trod at h
    rw [he] at h
    cases e <;> simp [TypeDesc.aggB] at hs <;> (split at h <;> simp_all)

theorem leaves_of (d : Nat) : (∀ (t : TypeId) (l : List TypeId) (fuel : Nat) (cs : List Value) (x : DataW H × List MemPlace), leafT P d t = some l → DataW.trod enc P W base sp held fuel t cs = some x → Leaves enc P W base sp held l cs) ∧
    (∀ (fs : List Field) (off : Nat) (l : List TypeId) (n : Nat) (cs : List Value), leafF P d off fs = some l → cs.length = off + l.length → (∀ (i : Nat) (f : Field), fs[i]? = some f → ∃ x, DataW.trod enc P W base sp held n f.type ((cs.drop f.offset).take (P.cellsOf f.type)) = some x) →
      Leaves enc P W base sp held l (cs.drop off)) := by
  induction d with
  | zero =>
    refine ⟨fun t l _ _ _ h => by simp [leafT] at h, fun fs off l n cs h hl _ => ?_⟩
    cases fs with
    | nil =>
      simp [leafF] at h; subst h
      rw [List.drop_eq_nil_of_le (by simp at hl; omega)]
      exact .nil
    | cons f fs => simp [leafF] at h
  | succ d ih =>
    obtain ⟨ihT, ihF⟩ := ih
    constructor
    · intro t l fuel cs x hl h
      cases hu : P.underlying t with
      | none => unfold leafT at hl; rw [hu] at hl; cases hl
      | some e =>
        by_cases hs : e.aggB = false
        · have e1 := one_of_scal hu hs hl
          subst e1
          obtain ⟨v, rfl⟩ := trod_one hu hs h
          exact .cons ⟨fuel, x, h⟩ .nil
        · cases e <;> simp [TypeDesc.aggB] at hs
          case array n E =>
            unfold leafT at hl
            rw [hu] at hl
            simp only [Option.bind_eq_some_iff] at hl
            obtain ⟨le, h1, h2⟩ := hl
            split at h2
            · rename_i hlen
              simp at h2; subst h2
              obtain ⟨xs, m, _, _, hcl, hxl, hget⟩ := DataW.trod_array hu h
              have key : ∀ (k j : Nat), j + k = n → Leaves enc P W base sp held (List.replicate k le).flatten ((cs.drop (j * P.cellsOf E)).take (k * P.cellsOf E)) := by
                intro k
                induction k with
                | zero => intro j _; simp; exact .nil
                | succ k ihk =>
                  intro j hj
                  have hjn : j < n := by omega
                  have hg := hget j hjn
                  have hsome : ∃ y, xs[j]? = some y := ⟨xs[j], List.getElem?_eq_getElem (by omega)⟩
                  obtain ⟨y, hy⟩ := hsome
                  rw [hy] at hg
                  have h3 := ihT E le m _ y h1 hg
                  have h4 := ihk (j + 1) (by omega)
                  have e2 : (cs.drop (j * P.cellsOf E)).take ((k + 1) * P.cellsOf E) = (cs.drop (j * P.cellsOf E)).take (P.cellsOf E) ++ (cs.drop ((j + 1) * P.cellsOf E)).take (k * P.cellsOf E) := by
                    rw [Nat.add_mul k 1, Nat.one_mul, Nat.add_comm (k * P.cellsOf E), List.take_add, List.drop_drop, Nat.add_mul j 1, Nat.one_mul]
                  rw [List.replicate_succ, List.flatten_cons, e2]
                  exact h3.append h4
              have := key n 0 (by omega)
              simp only [Nat.zero_mul, List.drop_zero] at this
              have hc : cs.take (n * P.cellsOf E) = cs := by
                rw [List.take_of_length_le]
                rw [hcl, ← hlen.2, hlen.1]
                exact Nat.le_refl _
              rw [hc] at this
              exact this
            · cases h2
          case struct fs =>
            unfold leafT at hl
            rw [hu] at hl
            simp only [Option.bind_eq_some_iff] at hl
            obtain ⟨lf, hl, hl2⟩ := hl
            split at hl2
            rotate_left
            · cases hl2
            rename_i hlen
            simp only [Option.some.injEq] at hl2; subst hl2
            obtain ⟨xs, n, _, _, hcl, hxl, hget⟩ := DataW.trod_struct hu h
            have := ihF fs.toList 0 lf n cs hl (by rw [hcl, hlen]; omega) (fun i f hf => by
              have hg := hget i f (by simpa using hf)
              have hi : i < xs.length := by
                rw [hxl]
                rcases Nat.lt_or_ge i fs.size with h | h
                · exact h
                · rw [List.getElem?_eq_none (by simpa using h)] at hf; cases hf
              exact ⟨xs[i], by rw [hg]; exact List.getElem?_eq_getElem hi⟩)
            simpa using this
    · intro fs off l n cs hl hlen hget
      cases fs with
      | nil =>
        simp [leafF] at hl; subst hl
        rw [List.drop_eq_nil_of_le (by simp at hlen; omega)]
        exact .nil
      | cons f fs =>
        unfold leafF at hl
        split at hl
        · rename_i hoff
          simp only [Option.bind_eq_some_iff] at hl
          obtain ⟨lf, h1, h2⟩ := hl
          split at h2
          · rename_i hlf
            simp only [Option.map_eq_some_iff] at h2
            obtain ⟨lr, h3, rfl⟩ := h2
            obtain ⟨x, hx⟩ := hget 0 f (by simp)
            have h4 := ihT f.type lf n _ x h1 hx
            have h5 := ihF fs (off + lf.length) lr n cs h3 (by simp at hlen; omega) (fun i g hg => hget (i + 1) g (by simpa using hg))
            have e2 : cs.drop off = (cs.drop off).take (P.cellsOf f.type) ++ cs.drop (off + lf.length) := by
              rw [← hlf, ← List.drop_drop, List.take_append_drop]
            rw [e2]
            rw [hoff] at h4
            exact h4.append h5
          · cases h2
        · cases hl

/-- An aggregate that came in, cell by cell. -/
theorem open_leaves {t : TypeId} {l : List TypeId} {e : TypeDesc} {v : Value} {x : DataW H} {ps : List MemPlace} (d : Nat) (he : P.underlying t = some e) (ha : e.aggB = true) (hl : leafT P d t = some l) (hv : Value.okWide P W .any base t v)
    (h : DataW.Trod enc P W 0 sp held t v x ps) : ∃ cs, v = .agg cs ∧ Leaves enc P W 0 sp held l cs.toList := by
  obtain ⟨fuel, hf⟩ := h
  have hcs : ∃ cs, v = .agg cs := by
    unfold Value.okWide at hv
    rw [he] at hv
    cases e <;> simp [TypeDesc.aggB] at ha <;> exact ⟨_, hv.choose_spec.1⟩
  obtain ⟨cs, rfl⟩ := hcs
  exact ⟨cs, rfl, (leaves_of d).1 t l fuel cs.toList _ hl hf⟩

theorem Leaves.inv {T : TypeId} {ts : List TypeId} {vs : List Value} (h : Leaves enc P W base sp held (T :: ts) vs) : ∃ v r, vs = v :: r ∧ Leaf enc P W base sp held T v ∧ Leaves enc P W base sp held ts r := by
  cases h with
  | cons h1 h2 => exact ⟨_, _, rfl, h1, h2⟩

theorem Leaves.inv0 {vs : List Value} (h : Leaves enc P W base sp held [] vs) : vs = [] := by
  cases h; rfl

theorem Leaf.int {T : TypeId} {v : Value} {k : IntKind} (h : Leaf enc P W base sp held T v) (hT : P.underlying T = some (.int k)) : ∃ n, v = .int k n ∧ (Lit.int k n).wf = true := by
  obtain ⟨f, x, h⟩ := h
  obtain ⟨n, h1, _, h2⟩ := DataW.trod_int hT h
  simp at h1
  exact ⟨n, h1, h2⟩

theorem Leaf.bool {T : TypeId} {v : Value} (h : Leaf enc P W base sp held T v) (hT : P.underlying T = some .bool) : ∃ b, v = .bool b := by
  obtain ⟨f, x, h⟩ := h
  obtain ⟨b, h1, _⟩ := DataW.trod_bool hT h
  simp at h1
  exact ⟨b, h1⟩

theorem Leaf.string {T : TypeId} {v : Value} (h : Leaf enc P W base sp held T v) (hT : P.underlying T = some .string) : ∃ s : ByteArray, v = .string s ∧ s.size ≤ maxLen := by
  obtain ⟨f, x, h⟩ := h
  obtain ⟨b, h1, _, h2⟩ := DataW.trod_string hT h
  simp at h1
  exact ⟨b, h1, h2⟩

/-- A row of numbers of one kind. -/
theorem Leaves.ints {k : IntKind} : ∀ {ts : List TypeId} {vs : List Value}, Leaves enc P W base sp held ts vs → (∀ t ∈ ts, P.underlying t = some (.int k)) → ∃ l : List Int, vs = l.map (Value.int k) ∧ l.length = ts.length ∧ ∀ n ∈ l, (Lit.int k n).wf = true
  | _, _, .nil, _ => ⟨[], rfl, rfl, by simp⟩
  | _, _, .cons h1 h2, hk => by
    obtain ⟨n, rfl, hn⟩ := h1.int (hk _ (by simp))
    obtain ⟨l, rfl, hl, hw⟩ := h2.ints (fun t ht => hk t (by simp [ht]))
    exact ⟨n :: l, rfl, by simp [hl], by simpa using ⟨hn, hw⟩⟩

theorem aggF_ints (k : IntKind) (l : List Int) : Value.agg (l.map (Value.int k)).toArray = aggF l.length (fun i => Value.int k (l.getD i 0)) := by
  unfold aggF
  congr 2
  apply List.ext_getElem?
  intro i
  by_cases h : i < l.length
  · rw [row_get _ _ _ _ h]; simp [h]
  · rw [List.getElem?_eq_none (by simpa using h), List.getElem?_eq_none (by rw [row_length]; omega)]

end

theorem ret_true {P : Program} {f : FuncId} {args : Array Value} {w : World} (h : Calls P f args w (Ret fun r w' => r = .bool true ∧ Since nX w w')) : Calls P f args w (fun e w' => e = .returned (.bool true) ∧ Below w.heap.size w w') := by
  refine h.mono (fun e w' hR => ?_)
  cases e with
  | returned r => exact ⟨by rw [hR.1], hR.2.below⟩
  | panicked c => exact hR.elim
  | outgrown => exact hR.elim

end Go.Gx
