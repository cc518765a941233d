/-
  GX: '==' on flat values (numbers, truths, strings, and arrays and structs of such), cell by cell. Generic in the program.
-/
import Derived.Test.YtoflaphnlfggkaaGxRow
namespace Go.Gx
open Go.RowKit

def cEq : Value → Value → Bool
  | .int _ a, .int _ b => decide (a = b)
  | .bool a, .bool b => decide (a = b)
  | .string a, .string b => a.toList == b.toList
  | _, _ => false

def csEq : List Value → List Value → Bool
  | [], [] => true
  | a :: s, b :: t => cEq a b && csEq s t
  | _, _ => false

theorem csEq_append : ∀ (a b c d : List Value), a.length = b.length → csEq (a ++ c) (b ++ d) = (csEq a b && csEq c d)
  | [], [], _, _, _ => by simp [csEq]
  | x :: a, y :: b, c, d, h => by simp [csEq, csEq_append a b c d (by simpa using h), Bool.and_assoc]
  | [], _ :: _, _, _, h => by simp at h
  | _ :: _, [], _, _, h => by simp at h

section
variable {P : Program}

inductive CellIs (P : Program) (T : TypeId) : Value → Prop
  | int {k : IntKind} {n : Int} : P.underlying T = some (.int k) → CellIs P T (.int k n)
  | bool {b : Bool} : P.underlying T = some .bool → CellIs P T (.bool b)
  | string {s : ByteArray} : P.underlying T = some .string → CellIs P T (.string s)

inductive CellsAre (P : Program) : List TypeId → List Value → Prop
  | nil : CellsAre P [] []
  | cons {T : TypeId} {v : Value} {ts : List TypeId} {vs : List Value} : CellIs P T v → CellsAre P ts vs → CellsAre P (T :: ts) (v :: vs)

theorem CellsAre.length {ts : List TypeId} {vs : List Value} (h : CellsAre P ts vs) : vs.length = ts.length := by
  induction h with
  | nil => rfl
  | cons _ _ ih => simp [ih]

theorem CellsAre.split {b : List TypeId} : ∀ {a : List TypeId} {vs : List Value}, CellsAre P (a ++ b) vs → CellsAre P a (vs.take a.length) ∧ CellsAre P b (vs.drop a.length)
  | [], vs, h => by simpa using ⟨CellsAre.nil, h⟩
  | T :: a, vs, h => by
    simp only [List.cons_append] at h
    cases h with
    | cons h1 h2 =>
      obtain ⟨h3, h4⟩ := CellsAre.split h2
      exact ⟨by simpa using CellsAre.cons h1 h3, by simpa using h4⟩

/-- The value of type T whose cells are these. -/
def mkV (P : Program) (T : TypeId) (cs : List Value) : Value := if (P.underlying T).any TypeDesc.aggB then .agg cs.toArray else cs.getD 0 undef

mutual
/-- No struct on the way is one that '==' looks at otherwise. -/
def eqT (P : Program) : Nat → TypeId → Bool
  | 0, _ => false
  | d + 1, t =>
    match P.underlying t with
    | some (.struct fs) => !P.stoodInHeld t && eqF P d fs.toList
    | some (.array _ e) => eqT P d e
    | _ => true
def eqF (P : Program) : Nat → List Field → Bool
  | _, [] => true
  | 0, _ => false
  | d + 1, f :: fs => !(f.name == "_") && eqT P d f.type && eqF P d fs
end

theorem part_mkV {T : TypeId} {cs : List Value} {off n : Nat} {e : TypeDesc} (hT : P.underlying T = some e) (hn : SzIs P T n) (h1 : e.aggB = false → n = 1) (hl : off + n ≤ cs.length) : PartIs P T cs.toArray off (mkV P T ((cs.drop off).take n)) := by
  intro w
  cases ha : e.aggB with
  | false =>
    have := h1 ha
    subst this
    have hlt : off < cs.length := by omega
    have e1 : cs.toArray[off]? = some (((cs.drop off).take 1).getD 0 undef) := by simp [hlt]
    simp only [mkV, hT, Option.any_some, ha, Bool.false_eq_true, if_false]
    exact part_scal hT ha e1 w
  | true =>
    simp only [mkV, hT, Option.any_some, ha, if_true]
    simp [part, run_isAgg hT, ha, hn.run]

theorem sz_leaf {d : Nat} {T : TypeId} {l : List TypeId} {e : TypeDesc} (hT : P.underlying T = some e) (hl : leafT P d T = some l) (ha : e.aggB = true) : l.length = P.cellsOf T := by
  cases d with
  | zero => simp [leafT] at hl
  | succ d =>
    unfold leafT at hl
    rw [hT] at hl
    cases e <;> simp [TypeDesc.aggB] at ha
    case struct fs =>
      simp only [Option.bind_eq_some_iff] at hl
      obtain ⟨l', _, h2⟩ := hl
      split at h2
      · rename_i h; simp at h2; subst h2; exact h
      · cases h2
    case array n E =>
      simp only [Option.bind_eq_some_iff] at hl
      obtain ⟨l', _, h2⟩ := hl
      split at h2
      · rename_i h; simp at h2; subst h2; simpa using h.2
      · cases h2

theorem sz_info {T : TypeId} {e : TypeDesc} (hT : P.underlying T = some e) : SzIs P T (P.cellsOf T) := by
  obtain ⟨i, hi⟩ := info_of_underlying hT
  simp [SzIs, Program.cellsOf, hi]

theorem eqr_scal {d : Nat} {T : TypeId} {v u : Value} (hv : CellIs P T v) (hu : CellIs P T u) : EqRun P (d + 1) T v u (cEq v u) := by
  intro w
  cases hv with
  | int h =>
    cases hu with
    | int h' =>
      have e := h.symm.trans h'
      simp only [Option.some.injEq, TypeDesc.int.injEq] at e
      subst e
      exact run_equalIn_int w d T _ _ _ _ h
    | bool h' => rw [h] at h'; cases h'
    | string h' => rw [h] at h'; cases h'
  | bool h =>
    cases hu with
    | int h' => rw [h] at h'; cases h'
    | bool h' => exact eqr_bool h w
    | string h' => rw [h] at h'; cases h'
  | string h =>
    cases hu with
    | int h' => rw [h] at h'; cases h'
    | bool h' => rw [h] at h'; cases h'
    | string h' => exact run_equalIn_string w d T _ _ h

theorem eqr_flat (d : Nat) : (∀ (T : TypeId) (l : List TypeId) (cs cs' : List Value) (m : Nat), leafT P d T = some l → eqT P d T = true → d ≤ m → CellsAre P l cs → CellsAre P l cs' → EqRun P m T (mkV P T cs) (mkV P T cs') (csEq cs cs')) ∧
    (∀ (fs : List Field) (off : Nat) (l : List TypeId) (cs cs' : List Value) (m : Nat), leafF P d off fs = some l → eqF P d fs = true → d ≤ m → cs.length = off + l.length → cs'.length = off + l.length → CellsAre P l (cs.drop off) → CellsAre P l (cs'.drop off) →
      ∀ w, (Op.eqFields m cs.toArray cs'.toArray fs).run P w = .ok (csEq (cs.drop off) (cs'.drop off)) w) := by
  induction d with
  | zero =>
    refine ⟨fun T l _ _ _ h => by simp [leafT] at h, fun fs off l cs cs' m h _ _ hl hl' _ _ w => ?_⟩
    cases fs with
    | nil =>
      simp [leafF] at h; subst h
      rw [List.drop_eq_nil_of_le (by simp at hl; omega), List.drop_eq_nil_of_le (by simp at hl'; omega)]
      rfl
    | cons f fs => simp [leafF] at h
  | succ d ih =>
    obtain ⟨ihT, ihF⟩ := ih
    constructor
    · intro T l cs cs' m hl he hm hc hc'
      obtain ⟨m, rfl⟩ : ∃ k, m = k + 1 := ⟨m - 1, by omega⟩
      cases hu : P.underlying T with
      | none => unfold leafT at hl; rw [hu] at hl; cases hl
      | some e =>
        by_cases hs : e.aggB = false
        · have e1 := one_of_scal hu hs hl
          subst e1
          cases hc with
          | cons h1 h2 =>
            cases h2
            cases hc' with
            | cons h1' h2' =>
              cases h2'
              have := eqr_scal (d := m) h1 h1'
              simpa [mkV, hu, hs, csEq] using this
        · have hagg : e.aggB = true := by simpa using hs
          have hlen := sz_leaf hu hl hagg
          have hmk : ∀ cs, mkV P T cs = .agg cs.toArray := fun cs => by simp [mkV, hu, hagg]
          rw [hmk, hmk]
          cases e <;> simp [TypeDesc.aggB] at hs
          case array n E =>
            unfold leafT at hl
            rw [hu] at hl
            simp only [Option.bind_eq_some_iff] at hl
            obtain ⟨le, h1, h2⟩ := hl
            split at h2
            rotate_left
            · cases h2
            rename_i hle
            simp at h2; subst h2
            unfold eqT at he
            rw [hu] at he
            have hE : ∃ eE, P.underlying E = some eE := by
              cases hE : P.underlying E with
              | none => cases d with
                | zero => simp [leafT] at h1
                | succ d => unfold leafT at h1; rw [hE] at h1; cases h1
              | some eE => exact ⟨eE, rfl⟩
            obtain ⟨eE, hE⟩ := hE
            have hszE := sz_info hE
            have hone : eE.aggB = false → P.cellsOf E = 1 := fun hf => by
              cases d with
              | zero => simp [leafT] at h1
              | succ d => have := one_of_scal hE hf h1; rw [← hle.1, this]; rfl
            have hcl : cs.length = n * P.cellsOf E := by rw [hc.length]; simp [hle.1]
            have hcl' : cs'.length = n * P.cellsOf E := by rw [hc'.length]; simp [hle.1]
            obtain ⟨i, hi, hcell⟩ := hszE.info
            intro w
            rw [run_equalIn_array w m cs.toArray cs'.toArray hu hi, List.range_eq_range']
            have key : ∀ (k j : Nat) (w : World), j + k = n → CellsAre P (List.replicate k le).flatten (cs.drop (j * P.cellsOf E)) → CellsAre P (List.replicate k le).flatten (cs'.drop (j * P.cellsOf E)) →
                (Op.eqItems m E (P.cellsOf E) cs.toArray cs'.toArray (List.range' j k)).run P w = .ok (csEq (cs.drop (j * P.cellsOf E)) (cs'.drop (j * P.cellsOf E))) w := by
              intro k
              induction k with
              | zero =>
                intro j w hj _ _
                have hj' : j = n := by omega
                subst hj'
                rw [List.drop_eq_nil_of_le (by omega), List.drop_eq_nil_of_le (by omega)]
                rfl
              | succ k ihk =>
                intro j w hj hc hc'
                rw [List.replicate_succ, List.flatten_cons] at hc hc'
                obtain ⟨a1, a2⟩ := hc.split
                obtain ⟨b1, b2⟩ := hc'.split
                rw [hle.1] at a1 a2 b1 b2
                rw [List.drop_drop] at a2 b2
                have ej : j * P.cellsOf E + P.cellsOf E = (j + 1) * P.cellsOf E := by rw [Nat.add_mul, Nat.one_mul]
                have hb : j * P.cellsOf E + P.cellsOf E ≤ n * P.cellsOf E := by rw [ej]; exact Nat.mul_le_mul_right _ (by omega)
                rw [ej] at a2 b2
                have p1 := part_mkV (cs := cs) (off := j * P.cellsOf E) hE hszE hone (by omega)
                have p2 := part_mkV (cs := cs') (off := j * P.cellsOf E) hE hszE hone (by omega)
                have r1 := ihT E le _ _ m h1 he (by omega) a1 b1
                have e3 : csEq (cs.drop (j * P.cellsOf E)) (cs'.drop (j * P.cellsOf E)) = (csEq ((cs.drop (j * P.cellsOf E)).take (P.cellsOf E)) ((cs'.drop (j * P.cellsOf E)).take (P.cellsOf E)) && csEq (cs.drop ((j + 1) * P.cellsOf E)) (cs'.drop ((j + 1) * P.cellsOf E))) := by
                  rw [← csEq_append _ _ _ _ (by simp; omega), ← ej, ← List.drop_drop, ← List.drop_drop, List.take_append_drop, List.take_append_drop]
                simp only [List.range'_succ, Op.eqItems, Sem.run_bind, p1 w, p2 w, r1 w, Result.andThen_ok]
                rw [e3]
                cases csEq ((cs.drop (j * P.cellsOf E)).take (P.cellsOf E)) ((cs'.drop (j * P.cellsOf E)).take (P.cellsOf E)) with
                | false => simp
                | true => simpa using ihk (j + 1) w (by omega) a2 b2
            have := key n 0 w (by omega) (by simpa using hc) (by simpa using hc')
            simpa using this
          case struct fs =>
            unfold leafT at hl
            rw [hu] at hl
            simp only [Option.bind_eq_some_iff] at hl
            obtain ⟨lf, h1, h2⟩ := hl
            split at h2
            rotate_left
            · cases h2
            simp at h2; subst h2
            unfold eqT at he
            rw [hu] at he
            simp only [Bool.and_eq_true, Bool.not_eq_true'] at he
            refine eqr_struct hu he.1 (fun w => ?_)
            have := ihF fs.toList 0 lf cs cs' m h1 he.2 (by omega) (by simp [hc.length]) (by simp [hc'.length]) (by simpa using hc) (by simpa using hc') w
            simpa using this
    · intro fs off l cs cs' m hl he hm hlen hlen' hc hc' w
      cases fs with
      | nil =>
        simp [leafF] at hl; subst hl
        rw [List.drop_eq_nil_of_le (by simp at hlen; omega), List.drop_eq_nil_of_le (by simp at hlen'; omega)]
        rfl
      | cons f fs =>
        unfold leafF at hl
        split at hl
        rotate_left
        · cases hl
        rename_i hoff
        simp only [Option.bind_eq_some_iff] at hl
        obtain ⟨lf, h1, h2⟩ := hl
        split at h2
        rotate_left
        · cases h2
        rename_i hlf
        simp only [Option.map_eq_some_iff] at h2
        obtain ⟨lr, h3, rfl⟩ := h2
        unfold eqF at he
        simp only [Bool.and_eq_true, Bool.not_eq_true'] at he
        obtain ⟨⟨hn, heT⟩, heF⟩ := he
        have hE : ∃ eE, P.underlying f.type = some eE := by
          cases hE : P.underlying f.type with
          | none => cases d with
            | zero => simp [leafT] at h1
            | succ d => unfold leafT at h1; rw [hE] at h1; cases h1
          | some eE => exact ⟨eE, rfl⟩
        obtain ⟨eE, hE⟩ := hE
        have hszE := sz_info hE
        have hone : eE.aggB = false → P.cellsOf f.type = 1 := fun hf => by
          cases d with
          | zero => simp [leafT] at h1
          | succ d => have := one_of_scal hE hf h1; rw [← hlf, this]; rfl
        obtain ⟨a1, a2⟩ := hc.split
        obtain ⟨b1, b2⟩ := hc'.split
        rw [hlf] at a1 b1
        rw [List.drop_drop] at a2 b2
        simp only [List.length_append] at hlen hlen'
        have p1 := part_mkV (cs := cs) (off := f.offset) hE hszE hone (by omega)
        have p2 := part_mkV (cs := cs') (off := f.offset) hE hszE hone (by omega)
        rw [hoff] at p1 p2
        have r1 := ihT f.type lf _ _ m h1 heT (by omega) a1 b1
        have r2 := ihF fs (off + lf.length) lr cs cs' m h3 heF (by omega) (by omega) (by omega) a2 b2
        have e3 : csEq (cs.drop off) (cs'.drop off) = (csEq ((cs.drop off).take (P.cellsOf f.type)) ((cs'.drop off).take (P.cellsOf f.type)) && csEq (cs.drop (off + lf.length)) (cs'.drop (off + lf.length))) := by
          rw [← csEq_append _ _ _ _ (by simp; omega), hlf, ← List.drop_drop, ← List.drop_drop, List.take_append_drop, List.take_append_drop]
        have := eqf_cons (d := m) (c := cs.toArray) (c' := cs'.toArray) (f := f) (fs := fs) hn (by rw [hoff]; exact p1) (by rw [hoff]; exact p2) r1 r2 w
        rw [e3]
        exact this

/-- '==' at a flat aggregate. -/
theorem eq_flat {T : TypeId} {l : List TypeId} {e : TypeDesc} {cs cs' : List Value} (hT : P.underlying T = some e) (ha : e.aggB = true) (hl : leafT P 9 T = some l) (he : eqT P 9 T = true) (hg : P.eqGuardType P.depth T = false) (hc : CellsAre P l cs) (hc' : CellsAre P l cs') :
    EqIs P T (.agg cs.toArray) (.agg cs'.toArray) (csEq cs cs') := by
  have h := (eqr_flat (P := P) 9).1 T l cs cs' 10000 hl he (by omega) hc hc'
  have hmk : ∀ cs, mkV P T cs = .agg cs.toArray := fun cs => by simp [mkV, hT, ha]
  rw [hmk, hmk] at h
  exact EqIs.of h _ _ rfl rfl hg

end

section
variable {P : Program} {N : Nat} {X : Nat → Prop} {w0 : World} {G : Ghost} {l : List (Nat × Value)} {L : List Asrt} {d : Nat} {ty : TypeId} {pos : String} {after : Array Edge} {gd : Option (Nat × Bool)} {x y : Operand}

theorem p_eqb {T U : TypeId} {a b : Bool} (hT : P.underlying T = some .bool) (hx : ev l x = some (.bool a)) (hy : ev l y = some (.bool b)) :
    PV P N X w0 G l L ⟨some d, .binOp .eql T x y U, ty, pos, after, gd⟩ (.bool (decide (a = b))) := by
  intro ac w hS
  have e : (binOp .eql T (.bool a) (.bool b)).run P w = .ok (.bool (decide (a = b))) w := by
    have h1 : binOp .eql T (.bool a) (.bool b) = (do pure (.bool (← Op.equal T (.bool a) (.bool b)))) := rfl
    have h2 : (Op.equal T (.bool a) (.bool b)).run P w = .ok (decide (a = b)) w := eqr_bool (d := 9999) hT w
    rw [h1]; simp [h2]
  simp only [execOp, hS.fr.eval hx, hS.fr.eval hy]
  simp [eqGuard_at_bool, e]

theorem p_neb {T U : TypeId} {a b : Bool} (hT : P.underlying T = some .bool) (hx : ev l x = some (.bool a)) (hy : ev l y = some (.bool b)) :
    PV P N X w0 G l L ⟨some d, .binOp .neq T x y U, ty, pos, after, gd⟩ (.bool (!decide (a = b))) := by
  intro ac w hS
  have e : (binOp .neq T (.bool a) (.bool b)).run P w = .ok (.bool (!decide (a = b))) w := by
    have h1 : binOp .neq T (.bool a) (.bool b) = (do pure (.bool (!(← Op.equal T (.bool a) (.bool b))))) := rfl
    have h2 : (Op.equal T (.bool a) (.bool b)).run P w = .ok (decide (a = b)) w := eqr_bool (d := 9999) hT w
    rw [h1]; simp [h2]
  simp only [execOp, hS.fr.eval hx, hS.fr.eval hy]
  simp [eqGuard_at_bool, e]

end
end Go.Gx
