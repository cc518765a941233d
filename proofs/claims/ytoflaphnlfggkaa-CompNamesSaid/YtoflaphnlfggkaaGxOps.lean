/-
  GX, the steps: one lemma for each operation and each form of code. Generic in the program.
-/
import Derived.Test.YtoflaphnlfggkaaGx
namespace Go.Gx
open Go.RowKit

structure St (N : Nat) (X : Nat → Prop) (w0 : World) (G : Ghost) (l : List (Nat × Value)) (L : List Asrt) (a : Act) (w : World) : Prop where
  fr : Fr N a l
  mem : Mem X w0 G w L

def Runs (P : Program) (ops : Array Oper) (Q : Exit → Act → World → Prop) (N : Nat) (X : Nat → Prop) (w0 : World) (G : Ghost) (rest : List Oper) (l : List (Nat × Value)) (L : List Asrt) : Prop :=
  ∀ a w, St N X w0 G l L a w → wpList P ops Q rest a w

def CRuns (P : Program) (c : Code) (Q : Exit → Act → World → Prop) (N : Nat) (X : Nat → Prop) (w0 : World) (G : Ghost) (l : List (Nat × Value)) (L : List Asrt) : Prop :=
  ∀ a w, St N X w0 G l L a w → c.wp P Q a w

def ERuns (Q : Exit → Act → World → Prop) (e : Exit) (N : Nat) (X : Nat → Prop) (w0 : World) (G : Ghost) (l : List (Nat × Value)) (L : List Asrt) : Prop :=
  ∀ a w, St N X w0 G l L a w → Q e a w

/-- An operation that yields this value and leaves the world alone. -/
def PV (P : Program) (N : Nat) (X : Nat → Prop) (w0 : World) (G : Ghost) (l : List (Nat × Value)) (L : List Asrt) (o : Oper) (v : Value) : Prop :=
  ∀ a w, St N X w0 G l L a w → (execOp a.eval o).run P w = .ok (.value v) w

inductive Wt (ops : Array Oper) (l : List (Nat × Value)) : Option (Nat × Bool) → Prop
  | none : Wt ops l none
  | some {j : Nat} {want : Bool} {e : Nat} : (ops[j]?).bind (·.dst) = some e → lk l e = some (.bool want) → Wt ops l (some (j, want))

inductive Nw (ops : Array Oper) (l : List (Nat × Value)) : Option (Nat × Bool) → Prop
  | no {j : Nat} {want : Bool} {e : Nat} : (ops[j]?).bind (·.dst) = some e → lk l e = some (.bool (!want)) → Nw ops l (some (j, want))
  | un {j : Nat} {want : Bool} {e : Nat} : (ops[j]?).bind (·.dst) = some e → lk l e = some undef → Nw ops l (some (j, want))

section
variable {P : Program} {ops : Array Oper} {Q : Exit → Act → World → Prop} {N : Nat} {X : Nat → Prop} {w0 : World} {G : Ghost} {l : List (Nat × Value)} {L : List Asrt}
variable {o : Oper} {rest : List Oper} {d : Nat} {ty : TypeId} {pos : String} {after : Array Edge} {gd : Option (Nat × Bool)} {x y z : Operand} {v u : Value}

theorem Wt.wanted {a : Act} (hF : Fr N a l) (h : Wt ops l o.guard) : Region.wanted o (yielded ops a.tmps) = true := by
  generalize hg : o.guard = g at h
  cases h with
  | none => simp [Region.wanted, hg]
  | some h1 h2 =>
    have := hF.get _ _ h2
    simp [Region.wanted, hg, yielded, h1, this]

theorem Nw.not {a : Act} (hF : Fr N a l) (h : Nw ops l o.guard) : Region.wanted o (yielded ops a.tmps) = false := by
  generalize hg : o.guard = g at h
  cases h with
  | @no j want e h1 h2 =>
    have := hF.get _ _ h2
    cases want <;> simp [Region.wanted, hg, yielded, h1, this]
  | un h1 h2 =>
    have := hF.get _ _ h2
    simp [Region.wanted, hg, yielded, h1, this, undef]

theorem Runs.step (hw : Wt ops l o.guard) (h : ∀ a w, St N X w0 G l L a w → o.wp P a w (fun a' w' => wpList P ops Q rest a' w') Q) : Runs P ops Q N X w0 G (o :: rest) l L := by
  intro a w hS
  unfold wpList
  rw [if_pos (hw.wanted hS.fr)]
  exact .inl (h a w hS)

theorem r_skip (hd : Nat.blt d N = true) (hw : Nw ops l gd) {op : Op} (h : Runs P ops Q N X w0 G rest ((d, undef) :: l) L) : Runs P ops Q N X w0 G (⟨some d, op, ty, pos, after, gd⟩ :: rest) l L := by
  intro a w hS
  unfold wpList
  rw [if_neg (by rw [Nw.not (o := ⟨some d, op, ty, pos, after, gd⟩) hS.fr hw]; simp)]
  exact h _ _ ⟨hS.fr.put (by simpa using hd) undef, hS.mem⟩

theorem r_skip0 (hw : Nw ops l gd) {op : Op} (h : Runs P ops Q N X w0 G rest l L) : Runs P ops Q N X w0 G (⟨none, op, ty, pos, after, gd⟩ :: rest) l L := by
  intro a w hS
  unfold wpList
  rw [if_neg (by rw [Nw.not (o := ⟨none, op, ty, pos, after, gd⟩) hS.fr hw]; simp)]
  exact h _ _ hS

/-- An operation that yields a value and leaves the world alone. -/
theorem r_val {op : Op} (hw : Wt ops l gd) (hd : Nat.blt d N = true)
    (hrun : PV P N X w0 G l L ⟨some d, op, ty, pos, after, gd⟩ v)
    (h : Runs P ops Q N X w0 G rest ((d, v) :: l) L) : Runs P ops Q N X w0 G (⟨some d, op, ty, pos, after, gd⟩ :: rest) l L := by
  refine Runs.step hw (fun a w hS => ?_)
  show Oper.upon P _ a _ Q _
  rw [hrun a w hS, Oper.upon_value]
  exact h _ _ ⟨hS.fr.put (by simpa using hd) v, hS.mem⟩

/-- An operation that yields a value and brings the world on. -/
theorem r_valw {op : Op} {l' : List (Nat × Value)} {L' : List Asrt} {G' : Ghost} (hw : Wt ops l gd)
    (hrun : ∀ a w, St N X w0 G l L a w → ∃ v w', (execOp a.eval ⟨some d, op, ty, pos, after, gd⟩).run P w = .ok (.value v) w' ∧ St N X w0 G' l' L' (a.put (some d) v) w')
    (h : Runs P ops Q N X w0 G' rest l' L') : Runs P ops Q N X w0 G (⟨some d, op, ty, pos, after, gd⟩ :: rest) l L := by
  refine Runs.step hw (fun a w hS => ?_)
  show Oper.upon P _ a _ Q _
  obtain ⟨v, w', hr, hS'⟩ := hrun a w hS
  rw [hr, Oper.upon_value]
  exact h _ _ hS'

theorem r_nil (h : ERuns Q .normal N X w0 G l L) : Runs P ops Q N X w0 G [] l L := fun a w hS => h a w hS

theorem p_move (hx : ev l x = some v) : PV P N X w0 G l L ⟨some d, .move x, ty, pos, after, gd⟩ v :=
  fun a w hS => by simp only [execOp, hS.fr.eval hx]; rfl

theorem p_assign (hx : ev l x = some v) : PV P N X w0 G l L ⟨some d, .assign x, ty, pos, after, gd⟩ v :=
  fun a w hS => by simp only [execOp, hS.fr.eval hx]; rfl

theorem p_pick_t (hx : ev l x = some (.bool true)) (hy : ev l y = some v) : PV P N X w0 G l L ⟨some d, .pick x y z, ty, pos, after, gd⟩ v :=
  fun a w hS => by simp only [execOp, hS.fr.eval hx, hS.fr.eval hy]; rfl

theorem p_pick_f (hx : ev l x = some (.bool false)) (hz : ev l z = some v) : PV P N X w0 G l L ⟨some d, .pick x y z, ty, pos, after, gd⟩ v :=
  fun a w hS => by simp only [execOp, hS.fr.eval hx, hS.fr.eval hz]; rfl

/-- A slot with a truth: either way. -/
theorem r_split {b : Bool} (hx : lk l d = some (.bool b)) (ht : b = true → Runs P ops Q N X w0 G rest ((d, .bool true) :: l) L) (hf : b = false → Runs P ops Q N X w0 G rest ((d, .bool false) :: l) L) :
    Runs P ops Q N X w0 G rest l L := by
  intro a w hS
  cases b with
  | true => exact ht rfl a w ⟨hS.fr.say hx, hS.mem⟩
  | false => exact hf rfl a w ⟨hS.fr.say hx, hS.mem⟩

theorem r_say (hx : lk l d = some v) (h : Runs P ops Q N X w0 G rest ((d, v) :: l) L) : Runs P ops Q N X w0 G rest l L :=
  fun a w hS => h a w ⟨hS.fr.say hx, hS.mem⟩

/-! ### numbers and truths -/

theorem wrap_i64 {n : Int} (h : -9223372036854775808 ≤ n ∧ n ≤ 9223372036854775807) : IntKind.i64.wrap n = n := by
  rw [IntKind.wrap_i64]; omega

theorem p_add {m n : Int} (hx : ev l x = some (.int .i64 m)) (hy : ev l y = some (.int .i64 n)) (hb : -9223372036854775808 ≤ m + n ∧ m + n ≤ 9223372036854775807)
    {T U : TypeId} : PV P N X w0 G l L ⟨some d, .binOp .add T x y U, ty, pos, after, gd⟩ (.int .i64 (m + n)) :=
  fun a w hS => by
    simp only [execOp, hS.fr.eval hx, hS.fr.eval hy]
    simp [go_sem, Op.intArith, wrap_i64 hb]

theorem p_sub {m n : Int} (hx : ev l x = some (.int .i64 m)) (hy : ev l y = some (.int .i64 n)) (hb : -9223372036854775808 ≤ m - n ∧ m - n ≤ 9223372036854775807)
    {T U : TypeId} : PV P N X w0 G l L ⟨some d, .binOp .sub T x y U, ty, pos, after, gd⟩ (.int .i64 (m - n)) :=
  fun a w hS => by
    simp only [execOp, hS.fr.eval hx, hS.fr.eval hy]
    simp [go_sem, Op.intArith, wrap_i64 hb]

theorem p_mul {m n : Int} (hx : ev l x = some (.int .i64 m)) (hy : ev l y = some (.int .i64 n)) (hb : -9223372036854775808 ≤ m * n ∧ m * n ≤ 9223372036854775807)
    {T U : TypeId} : PV P N X w0 G l L ⟨some d, .binOp .mul T x y U, ty, pos, after, gd⟩ (.int .i64 (m * n)) :=
  fun a w hS => by
    simp only [execOp, hS.fr.eval hx, hS.fr.eval hy]
    simp [go_sem, Op.intArith, wrap_i64 hb]

theorem p_eq {k : IntKind} {m n : Int} (hx : ev l x = some (.int k m)) (hy : ev l y = some (.int k n))
    {T U : TypeId} : PV P N X w0 G l L ⟨some d, .binOp .eql T x y U, ty, pos, after, gd⟩ (.bool (decide (m = n))) :=
  fun a w hS => by
    simp only [execOp, hS.fr.eval hx, hS.fr.eval hy]
    simp [go_sem]
    rfl

theorem p_ne {k : IntKind} {m n : Int} (hx : ev l x = some (.int k m)) (hy : ev l y = some (.int k n))
    {T U : TypeId} : PV P N X w0 G l L ⟨some d, .binOp .neq T x y U, ty, pos, after, gd⟩ (.bool (decide (m ≠ n))) :=
  fun a w hS => by
    simp only [execOp, hS.fr.eval hx, hS.fr.eval hy]
    simp only [go_sem]
    have : (m != n) = decide (m ≠ n) := by simp [bne, decide_not]; rfl
    simp [this]

theorem p_lt {k : IntKind} {m n : Int} (hx : ev l x = some (.int k m)) (hy : ev l y = some (.int k n))
    {T U : TypeId} : PV P N X w0 G l L ⟨some d, .binOp .lss T x y U, ty, pos, after, gd⟩ (.bool (decide (m < n))) :=
  fun a w hS => by
    simp only [execOp, hS.fr.eval hx, hS.fr.eval hy]
    simp [go_sem]

theorem p_le {k : IntKind} {m n : Int} (hx : ev l x = some (.int k m)) (hy : ev l y = some (.int k n))
    {T U : TypeId} : PV P N X w0 G l L ⟨some d, .binOp .leq T x y U, ty, pos, after, gd⟩ (.bool (decide (m ≤ n))) :=
  fun a w hS => by
    simp only [execOp, hS.fr.eval hx, hS.fr.eval hy]
    simp [go_sem]

theorem p_gt {k : IntKind} {m n : Int} (hx : ev l x = some (.int k m)) (hy : ev l y = some (.int k n))
    {T U : TypeId} : PV P N X w0 G l L ⟨some d, .binOp .gtr T x y U, ty, pos, after, gd⟩ (.bool (decide (n < m))) :=
  fun a w hS => by
    simp only [execOp, hS.fr.eval hx, hS.fr.eval hy]
    simp [go_sem]

theorem p_ge {k : IntKind} {m n : Int} (hx : ev l x = some (.int k m)) (hy : ev l y = some (.int k n))
    {T U : TypeId} : PV P N X w0 G l L ⟨some d, .binOp .geq T x y U, ty, pos, after, gd⟩ (.bool (decide (n ≤ m))) :=
  fun a w hS => by
    simp only [execOp, hS.fr.eval hx, hS.fr.eval hy]
    simp [go_sem]

theorem p_not {b : Bool} (hx : ev l x = some (.bool b)) {T : TypeId}
    : PV P N X w0 G l L ⟨some d, .unOp .not T x, ty, pos, after, gd⟩ (.bool (!b)) :=
  fun a w hS => by
    simp only [execOp, hS.fr.eval hx]
    rfl

theorem p_min {k : IntKind} {m n : Int} {ats : Array TypeId} (hx : ev l x = some (.int k m)) (hy : ev l y = some (.int k n))
    : PV P N X w0 G l L ⟨some d, .call ⟨.builtin .min, #[x, y], ats⟩, ty, pos, after, gd⟩ (.int k (min m n)) :=
  fun a w hS => by
    have e : (if n < m then n else m) = min m n := by
      show _ = if m ≤ n then m else n
      by_cases h : n < m
      · rw [if_pos h, if_neg (by omega)]
      · rw [if_neg h, if_pos (by omega)]
    simp [execOp, resolve, invoke, builtin, Builtin.min_, Builtin.min2, hS.fr.eval hx, hS.fr.eval hy, e]

theorem p_max {k : IntKind} {m n : Int} {ats : Array TypeId} (hx : ev l x = some (.int k m)) (hy : ev l y = some (.int k n))
    : PV P N X w0 G l L ⟨some d, .call ⟨.builtin .max, #[x, y], ats⟩, ty, pos, after, gd⟩ (.int k (max m n)) :=
  fun a w hS => by
    have e : (if m < n then n else m) = max m n := by
      show _ = if m ≤ n then n else m
      by_cases h : m < n
      · rw [if_pos h, if_pos (by omega)]
      · rw [if_neg h]
        by_cases h' : m ≤ n
        · rw [if_pos h']; omega
        · rw [if_neg h']
    simp [execOp, resolve, invoke, builtin, Builtin.max_, Builtin.max2, hS.fr.eval hx, hS.fr.eval hy, e]

end
end Go.Gx
