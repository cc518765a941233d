/-
  GX: a region whose order is drawn, with operations that change memory: what reads may be taken first, what changes comes alone. Generic in the program.
-/
import Derived.Test.YtoflaphnlfggkaaGxSl
namespace Go.Gx
open Go.RowKit

def Q0 : Exit → Act → World → Prop := fun _ _ _ => False

section
variable {P : Program} {ops : Array Oper} {C : World → Prop} {brk : Nat → Bool} {Q : Exit → Act → World → Prop}

def wpAnyD (P : Program) (ops : Array Oper) (C : World → Prop) (brk : Nat → Bool) (Q : Exit → Act → World → Prop) : Nat → Array Bool → Act → World → Prop
  | 0, listed, a, w => Region.ready .any ops listed = [] ∧ Q .normal a w
  | f + 1, listed, a, w =>
    (Region.ready .any ops listed = [] → Q .normal a w) ∧
    ∀ i ∈ Region.ready .any ops listed, wpOp P ops Q0 i (fun a' w' => (brk i = false → C w') ∧ wpAnyD P ops C brk Q f (listed.setIfInBounds i true) a' w') a w

theorem wp_Q0 {o : Oper} {a : Act} {w : World} {K K' : Act → World → Prop} (h : ∀ a w, K a w → K' a w) (hh : o.wp P a w K Q0) : o.wp P a w K' Q := by
  unfold Oper.wp at *
  generalize (execOp a.eval o).run P w = r at *
  cases r with
  | ok n w' =>
    cases n <;> simp only [Oper.upon] at hh ⊢ <;>
      first
        | exact h _ _ hh
        | exact Calls.mono hh (fun e w'' he => by cases e <;> first | exact h _ _ he | exact he.elim | (obtain ⟨_, _, hf⟩ := he; exact hf.elim))
        | exact Rows.mono hh (fun _ _ he => h _ _ he)
  | halt x w' => cases x <;> simp only [Oper.upon] at hh ⊢ <;> exact hh.elim

theorem wpOp_Q0 {i : Nat} {a : Act} {w : World} {K K' : Act → World → Prop} (h : ∀ a w, K a w → K' a w) (hh : wpOp P ops Q0 i K a w) : wpOp P ops Q i K' a w := by
  unfold wpOp at *
  split
  · rename_i ho; simp only [ho] at hh; exact h _ _ hh
  · rename_i o ho
    simp only [ho] at hh
    split
    · rename_i hw; simp only [hw, if_true] at hh
      rcases hh with hh | ⟨_, _, _, hf⟩
      · exact .inl (wp_Q0 h hh)
      · exact hf.elim
    · rename_i hw; simp only [hw] at hh; exact h _ _ hh

theorem wpAny_of_D : ∀ (f : Nat) (listed : Array Bool) (a : Act) (w : World), wpAnyD P ops C brk Q f listed a w → wpAny P .any ops Q f listed a w
  | 0, _, _, _, h => h
  | f + 1, _, _, _, h => ⟨h.1, fun i hi => wpOp_Q0 (fun a' w' h' => wpAny_of_D f _ a' w' h'.2) (h.2 i hi)⟩

def Closed (ops : Array Oper) (listed : Array Bool) : Prop := ∀ j oj, ops[j]? = some oj → listed.getD j false = true → ∀ e ∈ oj.after, Region.binds .any e = true → listed.getD e.on false = true

def ancB (ops : Array Oper) : Nat → Nat → Nat → Bool
  | 0, _, _ => false
  | n + 1, j, i => match ops[j]? with
    | some oj => oj.after.any fun e => Region.binds .any e && (e.on == i || ancB ops n e.on i)
    | none => false

theorem anc_listed {listed : Array Bool} (hc : Closed ops listed) : ∀ (n j i : Nat) (oj : Oper), ops[j]? = some oj → (∀ e ∈ oj.after, Region.binds .any e = true → listed.getD e.on false = true) → ancB ops n j i = true → listed.getD i false = true
  | 0, _, _, _, _, _, h => by simp [ancB] at h
  | n + 1, j, i, oj, hj, hall, h => by
    simp only [ancB, hj] at h
    obtain ⟨e, he, hb⟩ := Array.any_eq_true'.1 h
    simp only [Bool.and_eq_true, Bool.or_eq_true, beq_iff_eq] at hb
    obtain ⟨hb1, hb2⟩ := hb
    have hl := hall e he hb1
    rcases hb2 with rfl | hb2
    · exact hl
    · cases ho : ops[e.on]? with
      | none =>
        cases n with
        | zero => simp [ancB] at hb2
        | succ n => simp [ancB, ho] at hb2
      | some o => exact anc_listed hc n e.on i o ho (fun e' he' hb' => hc e.on o ho hl e' he' hb') hb2

theorem Closed.set {listed : Array Bool} {i : Nat} (hc : Closed ops listed) (hi : i ∈ Region.ready .any ops listed) : Closed ops (listed.setIfInBounds i true) := by
  obtain ⟨_, oi, hoi, hall⟩ := mem_ready.1 hi
  intro j oj hj hl e he hb
  by_cases hij : i = j
  · subst hij
    have : oj = oi := Option.some.inj (hj.symm.trans hoi)
    subst this
    exact getD_set_true (hall e he hb)
  · rw [getD_set_ne false hij] at hl
    exact getD_set_true (hc j oj hj hl e he hb)

/-- In state a operation o yields v and leaves the world alone, in every world of D; or it is passed over. -/
def YieldsD (P : Program) (ops : Array Oper) (D : World → Prop) (o : Oper) (v : Value) (a : Act) : Prop :=
  (Region.wanted o (yielded ops a.tmps) = true ∧ ∀ w, D w → (execOp a.eval o).run P w = .ok (.value v) w) ∨ (Region.wanted o (yielded ops a.tmps) = false ∧ v = undef)

theorem YieldsD.op {D : World → Prop} {i : Nat} {o : Oper} {v : Value} {a : Act} {w : World} (hi : ops[i]? = some o) (hy : YieldsD P ops D o v a) (hD : D w) {K : Act → World → Prop} (h : K (a.put o.dst v) w) : wpOp P ops Q0 i K a w := by
  unfold wpOp
  simp only [hi]
  rcases hy with ⟨hw, hv⟩ | ⟨hw, rfl⟩
  · simp only [hw, if_true]
    refine .inl ?_
    unfold Oper.wp
    rw [hv w hD, Oper.upon_value]
    exact h
  · simp only [hw, Bool.false_eq_true, if_false]; exact h

theorem YieldsD.same {D : World → Prop} {o : Oper} {v : Value} {a a' : Act} (hy : YieldsD P ops D o v a) (he : execOp a'.eval o = execOp a.eval o)
    (hw : Region.wanted o (yielded ops a'.tmps) = Region.wanted o (yielded ops a.tmps)) : YieldsD P ops D o v a' := by
  unfold YieldsD at *
  rw [he, hw]
  exact hy

theorem eval_defers (a : Act) (ds : List Deferred) : ({ a with defers := ds } : Act).eval = a.eval := by
  funext x; cases x <;> rfl

/-- Operation j, apart from i, does the same whether i's value is there already. -/
theorem wpOp_put {D : World → Prop} {j : Nat} {oi oj : Oper} {v : Value} (hj : ops[j]? = some oj) (hap : oi.apart ops oj = true) (hsi : ∀ cs b, oi.op ≠ .select cs b) (hsj : ∀ cs b, oj.op ≠ .select cs b)
    {K : Act → World → Prop} {a : Act} {w : World} (hy : YieldsD P ops D oi v a) (h : wpOp P ops Q0 j K (a.put oi.dst v) w) :
    wpOp P ops Q0 j (fun a' w' => YieldsD P ops D oi v a' ∧ K (a'.put oi.dst v) w') a w := by
  obtain ⟨h1, h2, h3⟩ := Oper.apart_spec hap
  have keep : ∀ u, YieldsD P ops D oi v (a.put oj.dst u) := fun u => hy.same (execOp_put oi hsi a oj.dst u h3) (wanted_put oi a oj.dst u h3)
  have keepd : ∀ u d, YieldsD P ops D oi v ({ a with defers := d :: a.defers }.put oj.dst u) := fun u d => by
    refine (keep u).same ?_ ?_
    · rw [execOp_put oi hsi _ oj.dst u h3, execOp_put oi hsi _ oj.dst u h3, eval_defers]
    · rw [wanted_put oi _ oj.dst u h3, wanted_put oi a oj.dst u h3]
  unfold wpOp at *
  simp only [hj] at *
  rw [wanted_put oj a oi.dst v h1] at h
  split
  · rename_i hw
    simp only [hw, if_true] at h
    rcases h with h | ⟨_, _, _, hf⟩
    rotate_left
    · exact hf.elim
    refine .inl ?_
    unfold Oper.wp at *
    rw [execOp_put oj hsj a oi.dst v h1] at h
    generalize (execOp a.eval oj).run P w = r at *
    cases r with
    | ok n w' =>
      cases n <;> simp only [Oper.upon] at h ⊢
      case value u => exact ⟨keep u, by rw [← Act.put_comm a v u h2]; exact h⟩
      case skip => exact ⟨keep undef, by rw [← Act.put_comm a v undef h2]; exact h⟩
      case defer d => exact ⟨keepd undef d, by rw [Act.put_defers, Act.put_comm _ v undef h2] at h; exact h⟩
      case enter f args =>
        refine Calls.mono h (fun e w'' he => ?_)
        cases e with
        | returned u => exact ⟨keep u, by rw [← Act.put_comm a v u h2]; exact he⟩
        | panicked c => exact he.elim
        | outgrown => obtain ⟨_, _, hf⟩ := he; exact hf.elim
      case row r args => exact Rows.mono h (fun u w'' he => ⟨keep u, by rw [← Act.put_comm a v u h2]; exact he⟩)
    | halt x w' => cases x <;> simp only [Oper.upon] at h ⊢ <;> exact h
  · rename_i hw
    simp only [hw] at h
    exact ⟨keep undef, by rw [← Act.put_comm a v undef h2]; exact h⟩

/-- An operation that may come now, and yields the same value whenever it comes, may be taken first. -/
theorem wpAnyD_first {i : Nat} {oi : Oper} {v : Value} (hi : ops[i]? = some oi) (hsel : Region.noSelect ops = true) (m : Nat) :
    ∀ (f : Nat) (listed : Array Bool) (a : Act) (w : World), Closed ops listed → (brk i = false → C w) →
      (brk i = false → ∀ j, brk j = true → listed.getD j true = false → ancB ops m j i = true) →
      (∀ j oj, ops[j]? = some oj → j ≠ i → listed.getD j true = false → (∀ e ∈ oj.after, Region.binds .any e = true → e.on ≠ i) → oi.apart ops oj = true) →
      i ∈ Region.ready .any ops listed → YieldsD P ops (fun w => brk i = false → C w) oi v a →
      wpAnyD P ops C brk Q f (listed.setIfInBounds i true) (a.put oi.dst v) w → wpAnyD P ops C brk Q (f + 1) listed a w := by
  intro f
  induction f with
  | zero =>
    intro listed a w _ hD _ _ hr hy H
    refine ⟨fun h => (by rw [h] at hr; cases hr), fun j hj => ?_⟩
    by_cases hji : j = i
    · subst hji; exact hy.op hi hD ⟨hD, H⟩
    · have := ready_mono hj hji
      rw [H.1] at this
      cases this
  | succ f ih =>
    intro listed a w hcl hD hbrk hfree hr hy H
    refine ⟨fun h => (by rw [h] at hr; cases hr), fun j hj => ?_⟩
    by_cases hji : j = i
    · subst hji; exact hy.op hi hD ⟨hD, H⟩
    · have h1 := H.2 j (ready_mono hj hji)
      obtain ⟨hjun, oj, hoj, hall⟩ := mem_ready.1 hj
      have hun := (mem_ready.1 hr).1
      have hunf : listed.getD i false = false := by
        rcases Nat.lt_or_ge i listed.size with h' | h'
        · simp [h'] at hun ⊢; exact hun
        · simp [Array.getElem?_eq_none h'] at hun
      have hnot : ∀ e ∈ oj.after, Region.binds .any e = true → e.on ≠ i := fun e he hb heq => by
        have h1 := hall e he hb
        rw [heq, hunf] at h1; cases h1
      have h2 := wpOp_put hoj (hfree j oj hoj hji hjun hnot) (fun cs b => Region.noSelect_spec hsel i oi cs b hi) (fun cs b => Region.noSelect_spec hsel j oj cs b hoj) hy h1
      have hnb : brk i = false → brk j = false := fun hbi => by
        cases hbj : brk j with
        | false => rfl
        | true =>
          have h3 := hbrk hbi j hbj hjun
          have h4 := anc_listed hcl m j i oj hoj hall h3
          rw [hunf] at h4; cases h4
      have hmono : ∀ k, (listed.setIfInBounds j true).getD k true = false → listed.getD k true = false := fun k hk => by
        by_cases hjk : j = k
        · subst hjk; exact hjun
        · rw [getD_set_ne true hjk] at hk; exact hk
      refine wpOp_mono (fun a' w' h3 => ?_) h2
      obtain ⟨h4, h5, h6⟩ := h3
      refine ⟨h5, ih (listed.setIfInBounds j true) a' w' (hcl.set hj) (fun hb => h5 (hnb hb)) (fun hb k hk hku => hbrk hb k hk (hmono k hku)) (fun k ok hk hki hun hno => hfree k ok hk hki (hmono k hun) hno) (ready_mono hr (Ne.symm hji)) h4 ?_⟩
      rw [Array.setIfInBounds_comm _ _ hji]
      exact h6

end

/-! ### the walk of such a region -/

section
variable {P : Program} {ops : Array Oper} {brk : Nat → Bool} {Q : Exit → Act → World → Prop} {N : Nat} {X : Nat → Prop} {w0 : World} {G G0 : Ghost} {l l' : List (Nat × Value)} {L L' L0 : List Asrt}
variable {o : Oper} {d i n : Nat} {listed : Array Bool} {ty : TypeId} {pos : String} {after : Array Edge} {gd : Option (Nat × Bool)} {v : Value}

def aX : Nat → Prop := fun _ => True

/-- What stays, whatever of the first kind is carried out: the boxes of L0, the ghost G0. -/
def Cls (w0 : World) (G0 : Ghost) (L0 : List Asrt) (w : World) : Prop := Mem aX w0 G0 w L0

theorem Mem.cls {w : World} (h : Mem X w0 G w L) (hG : GLe G0 G) (hi : Imp L L0) : Cls w0 G0 L0 w :=
  ⟨⟨h.since.os, h.since.tape, h.since.output, h.since.size, fun _ _ hx => (hx trivial).elim⟩, fun b o e => h.has b o (hG b o e), (hi.sep h.sep).mono (fun b _ hb => ⟨.inr trivial, by
    cases e : G0 b with
    | none => rfl
    | some o => rw [hG b o e] at hb; cases hb.2⟩)⟩

/-- ph: the first kind is still going on. -/
def DR (P : Program) (ops : Array Oper) (brk : Nat → Bool) (G0 : Ghost) (L0 : List Asrt) (Q : Exit → Act → World → Prop) (N : Nat) (X : Nat → Prop) (w0 : World) (G : Ghost) (ph : Bool) (n : Nat) (listed : Array Bool) (l : List (Nat × Value)) (L : List Asrt) : Prop :=
  Closed ops listed → ∀ a w, St N X w0 G l L a w → (ph = true → Cls w0 G0 L0 w) → wpAnyD P ops (Cls w0 G0 L0) brk Q n listed a w

theorem c_region_d {id : Nat} {os : List Oper} (brk : Nat → Bool) (L0 : List Asrt) (hm : P.follows .mixedOrders = true) (hi : Imp L L0)
    (h : DR P os.toArray brk G L0 Q N X w0 G true os.toArray.size (Array.replicate os.toArray.size false) l L) : CRuns P (.region id os.toArray true) Q N X w0 G l L := by
  intro a w hS
  have hm' := hS.mem.call (since_drew w)
  refine wp_region_any hm (wpAny_of_D _ _ _ _ (h (fun j oj _ hl => ?_) a w.drew ⟨hS.fr, hm'⟩ (fun _ => hm'.cls (GLe.refl G) hi)))
  rcases Nat.lt_or_ge j os.length with h | h
  · simp [h] at hl
  · simp [h] at hl

theorem d_nil (hr : Region.ready .any ops listed = []) (h : ERuns Q .normal N X w0 G l L) {ph : Bool} : DR P ops brk G0 L0 Q N X w0 G ph 0 listed l L :=
  fun _ a w hS _ => ⟨hr, h a w hS⟩

def firstB (ops : Array Oper) (brk : Nat → Bool) (listed : Array Bool) (i : Nat) : Bool :=
  Region.noSelect ops && (Region.ready .any ops listed).contains i && Region.free .any ops listed i && (brk i || (List.range ops.size).all fun j => !brk j || listed.getD j true || ancB ops ops.size j i)

/-- A value, the same whenever it comes: the first kind. -/
theorem d_val1 {op : Op} (i : Nat) (hi : ops[i]? = some ⟨some d, op, ty, pos, after, gd⟩) (hb : brk i = false) (hf : firstB ops brk listed i = true) (hbig : ∀ j, ops.size ≤ j → brk j = false) (hw : Wt ops l gd) (hd : Nat.blt d N = true)
    (hrun : PV P N aX w0 G0 l L0 ⟨some d, op, ty, pos, after, gd⟩ v) (h : DR P ops brk G0 L0 Q N X w0 G true n (listed.setIfInBounds i true) ((d, v) :: l) L) : DR P ops brk G0 L0 Q N X w0 G true (n + 1) listed l L := by
  intro hcl a w hS hC
  simp only [firstB, Bool.and_eq_true, hb, Bool.false_or] at hf
  obtain ⟨⟨⟨h1, h2⟩, h3⟩, h4⟩ := hf
  have hr : i ∈ Region.ready .any ops listed := by simpa using h2
  refine wpAnyD_first (v := v) hi h1 ops.size n listed a w hcl (fun _ => hC rfl) (fun _ j hj hun => ?_) (Region.free_spec hi h3) hr ?_ (h (hcl.set hr) _ _ ⟨hS.fr.put (by simpa using hd) v, hS.mem⟩ (fun _ => hC rfl))
  · rcases Nat.lt_or_ge j ops.size with hlt | hge
    · have := List.all_eq_true.1 h4 j (List.mem_range.2 hlt)
      simp [hj] at this
      rcases this with h5 | h5
      · have : listed.getD j true = true := by simpa using h5
        rw [hun] at this; cases this
      · exact h5
    · rw [hbig j hge] at hj; cases hj
  · exact .inl ⟨Wt.wanted (o := ⟨some d, op, ty, pos, after, gd⟩) hS.fr hw, fun w' hC' => hrun a w' ⟨hS.fr, hC' hb⟩⟩

/-- A value that asks nothing of memory: the second kind. -/
theorem d_val2 {op : Op} (i : Nat) {ph : Bool} (hi : ops[i]? = some ⟨some d, op, ty, pos, after, gd⟩) (hb : brk i = true) (hf : firstB ops brk listed i = true) (hw : Wt ops l gd) (hd : Nat.blt d N = true)
    (hrun : ∀ w0, PV P N aX w0 (fun _ => none) l [] ⟨some d, op, ty, pos, after, gd⟩ v) (h : DR P ops brk G0 L0 Q N X w0 G ph n (listed.setIfInBounds i true) ((d, v) :: l) L) : DR P ops brk G0 L0 Q N X w0 G ph (n + 1) listed l L := by
  intro hcl a w hS hC
  simp only [firstB, Bool.and_eq_true] at hf
  obtain ⟨⟨⟨h1, h2⟩, h3⟩, h4⟩ := hf
  have hr : i ∈ Region.ready .any ops listed := by simpa using h2
  refine wpAnyD_first (v := v) hi h1 ops.size n listed a w hcl (fun h => by rw [hb] at h; cases h) (fun h => by rw [hb] at h; cases h) (Region.free_spec hi h3) hr ?_ (h (hcl.set hr) _ _ ⟨hS.fr.put (by simpa using hd) v, hS.mem⟩ hC)
  exact .inl ⟨Wt.wanted (o := ⟨some d, op, ty, pos, after, gd⟩) hS.fr hw, fun w' _ => hrun w' a w' ⟨hS.fr, Mem.start aX w' _ (fun _ _ h => by cases h)⟩⟩

/-- Passed over. -/
theorem d_skip {op : Op} (i : Nat) {ph : Bool} (hi : ops[i]? = some ⟨some d, op, ty, pos, after, gd⟩) (hb : brk i = true) (hf : firstB ops brk listed i = true) (hd : Nat.blt d N = true) (hw : Nw ops l gd)
    (h : DR P ops brk G0 L0 Q N X w0 G ph n (listed.setIfInBounds i true) ((d, undef) :: l) L) : DR P ops brk G0 L0 Q N X w0 G ph (n + 1) listed l L := by
  intro hcl a w hS hC
  simp only [firstB, Bool.and_eq_true] at hf
  obtain ⟨⟨⟨h1, h2⟩, h3⟩, h4⟩ := hf
  have hr : i ∈ Region.ready .any ops listed := by simpa using h2
  refine wpAnyD_first (v := undef) hi h1 ops.size n listed a w hcl (fun h => by rw [hb] at h; cases h) (fun h => by rw [hb] at h; cases h) (Region.free_spec hi h3) hr ?_ (h (hcl.set hr) _ _ ⟨hS.fr.put (by simpa using hd) undef, hS.mem⟩ hC)
  exact .inr ⟨Nw.not (o := ⟨some d, op, ty, pos, after, gd⟩) hS.fr hw, rfl⟩

theorem d_skip1 {op : Op} (i : Nat) (hi : ops[i]? = some ⟨some d, op, ty, pos, after, gd⟩) (hb : brk i = false) (hf : firstB ops brk listed i = true) (hbig : ∀ j, ops.size ≤ j → brk j = false) (hd : Nat.blt d N = true) (hw : Nw ops l gd)
    (h : DR P ops brk G0 L0 Q N X w0 G true n (listed.setIfInBounds i true) ((d, undef) :: l) L) : DR P ops brk G0 L0 Q N X w0 G true (n + 1) listed l L := by
  intro hcl a w hS hC
  simp only [firstB, Bool.and_eq_true, hb, Bool.false_or] at hf
  obtain ⟨⟨⟨h1, h2⟩, h3⟩, h4⟩ := hf
  have hr : i ∈ Region.ready .any ops listed := by simpa using h2
  refine wpAnyD_first (v := undef) hi h1 ops.size n listed a w hcl (fun _ => hC rfl) (fun _ j hj hun => ?_) (Region.free_spec hi h3) hr ?_ (h (hcl.set hr) _ _ ⟨hS.fr.put (by simpa using hd) undef, hS.mem⟩ (fun _ => hC rfl))
  · rcases Nat.lt_or_ge j ops.size with hlt | hge
    · have := List.all_eq_true.1 h4 j (List.mem_range.2 hlt)
      simp [hj] at this
      rcases this with h5 | h5
      · have : listed.getD j true = true := by simpa using h5
        rw [hun] at this; cases this
      · exact h5
    · rw [hbig j hge] at hj; cases hj
  · exact .inr ⟨Nw.not (o := ⟨some d, op, ty, pos, after, gd⟩) hS.fr hw, rfl⟩

theorem wp_QX {a : Act} {w : World} {K K' : Act → World → Prop} (hh : o.wp P a w K' (Exit.then K Q0)) : o.wp P a w K' Q0 := by
  unfold Oper.wp at *
  generalize (execOp a.eval o).run P w = r at *
  cases r with
  | ok n w' =>
    cases n <;> simp only [Oper.upon] at hh ⊢ <;>
      first
        | exact hh
        | exact Calls.mono hh (fun e w'' he => by cases e <;> first | exact he | exact he.elim | (obtain ⟨_, _, hf⟩ := he; exact hf.elim))
  | halt x w' => cases x <;> simp only [Oper.upon] at hh ⊢ <;> exact hh.elim

/-- An operation that comes alone. -/
theorem d_eff (i : Nat) {ph : Bool} (hi : ops[i]? = some o) (hr : Region.ready .any ops listed = [i])
    (h : (∀ K : Act → World → Prop, (∀ a w, (K a w ↔ ((brk i = false → Cls w0 G0 L0 w) ∧ wpAnyD P ops (Cls w0 G0 L0) brk Q n (listed.setIfInBounds i true) a w))) → Closed ops (listed.setIfInBounds i true) → Runs P ops (Exit.then K Q0) N X w0 G [o] l L)) :
    DR P ops brk G0 L0 Q N X w0 G ph (n + 1) listed l L := by
  intro hcl a w hS hC
  refine ⟨fun h0 => (by rw [h0] at hr; cases hr), fun j hj => ?_⟩
  have hji : j = i := by rw [hr] at hj; simpa using hj
  subst hji
  have h1 := h (fun a w => ((brk j = false → Cls w0 G0 L0 w) ∧ wpAnyD P ops (Cls w0 G0 L0) brk Q n (listed.setIfInBounds j true) a w)) (fun _ _ => Iff.rfl) (hcl.set (by rw [hr]; simp)) a w hS
  unfold wpOp
  simp only [hi]
  unfold wpList at h1
  split
  · rename_i hw
    rw [if_pos hw] at h1
    rcases h1 with h1 | ⟨_, _, _, hf⟩
    · exact .inl (wp_Q0 (Q := Q0) (fun a w h => h) (wp_QX h1))
    · exact hf.elim
  · rename_i hw
    rw [if_neg hw] at h1
    exact h1

theorem d_say {ph : Bool} {v : Value} (hx : lk l d = some v) (h : DR P ops brk G0 L0 Q N X w0 G ph n listed ((d, v) :: l) L) : DR P ops brk G0 L0 Q N X w0 G ph n listed l L :=
  fun hcl a w hS hC => h hcl a w ⟨hS.fr.say hx, hS.mem⟩ hC

theorem d_split {ph b : Bool} (hx : lk l d = some (.bool b)) (ht : b = true → DR P ops brk G0 L0 Q N X w0 G ph n listed ((d, .bool true) :: l) L) (hf : b = false → DR P ops brk G0 L0 Q N X w0 G ph n listed ((d, .bool false) :: l) L) :
    DR P ops brk G0 L0 Q N X w0 G ph n listed l L := by
  intro hcl a w hS hC
  cases b with
  | true => exact ht rfl hcl a w ⟨hS.fr.say hx, hS.mem⟩ hC
  | false => exact hf rfl hcl a w ⟨hS.fr.say hx, hS.mem⟩ hC

theorem d_splitd {ph : Bool} {p : Prop} [Decidable p] (hx : lk l d = some (.bool (decide p))) (ht : p → DR P ops brk G0 L0 Q N X w0 G ph n listed ((d, .bool true) :: l) L) (hf : ¬ p → DR P ops brk G0 L0 Q N X w0 G ph n listed ((d, .bool false) :: l) L) :
    DR P ops brk G0 L0 Q N X w0 G ph n listed l L := d_split hx (fun h => ht (of_decide_eq_true h)) (fun h => hf (of_decide_eq_false h))

theorem d_splitn {ph b : Bool} (hx : lk l d = some (.bool (!b))) (ht : b = false → DR P ops brk G0 L0 Q N X w0 G ph n listed ((d, .bool true) :: l) L) (hf : b = true → DR P ops brk G0 L0 Q N X w0 G ph n listed ((d, .bool false) :: l) L) :
    DR P ops brk G0 L0 Q N X w0 G ph n listed l L := d_split hx (fun h => ht (by simpa using h)) (fun h => hf (by simpa using h))

/-- Behind an operation that came alone. -/
theorem e_d {K : Act → World → Prop} {G' : Ghost} {ph' : Bool} {listed' : Array Bool} (hK : ∀ a w, (K a w ↔ ((brk i = false → Cls w0 G0 L0 w) ∧ wpAnyD P ops (Cls w0 G0 L0) brk Q n listed' a w))) (hcl : Closed ops listed')
    (hb : brk i = !ph') (hG : ph' = true → GLe G0 G') (hI : ph' = true → Imp L' L0) (h : DR P ops brk G0 L0 Q N X w0 G' ph' n listed' l' L') : ERuns (Exit.then K Q0) .normal N X w0 G' l' L' := by
  intro a w hS
  show K a w
  rw [hK]
  have hC : ph' = true → Cls w0 G0 L0 w := fun hp => hS.mem.cls (hG hp) (hI hp)
  refine ⟨fun h2 => hC ?_, h hcl a w hS hC⟩
  rw [hb] at h2
  cases ph' <;> simp_all

end
end Go.Gx
