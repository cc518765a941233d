/-
  GX, the steps: names, rounds one by one, equality of aggregates. Generic in the program.
-/
import Derived.Test.YtoflaphnlfggkaaGxMem
import Derived.Deep.Quiet
namespace Go.Gx
open Go.RowKit

theorem one_lit {l : List Value} {m : Nat} (hm : Nat.ble m l.length = true) (h : l.all Value.oneCell' = true) : ∀ j, j < m → (at_ l j).oneCell' = true := by
  intro j hj
  have h1 := at_get l j (Nat.lt_of_lt_of_le hj (Nat.le_of_ble_eq_true hm))
  have h2 := List.mem_of_getElem? h1
  exact List.all_eq_true.1 h _ h2

section
variable {P : Program} {Q : Exit → Act → World → Prop} {K : Act → World → Prop} {N : Nat} {X : Nat → Prop} {w0 : World} {G : Ghost} {l l' : List (Nat × Value)} {L L' : List Asrt} {e : Exit}

theorem c_name {c : Code} {d : Nat} {v : Value} (hx : lk l d = some v) (h : ∀ u, u = v → CRuns P c Q N X w0 G ((d, u) :: l) L) : CRuns P c Q N X w0 G l L :=
  fun a w hS => h v rfl a w ⟨hS.fr.say hx, hS.mem⟩

theorem set_same : ∀ {L : List Asrt} {k : Nat} {A : Asrt}, L[k]? = some A → L.set k A = L
  | [], _, _, h => by simp at h
  | _ :: _, 0, _, h => by simp at h; simp [h]
  | B :: L, k + 1, A, h => by simp at h; simp [set_same h]

theorem c_nameL {c : Code} {k : Nat} {A : Asrt} (hx : L[k]? = some A) (h : ∀ A', A' = A → CRuns P c Q N X w0 G l (L.set k A')) : CRuns P c Q N X w0 G l L := by
  have := h A rfl
  rw [set_same hx] at this
  exact this

theorem c_say {c : Code} {d : Nat} {v : Value} (hx : lk l d = some v) (h : CRuns P c Q N X w0 G ((d, v) :: l) L) : CRuns P c Q N X w0 G l L :=
  fun a w hS => h a w ⟨hS.fr.say hx, hS.mem⟩

theorem c_conv {c : Code} (hi : Imp L L') (h : CRuns P c Q N X w0 G l L') : CRuns P c Q N X w0 G l L :=
  fun a w hS => h a w ⟨hS.fr, hS.mem.imp hi⟩

def LRuns (P : Program) (c : Code) (Q : Exit → Act → World → Prop) (n : Nat) (N : Nat) (X : Nat → Prop) (w0 : World) (G : Ghost) (l : List (Nat × Value)) (L : List Asrt) : Prop :=
  ∀ a w, St N X w0 G l L a w → Code.rounds P c Q n a w

theorem c_unroll {c : Code} (n : Nat) (h : LRuns P c Q n N X w0 G l L) : CRuns P (.loop c) Q N X w0 G l L := fun a w hS => wp_loop_rounds n (h a w hS)
theorem l_round {c : Code} {n : Nat} (h : CRuns P c (Exit.then (Code.rounds P c Q n) Q) N X w0 G l L) : LRuns P c Q (n + 1) N X w0 G l L := h
theorem e_again {c : Code} {n : Nat} (h : LRuns P c Q n N X w0 G l L) : ERuns (Exit.then (Code.rounds P c Q n) Q) .normal N X w0 G l L := h

/-! ### either way, by what the truth says -/

theorem c_splitd {d : Nat} {p : Prop} [Decidable p] {c : Code} (hx : lk l d = some (.bool (decide p))) (ht : p → CRuns P c Q N X w0 G ((d, .bool true) :: l) L) (hf : ¬ p → CRuns P c Q N X w0 G ((d, .bool false) :: l) L) :
    CRuns P c Q N X w0 G l L := c_split hx (fun h => ht (of_decide_eq_true h)) (fun h => hf (of_decide_eq_false h))

theorem c_splitn {d : Nat} {b : Bool} {c : Code} (hx : lk l d = some (.bool (!b))) (ht : b = false → CRuns P c Q N X w0 G ((d, .bool true) :: l) L) (hf : b = true → CRuns P c Q N X w0 G ((d, .bool false) :: l) L) :
    CRuns P c Q N X w0 G l L := c_split hx (fun h => ht (by simpa using h)) (fun h => hf (by simpa using h))

variable {ops : Array Oper} {o : Oper} {rest : List Oper} {d : Nat} {ty : TypeId} {pos : String} {after : Array Edge} {gd : Option (Nat × Bool)} {x y z : Operand} {v u : Value}

theorem r_splitd {p : Prop} [Decidable p] (hx : lk l d = some (.bool (decide p))) (ht : p → Runs P ops Q N X w0 G rest ((d, .bool true) :: l) L) (hf : ¬ p → Runs P ops Q N X w0 G rest ((d, .bool false) :: l) L) :
    Runs P ops Q N X w0 G rest l L := r_split hx (fun h => ht (of_decide_eq_true h)) (fun h => hf (of_decide_eq_false h))

theorem r_splitn {b : Bool} (hx : lk l d = some (.bool (!b))) (ht : b = false → Runs P ops Q N X w0 G rest ((d, .bool true) :: l) L) (hf : b = true → Runs P ops Q N X w0 G rest ((d, .bool false) :: l) L) :
    Runs P ops Q N X w0 G rest l L := r_split hx (fun h => ht (by simpa using h)) (fun h => hf (by simpa using h))

/-! ### a region whose order is drawn, whose operations leave the world alone -/

def Quiets (P : Program) (ops : Array Oper) (Q : Exit → Act → World → Prop) (N : Nat) (X : Nat → Prop) (w0 : World) (G : Ghost) (rest : List Oper) (l : List (Nat × Value)) (L : List Asrt) : Prop :=
  ∀ a, Fr N a l → wpQuiet P ops (fun w => Mem X w0 G w L) (fun a' => ∀ w', Mem X w0 G w' L → Q .normal a' w') rest a

theorem c_region_q {id : Nat} {os : List Oper} (hm : P.follows .mixedOrders = true) (hB : Region.lexB .any os.toArray = true) (h : Quiets P os.toArray Q N X w0 G os l L) : CRuns P (.region id os.toArray true) Q N X w0 G l L :=
  fun a w hS => wp_region_quiet (C := fun w => Mem X w0 G w L) hm hB (hS.mem.call (since_drew w)) (by simpa using h a hS.fr)

theorem q_nil (h : ERuns Q .normal N X w0 G l L) : Quiets P ops Q N X w0 G [] l L := fun a hF w' hM => h a w' ⟨hF, hM⟩

theorem q_val {op : Op} (hw : Wt ops l gd) (hd : Nat.blt d N = true) (hrun : PV P N X w0 G l L ⟨some d, op, ty, pos, after, gd⟩ v)
    (h : Quiets P ops Q N X w0 G rest ((d, v) :: l) L) : Quiets P ops Q N X w0 G (⟨some d, op, ty, pos, after, gd⟩ :: rest) l L := by
  intro a hF
  unfold wpQuiet
  rw [if_pos (Wt.wanted (o := ⟨some d, op, ty, pos, after, gd⟩) hF hw)]
  refine ⟨v, fun w hM => ?_, h _ (hF.put (by simpa using hd) v)⟩
  unfold Oper.quietAt
  rw [hrun a w ⟨hF, hM⟩]
  exact ⟨rfl, rfl⟩

theorem q_skip (hd : Nat.blt d N = true) (hw : Nw ops l gd) {op : Op} (h : Quiets P ops Q N X w0 G rest ((d, undef) :: l) L) : Quiets P ops Q N X w0 G (⟨some d, op, ty, pos, after, gd⟩ :: rest) l L := by
  intro a hF
  unfold wpQuiet
  rw [if_neg (by rw [Nw.not (o := ⟨some d, op, ty, pos, after, gd⟩) hF hw]; simp)]
  exact h _ (hF.put (by simpa using hd) undef)

theorem q_say (hx : lk l d = some v) (h : Quiets P ops Q N X w0 G rest ((d, v) :: l) L) : Quiets P ops Q N X w0 G rest l L :=
  fun a hF => h a (hF.say hx)

theorem q_call {f : FuncId} {xs : List Operand} {vs : List Value} {ats : Array TypeId} (hw : Wt ops l gd) (hd : Nat.blt d N = true) (hf : Callable P f) (hv : evs l xs = some vs)
    (hc : ∀ w, Has G w → Calls P f vs.toArray w (Ret fun r w' => r = v ∧ Since nX w w'))
    (h : Quiets P ops Q N X w0 G rest ((d, v) :: l) L) : Quiets P ops Q N X w0 G (⟨some d, .call ⟨.value (.func f), xs.toArray, ats⟩, ty, pos, after, gd⟩ :: rest) l L := by
  intro a hF
  unfold wpQuiet
  rw [if_pos (Wt.wanted (o := ⟨some d, .call ⟨.value (.func f), xs.toArray, ats⟩, ty, pos, after, gd⟩) hF hw)]
  refine ⟨v, fun w hM => ?_, h _ (hF.put (by simpa using hd) v)⟩
  unfold Oper.quietAt
  rw [run_call hF hv hf]
  refine ⟨rfl, (hc w hM.has).mono (fun e w' hR => ?_)⟩
  cases e with
  | returned r =>
    obtain ⟨rfl, hs⟩ := hR
    exact ⟨rfl, hM.call hs⟩
  | panicked c => exact hR.elim
  | outgrown => exact hR.elim

theorem q_split {b : Bool} (hx : lk l d = some (.bool b)) (ht : b = true → Quiets P ops Q N X w0 G rest ((d, .bool true) :: l) L) (hf : b = false → Quiets P ops Q N X w0 G rest ((d, .bool false) :: l) L) :
    Quiets P ops Q N X w0 G rest l L := by
  intro a hF
  cases b with
  | true => exact ht rfl a (hF.say hx)
  | false => exact hf rfl a (hF.say hx)

theorem q_splitd {p : Prop} [Decidable p] (hx : lk l d = some (.bool (decide p))) (ht : p → Quiets P ops Q N X w0 G rest ((d, .bool true) :: l) L) (hf : ¬ p → Quiets P ops Q N X w0 G rest ((d, .bool false) :: l) L) :
    Quiets P ops Q N X w0 G rest l L := q_split hx (fun h => ht (of_decide_eq_true h)) (fun h => hf (of_decide_eq_false h))

theorem q_splitn {b : Bool} (hx : lk l d = some (.bool (!b))) (ht : b = false → Quiets P ops Q N X w0 G rest ((d, .bool true) :: l) L) (hf : b = true → Quiets P ops Q N X w0 G rest ((d, .bool false) :: l) L) :
    Quiets P ops Q N X w0 G rest l L := q_split hx (fun h => ht (by simpa using h)) (fun h => hf (by simpa using h))

/-! ### equality of arrays and structs -/

/-- What '==' says of two values of type T. -/
def EqIs (P : Program) (T : TypeId) (a b : Value) (r : Bool) : Prop := ∀ (x y : Operand) (w : World), (eqGuard .eql T x y a b).run P w = .ok () w ∧ (eqGuard .neq T x y a b).run P w = .ok () w ∧ (Op.equal T a b).run P w = .ok r w

theorem p_eqa {T U : TypeId} {c c' : Array Value} {r : Bool} (hx : ev l x = some (.agg c)) (hy : ev l y = some (.agg c')) (he : EqIs P T (.agg c) (.agg c') r) :
    PV P N X w0 G l L ⟨some d, .binOp .eql T x y U, ty, pos, after, gd⟩ (.bool r) := by
  intro a w hS
  obtain ⟨h1, _, h3⟩ := he x y w
  have e : (binOp .eql T (.agg c) (.agg c')).run P w = .ok (.bool r) w := by
    have : binOp .eql T (.agg c) (.agg c') = (do pure (.bool (← Op.equal T (.agg c) (.agg c')))) := rfl
    rw [this]; simp [h3]
  simp only [execOp, hS.fr.eval hx, hS.fr.eval hy]
  simp [h1, e]

theorem p_nea {T U : TypeId} {c c' : Array Value} {r : Bool} (hx : ev l x = some (.agg c)) (hy : ev l y = some (.agg c')) (he : EqIs P T (.agg c) (.agg c') r) :
    PV P N X w0 G l L ⟨some d, .binOp .neq T x y U, ty, pos, after, gd⟩ (.bool (!r)) := by
  intro a w hS
  obtain ⟨_, h2, h3⟩ := he x y w
  have e : (binOp .neq T (.agg c) (.agg c')).run P w = .ok (.bool (!r)) w := by
    have : binOp .neq T (.agg c) (.agg c') = (do pure (.bool (!(← Op.equal T (.agg c) (.agg c'))))) := rfl
    rw [this]; simp [h3]
  simp only [execOp, hS.fr.eval hx, hS.fr.eval hy]
  simp [h2, e]

end
end Go.Gx
