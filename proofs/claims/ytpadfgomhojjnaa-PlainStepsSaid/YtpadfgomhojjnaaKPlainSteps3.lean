/- Texts of this work, laid together: a logic of steps, plain laws, and walks of Go functions, each without a condition but those that its theorems name. -/
import Derived.Test.YtpadfgomhojjnaaKPlainSteps2
import Derived.Test.YtpadfgomhojjnaaRows
/- Walks: what Go functions of this chapter come to, each as a function on plain data; no condition but those that each theorem names. Printed by a program of this work (gen.py). -/
namespace Go.Proofs.Ytpadfgomhojjnaa
open Go.Gx Go.Gx.T3 Go.Gx.T4 Go.Gx.T3
theorem sz4 : SzIs Try.prog 4 1 := by
 unfold SzIs
 kernel_rfl
theorem sz67 : SzIs Try.prog 67 1 := by
 unfold SzIs
 kernel_rfl
theorem sz75 : SzIs Try.prog 75 1 := by
 unfold SzIs
 kernel_rfl
theorem sz94 : SzIs Try.prog 94 2 := by
 unfold SzIs
 kernel_rfl
theorem sz95 : SzIs Try.prog 95 6 := by
 unfold SzIs
 kernel_rfl
theorem sz97 : SzIs Try.prog 97 8 := by
 unfold SzIs
 kernel_rfl
theorem sz99 : SzIs Try.prog 99 2 := by
 unfold SzIs
 kernel_rfl
theorem sz100 : SzIs Try.prog 100 6 := by
 unfold SzIs
 kernel_rfl
theorem sz102 : SzIs Try.prog 102 8 := by
 unfold SzIs
 kernel_rfl
theorem zr3 : ZeroIs Try.prog 3 (Value.int .i64 0) := by
 unfold ZeroIs
 kernel_rfl
theorem zr94 : ZeroIs Try.prog 94 (Value.agg #[Value.bool false, Value.int .i64 0]) := by
 unfold ZeroIs
 kernel_rfl
theorem zr97 : ZeroIs Try.prog 97 (Value.agg #[Value.int .i64 0, Value.bool false, Value.int .i64 0, Value.bool false, Value.int .i64 0, Value.bool false, Value.int .i64 0, Value.slice none 0 0]) := by
 unfold ZeroIs
 kernel_rfl
theorem zr100 : ZeroIs Try.prog 100 (Value.agg #[Value.int .i64 0, Value.int .i64 0, Value.int .i64 0, Value.int .i64 0, Value.int .i64 0, Value.int .i64 0]) := by
 unfold ZeroIs
 kernel_rfl
theorem zr102 : ZeroIs Try.prog 102 (Value.agg #[Value.int .i64 0, Value.int .i64 0, Value.int .i64 0, Value.int .i64 0, Value.int .i64 0, Value.int .i64 0, Value.int .i64 0, Value.slice none 0 0]) := by
 unfold ZeroIs
 kernel_rfl
theorem cl43 : Callable Try.prog 43 := callable Try.func43 (by kernel_rfl) rfl
theorem cl60 : Callable Try.prog 60 := callable Try.func60 (by kernel_rfl) rfl
theorem cl61 : Callable Try.prog 61 := callable Try.func61 (by kernel_rfl) rfl
theorem cl63 : Callable Try.prog 63 := callable Try.func63 (by kernel_rfl) rfl
theorem cl76 : Callable Try.prog 76 := callable Try.func76 (by kernel_rfl) rfl
theorem cl77 : Callable Try.prog 77 := callable Try.func77 (by kernel_rfl) rfl
theorem bl102_0i1_1a6 (x0 : Int) (x1 : Value) (x2 : Value) (x3 : Value) (x4 : Value) (x5 : Value) (x6 : Value) : Program.built Try.prog 102 [(0, Value.int .i64 x0), (1, Value.agg #[x1, x2, x3, x4, x5, x6])] = some #[Value.int .i64 x0, x1, x2, x3, x4, x5, x6, Value.slice none 0 0] := by
 kernel_rfl
theorem bs102_10a8 (a0 a1 a2 a3 a4 a5 a6 a7 : Value) : Instr.fill (fun i => some (i * 8, 8)) ((Array.range (1 * 8)).map ((Value.agg #[Value.int .i64 0, Value.int .i64 0, Value.int .i64 0, Value.int .i64 0, Value.int .i64 0, Value.int .i64 0, Value.int .i64 0, Value.slice none 0 0]).cells[· % (Value.agg #[Value.int .i64 0, Value.int .i64 0, Value.int .i64 0, Value.int .i64 0, Value.int .i64 0, Value.int .i64 0, Value.int .i64 0, Value.slice none 0 0]).cells.size]!)) [(0, Value.agg #[a0, a1, a2, a3, a4, a5, a6, a7])] = some #[a0, a1, a2, a3, a4, a5, a6, a7] := by
 kernel_rfl
theorem el102 : ElemIs Try.prog 102 8 80 (Value.agg #[Value.int .i64 0, Value.int .i64 0, Value.int .i64 0, Value.int .i64 0, Value.int .i64 0, Value.int .i64 0, Value.int .i64 0, Value.slice none 0 0]) := by
 unfold ElemIs
 kernel_rfl
def RcheckIs (n : Nat) : Prop := ∀ (c : CT) (sv : Value) (d : Int) (G : Ghost) (w : World), SizeOf.sizeOf c ≤ n → 1 ≤ d → Rs G sv c.subs → Has G w → Calls Try.prog 60 #[Value.agg #[Value.int .i64 c.h.k, Value.int .i64 (vi c.h.v0), Value.int .i64 c.h.n0, Value.int .i64 (vi c.h.v1), Value.int .i64 c.h.n1, Value.int .i64 (vi c.h.v2), Value.int .i64 c.h.n2, sv], Value.int .i64 d] w (Ret fun r w' => r = Value.int .i64 (check c d) ∧ Since nX w w')
def SmallIs (n : Nat) : Prop := ∀ (c : CT) (sv : Value) (deep m x : Int) (p : Nat) (G : Ghost) (F : Nat → Prop) (w : World), SizeOf.sizeOf c ≤ n → 0 ≤ x ∧ x ≤ m ∧ m ≤ 1000 ∧ deep ≤ 5 ∧ -1 ≤ deep → Cs G sv c.subs → Has G w → (cntA 3 p x).holds w F → (∀ b, F b → G b = none) → Calls Try.prog 76 #[Value.agg #[Value.int .i64 c.h.k, Value.bool c.h.v0, Value.int .i64 c.h.n0, Value.bool c.h.v1, Value.int .i64 c.h.n1, Value.bool c.h.v2, Value.int .i64 c.h.n2, sv], Value.int .i64 deep, Value.int .i64 m, Value.pointer (some ⟨p, 0, none⟩)] w (Ret fun r w' => r = Value.bool (small m c deep x).1 ∧ Kept (cntA 3 p (small m c deep x).2) F w w')
def RefIs (n : Nat) : Prop := ∀ (c : CT) (sv : Value) (G : Ghost) (w : World), SizeOf.sizeOf c ≤ n → size c ≤ 1000 → Cs G sv c.subs → Has G w → Calls Try.prog 43 #[Value.agg #[Value.int .i64 c.h.k, Value.bool c.h.v0, Value.int .i64 c.h.n0, Value.bool c.h.v1, Value.int .i64 c.h.n1, Value.bool c.h.v2, Value.int .i64 c.h.n2, sv]] w (Ret fun r w' => ∃ G', GNew w nX G G' ∧ Has G' w' ∧ (∃ u, r = Value.agg #[Value.int .i64 c.h.k, Value.int .i64 (vi c.h.v0), Value.int .i64 c.h.n0, Value.int .i64 (vi c.h.v1), Value.int .i64 c.h.n1, Value.int .i64 (vi c.h.v2), Value.int .i64 c.h.n2, u] ∧ Rs G' u c.subs) ∧ Since nX w w')
def RsizeIs (n : Nat) : Prop := ∀ (c : CT) (sv : Value) (G : Ghost) (w : World), SizeOf.sizeOf c ≤ n → size c ≤ 1000 → Rs G sv c.subs → Has G w → Calls Try.prog 61 #[Value.agg #[Value.int .i64 c.h.k, Value.int .i64 (vi c.h.v0), Value.int .i64 c.h.n0, Value.int .i64 (vi c.h.v1), Value.int .i64 c.h.n1, Value.int .i64 (vi c.h.v2), Value.int .i64 c.h.n2, sv]] w (Ret fun r w' => r = Value.int .i64 (size c : Nat) ∧ Since nX w w')
theorem c_rright (b : Bool) (n : Int)  (w : World)  :
  Calls Try.prog 77 #[Value.agg #[Value.int .i64 (vi b), Value.int .i64 n]] w (Ret fun r w' => r = Value.bool (termRight b n) ∧ Since nX w w') := by
 refine enter (args := [_]) (X := nX) (G := (fun _ => none)) (l := [(0, Value.agg #[Value.int .i64 (vi b), Value.int .i64 n])]) Try.func77 rfl Try.ntmps77 (fun _ _ h => by cases h) ⟨rfl, trivial⟩ (Nat.le_of_ble_eq_true rfl) ?_
 refine c_seq ?_
 refine c_region ?_
 refine r_box .none rfl rfl (IsRow.lit _) (fun b_1 => ?_)
 refine r_val .none rfl (p_assign rfl) ?_
 refine r_nil ?_
 refine e_next ?_
 refine c_seq ?_
 refine c_seq ?_
 refine c_region ?_
 refine r_val .none rfl (p_field Try.underlying99 rfl sz3 rfl) ?_
 refine r_val .none rfl (p_ld (k := 0) Try.underlying3 rfl rfl rfl (by first | exact of_decide_eq_true rfl | omega) (rfl : _ = Value.int _ _)) ?_
 refine r_val .none rfl (p_eq rfl rfl) ?_
 refine r_nil ?_
 refine e_next ?_
 refine c_splitd (d := 5) rfl (fun h_1 => ?_) (fun h_1 => ?_)
 ·
  refine c_cond_t rfl ?_
  refine c_seq ?_
  refine c_region ?_
  refine r_val .none rfl (p_field Try.underlying99 rfl sz3 rfl) ?_
  refine r_val .none rfl (p_ld (k := 0) Try.underlying3 rfl rfl rfl (by first | exact of_decide_eq_true rfl | omega) (rfl : _ = Value.int _ _)) ?_
  refine r_val .none rfl (p_ge rfl rfl) ?_
  refine r_val .none rfl (p_move rfl) ?_
  refine' r_and (c := 9) (d := 13) [_, _, _, _] rfl (fun h_2 Q_3 hQ_4 => ?_) (fun h_2 Q_3 hQ_4 => ?_) ?_
  rotate_left 1
  ·
   replace h_2 := of_decide_eq_true h_2
   refine r_val (.some rfl rfl) rfl (p_field Try.underlying99 rfl sz3 rfl) ?_
   refine r_val (.some rfl rfl) rfl (p_ld (k := 0) Try.underlying3 rfl rfl rfl (by first | exact of_decide_eq_true rfl | omega) (rfl : _ = Value.int _ _)) ?_
   refine r_val (.some rfl rfl) rfl (p_le rfl rfl) ?_
   refine r_val .none rfl (p_pick_t rfl rfl) ?_
   refine r_nil (e_fin (d := 13) hQ_4 rfl (by repeat (first | exact .refl | refine .put rfl ?_ | refine .say rfl ?_ | refine .say2 rfl (by first | assumption | simp_all) ?_)))
  ·
   repeat (first | refine r_skip rfl (.no rfl rfl) ?_ | refine r_skip rfl (.un rfl rfl) ?_)
   refine r_val (by first | exact .none | exact .some rfl rfl) rfl (p_pick_f rfl rfl) ?_
   refine r_nil (e_fin (d := 13) hQ_4 rfl (by repeat (first | exact .refl | refine .put rfl ?_ | refine .say rfl ?_ | refine .say2 rfl (by first | assumption | simp_all) ?_)))
  refine r_val .none rfl (p_assign rfl) ?_
  refine r_nil ?_
  refine e_next ?_
  refine c_ret ?_
  refine e_ret_then ?_
  refine e_ret1 Try.results77 (.tmp rfl .nil) (fun w hm => ⟨?_, hm.since⟩)
  (cases b <;> simp_all [termRight, vi] <;> try omega)
 ·
  refine c_cond_f rfl ?_
  refine c_skip ?_
  refine e_next ?_
  refine c_seq ?_
  refine c_region ?_
  refine r_val .none rfl (p_field Try.underlying99 rfl sz3 rfl) ?_
  refine r_val .none rfl (p_ld (k := 0) Try.underlying3 rfl rfl rfl (by first | exact of_decide_eq_true rfl | omega) (rfl : _ = Value.int _ _)) ?_
  refine r_val .none rfl (p_ge rfl rfl) ?_
  refine r_val .none rfl (p_move rfl) ?_
  refine' r_and (c := 17) (d := 21) [_, _, _, _] rfl (fun h_6 Q_7 hQ_8 => ?_) (fun h_6 Q_7 hQ_8 => ?_) ?_
  rotate_left 1
  ·
   replace h_6 := of_decide_eq_true h_6
   refine r_val (.some rfl rfl) rfl (p_field Try.underlying99 rfl sz3 rfl) ?_
   refine r_val (.some rfl rfl) rfl (p_ld (k := 0) Try.underlying3 rfl rfl rfl (by first | exact of_decide_eq_true rfl | omega) (rfl : _ = Value.int _ _)) ?_
   refine r_val (.some rfl rfl) rfl (p_le rfl rfl) ?_
   refine r_val .none rfl (p_pick_t rfl rfl) ?_
   refine r_nil (e_fin (d := 21) hQ_8 rfl (by repeat (first | exact .refl | refine .put rfl ?_ | refine .say rfl ?_ | refine .say2 rfl (by first | assumption | simp_all) ?_)))
  ·
   repeat (first | refine r_skip rfl (.no rfl rfl) ?_ | refine r_skip rfl (.un rfl rfl) ?_)
   refine r_val (by first | exact .none | exact .some rfl rfl) rfl (p_pick_f rfl rfl) ?_
   refine r_nil (e_fin (d := 21) hQ_8 rfl (by repeat (first | exact .refl | refine .put rfl ?_ | refine .say rfl ?_ | refine .say2 rfl (by first | assumption | simp_all) ?_)))
  refine r_val .none rfl (p_assign rfl) ?_
  refine r_nil ?_
  refine e_next ?_
  refine c_ret ?_
  refine e_ret1 Try.results77 (.tmp rfl .nil) (fun w hm => ⟨?_, hm.since⟩)
  (cases b <;> simp_all [termRight, vi] <;> try omega)
theorem c_ref (v0 : Bool) (n0 : Int) (v1 : Bool) (n1 : Int) (v2 : Bool) (n2 : Int)  (w : World)  :
  Calls Try.prog 63 #[Value.agg #[Value.bool v0, Value.int .i64 n0, Value.bool v1, Value.int .i64 n1, Value.bool v2, Value.int .i64 n2]] w (Ret fun r w' => r = Value.agg #[Value.int .i64 (vi v0), Value.int .i64 n0, Value.int .i64 (vi v1), Value.int .i64 n1, Value.int .i64 (vi v2), Value.int .i64 n2] ∧ Since nX w w') := by
 refine enter (args := [_]) (X := nX) (G := (fun _ => none)) (l := [(0, Value.agg #[Value.bool v0, Value.int .i64 n0, Value.bool v1, Value.int .i64 n1, Value.bool v2, Value.int .i64 n2])]) Try.func63 rfl Try.ntmps63 (fun _ _ h => by cases h) ⟨rfl, trivial⟩ (Nat.le_of_ble_eq_true rfl) ?_
 refine c_seq ?_
 refine c_region ?_
 refine r_box .none rfl rfl (IsRow.lit _) (fun b_1 => ?_)
 refine r_alloc .none rfl zr100 (IsRow.lit _) (fun b_2 => ?_)
 refine r_nil ?_
 refine e_next ?_
 refine c_seq ?_
 refine c_region ?_
 refine r_alloc .none rfl zr100 (IsRow.lit _) (fun b_3 => ?_)
 refine r_nil ?_
 refine e_next ?_
 refine c_seq ?_
 refine c_seq ?_
 refine c_region ?_
 refine r_val .none rfl (p_ldw (k := 2) Try.underlying95 rfl sz95 rfl rfl (rfl : _ = Value.agg #[_, _, _, _, _, _])) ?_
 refine r_val .none rfl (p_move rfl) ?_
 refine r_nil ?_
 refine e_next ?_
 refine c_block ?_
 refine c_unroll 4 ?_
 refine l_round (n := 3) ?_
 refine c_seq ?_
 refine c_region ?_
 refine r_val .none rfl (p_lt rfl rfl) ?_
 refine r_say (d := 8) (v := Value.bool true) rfl ?_
 refine r_nil ?_
 refine e_next ?_
 refine c_seq ?_
 refine c_cond_t rfl ?_
 refine c_skip ?_
 refine e_next ?_
 refine c_seq ?_
 refine c_block ?_
 refine c_seq ?_
 refine c_region ?_
 refine r_val .none rfl (p_move rfl) ?_
 refine r_val .none rfl (p_indexa (k := 0) Try.underlying95 Try.underlying94 rfl sz94 rfl (IsRow.lit _) rfl rfl (by first | exact of_decide_eq_true rfl | omega) (rfl : _ = Value.agg #[_, _])) ?_
 refine r_alloc .none rfl zr94 (IsRow.lit _) (fun b_4 => ?_)
 refine r_val .none rfl (p_assign rfl) ?_
 refine r_stw (k := 0) .none sz94 rfl rfl (IsRow.lit _) (one_lit rfl rfl) rfl ?_
 refine r_nil ?_
 refine e_next ?_
 refine c_seq ?_
 refine c_region ?_
 refine r_val .none rfl (p_move rfl) ?_
 refine r_val .none rfl (p_field Try.underlying94 rfl sz3 rfl) ?_
 refine r_val .none rfl (p_ld (k := 0) Try.underlying3 rfl rfl rfl (by first | exact of_decide_eq_true rfl | omega) (rfl : _ = Value.int _ _)) ?_
 refine r_val .none rfl (p_iaddr (k := 0) Try.underlying100 sz99 rfl rfl (by first | exact of_decide_eq_true rfl | omega)) ?_
 refine r_val .none rfl (p_field Try.underlying99 rfl sz3 rfl) ?_
 refine r_st (k := 1) .none sz3 rfl rfl rfl rfl (by first | exact of_decide_eq_true rfl | omega) ?_
 refine r_nil ?_
 refine e_next ?_
 refine c_seq ?_
 refine c_region ?_
 refine r_val .none rfl (p_field Try.underlying94 rfl sz4 rfl) ?_
 refine r_val .none rfl (p_ld (k := 0) Try.underlying4 rfl rfl rfl (by first | exact of_decide_eq_true rfl | omega) (rfl : _ = Value.bool _)) ?_
 refine r_nil ?_
 refine e_next ?_
 refine c_split (d := 17) rfl (fun h_1 => ?_) (fun h_1 => ?_)
 ·
  first
   | (exfalso; omega)
   | (
    refine c_cond_t rfl ?_
    refine c_region ?_
    refine r_val .none rfl (p_move rfl) ?_
    refine r_val .none rfl (p_iaddr (k := 0) Try.underlying100 sz99 rfl rfl (by first | exact of_decide_eq_true rfl | omega)) ?_
    refine r_val .none rfl (p_field Try.underlying99 rfl sz3 rfl) ?_
    refine r_st (k := 1) .none sz3 rfl rfl rfl rfl (by first | exact of_decide_eq_true rfl | omega) ?_
    refine r_nil ?_
    refine e_norm_block ?_
    refine e_next ?_
    refine c_region ?_
    refine r_val .none rfl (p_add rfl rfl (by omega)) ?_
    refine r_val .none rfl (p_move rfl) ?_
    refine r_nil ?_
    refine e_again ?_
    refine l_round (n := 2) ?_
    refine c_seq ?_
    refine c_region ?_
    refine r_val .none rfl (p_lt rfl rfl) ?_
    refine r_say (d := 8) (v := Value.bool true) rfl ?_
    refine r_nil ?_
    refine e_next ?_
    refine c_seq ?_
    refine c_cond_t rfl ?_
    refine c_skip ?_
    refine e_next ?_
    refine c_seq ?_
    refine c_block ?_
    refine c_seq ?_
    refine c_region ?_
    refine r_val .none rfl (p_move rfl) ?_
    refine r_val .none rfl (p_indexa (k := 1) Try.underlying95 Try.underlying94 rfl sz94 rfl (IsRow.lit _) rfl rfl (by first | exact of_decide_eq_true rfl | omega) (rfl : _ = Value.agg #[_, _])) ?_
    refine r_alloc .none rfl zr94 (IsRow.lit _) (fun b_5 => ?_)
    refine r_val .none rfl (p_assign rfl) ?_
    refine r_stw (k := 0) .none sz94 rfl rfl (IsRow.lit _) (one_lit rfl rfl) rfl ?_
    refine r_nil ?_
    refine e_next ?_
    refine c_seq ?_
    refine c_region ?_
    refine r_val .none rfl (p_move rfl) ?_
    refine r_val .none rfl (p_field Try.underlying94 rfl sz3 rfl) ?_
    refine r_val .none rfl (p_ld (k := 0) Try.underlying3 rfl rfl rfl (by first | exact of_decide_eq_true rfl | omega) (rfl : _ = Value.int _ _)) ?_
    refine r_val .none rfl (p_iaddr (k := 1) Try.underlying100 sz99 rfl rfl (by first | exact of_decide_eq_true rfl | omega)) ?_
    refine r_val .none rfl (p_field Try.underlying99 rfl sz3 rfl) ?_
    refine r_st (k := 2) .none sz3 rfl rfl rfl rfl (by first | exact of_decide_eq_true rfl | omega) ?_
    refine r_nil ?_
    refine e_next ?_
    refine c_seq ?_
    refine c_region ?_
    refine r_val .none rfl (p_field Try.underlying94 rfl sz4 rfl) ?_
    refine r_val .none rfl (p_ld (k := 0) Try.underlying4 rfl rfl rfl (by first | exact of_decide_eq_true rfl | omega) (rfl : _ = Value.bool _)) ?_
    refine r_nil ?_
    refine e_next ?_
    refine c_split (d := 17) rfl (fun h_2 => ?_) (fun h_2 => ?_)
    ·
     first
      | (exfalso; omega)
      | (
       refine c_cond_t rfl ?_
       refine c_region ?_
       refine r_val .none rfl (p_move rfl) ?_
       refine r_val .none rfl (p_iaddr (k := 1) Try.underlying100 sz99 rfl rfl (by first | exact of_decide_eq_true rfl | omega)) ?_
       refine r_val .none rfl (p_field Try.underlying99 rfl sz3 rfl) ?_
       refine r_st (k := 2) .none sz3 rfl rfl rfl rfl (by first | exact of_decide_eq_true rfl | omega) ?_
       refine r_nil ?_
       refine e_norm_block ?_
       refine e_next ?_
       refine c_region ?_
       refine r_val .none rfl (p_add rfl rfl (by omega)) ?_
       refine r_val .none rfl (p_move rfl) ?_
       refine r_nil ?_
       refine e_again ?_
       refine l_round (n := 1) ?_
       refine c_seq ?_
       refine c_region ?_
       refine r_val .none rfl (p_lt rfl rfl) ?_
       refine r_say (d := 8) (v := Value.bool true) rfl ?_
       refine r_nil ?_
       refine e_next ?_
       refine c_seq ?_
       refine c_cond_t rfl ?_
       refine c_skip ?_
       refine e_next ?_
       refine c_seq ?_
       refine c_block ?_
       refine c_seq ?_
       refine c_region ?_
       refine r_val .none rfl (p_move rfl) ?_
       refine r_val .none rfl (p_indexa (k := 2) Try.underlying95 Try.underlying94 rfl sz94 rfl (IsRow.lit _) rfl rfl (by first | exact of_decide_eq_true rfl | omega) (rfl : _ = Value.agg #[_, _])) ?_
       refine r_alloc .none rfl zr94 (IsRow.lit _) (fun b_6 => ?_)
       refine r_val .none rfl (p_assign rfl) ?_
       refine r_stw (k := 0) .none sz94 rfl rfl (IsRow.lit _) (one_lit rfl rfl) rfl ?_
       refine r_nil ?_
       refine e_next ?_
       refine c_seq ?_
       refine c_region ?_
       refine r_val .none rfl (p_move rfl) ?_
       refine r_val .none rfl (p_field Try.underlying94 rfl sz3 rfl) ?_
       refine r_val .none rfl (p_ld (k := 0) Try.underlying3 rfl rfl rfl (by first | exact of_decide_eq_true rfl | omega) (rfl : _ = Value.int _ _)) ?_
       refine r_val .none rfl (p_iaddr (k := 2) Try.underlying100 sz99 rfl rfl (by first | exact of_decide_eq_true rfl | omega)) ?_
       refine r_val .none rfl (p_field Try.underlying99 rfl sz3 rfl) ?_
       refine r_st (k := 3) .none sz3 rfl rfl rfl rfl (by first | exact of_decide_eq_true rfl | omega) ?_
       refine r_nil ?_
       refine e_next ?_
       refine c_seq ?_
       refine c_region ?_
       refine r_val .none rfl (p_field Try.underlying94 rfl sz4 rfl) ?_
       refine r_val .none rfl (p_ld (k := 0) Try.underlying4 rfl rfl rfl (by first | exact of_decide_eq_true rfl | omega) (rfl : _ = Value.bool _)) ?_
       refine r_nil ?_
       refine e_next ?_
       refine c_split (d := 17) rfl (fun h_3 => ?_) (fun h_3 => ?_)
       ·
        first
         | (exfalso; omega)
         | (
          refine c_cond_t rfl ?_
          refine c_region ?_
          refine r_val .none rfl (p_move rfl) ?_
          refine r_val .none rfl (p_iaddr (k := 2) Try.underlying100 sz99 rfl rfl (by first | exact of_decide_eq_true rfl | omega)) ?_
          refine r_val .none rfl (p_field Try.underlying99 rfl sz3 rfl) ?_
          refine r_st (k := 3) .none sz3 rfl rfl rfl rfl (by first | exact of_decide_eq_true rfl | omega) ?_
          refine r_nil ?_
          refine e_norm_block ?_
          refine e_next ?_
          refine c_region ?_
          refine r_val .none rfl (p_add rfl rfl (by omega)) ?_
          refine r_val .none rfl (p_move rfl) ?_
          refine r_nil ?_
          refine e_again ?_
          refine l_round (n := 0) ?_
          refine c_seq ?_
          refine c_region ?_
          refine r_val .none rfl (p_lt rfl rfl) ?_
          refine r_say (d := 8) (v := Value.bool false) rfl ?_
          refine r_nil ?_
          refine e_next ?_
          refine c_seq ?_
          refine c_cond_f rfl ?_
          refine c_exit ?_
          refine e_exit_then ?_
          refine e_exit_then ?_
          refine e_exit_block ?_
          refine e_next ?_
          refine c_seq ?_
          refine c_region ?_
          refine r_val .none rfl (p_ldw (k := 3) Try.underlying100 rfl sz100 rfl rfl (rfl : _ = Value.agg #[_, _, _, _, _, _])) ?_
          refine r_stw (k := 4) .none sz100 rfl rfl (IsRow.lit _) (one_lit rfl rfl) rfl ?_
          refine r_nil ?_
          refine e_next ?_
          refine c_ret ?_
          refine e_ret1 Try.results63 (.cell (k := 4) rfl Try.underlying100 rfl sz100 rfl (rfl : _ = Value.agg #[_, _, _, _, _, _]) .nil) (fun w hm => ⟨?_, hm.since⟩)
          subst_vars; rfl
          )
       ·
        first
         | (exfalso; omega)
         | (
          refine c_cond_f rfl ?_
          refine c_skip ?_
          refine e_norm_block ?_
          refine e_next ?_
          refine c_region ?_
          refine r_val .none rfl (p_add rfl rfl (by omega)) ?_
          refine r_val .none rfl (p_move rfl) ?_
          refine r_nil ?_
          refine e_again ?_
          refine l_round (n := 0) ?_
          refine c_seq ?_
          refine c_region ?_
          refine r_val .none rfl (p_lt rfl rfl) ?_
          refine r_say (d := 8) (v := Value.bool false) rfl ?_
          refine r_nil ?_
          refine e_next ?_
          refine c_seq ?_
          refine c_cond_f rfl ?_
          refine c_exit ?_
          refine e_exit_then ?_
          refine e_exit_then ?_
          refine e_exit_block ?_
          refine e_next ?_
          refine c_seq ?_
          refine c_region ?_
          refine r_val .none rfl (p_ldw (k := 3) Try.underlying100 rfl sz100 rfl rfl (rfl : _ = Value.agg #[_, _, _, _, _, _])) ?_
          refine r_stw (k := 4) .none sz100 rfl rfl (IsRow.lit _) (one_lit rfl rfl) rfl ?_
          refine r_nil ?_
          refine e_next ?_
          refine c_ret ?_
          refine e_ret1 Try.results63 (.cell (k := 4) rfl Try.underlying100 rfl sz100 rfl (rfl : _ = Value.agg #[_, _, _, _, _, _]) .nil) (fun w hm => ⟨?_, hm.since⟩)
          subst_vars; rfl
          )
       )
    ·
     first
      | (exfalso; omega)
      | (
       refine c_cond_f rfl ?_
       refine c_skip ?_
       refine e_norm_block ?_
       refine e_next ?_
       refine c_region ?_
       refine r_val .none rfl (p_add rfl rfl (by omega)) ?_
       refine r_val .none rfl (p_move rfl) ?_
       refine r_nil ?_
       refine e_again ?_
       refine l_round (n := 1) ?_
       refine c_seq ?_
       refine c_region ?_
       refine r_val .none rfl (p_lt rfl rfl) ?_
       refine r_say (d := 8) (v := Value.bool true) rfl ?_
       refine r_nil ?_
       refine e_next ?_
       refine c_seq ?_
       refine c_cond_t rfl ?_
       refine c_skip ?_
       refine e_next ?_
       refine c_seq ?_
       refine c_block ?_
       refine c_seq ?_
       refine c_region ?_
       refine r_val .none rfl (p_move rfl) ?_
       refine r_val .none rfl (p_indexa (k := 2) Try.underlying95 Try.underlying94 rfl sz94 rfl (IsRow.lit _) rfl rfl (by first | exact of_decide_eq_true rfl | omega) (rfl : _ = Value.agg #[_, _])) ?_
       refine r_alloc .none rfl zr94 (IsRow.lit _) (fun b_7 => ?_)
       refine r_val .none rfl (p_assign rfl) ?_
       refine r_stw (k := 0) .none sz94 rfl rfl (IsRow.lit _) (one_lit rfl rfl) rfl ?_
       refine r_nil ?_
       refine e_next ?_
       refine c_seq ?_
       refine c_region ?_
       refine r_val .none rfl (p_move rfl) ?_
       refine r_val .none rfl (p_field Try.underlying94 rfl sz3 rfl) ?_
       refine r_val .none rfl (p_ld (k := 0) Try.underlying3 rfl rfl rfl (by first | exact of_decide_eq_true rfl | omega) (rfl : _ = Value.int _ _)) ?_
       refine r_val .none rfl (p_iaddr (k := 2) Try.underlying100 sz99 rfl rfl (by first | exact of_decide_eq_true rfl | omega)) ?_
       refine r_val .none rfl (p_field Try.underlying99 rfl sz3 rfl) ?_
       refine r_st (k := 3) .none sz3 rfl rfl rfl rfl (by first | exact of_decide_eq_true rfl | omega) ?_
       refine r_nil ?_
       refine e_next ?_
       refine c_seq ?_
       refine c_region ?_
       refine r_val .none rfl (p_field Try.underlying94 rfl sz4 rfl) ?_
       refine r_val .none rfl (p_ld (k := 0) Try.underlying4 rfl rfl rfl (by first | exact of_decide_eq_true rfl | omega) (rfl : _ = Value.bool _)) ?_
       refine r_nil ?_
       refine e_next ?_
       refine c_split (d := 17) rfl (fun h_4 => ?_) (fun h_4 => ?_)
       ·
        first
         | (exfalso; omega)
         | (
          refine c_cond_t rfl ?_
          refine c_region ?_
          refine r_val .none rfl (p_move rfl) ?_
          refine r_val .none rfl (p_iaddr (k := 2) Try.underlying100 sz99 rfl rfl (by first | exact of_decide_eq_true rfl | omega)) ?_
          refine r_val .none rfl (p_field Try.underlying99 rfl sz3 rfl) ?_
          refine r_st (k := 3) .none sz3 rfl rfl rfl rfl (by first | exact of_decide_eq_true rfl | omega) ?_
          refine r_nil ?_
          refine e_norm_block ?_
          refine e_next ?_
          refine c_region ?_
          refine r_val .none rfl (p_add rfl rfl (by omega)) ?_
          refine r_val .none rfl (p_move rfl) ?_
          refine r_nil ?_
          refine e_again ?_
          refine l_round (n := 0) ?_
          refine c_seq ?_
          refine c_region ?_
          refine r_val .none rfl (p_lt rfl rfl) ?_
          refine r_say (d := 8) (v := Value.bool false) rfl ?_
          refine r_nil ?_
          refine e_next ?_
          refine c_seq ?_
          refine c_cond_f rfl ?_
          refine c_exit ?_
          refine e_exit_then ?_
          refine e_exit_then ?_
          refine e_exit_block ?_
          refine e_next ?_
          refine c_seq ?_
          refine c_region ?_
          refine r_val .none rfl (p_ldw (k := 3) Try.underlying100 rfl sz100 rfl rfl (rfl : _ = Value.agg #[_, _, _, _, _, _])) ?_
          refine r_stw (k := 4) .none sz100 rfl rfl (IsRow.lit _) (one_lit rfl rfl) rfl ?_
          refine r_nil ?_
          refine e_next ?_
          refine c_ret ?_
          refine e_ret1 Try.results63 (.cell (k := 4) rfl Try.underlying100 rfl sz100 rfl (rfl : _ = Value.agg #[_, _, _, _, _, _]) .nil) (fun w hm => ⟨?_, hm.since⟩)
          subst_vars; rfl
          )
       ·
        first
         | (exfalso; omega)
         | (
          refine c_cond_f rfl ?_
          refine c_skip ?_
          refine e_norm_block ?_
          refine e_next ?_
          refine c_region ?_
          refine r_val .none rfl (p_add rfl rfl (by omega)) ?_
          refine r_val .none rfl (p_move rfl) ?_
          refine r_nil ?_
          refine e_again ?_
          refine l_round (n := 0) ?_
          refine c_seq ?_
          refine c_region ?_
          refine r_val .none rfl (p_lt rfl rfl) ?_
          refine r_say (d := 8) (v := Value.bool false) rfl ?_
          refine r_nil ?_
          refine e_next ?_
          refine c_seq ?_
          refine c_cond_f rfl ?_
          refine c_exit ?_
          refine e_exit_then ?_
          refine e_exit_then ?_
          refine e_exit_block ?_
          refine e_next ?_
          refine c_seq ?_
          refine c_region ?_
          refine r_val .none rfl (p_ldw (k := 3) Try.underlying100 rfl sz100 rfl rfl (rfl : _ = Value.agg #[_, _, _, _, _, _])) ?_
          refine r_stw (k := 4) .none sz100 rfl rfl (IsRow.lit _) (one_lit rfl rfl) rfl ?_
          refine r_nil ?_
          refine e_next ?_
          refine c_ret ?_
          refine e_ret1 Try.results63 (.cell (k := 4) rfl Try.underlying100 rfl sz100 rfl (rfl : _ = Value.agg #[_, _, _, _, _, _]) .nil) (fun w hm => ⟨?_, hm.since⟩)
          subst_vars; rfl
          )
       )
    )
 ·
  first
   | (exfalso; omega)
   | (
    refine c_cond_f rfl ?_
    refine c_skip ?_
    refine e_norm_block ?_
    refine e_next ?_
    refine c_region ?_
    refine r_val .none rfl (p_add rfl rfl (by omega)) ?_
    refine r_val .none rfl (p_move rfl) ?_
    refine r_nil ?_
    refine e_again ?_
    refine l_round (n := 2) ?_
    refine c_seq ?_
    refine c_region ?_
    refine r_val .none rfl (p_lt rfl rfl) ?_
    refine r_say (d := 8) (v := Value.bool true) rfl ?_
    refine r_nil ?_
    refine e_next ?_
    refine c_seq ?_
    refine c_cond_t rfl ?_
    refine c_skip ?_
    refine e_next ?_
    refine c_seq ?_
    refine c_block ?_
    refine c_seq ?_
    refine c_region ?_
    refine r_val .none rfl (p_move rfl) ?_
    refine r_val .none rfl (p_indexa (k := 1) Try.underlying95 Try.underlying94 rfl sz94 rfl (IsRow.lit _) rfl rfl (by first | exact of_decide_eq_true rfl | omega) (rfl : _ = Value.agg #[_, _])) ?_
    refine r_alloc .none rfl zr94 (IsRow.lit _) (fun b_8 => ?_)
    refine r_val .none rfl (p_assign rfl) ?_
    refine r_stw (k := 0) .none sz94 rfl rfl (IsRow.lit _) (one_lit rfl rfl) rfl ?_
    refine r_nil ?_
    refine e_next ?_
    refine c_seq ?_
    refine c_region ?_
    refine r_val .none rfl (p_move rfl) ?_
    refine r_val .none rfl (p_field Try.underlying94 rfl sz3 rfl) ?_
    refine r_val .none rfl (p_ld (k := 0) Try.underlying3 rfl rfl rfl (by first | exact of_decide_eq_true rfl | omega) (rfl : _ = Value.int _ _)) ?_
    refine r_val .none rfl (p_iaddr (k := 1) Try.underlying100 sz99 rfl rfl (by first | exact of_decide_eq_true rfl | omega)) ?_
    refine r_val .none rfl (p_field Try.underlying99 rfl sz3 rfl) ?_
    refine r_st (k := 2) .none sz3 rfl rfl rfl rfl (by first | exact of_decide_eq_true rfl | omega) ?_
    refine r_nil ?_
    refine e_next ?_
    refine c_seq ?_
    refine c_region ?_
    refine r_val .none rfl (p_field Try.underlying94 rfl sz4 rfl) ?_
    refine r_val .none rfl (p_ld (k := 0) Try.underlying4 rfl rfl rfl (by first | exact of_decide_eq_true rfl | omega) (rfl : _ = Value.bool _)) ?_
    refine r_nil ?_
    refine e_next ?_
    refine c_split (d := 17) rfl (fun h_5 => ?_) (fun h_5 => ?_)
    ·
     first
      | (exfalso; omega)
      | (
       refine c_cond_t rfl ?_
       refine c_region ?_
       refine r_val .none rfl (p_move rfl) ?_
       refine r_val .none rfl (p_iaddr (k := 1) Try.underlying100 sz99 rfl rfl (by first | exact of_decide_eq_true rfl | omega)) ?_
       refine r_val .none rfl (p_field Try.underlying99 rfl sz3 rfl) ?_
       refine r_st (k := 2) .none sz3 rfl rfl rfl rfl (by first | exact of_decide_eq_true rfl | omega) ?_
       refine r_nil ?_
       refine e_norm_block ?_
       refine e_next ?_
       refine c_region ?_
       refine r_val .none rfl (p_add rfl rfl (by omega)) ?_
       refine r_val .none rfl (p_move rfl) ?_
       refine r_nil ?_
       refine e_again ?_
       refine l_round (n := 1) ?_
       refine c_seq ?_
       refine c_region ?_
       refine r_val .none rfl (p_lt rfl rfl) ?_
       refine r_say (d := 8) (v := Value.bool true) rfl ?_
       refine r_nil ?_
       refine e_next ?_
       refine c_seq ?_
       refine c_cond_t rfl ?_
       refine c_skip ?_
       refine e_next ?_
       refine c_seq ?_
       refine c_block ?_
       refine c_seq ?_
       refine c_region ?_
       refine r_val .none rfl (p_move rfl) ?_
       refine r_val .none rfl (p_indexa (k := 2) Try.underlying95 Try.underlying94 rfl sz94 rfl (IsRow.lit _) rfl rfl (by first | exact of_decide_eq_true rfl | omega) (rfl : _ = Value.agg #[_, _])) ?_
       refine r_alloc .none rfl zr94 (IsRow.lit _) (fun b_9 => ?_)
       refine r_val .none rfl (p_assign rfl) ?_
       refine r_stw (k := 0) .none sz94 rfl rfl (IsRow.lit _) (one_lit rfl rfl) rfl ?_
       refine r_nil ?_
       refine e_next ?_
       refine c_seq ?_
       refine c_region ?_
       refine r_val .none rfl (p_move rfl) ?_
       refine r_val .none rfl (p_field Try.underlying94 rfl sz3 rfl) ?_
       refine r_val .none rfl (p_ld (k := 0) Try.underlying3 rfl rfl rfl (by first | exact of_decide_eq_true rfl | omega) (rfl : _ = Value.int _ _)) ?_
       refine r_val .none rfl (p_iaddr (k := 2) Try.underlying100 sz99 rfl rfl (by first | exact of_decide_eq_true rfl | omega)) ?_
       refine r_val .none rfl (p_field Try.underlying99 rfl sz3 rfl) ?_
       refine r_st (k := 3) .none sz3 rfl rfl rfl rfl (by first | exact of_decide_eq_true rfl | omega) ?_
       refine r_nil ?_
       refine e_next ?_
       refine c_seq ?_
       refine c_region ?_
       refine r_val .none rfl (p_field Try.underlying94 rfl sz4 rfl) ?_
       refine r_val .none rfl (p_ld (k := 0) Try.underlying4 rfl rfl rfl (by first | exact of_decide_eq_true rfl | omega) (rfl : _ = Value.bool _)) ?_
       refine r_nil ?_
       refine e_next ?_
       refine c_split (d := 17) rfl (fun h_6 => ?_) (fun h_6 => ?_)
       ·
        first
         | (exfalso; omega)
         | (
          refine c_cond_t rfl ?_
          refine c_region ?_
          refine r_val .none rfl (p_move rfl) ?_
          refine r_val .none rfl (p_iaddr (k := 2) Try.underlying100 sz99 rfl rfl (by first | exact of_decide_eq_true rfl | omega)) ?_
          refine r_val .none rfl (p_field Try.underlying99 rfl sz3 rfl) ?_
          refine r_st (k := 3) .none sz3 rfl rfl rfl rfl (by first | exact of_decide_eq_true rfl | omega) ?_
          refine r_nil ?_
          refine e_norm_block ?_
          refine e_next ?_
          refine c_region ?_
          refine r_val .none rfl (p_add rfl rfl (by omega)) ?_
          refine r_val .none rfl (p_move rfl) ?_
          refine r_nil ?_
          refine e_again ?_
          refine l_round (n := 0) ?_
          refine c_seq ?_
          refine c_region ?_
          refine r_val .none rfl (p_lt rfl rfl) ?_
          refine r_say (d := 8) (v := Value.bool false) rfl ?_
          refine r_nil ?_
          refine e_next ?_
          refine c_seq ?_
          refine c_cond_f rfl ?_
          refine c_exit ?_
          refine e_exit_then ?_
          refine e_exit_then ?_
          refine e_exit_block ?_
          refine e_next ?_
          refine c_seq ?_
          refine c_region ?_
          refine r_val .none rfl (p_ldw (k := 3) Try.underlying100 rfl sz100 rfl rfl (rfl : _ = Value.agg #[_, _, _, _, _, _])) ?_
          refine r_stw (k := 4) .none sz100 rfl rfl (IsRow.lit _) (one_lit rfl rfl) rfl ?_
          refine r_nil ?_
          refine e_next ?_
          refine c_ret ?_
          refine e_ret1 Try.results63 (.cell (k := 4) rfl Try.underlying100 rfl sz100 rfl (rfl : _ = Value.agg #[_, _, _, _, _, _]) .nil) (fun w hm => ⟨?_, hm.since⟩)
          subst_vars; rfl
          )
       ·
        first
         | (exfalso; omega)
         | (
          refine c_cond_f rfl ?_
          refine c_skip ?_
          refine e_norm_block ?_
          refine e_next ?_
          refine c_region ?_
          refine r_val .none rfl (p_add rfl rfl (by omega)) ?_
          refine r_val .none rfl (p_move rfl) ?_
          refine r_nil ?_
          refine e_again ?_
          refine l_round (n := 0) ?_
          refine c_seq ?_
          refine c_region ?_
          refine r_val .none rfl (p_lt rfl rfl) ?_
          refine r_say (d := 8) (v := Value.bool false) rfl ?_
          refine r_nil ?_
          refine e_next ?_
          refine c_seq ?_
          refine c_cond_f rfl ?_
          refine c_exit ?_
          refine e_exit_then ?_
          refine e_exit_then ?_
          refine e_exit_block ?_
          refine e_next ?_
          refine c_seq ?_
          refine c_region ?_
          refine r_val .none rfl (p_ldw (k := 3) Try.underlying100 rfl sz100 rfl rfl (rfl : _ = Value.agg #[_, _, _, _, _, _])) ?_
          refine r_stw (k := 4) .none sz100 rfl rfl (IsRow.lit _) (one_lit rfl rfl) rfl ?_
          refine r_nil ?_
          refine e_next ?_
          refine c_ret ?_
          refine e_ret1 Try.results63 (.cell (k := 4) rfl Try.underlying100 rfl sz100 rfl (rfl : _ = Value.agg #[_, _, _, _, _, _]) .nil) (fun w hm => ⟨?_, hm.since⟩)
          subst_vars; rfl
          )
       )
    ·
     first
      | (exfalso; omega)
      | (
       refine c_cond_f rfl ?_
       refine c_skip ?_
       refine e_norm_block ?_
       refine e_next ?_
       refine c_region ?_
       refine r_val .none rfl (p_add rfl rfl (by omega)) ?_
       refine r_val .none rfl (p_move rfl) ?_
       refine r_nil ?_
       refine e_again ?_
       refine l_round (n := 1) ?_
       refine c_seq ?_
       refine c_region ?_
       refine r_val .none rfl (p_lt rfl rfl) ?_
       refine r_say (d := 8) (v := Value.bool true) rfl ?_
       refine r_nil ?_
       refine e_next ?_
       refine c_seq ?_
       refine c_cond_t rfl ?_
       refine c_skip ?_
       refine e_next ?_
       refine c_seq ?_
       refine c_block ?_
       refine c_seq ?_
       refine c_region ?_
       refine r_val .none rfl (p_move rfl) ?_
       refine r_val .none rfl (p_indexa (k := 2) Try.underlying95 Try.underlying94 rfl sz94 rfl (IsRow.lit _) rfl rfl (by first | exact of_decide_eq_true rfl | omega) (rfl : _ = Value.agg #[_, _])) ?_
       refine r_alloc .none rfl zr94 (IsRow.lit _) (fun b_10 => ?_)
       refine r_val .none rfl (p_assign rfl) ?_
       refine r_stw (k := 0) .none sz94 rfl rfl (IsRow.lit _) (one_lit rfl rfl) rfl ?_
       refine r_nil ?_
       refine e_next ?_
       refine c_seq ?_
       refine c_region ?_
       refine r_val .none rfl (p_move rfl) ?_
       refine r_val .none rfl (p_field Try.underlying94 rfl sz3 rfl) ?_
       refine r_val .none rfl (p_ld (k := 0) Try.underlying3 rfl rfl rfl (by first | exact of_decide_eq_true rfl | omega) (rfl : _ = Value.int _ _)) ?_
       refine r_val .none rfl (p_iaddr (k := 2) Try.underlying100 sz99 rfl rfl (by first | exact of_decide_eq_true rfl | omega)) ?_
       refine r_val .none rfl (p_field Try.underlying99 rfl sz3 rfl) ?_
       refine r_st (k := 3) .none sz3 rfl rfl rfl rfl (by first | exact of_decide_eq_true rfl | omega) ?_
       refine r_nil ?_
       refine e_next ?_
       refine c_seq ?_
       refine c_region ?_
       refine r_val .none rfl (p_field Try.underlying94 rfl sz4 rfl) ?_
       refine r_val .none rfl (p_ld (k := 0) Try.underlying4 rfl rfl rfl (by first | exact of_decide_eq_true rfl | omega) (rfl : _ = Value.bool _)) ?_
       refine r_nil ?_
       refine e_next ?_
       refine c_split (d := 17) rfl (fun h_7 => ?_) (fun h_7 => ?_)
       ·
        first
         | (exfalso; omega)
         | (
          refine c_cond_t rfl ?_
          refine c_region ?_
          refine r_val .none rfl (p_move rfl) ?_
          refine r_val .none rfl (p_iaddr (k := 2) Try.underlying100 sz99 rfl rfl (by first | exact of_decide_eq_true rfl | omega)) ?_
          refine r_val .none rfl (p_field Try.underlying99 rfl sz3 rfl) ?_
          refine r_st (k := 3) .none sz3 rfl rfl rfl rfl (by first | exact of_decide_eq_true rfl | omega) ?_
          refine r_nil ?_
          refine e_norm_block ?_
          refine e_next ?_
          refine c_region ?_
          refine r_val .none rfl (p_add rfl rfl (by omega)) ?_
          refine r_val .none rfl (p_move rfl) ?_
          refine r_nil ?_
          refine e_again ?_
          refine l_round (n := 0) ?_
          refine c_seq ?_
          refine c_region ?_
          refine r_val .none rfl (p_lt rfl rfl) ?_
          refine r_say (d := 8) (v := Value.bool false) rfl ?_
          refine r_nil ?_
          refine e_next ?_
          refine c_seq ?_
          refine c_cond_f rfl ?_
          refine c_exit ?_
          refine e_exit_then ?_
          refine e_exit_then ?_
          refine e_exit_block ?_
          refine e_next ?_
          refine c_seq ?_
          refine c_region ?_
          refine r_val .none rfl (p_ldw (k := 3) Try.underlying100 rfl sz100 rfl rfl (rfl : _ = Value.agg #[_, _, _, _, _, _])) ?_
          refine r_stw (k := 4) .none sz100 rfl rfl (IsRow.lit _) (one_lit rfl rfl) rfl ?_
          refine r_nil ?_
          refine e_next ?_
          refine c_ret ?_
          refine e_ret1 Try.results63 (.cell (k := 4) rfl Try.underlying100 rfl sz100 rfl (rfl : _ = Value.agg #[_, _, _, _, _, _]) .nil) (fun w hm => ⟨?_, hm.since⟩)
          subst_vars; rfl
          )
       ·
        first
         | (exfalso; omega)
         | (
          refine c_cond_f rfl ?_
          refine c_skip ?_
          refine e_norm_block ?_
          refine e_next ?_
          refine c_region ?_
          refine r_val .none rfl (p_add rfl rfl (by omega)) ?_
          refine r_val .none rfl (p_move rfl) ?_
          refine r_nil ?_
          refine e_again ?_
          refine l_round (n := 0) ?_
          refine c_seq ?_
          refine c_region ?_
          refine r_val .none rfl (p_lt rfl rfl) ?_
          refine r_say (d := 8) (v := Value.bool false) rfl ?_
          refine r_nil ?_
          refine e_next ?_
          refine c_seq ?_
          refine c_cond_f rfl ?_
          refine c_exit ?_
          refine e_exit_then ?_
          refine e_exit_then ?_
          refine e_exit_block ?_
          refine e_next ?_
          refine c_seq ?_
          refine c_region ?_
          refine r_val .none rfl (p_ldw (k := 3) Try.underlying100 rfl sz100 rfl rfl (rfl : _ = Value.agg #[_, _, _, _, _, _])) ?_
          refine r_stw (k := 4) .none sz100 rfl rfl (IsRow.lit _) (one_lit rfl rfl) rfl ?_
          refine r_nil ?_
          refine e_next ?_
          refine c_ret ?_
          refine e_ret1 Try.results63 (.cell (k := 4) rfl Try.underlying100 rfl sz100 rfl (rfl : _ = Value.agg #[_, _, _, _, _, _]) .nil) (fun w hm => ⟨?_, hm.since⟩)
          subst_vars; rfl
          )
       )
    )
theorem c_small_s (n : Nat) (ih : SmallIs n) (c : CT) (sv : Value) (deep m x : Int) (p : Nat) {F : Nat → Prop} {G : Ghost} (hz : SizeOf.sizeOf c ≤ n + 1) (hb : 0 ≤ x ∧ x ≤ m ∧ m ≤ 1000 ∧ deep ≤ 5 ∧ -1 ≤ deep) (hs : Cs G sv c.subs) (w : World) (hG : Has G w) (hA : (cntA 3 p x).holds w F) (hFG : ∀ b, F b → G b = none) :
  Calls Try.prog 76 #[Value.agg #[Value.int .i64 c.h.k, Value.bool c.h.v0, Value.int .i64 c.h.n0, Value.bool c.h.v1, Value.int .i64 c.h.n1, Value.bool c.h.v2, Value.int .i64 c.h.n2, sv], Value.int .i64 deep, Value.int .i64 m, Value.pointer (some ⟨p, 0, none⟩)] w (Ret fun r w' => r = Value.bool (small m c deep x).1 ∧ Kept (cntA 3 p (small m c deep x).2) F w w') := by
 refine enterO (args := [_, _, _, _]) (G := G) (A := cntA 3 p x) (l := [(0, Value.agg #[Value.int .i64 c.h.k, Value.bool c.h.v0, Value.int .i64 c.h.n0, Value.bool c.h.v1, Value.int .i64 c.h.n1, Value.bool c.h.v2, Value.int .i64 c.h.n2, sv]), (1, Value.int .i64 deep), (2, Value.int .i64 m), (3, Value.pointer (some ⟨p, 0, none⟩))]) Try.func76 rfl Try.ntmps76 hG hA hFG ⟨rfl, rfl, rfl, rfl, trivial⟩ (Nat.le_of_ble_eq_true rfl) ?_
 obtain ⟨rs, hr, hp, hl⟩ := hs.inv
 have hlen : c.subs.length = rs.length := by rw [hl]; simp
 have hbd := hr.bound
 refine c_seq ?_
 refine c_region ?_
 refine r_box .none rfl rfl (IsRow.lit _) (fun b_1 => ?_)
 refine r_val .none rfl (p_assign rfl) ?_
 refine r_nil ?_
 refine e_next ?_
 refine c_seq ?_
 refine c_seq ?_
 refine c_region ?_
 refine r_val .none rfl (p_move rfl) ?_
 refine r_val .none rfl (p_nilcheck rfl) ?_
 refine r_val .none rfl (p_ld (k := 1) Try.underlying3 rfl rfl rfl (by first | exact of_decide_eq_true rfl | omega) (rfl : _ = Value.int _ _)) ?_
 refine r_val .none rfl (p_add rfl rfl (by omega)) ?_
 refine r_val .none rfl (p_nilcheck rfl) ?_
 refine r_st (k := 1) .none sz3 rfl rfl rfl rfl (by first | exact of_decide_eq_true rfl | omega) ?_
 refine r_nil ?_
 refine e_next ?_
 refine c_seq ?_
 refine c_region ?_
 refine r_val .none rfl (p_move rfl) ?_
 refine r_val .none rfl (p_nilcheck rfl) ?_
 refine r_val .none rfl (p_ld (k := 1) Try.underlying3 rfl rfl rfl (by first | exact of_decide_eq_true rfl | omega) (rfl : _ = Value.int _ _)) ?_
 refine r_val .none rfl (p_move rfl) ?_
 refine r_val .none rfl (p_gt rfl rfl) ?_
 refine r_val .none rfl (p_move rfl) ?_
 refine' r_or (c := 21) (d := 24) [_, _, _] rfl (fun h_1 Q_2 hQ_3 => ?_) (fun h_1 Q_2 hQ_3 => ?_) ?_
 rotate_left 1
 ·
  replace h_1 := of_decide_eq_false h_1
  refine r_val (.some rfl rfl) rfl (p_move rfl) ?_
  refine r_val (.some rfl rfl) rfl (p_lt rfl rfl) ?_
  refine r_val .none rfl (p_pick_f rfl rfl) ?_
  refine r_nil (e_fin (d := 24) hQ_3 rfl (by repeat (first | exact .refl | refine .put rfl ?_ | refine .say rfl ?_ | refine .say2 rfl (by first | assumption | simp_all) ?_)))
 ·
  repeat (first | refine r_skip rfl (.no rfl rfl) ?_ | refine r_skip rfl (.un rfl rfl) ?_)
  refine r_val (by first | exact .none | exact .some rfl rfl) rfl (p_pick_t rfl rfl) ?_
  refine r_nil (e_fin (d := 24) hQ_3 rfl (by repeat (first | exact .refl | refine .put rfl ?_ | refine .say rfl ?_ | refine .say2 rfl (by first | assumption | simp_all) ?_)))
 refine r_nil ?_
 refine e_next ?_
 refine c_split (d := 24) rfl (fun h_5 => ?_) (fun h_5 => ?_)
 ·
  try simp only [norms] at h_5
  first
   | (exfalso; omega)
   | (
    refine c_cond_t rfl ?_
    refine c_seq ?_
    refine c_region ?_
    refine r_val .none rfl (p_assign rfl) ?_
    refine r_nil ?_
    refine e_next ?_
    refine c_ret ?_
    refine e_ret_then ?_
    refine e_ret1 Try.results76 (.tmp rfl .nil) (fun w hm => ?_)
    first
    | (have he : small m c deep x = (false, x + 1) := (by rw [small_eq, if_pos (by omega)]); have he2 := congrArg Prod.snd he; refine ⟨?_, hm.kept [cntA 3 p ((small m c deep x).2)] (.drop (.keep (fun _ _ h => by first | exact h | (have e : (small m c deep x).2 = _ := he2; rw [e]; exact box_congr (fun i hi => by match i, hi with | 0, _ => rfl) _ _ h)) (.nil))) (cntA 3 p ((small m c deep x).2)) (fun F' h => starL_one h)⟩; rw [he]; done)
    | (have he : small m c deep x = (false, (small m (rs.getD k d0).1 (deep - 1) t).2) := (by rw [small_eq, if_neg (by omega), ← hs3, map_drop (i := k) (d := d0) (by omega), smallL_no hE]); have he2 := congrArg Prod.snd he; refine ⟨?_, hm.kept [cntA 3 p ((small m c deep x).2)] (.drop (.keep (fun _ _ h => by first | exact h | (have e : (small m c deep x).2 = _ := he2; rw [e]; exact box_congr (fun i hi => by match i, hi with | 0, _ => rfl) _ _ h)) (.nil))) (cntA 3 p ((small m c deep x).2)) (fun F' h => starL_one h)⟩; rw [he]; done)
    | (have he : small m c deep x = (true, t) := (by rw [small_eq, if_neg (by omega), ← hs3, List.drop_eq_nil_of_le (by simp; omega), smallL]); have he2 := congrArg Prod.snd he; refine ⟨?_, hm.kept [cntA 3 p ((small m c deep x).2)] (.drop (.keep (fun _ _ h => by first | exact h | (have e : (small m c deep x).2 = _ := he2; rw [e]; exact box_congr (fun i hi => by match i, hi with | 0, _ => rfl) _ _ h)) (.nil))) (cntA 3 p ((small m c deep x).2)) (fun F' h => starL_one h)⟩; rw [he]; done)
    )
 ·
  try simp only [norms] at h_5
  first
   | (exfalso; omega)
   | (
    refine c_cond_f rfl ?_
    refine c_skip ?_
    refine e_next ?_
    refine c_seq ?_
    refine c_seq ?_
    refine c_region ?_
    refine r_val .none rfl (p_field Try.underlying97 rfl sz67 rfl) ?_
    refine r_val .none rfl (p_ld (k := 0) Try.underlying67 rfl rfl rfl (by first | exact of_decide_eq_true rfl | omega) rfl) ?_
    refine r_val .none rfl (p_leng Try.underlying67 rfl hr) ?_
    have bd_6 := (hr).bound
    refine r_val .none rfl (p_move rfl) ?_
    refine r_nil ?_
    refine e_next ?_
    refine c_block ?_
    refine c_name (d := 1) rfl (fun u_7 hu_7 => ?_)
    refine c_name (d := 2) rfl (fun u_8 hu_8 => ?_)
    refine c_name (d := 3) rfl (fun u_9 hu_9 => ?_)
    refine c_name (d := 26) rfl (fun u_10 hu_10 => ?_)
    refine c_name (d := 27) rfl (fun u_11 hu_11 => ?_)
    refine c_nameL (k := 0) rfl (fun A_12 hA_12 => ?_)
    refine c_loop (σ := Nat × Int) (fun s => [(28, Value.int .i64 (s.1 : Nat)), (1, u_7), (2, u_8), (3, u_9), (26, u_10), (27, u_11)]) (fun s => [A_12, box p 1 3 (at_ [.int .i64 s.2])]) (fun _ => _) (fun s => s.1 ≤ rs.length ∧ (0 ≤ s.2 ∧ s.2 ≤ m) ∧ smallL m ((rs.map Prod.fst).drop s.1) (deep - 1) s.2 = smallL m c.subs (deep - 1) (x + 1)) (fun s => rs.length - s.1) ((0, x + 1)) ⟨Nat.zero_le _, by dsimp only; omega, by rw [hl]; rfl⟩ rfl ⟨rfl, rfl, rfl, rfl, rfl, rfl, trivial⟩ (.keep (fun _ _ h => h) (.keep (fun _ _ h => box_congr (fun i hi => by match i, hi with | 0, _ => rfl) _ _ h) (.nil))) (fun s hphi => ?_)
    subst hu_7
    subst hu_8
    subst hu_9
    subst hu_10
    subst hu_11
    subst hA_12
    obtain ⟨k, t⟩ := s
    obtain ⟨hk, ht, hs3⟩ := hphi
    dsimp only at hk ht hs3 ⊢
    refine c_seq ?_
    refine c_region ?_
    refine r_val .none rfl (p_lt rfl rfl) ?_
    refine r_nil ?_
    refine e_next ?_
    refine c_seq ?_
    refine c_splitd (d := 29) rfl (fun h_13 => ?_) (fun h_13 => ?_)
    ·
     first
      | (exfalso; omega)
      | (
       refine c_cond_t rfl ?_
       refine c_skip ?_
       refine e_next ?_
       refine c_seq ?_
       refine c_block ?_
       refine c_seq ?_
       refine c_region ?_
       refine r_iaddr_g .none rfl Try.underlying67 sz97 rfl hr rfl (by first | exact of_decide_eq_true rfl | omega) (fun p_15 o_16 R_14 => ?_)
       have hc_17 := hp _ (getD_mem (i := k) (d := d0) (by omega))
       refine r_val .none rfl (p_ldga0 Try.underlying97 rfl sz97 rfl R_14 (by first | exact of_decide_eq_true rfl | omega) (rfl : _ = Value.agg #[_, _, _, _, _, _, _, _])) ?_
       refine r_alloc .none rfl zr97 (IsRow.lit _) (fun b_2 => ?_)
       refine r_stw (k := 0) .none sz97 rfl rfl (IsRow.lit _) (one_lit rfl (all_cons rfl (all_cons rfl (all_cons rfl (all_cons rfl (all_cons rfl (all_cons rfl (all_cons rfl (all_cons (hc_17).one rfl))))))))) rfl ?_
       refine r_nil ?_
       refine e_next ?_
       refine c_seq ?_
       refine c_region ?_
       refine r_val .none rfl (p_ldw (k := 0) Try.underlying97 rfl sz97 rfl rfl (rfl : _ = Value.agg #[_, _, _, _, _, _, _, _])) ?_
       refine r_val .none rfl (p_move rfl) ?_
       refine r_val .none rfl (p_sub rfl rfl (by omega)) ?_
       refine r_val .none rfl (p_move rfl) ?_
       refine r_val .none rfl (p_move rfl) ?_
       refine r_callo (k := 2) (vs := [_, _, _, _]) .none rfl cl76 rfl rfl (fun w F hw hA hFG => ih (rs.getD k d0).1 _ _ _ _ _ _ _ w (size_at hl (by omega) hz) (by omega) hc_17 hw hA hFG) ?_
       refine r_val .none rfl (p_not rfl) ?_
       refine r_nil ?_
       refine e_next ?_
       refine c_splitn (d := 38) rfl (fun h_18 => ?_) (fun h_18 => ?_)
       ·
        have hE := h_18
        first
         | (exfalso; omega)
         | (
          refine c_cond_t rfl ?_
          refine c_seq ?_
          refine c_region ?_
          refine r_val .none rfl (p_assign rfl) ?_
          refine r_nil ?_
          refine e_next ?_
          refine c_ret ?_
          refine e_ret_block ?_
          refine e_ret_then ?_
          refine e_ret_then ?_
          refine e_ret_block ?_
          refine e_ret_then ?_
          refine e_ret1 Try.results76 (.tmp rfl .nil) (fun w hm => ?_)
          first
          | (have he : small m c deep x = (false, x + 1) := (by rw [small_eq, if_pos (by omega)]); have he2 := congrArg Prod.snd he; refine ⟨?_, hm.kept [cntA 3 p ((small m c deep x).2)] (.drop (.drop (.keep (fun _ _ h => by first | exact h | (have e : (small m c deep x).2 = _ := he2; rw [e]; exact box_congr (fun i hi => by match i, hi with | 0, _ => rfl) _ _ h)) (.nil)))) (cntA 3 p ((small m c deep x).2)) (fun F' h => starL_one h)⟩; rw [he]; done)
          | (have he : small m c deep x = (false, (small m (rs.getD k d0).1 (deep - 1) t).2) := (by rw [small_eq, if_neg (by omega), ← hs3, map_drop (i := k) (d := d0) (by omega), smallL_no hE]); have he2 := congrArg Prod.snd he; refine ⟨?_, hm.kept [cntA 3 p ((small m c deep x).2)] (.drop (.drop (.keep (fun _ _ h => by first | exact h | (have e : (small m c deep x).2 = _ := he2; rw [e]; exact box_congr (fun i hi => by match i, hi with | 0, _ => rfl) _ _ h)) (.nil)))) (cntA 3 p ((small m c deep x).2)) (fun F' h => starL_one h)⟩; rw [he]; done)
          | (have he : small m c deep x = (true, t) := (by rw [small_eq, if_neg (by omega), ← hs3, List.drop_eq_nil_of_le (by simp; omega), smallL]); have he2 := congrArg Prod.snd he; refine ⟨?_, hm.kept [cntA 3 p ((small m c deep x).2)] (.drop (.drop (.keep (fun _ _ h => by first | exact h | (have e : (small m c deep x).2 = _ := he2; rw [e]; exact box_congr (fun i hi => by match i, hi with | 0, _ => rfl) _ _ h)) (.nil)))) (cntA 3 p ((small m c deep x).2)) (fun F' h => starL_one h)⟩; rw [he]; done)
          )
       ·
        have hE := h_18
        first
         | (exfalso; omega)
         | (
          refine c_cond_f rfl ?_
          refine c_skip ?_
          refine e_norm_block ?_
          refine e_next ?_
          refine c_region ?_
          refine r_val .none rfl (p_add rfl rfl (by omega)) ?_
          refine r_val .none rfl (p_move rfl) ?_
          refine r_nil ?_
          refine e_round ((k + 1, (small m (rs.getD k d0).1 (deep - 1) t).2)) ⟨⟨by dsimp only; omega, by have := small_lt m (rs.getD k d0).1 (deep - 1) t ht.1 ht.2; exact ⟨by dsimp only; omega, this.2.2 hE⟩, by rw [← hs3, map_drop (i := k) (d := d0) (by omega), smallL_yes hE]⟩, by dsimp only; omega⟩ rfl ⟨rfl, rfl, rfl, rfl, rfl, rfl, trivial⟩ (.drop (.keep (fun _ _ h => h) (.keep (fun _ _ h => h) (.nil))))
          )
       )
    ·
     first
      | (exfalso; omega)
      | (
       refine c_cond_f rfl ?_
       refine c_exit ?_
       refine e_exit_then ?_
       refine e_exit_then ?_
       refine e_exit_block ?_
       refine e_next ?_
       refine c_seq ?_
       refine c_region ?_
       refine r_val .none rfl (p_assign rfl) ?_
       refine r_nil ?_
       refine e_next ?_
       refine c_ret ?_
       refine e_ret1 Try.results76 (.tmp rfl .nil) (fun w hm => ?_)
       first
       | (have he : small m c deep x = (false, x + 1) := (by rw [small_eq, if_pos (by omega)]); have he2 := congrArg Prod.snd he; refine ⟨?_, hm.kept [cntA 3 p ((small m c deep x).2)] (.drop (.keep (fun _ _ h => by first | exact h | (have e : (small m c deep x).2 = _ := he2; rw [e]; exact box_congr (fun i hi => by match i, hi with | 0, _ => rfl) _ _ h)) (.nil))) (cntA 3 p ((small m c deep x).2)) (fun F' h => starL_one h)⟩; rw [he]; done)
       | (have he : small m c deep x = (false, (small m (rs.getD k d0).1 (deep - 1) t).2) := (by rw [small_eq, if_neg (by omega), ← hs3, map_drop (i := k) (d := d0) (by omega), smallL_no hE]); have he2 := congrArg Prod.snd he; refine ⟨?_, hm.kept [cntA 3 p ((small m c deep x).2)] (.drop (.keep (fun _ _ h => by first | exact h | (have e : (small m c deep x).2 = _ := he2; rw [e]; exact box_congr (fun i hi => by match i, hi with | 0, _ => rfl) _ _ h)) (.nil))) (cntA 3 p ((small m c deep x).2)) (fun F' h => starL_one h)⟩; rw [he]; done)
       | (have he : small m c deep x = (true, t) := (by rw [small_eq, if_neg (by omega), ← hs3, List.drop_eq_nil_of_le (by simp; omega), smallL]); have he2 := congrArg Prod.snd he; refine ⟨?_, hm.kept [cntA 3 p ((small m c deep x).2)] (.drop (.keep (fun _ _ h => by first | exact h | (have e : (small m c deep x).2 = _ := he2; rw [e]; exact box_congr (fun i hi => by match i, hi with | 0, _ => rfl) _ _ h)) (.nil))) (cntA 3 p ((small m c deep x).2)) (fun F' h => starL_one h)⟩; rw [he]; done)
       )
    )
theorem c_small_n : ∀ n, SmallIs n
 | 0 => fun c sv deep m x p G F w hz hb hs hG hA hFG => absurd hz (by have := size_subs c; omega)
 | n + 1 => fun c sv deep m x p G F w hz hb hs hG hA hFG => c_small_s n (c_small_n n) c sv deep m x p hz hb hs w hG hA hFG
theorem c_small (c : CT) (sv : Value) (deep m x : Int) (p : Nat) {G : Ghost} {F : Nat → Prop} (hb : 0 ≤ x ∧ x ≤ m ∧ m ≤ 1000 ∧ deep ≤ 5 ∧ -1 ≤ deep) (hs : Cs G sv c.subs) (w : World) (hG : Has G w) (hA : (cntA 3 p x).holds w F) (hFG : ∀ b, F b → G b = none) : Calls Try.prog 76 #[Value.agg #[Value.int .i64 c.h.k, Value.bool c.h.v0, Value.int .i64 c.h.n0, Value.bool c.h.v1, Value.int .i64 c.h.n1, Value.bool c.h.v2, Value.int .i64 c.h.n2, sv], Value.int .i64 deep, Value.int .i64 m, Value.pointer (some ⟨p, 0, none⟩)] w (Ret fun r w' => r = Value.bool (small m c deep x).1 ∧ Kept (cntA 3 p (small m c deep x).2) F w w') := c_small_n _ c sv deep m x p G F w (Nat.le_refl _) hb hs hG hA hFG
theorem c_Small (c : CT) (sv : Value) (m : Int) {G : Ghost} (hm : 0 ≤ m ∧ m ≤ 1000) (hs : Cs G sv c.subs) (w : World) (hG : Has G w) :
  Calls Try.prog 59 #[Value.agg #[Value.int .i64 c.h.k, Value.bool c.h.v0, Value.int .i64 c.h.n0, Value.bool c.h.v1, Value.int .i64 c.h.n1, Value.bool c.h.v2, Value.int .i64 c.h.n2, sv], Value.int .i64 m] w (Ret fun r w' => r = Value.bool (small m c 5 0).1 ∧ Since nX w w') := by
 refine enter (args := [_, _]) (X := nX) (G := G) (l := [(0, Value.agg #[Value.int .i64 c.h.k, Value.bool c.h.v0, Value.int .i64 c.h.n0, Value.bool c.h.v1, Value.int .i64 c.h.n1, Value.bool c.h.v2, Value.int .i64 c.h.n2, sv]), (1, Value.int .i64 m)]) Try.func59 rfl Try.ntmps59 hG ⟨rfl, rfl, trivial⟩ (Nat.le_of_ble_eq_true rfl) ?_
 refine c_seq ?_
 refine c_region ?_
 refine r_box .none rfl rfl (IsRow.lit _) (fun b_1 => ?_)
 refine r_val .none rfl (p_assign rfl) ?_
 refine r_nil ?_
 refine e_next ?_
 refine c_seq ?_
 refine c_region ?_
 refine r_alloc .none rfl zr3 (IsRow.lit [_]) (fun b_2 => ?_)
 refine r_st (k := 0) .none sz3 rfl rfl rfl rfl (by first | exact of_decide_eq_true rfl | omega) ?_
 refine r_nil ?_
 refine e_next ?_
 refine c_seq ?_
 refine c_region ?_
 refine r_val .none rfl (p_ldw (k := 1) Try.underlying97 rfl sz97 rfl rfl (rfl : _ = Value.agg #[_, _, _, _, _, _, _, _])) ?_
 refine r_val .none rfl (p_move rfl) ?_
 refine r_callo (k := 0) (vs := [_, _, _, _]) .none rfl cl76 rfl rfl (fun w F hw hA hFG => c_small c sv 5 m 0 _ (by omega) hs w hw (box_congr (fun i hi => by match i, hi with | 0, _ => rfl) _ _ hA) hFG) ?_
 refine r_val .none rfl (p_assign rfl) ?_
 refine r_nil ?_
 refine e_next ?_
 refine c_ret ?_
 refine e_ret1 Try.results59 (.tmp rfl .nil) (fun w hm => ⟨?_, hm.since⟩)
 rfl
theorem c_rcheck_s (n : Nat) (ih : RcheckIs n) (c : CT) (sv : Value) (d : Int) {G : Ghost} (hz : SizeOf.sizeOf c ≤ n + 1) (hd : 1 ≤ d) (hs : Rs G sv c.subs) (w : World) (hG : Has G w) :
  Calls Try.prog 60 #[Value.agg #[Value.int .i64 c.h.k, Value.int .i64 (vi c.h.v0), Value.int .i64 c.h.n0, Value.int .i64 (vi c.h.v1), Value.int .i64 c.h.n1, Value.int .i64 (vi c.h.v2), Value.int .i64 c.h.n2, sv], Value.int .i64 d] w (Ret fun r w' => r = Value.int .i64 (check c d) ∧ Since nX w w') := by
 refine enter (args := [_, _]) (X := nX) (G := G) (l := [(0, Value.agg #[Value.int .i64 c.h.k, Value.int .i64 (vi c.h.v0), Value.int .i64 c.h.n0, Value.int .i64 (vi c.h.v1), Value.int .i64 c.h.n1, Value.int .i64 (vi c.h.v2), Value.int .i64 c.h.n2, sv]), (1, Value.int .i64 d)]) Try.func60 rfl Try.ntmps60 hG ⟨rfl, rfl, trivial⟩ (Nat.le_of_ble_eq_true rfl) ?_
 obtain ⟨rs, hr, hp, hl⟩ := hs.inv
 have hlen : c.subs.length = rs.length := by rw [hl]; simp
 have hbd := hr.bound
 have hb0 : vi c.h.v0 = 0 ∨ vi c.h.v0 = 1 := (by cases c.h.v0 <;> simp [vi])
 have hb1 : vi c.h.v1 = 0 ∨ vi c.h.v1 = 1 := (by cases c.h.v1 <;> simp [vi])
 have hb2 : vi c.h.v2 = 0 ∨ vi c.h.v2 = 1 := (by cases c.h.v2 <;> simp [vi])
 refine c_seq ?_
 refine c_region ?_
 refine r_box .none rfl rfl (IsRow.lit _) (fun b_1 => ?_)
 refine r_val .none rfl (p_assign rfl) ?_
 refine r_nil ?_
 refine e_next ?_
 refine c_seq ?_
 refine c_seq ?_
 refine c_region ?_
 refine r_val .none rfl (p_move rfl) ?_
 refine r_val .none rfl (p_gt rfl rfl) ?_
 refine r_nil ?_
 refine e_next ?_
 refine c_splitd (d := 11) rfl (fun h_1 => ?_) (fun h_1 => ?_)
 ·
  first
   | (exfalso; omega)
   | (
    refine c_cond_t rfl ?_
    refine c_seq ?_
    refine c_region ?_
    refine r_val .none rfl (p_assign rfl) ?_
    refine r_nil ?_
    refine e_next ?_
    refine c_ret ?_
    refine e_ret_then ?_
    refine e_ret1 Try.results60 (.tmp rfl .nil) (fun w hm => ⟨?_, hm.since⟩)
    rw [check_eq c d, show max d 1 = d by omega]
    have e5 : (0 : Int) = rs.length ∨ 0 < rs.length := (by omega)
    first
    | exact congrArg (Value.int .i64) (if_pos (by omega)).symm
    | exact congrArg (Value.int .i64) ((if_neg (by omega)).trans ((if_neg (by omega)).trans (if_pos (by omega)))).symm
    | exact congrArg (Value.int .i64) ((if_neg (by omega)).trans ((if_neg (by omega)).trans ((if_neg (by omega)).trans (if_pos (by first | (right; omega) | (left; simp_all [headOk]; done)))))).symm
    | exact congrArg (Value.int .i64) ((if_neg (by omega)).trans ((if_neg (by omega)).trans ((if_neg (by omega)).trans (if_neg (by rintro (hx | hx) <;> first | omega | (simp_all [headOk]; done)))))).symm
    | exact congrArg (Value.int .i64) ((if_neg (by omega)).trans ((if_pos (by omega)).trans (if_pos (headNone_no (by omega))))).symm
    | exact congrArg (Value.int .i64) ((if_neg (by omega)).trans ((if_pos (by omega)).trans ((if_neg (headNone_yes (by omega))).trans (if_pos (by omega))))).symm
    | exact congrArg (Value.int .i64) ((if_neg (by omega)).trans ((if_pos (by omega)).trans ((if_neg (headNone_yes (by omega))).trans ((if_neg (by omega)).trans (by rw [← hphi.2, map_drop (i := k) (d := d0) (by omega), checkL_no hE]))))).symm
    | exact congrArg (Value.int .i64) ((if_neg (by omega)).trans ((if_pos (by omega)).trans ((if_neg (headNone_yes (by omega))).trans ((if_neg (by omega)).trans (by rw [← hphi.2, List.drop_eq_nil_of_le (by simp; omega), checkL]))))).symm
    )
 ·
  first
   | (exfalso; omega)
   | (
    refine c_cond_f rfl ?_
    refine c_skip ?_
    refine e_next ?_
    refine c_seq ?_
    refine c_seq ?_
    refine c_region ?_
    refine r_val .none rfl (p_field Try.underlying102 rfl sz3 rfl) ?_
    refine r_val .none rfl (p_ld (k := 0) Try.underlying3 rfl rfl rfl (by first | exact of_decide_eq_true rfl | omega) (rfl : _ = Value.int _ _)) ?_
    refine r_val .none rfl (p_lt rfl rfl) ?_
    refine r_val .none rfl (p_move rfl) ?_
    refine' r_or (c := 15) (d := 19) [_, _, _, _] rfl (fun h_2 Q_3 hQ_4 => ?_) (fun h_2 Q_3 hQ_4 => ?_) ?_
    rotate_left 1
    ·
     replace h_2 := of_decide_eq_false h_2
     refine r_val (.some rfl rfl) rfl (p_field Try.underlying102 rfl sz3 rfl) ?_
     refine r_val (.some rfl rfl) rfl (p_ld (k := 0) Try.underlying3 rfl rfl rfl (by first | exact of_decide_eq_true rfl | omega) (rfl : _ = Value.int _ _)) ?_
     refine r_val (.some rfl rfl) rfl (p_gt rfl rfl) ?_
     refine r_val .none rfl (p_pick_f rfl rfl) ?_
     refine r_nil (e_fin (d := 19) hQ_4 rfl (by repeat (first | exact .refl | refine .put rfl ?_ | refine .say rfl ?_ | refine .say2 rfl (by first | assumption | simp_all) ?_)))
    ·
     repeat (first | refine r_skip rfl (.no rfl rfl) ?_ | refine r_skip rfl (.un rfl rfl) ?_)
     refine r_val (by first | exact .none | exact .some rfl rfl) rfl (p_pick_t rfl rfl) ?_
     refine r_nil (e_fin (d := 19) hQ_4 rfl (by repeat (first | exact .refl | refine .put rfl ?_ | refine .say rfl ?_ | refine .say2 rfl (by first | assumption | simp_all) ?_)))
    refine r_nil ?_
    refine e_next ?_
    refine c_split (d := 19) rfl (fun h_6 => ?_) (fun h_6 => ?_)
    ·
     try simp only [norms] at h_6
     first
      | (exfalso; omega)
      | (
       refine c_cond_t rfl ?_
       refine c_seq ?_
       refine c_region ?_
       refine r_val .none rfl (p_assign rfl) ?_
       refine r_nil ?_
       refine e_next ?_
       refine c_ret ?_
       refine e_ret_then ?_
       refine e_ret1 Try.results60 (.tmp rfl .nil) (fun w hm => ⟨?_, hm.since⟩)
       rw [check_eq c d, show max d 1 = d by omega]
       have e5 : (0 : Int) = rs.length ∨ 0 < rs.length := (by omega)
       first
       | exact congrArg (Value.int .i64) (if_pos (by omega)).symm
       | exact congrArg (Value.int .i64) ((if_neg (by omega)).trans ((if_neg (by omega)).trans (if_pos (by omega)))).symm
       | exact congrArg (Value.int .i64) ((if_neg (by omega)).trans ((if_neg (by omega)).trans ((if_neg (by omega)).trans (if_pos (by first | (right; omega) | (left; simp_all [headOk]; done)))))).symm
       | exact congrArg (Value.int .i64) ((if_neg (by omega)).trans ((if_neg (by omega)).trans ((if_neg (by omega)).trans (if_neg (by rintro (hx | hx) <;> first | omega | (simp_all [headOk]; done)))))).symm
       | exact congrArg (Value.int .i64) ((if_neg (by omega)).trans ((if_pos (by omega)).trans (if_pos (headNone_no (by omega))))).symm
       | exact congrArg (Value.int .i64) ((if_neg (by omega)).trans ((if_pos (by omega)).trans ((if_neg (headNone_yes (by omega))).trans (if_pos (by omega))))).symm
       | exact congrArg (Value.int .i64) ((if_neg (by omega)).trans ((if_pos (by omega)).trans ((if_neg (headNone_yes (by omega))).trans ((if_neg (by omega)).trans (by rw [← hphi.2, map_drop (i := k) (d := d0) (by omega), checkL_no hE]))))).symm
       | exact congrArg (Value.int .i64) ((if_neg (by omega)).trans ((if_pos (by omega)).trans ((if_neg (headNone_yes (by omega))).trans ((if_neg (by omega)).trans (by rw [← hphi.2, List.drop_eq_nil_of_le (by simp; omega), checkL]))))).symm
       )
    ·
     try simp only [norms] at h_6
     first
      | (exfalso; omega)
      | (
       refine c_cond_f rfl ?_
       refine c_skip ?_
       refine e_next ?_
       refine c_seq ?_
       refine c_seq ?_
       refine c_region ?_
       refine r_val .none rfl (p_field Try.underlying102 rfl sz3 rfl) ?_
       refine r_val .none rfl (p_ld (k := 0) Try.underlying3 rfl rfl rfl (by first | exact of_decide_eq_true rfl | omega) (rfl : _ = Value.int _ _)) ?_
       refine r_val .none rfl (p_lt rfl rfl) ?_
       refine r_nil ?_
       refine e_next ?_
       refine c_splitd (d := 22) rfl (fun h_7 => ?_) (fun h_7 => ?_)
       ·
        first
         | (exfalso; omega)
         | (
          refine c_cond_t rfl ?_
          refine c_seq ?_
          refine c_seq ?_
          refine c_region ?_
          refine r_val .none rfl (p_assign rfl) ?_
          refine r_nil ?_
          refine e_next ?_
          refine c_block ?_
          refine c_unroll 4 ?_
          refine l_round (n := 3) ?_
          refine c_seq ?_
          refine c_seq ?_
          refine c_region ?_
          refine r_val .none rfl (p_move rfl) ?_
          refine r_val .none rfl (p_lt rfl rfl) ?_
          refine r_say (d := 24) (v := Value.bool true) rfl ?_
          refine r_nil ?_
          refine e_next ?_
          refine c_cond_t rfl ?_
          refine c_skip ?_
          refine e_next ?_
          refine c_seq ?_
          refine c_block ?_
          refine c_seq ?_
          refine c_region ?_
          refine r_val .none rfl (p_move rfl) ?_
          refine r_val .none rfl (p_field Try.underlying102 rfl sz100 rfl) ?_
          refine r_val .none rfl (p_iaddr (k := 0) Try.underlying100 sz99 rfl rfl (by first | exact of_decide_eq_true rfl | omega)) ?_
          refine r_val .none rfl (p_lda (k := 0) Try.underlying99 rfl sz99 rfl rfl (by first | exact of_decide_eq_true rfl | omega) (rfl : _ = Value.agg #[_, _])) ?_
          refine r_call (vs := [_]) .none rfl cl77 rfl (fun w hw => c_rright _ _ w) ?_
          refine r_val .none rfl (p_not rfl) ?_
          refine r_nil ?_
          refine e_next ?_
          refine c_splitn (d := 32) rfl (fun h_8 => ?_) (fun h_8 => ?_)
          ·
           first
            | (exfalso; omega)
            | (
             refine c_cond_t rfl ?_
             refine c_seq ?_
             refine c_region ?_
             refine r_val .none rfl (p_assign rfl) ?_
             refine r_nil ?_
             refine e_next ?_
             refine c_ret ?_
             refine e_ret_block ?_
             refine e_ret_then ?_
             refine e_ret_then ?_
             refine e_ret_block ?_
             refine e_ret_then ?_
             refine e_ret_then ?_
             refine e_ret1 Try.results60 (.tmp rfl .nil) (fun w hm => ⟨?_, hm.since⟩)
             rw [check_eq c d, show max d 1 = d by omega]
             have e5 : (0 : Int) = rs.length ∨ 0 < rs.length := (by omega)
             first
             | exact congrArg (Value.int .i64) (if_pos (by omega)).symm
             | exact congrArg (Value.int .i64) ((if_neg (by omega)).trans ((if_neg (by omega)).trans (if_pos (by omega)))).symm
             | exact congrArg (Value.int .i64) ((if_neg (by omega)).trans ((if_neg (by omega)).trans ((if_neg (by omega)).trans (if_pos (by first | (right; omega) | (left; simp_all [headOk]; done)))))).symm
             | exact congrArg (Value.int .i64) ((if_neg (by omega)).trans ((if_neg (by omega)).trans ((if_neg (by omega)).trans (if_neg (by rintro (hx | hx) <;> first | omega | (simp_all [headOk]; done)))))).symm
             | exact congrArg (Value.int .i64) ((if_neg (by omega)).trans ((if_pos (by omega)).trans (if_pos (headNone_no (by omega))))).symm
             | exact congrArg (Value.int .i64) ((if_neg (by omega)).trans ((if_pos (by omega)).trans ((if_neg (headNone_yes (by omega))).trans (if_pos (by omega))))).symm
             | exact congrArg (Value.int .i64) ((if_neg (by omega)).trans ((if_pos (by omega)).trans ((if_neg (headNone_yes (by omega))).trans ((if_neg (by omega)).trans (by rw [← hphi.2, map_drop (i := k) (d := d0) (by omega), checkL_no hE]))))).symm
             | exact congrArg (Value.int .i64) ((if_neg (by omega)).trans ((if_pos (by omega)).trans ((if_neg (headNone_yes (by omega))).trans ((if_neg (by omega)).trans (by rw [← hphi.2, List.drop_eq_nil_of_le (by simp; omega), checkL]))))).symm
             )
          ·
           first
            | (exfalso; omega)
            | (
             refine c_cond_f rfl ?_
             refine c_skip ?_
             refine e_norm_block ?_
             refine e_next ?_
             refine c_region ?_
             refine r_val .none rfl (p_move rfl) ?_
             refine r_val .none rfl (p_add rfl rfl (by omega)) ?_
             refine r_val .none rfl (p_assign rfl) ?_
             refine r_nil ?_
             refine e_again ?_
             refine l_round (n := 2) ?_
             refine c_seq ?_
             refine c_seq ?_
             refine c_region ?_
             refine r_val .none rfl (p_move rfl) ?_
             refine r_val .none rfl (p_lt rfl rfl) ?_
             refine r_say (d := 24) (v := Value.bool true) rfl ?_
             refine r_nil ?_
             refine e_next ?_
             refine c_cond_t rfl ?_
             refine c_skip ?_
             refine e_next ?_
             refine c_seq ?_
             refine c_block ?_
             refine c_seq ?_
             refine c_region ?_
             refine r_val .none rfl (p_move rfl) ?_
             refine r_val .none rfl (p_field Try.underlying102 rfl sz100 rfl) ?_
             refine r_val .none rfl (p_iaddr (k := 1) Try.underlying100 sz99 rfl rfl (by first | exact of_decide_eq_true rfl | omega)) ?_
             refine r_val .none rfl (p_lda (k := 0) Try.underlying99 rfl sz99 rfl rfl (by first | exact of_decide_eq_true rfl | omega) (rfl : _ = Value.agg #[_, _])) ?_
             refine r_call (vs := [_]) .none rfl cl77 rfl (fun w hw => c_rright _ _ w) ?_
             refine r_val .none rfl (p_not rfl) ?_
             refine r_nil ?_
             refine e_next ?_
             refine c_splitn (d := 32) rfl (fun h_9 => ?_) (fun h_9 => ?_)
             ·
              first
               | (exfalso; omega)
               | (
                refine c_cond_t rfl ?_
                refine c_seq ?_
                refine c_region ?_
                refine r_val .none rfl (p_assign rfl) ?_
                refine r_nil ?_
                refine e_next ?_
                refine c_ret ?_
                refine e_ret_block ?_
                refine e_ret_then ?_
                refine e_ret_then ?_
                refine e_ret_block ?_
                refine e_ret_then ?_
                refine e_ret_then ?_
                refine e_ret1 Try.results60 (.tmp rfl .nil) (fun w hm => ⟨?_, hm.since⟩)
                rw [check_eq c d, show max d 1 = d by omega]
                have e5 : (0 : Int) = rs.length ∨ 0 < rs.length := (by omega)
                first
                | exact congrArg (Value.int .i64) (if_pos (by omega)).symm
                | exact congrArg (Value.int .i64) ((if_neg (by omega)).trans ((if_neg (by omega)).trans (if_pos (by omega)))).symm
                | exact congrArg (Value.int .i64) ((if_neg (by omega)).trans ((if_neg (by omega)).trans ((if_neg (by omega)).trans (if_pos (by first | (right; omega) | (left; simp_all [headOk]; done)))))).symm
                | exact congrArg (Value.int .i64) ((if_neg (by omega)).trans ((if_neg (by omega)).trans ((if_neg (by omega)).trans (if_neg (by rintro (hx | hx) <;> first | omega | (simp_all [headOk]; done)))))).symm
                | exact congrArg (Value.int .i64) ((if_neg (by omega)).trans ((if_pos (by omega)).trans (if_pos (headNone_no (by omega))))).symm
                | exact congrArg (Value.int .i64) ((if_neg (by omega)).trans ((if_pos (by omega)).trans ((if_neg (headNone_yes (by omega))).trans (if_pos (by omega))))).symm
                | exact congrArg (Value.int .i64) ((if_neg (by omega)).trans ((if_pos (by omega)).trans ((if_neg (headNone_yes (by omega))).trans ((if_neg (by omega)).trans (by rw [← hphi.2, map_drop (i := k) (d := d0) (by omega), checkL_no hE]))))).symm
                | exact congrArg (Value.int .i64) ((if_neg (by omega)).trans ((if_pos (by omega)).trans ((if_neg (headNone_yes (by omega))).trans ((if_neg (by omega)).trans (by rw [← hphi.2, List.drop_eq_nil_of_le (by simp; omega), checkL]))))).symm
                )
             ·
              first
               | (exfalso; omega)
               | (
                refine c_cond_f rfl ?_
                refine c_skip ?_
                refine e_norm_block ?_
                refine e_next ?_
                refine c_region ?_
                refine r_val .none rfl (p_move rfl) ?_
                refine r_val .none rfl (p_add rfl rfl (by omega)) ?_
                refine r_val .none rfl (p_assign rfl) ?_
                refine r_nil ?_
                refine e_again ?_
                refine l_round (n := 1) ?_
                refine c_seq ?_
                refine c_seq ?_
                refine c_region ?_
                refine r_val .none rfl (p_move rfl) ?_
                refine r_val .none rfl (p_lt rfl rfl) ?_
                refine r_say (d := 24) (v := Value.bool true) rfl ?_
                refine r_nil ?_
                refine e_next ?_
                refine c_cond_t rfl ?_
                refine c_skip ?_
                refine e_next ?_
                refine c_seq ?_
                refine c_block ?_
                refine c_seq ?_
                refine c_region ?_
                refine r_val .none rfl (p_move rfl) ?_
                refine r_val .none rfl (p_field Try.underlying102 rfl sz100 rfl) ?_
                refine r_val .none rfl (p_iaddr (k := 2) Try.underlying100 sz99 rfl rfl (by first | exact of_decide_eq_true rfl | omega)) ?_
                refine r_val .none rfl (p_lda (k := 0) Try.underlying99 rfl sz99 rfl rfl (by first | exact of_decide_eq_true rfl | omega) (rfl : _ = Value.agg #[_, _])) ?_
                refine r_call (vs := [_]) .none rfl cl77 rfl (fun w hw => c_rright _ _ w) ?_
                refine r_val .none rfl (p_not rfl) ?_
                refine r_nil ?_
                refine e_next ?_
                refine c_splitn (d := 32) rfl (fun h_10 => ?_) (fun h_10 => ?_)
                ·
                 first
                  | (exfalso; omega)
                  | (
                   refine c_cond_t rfl ?_
                   refine c_seq ?_
                   refine c_region ?_
                   refine r_val .none rfl (p_assign rfl) ?_
                   refine r_nil ?_
                   refine e_next ?_
                   refine c_ret ?_
                   refine e_ret_block ?_
                   refine e_ret_then ?_
                   refine e_ret_then ?_
                   refine e_ret_block ?_
                   refine e_ret_then ?_
                   refine e_ret_then ?_
                   refine e_ret1 Try.results60 (.tmp rfl .nil) (fun w hm => ⟨?_, hm.since⟩)
                   rw [check_eq c d, show max d 1 = d by omega]
                   have e5 : (0 : Int) = rs.length ∨ 0 < rs.length := (by omega)
                   first
                   | exact congrArg (Value.int .i64) (if_pos (by omega)).symm
                   | exact congrArg (Value.int .i64) ((if_neg (by omega)).trans ((if_neg (by omega)).trans (if_pos (by omega)))).symm
                   | exact congrArg (Value.int .i64) ((if_neg (by omega)).trans ((if_neg (by omega)).trans ((if_neg (by omega)).trans (if_pos (by first | (right; omega) | (left; simp_all [headOk]; done)))))).symm
                   | exact congrArg (Value.int .i64) ((if_neg (by omega)).trans ((if_neg (by omega)).trans ((if_neg (by omega)).trans (if_neg (by rintro (hx | hx) <;> first | omega | (simp_all [headOk]; done)))))).symm
                   | exact congrArg (Value.int .i64) ((if_neg (by omega)).trans ((if_pos (by omega)).trans (if_pos (headNone_no (by omega))))).symm
                   | exact congrArg (Value.int .i64) ((if_neg (by omega)).trans ((if_pos (by omega)).trans ((if_neg (headNone_yes (by omega))).trans (if_pos (by omega))))).symm
                   | exact congrArg (Value.int .i64) ((if_neg (by omega)).trans ((if_pos (by omega)).trans ((if_neg (headNone_yes (by omega))).trans ((if_neg (by omega)).trans (by rw [← hphi.2, map_drop (i := k) (d := d0) (by omega), checkL_no hE]))))).symm
                   | exact congrArg (Value.int .i64) ((if_neg (by omega)).trans ((if_pos (by omega)).trans ((if_neg (headNone_yes (by omega))).trans ((if_neg (by omega)).trans (by rw [← hphi.2, List.drop_eq_nil_of_le (by simp; omega), checkL]))))).symm
                   )
                ·
                 first
                  | (exfalso; omega)
                  | (
                   refine c_cond_f rfl ?_
                   refine c_skip ?_
                   refine e_norm_block ?_
                   refine e_next ?_
                   refine c_region ?_
                   refine r_val .none rfl (p_move rfl) ?_
                   refine r_val .none rfl (p_add rfl rfl (by omega)) ?_
                   refine r_val .none rfl (p_assign rfl) ?_
                   refine r_nil ?_
                   refine e_again ?_
                   refine l_round (n := 0) ?_
                   refine c_seq ?_
                   refine c_seq ?_
                   refine c_region ?_
                   refine r_val .none rfl (p_move rfl) ?_
                   refine r_val .none rfl (p_lt rfl rfl) ?_
                   refine r_say (d := 24) (v := Value.bool false) rfl ?_
                   refine r_nil ?_
                   refine e_next ?_
                   refine c_cond_f rfl ?_
                   refine c_exit ?_
                   refine e_exit_then ?_
                   refine e_exit_then ?_
                   refine e_exit_block ?_
                   refine e_next ?_
                   refine c_seq ?_
                   refine c_seq ?_
                   refine c_region ?_
                   refine r_val .none rfl (p_field Try.underlying102 rfl sz75 rfl) ?_
                   refine r_val .none rfl (p_ld (k := 0) Try.underlying75 rfl rfl rfl (by first | exact of_decide_eq_true rfl | omega) rfl) ?_
                   refine r_val .none rfl (p_leng Try.underlying75 rfl hr) ?_
                   have bd_11 := (hr).bound
                   refine r_val .none rfl (p_gt rfl rfl) ?_
                   refine r_nil ?_
                   refine e_next ?_
                   refine c_splitd (d := 36) rfl (fun h_12 => ?_) (fun h_12 => ?_)
                   ·
                    first
                     | (exfalso; omega)
                     | (
                      refine c_cond_t rfl ?_
                      refine c_seq ?_
                      refine c_region ?_
                      refine r_val .none rfl (p_assign rfl) ?_
                      refine r_nil ?_
                      refine e_next ?_
                      refine c_ret ?_
                      refine e_ret_then ?_
                      refine e_ret_then ?_
                      refine e_ret1 Try.results60 (.tmp rfl .nil) (fun w hm => ⟨?_, hm.since⟩)
                      rw [check_eq c d, show max d 1 = d by omega]
                      have e5 : (0 : Int) = rs.length ∨ 0 < rs.length := (by omega)
                      first
                      | exact congrArg (Value.int .i64) (if_pos (by omega)).symm
                      | exact congrArg (Value.int .i64) ((if_neg (by omega)).trans ((if_neg (by omega)).trans (if_pos (by omega)))).symm
                      | exact congrArg (Value.int .i64) ((if_neg (by omega)).trans ((if_neg (by omega)).trans ((if_neg (by omega)).trans (if_pos (by first | (right; omega) | (left; simp_all [headOk]; done)))))).symm
                      | exact congrArg (Value.int .i64) ((if_neg (by omega)).trans ((if_neg (by omega)).trans ((if_neg (by omega)).trans (if_neg (by rintro (hx | hx) <;> first | omega | (simp_all [headOk]; done)))))).symm
                      | exact congrArg (Value.int .i64) ((if_neg (by omega)).trans ((if_pos (by omega)).trans (if_pos (headNone_no (by omega))))).symm
                      | exact congrArg (Value.int .i64) ((if_neg (by omega)).trans ((if_pos (by omega)).trans ((if_neg (headNone_yes (by omega))).trans (if_pos (by omega))))).symm
                      | exact congrArg (Value.int .i64) ((if_neg (by omega)).trans ((if_pos (by omega)).trans ((if_neg (headNone_yes (by omega))).trans ((if_neg (by omega)).trans (by rw [← hphi.2, map_drop (i := k) (d := d0) (by omega), checkL_no hE]))))).symm
                      | exact congrArg (Value.int .i64) ((if_neg (by omega)).trans ((if_pos (by omega)).trans ((if_neg (headNone_yes (by omega))).trans ((if_neg (by omega)).trans (by rw [← hphi.2, List.drop_eq_nil_of_le (by simp; omega), checkL]))))).symm
                      )
                   ·
                    first
                     | (exfalso; omega)
                     | (
                      refine c_cond_f rfl ?_
                      refine c_skip ?_
                      refine e_next ?_
                      refine c_seq ?_
                      refine c_region ?_
                      refine r_val .none rfl (p_assign rfl) ?_
                      refine r_nil ?_
                      refine e_next ?_
                      refine c_ret ?_
                      refine e_ret_then ?_
                      refine e_ret1 Try.results60 (.tmp rfl .nil) (fun w hm => ⟨?_, hm.since⟩)
                      rw [check_eq c d, show max d 1 = d by omega]
                      have e5 : (0 : Int) = rs.length ∨ 0 < rs.length := (by omega)
                      first
                      | exact congrArg (Value.int .i64) (if_pos (by omega)).symm
                      | exact congrArg (Value.int .i64) ((if_neg (by omega)).trans ((if_neg (by omega)).trans (if_pos (by omega)))).symm
                      | exact congrArg (Value.int .i64) ((if_neg (by omega)).trans ((if_neg (by omega)).trans ((if_neg (by omega)).trans (if_pos (by first | (right; omega) | (left; simp_all [headOk]; done)))))).symm
                      | exact congrArg (Value.int .i64) ((if_neg (by omega)).trans ((if_neg (by omega)).trans ((if_neg (by omega)).trans (if_neg (by rintro (hx | hx) <;> first | omega | (simp_all [headOk]; done)))))).symm
                      | exact congrArg (Value.int .i64) ((if_neg (by omega)).trans ((if_pos (by omega)).trans (if_pos (headNone_no (by omega))))).symm
                      | exact congrArg (Value.int .i64) ((if_neg (by omega)).trans ((if_pos (by omega)).trans ((if_neg (headNone_yes (by omega))).trans (if_pos (by omega))))).symm
                      | exact congrArg (Value.int .i64) ((if_neg (by omega)).trans ((if_pos (by omega)).trans ((if_neg (headNone_yes (by omega))).trans ((if_neg (by omega)).trans (by rw [← hphi.2, map_drop (i := k) (d := d0) (by omega), checkL_no hE]))))).symm
                      | exact congrArg (Value.int .i64) ((if_neg (by omega)).trans ((if_pos (by omega)).trans ((if_neg (headNone_yes (by omega))).trans ((if_neg (by omega)).trans (by rw [← hphi.2, List.drop_eq_nil_of_le (by simp; omega), checkL]))))).symm
                      )
                   )
                )
             )
          )
       ·
        first
         | (exfalso; omega)
         | (
          refine c_cond_f rfl ?_
          refine c_skip ?_
          refine e_next ?_
          refine c_seq ?_
          refine c_seq ?_
          refine c_region ?_
          refine r_val .none rfl (p_assign rfl) ?_
          refine r_nil ?_
          refine e_next ?_
          refine c_block ?_
          refine c_unroll 4 ?_
          refine l_round (n := 3) ?_
          refine c_seq ?_
          refine c_seq ?_
          refine c_region ?_
          refine r_val .none rfl (p_move rfl) ?_
          refine r_val .none rfl (p_lt rfl rfl) ?_
          refine r_say (d := 38) (v := Value.bool true) rfl ?_
          refine r_nil ?_
          refine e_next ?_
          refine c_cond_t rfl ?_
          refine c_skip ?_
          refine e_next ?_
          refine c_seq ?_
          refine c_block ?_
          refine c_seq ?_
          refine c_region ?_
          refine r_val .none rfl (p_move rfl) ?_
          refine r_val .none rfl (p_field Try.underlying102 rfl sz100 rfl) ?_
          refine r_val .none rfl (p_iaddr (k := 0) Try.underlying100 sz99 rfl rfl (by first | exact of_decide_eq_true rfl | omega)) ?_
          refine r_val .none rfl (p_field Try.underlying99 rfl sz3 rfl) ?_
          refine r_val .none rfl (p_ld (k := 0) Try.underlying3 rfl rfl rfl (by first | exact of_decide_eq_true rfl | omega) (rfl : _ = Value.int _ _)) ?_
          refine r_val .none rfl (p_ne rfl rfl) ?_
          refine r_val .none rfl (p_move rfl) ?_
          refine' r_or (c := 47) (d := 54) [_, _, _, _, _, _, _] rfl (fun h_13 Q_14 hQ_15 => ?_) (fun h_13 Q_14 hQ_15 => ?_) ?_
          rotate_left 1
          ·
           replace h_13 := of_decide_eq_false h_13
           refine r_val (.some rfl rfl) rfl (p_move rfl) ?_
           refine r_val (.some rfl rfl) rfl (p_field Try.underlying102 rfl sz100 rfl) ?_
           refine r_val (.some rfl rfl) rfl (p_iaddr (k := 0) Try.underlying100 sz99 rfl rfl (by first | exact of_decide_eq_true rfl | omega)) ?_
           refine r_val (.some rfl rfl) rfl (p_field Try.underlying99 rfl sz3 rfl) ?_
           refine r_val (.some rfl rfl) rfl (p_ld (k := 0) Try.underlying3 rfl rfl rfl (by first | exact of_decide_eq_true rfl | omega) (rfl : _ = Value.int _ _)) ?_
           refine r_val (.some rfl rfl) rfl (p_ne rfl rfl) ?_
           refine r_val .none rfl (p_pick_f rfl rfl) ?_
           refine r_nil (e_fin (d := 54) hQ_15 rfl (by repeat (first | exact .refl | refine .put rfl ?_ | refine .say rfl ?_ | refine .say2 rfl (by first | assumption | simp_all) ?_)))
          ·
           repeat (first | refine r_skip rfl (.no rfl rfl) ?_ | refine r_skip rfl (.un rfl rfl) ?_)
           refine r_val (by first | exact .none | exact .some rfl rfl) rfl (p_pick_t rfl rfl) ?_
           refine r_nil (e_fin (d := 54) hQ_15 rfl (by repeat (first | exact .refl | refine .put rfl ?_ | refine .say rfl ?_ | refine .say2 rfl (by first | assumption | simp_all) ?_)))
          refine r_nil ?_
          refine e_next ?_
          refine c_split (d := 54) rfl (fun h_17 => ?_) (fun h_17 => ?_)
          ·
           try simp only [norms] at h_17
           first
            | (exfalso; omega)
            | (
             refine c_cond_t rfl ?_
             refine c_seq ?_
             refine c_region ?_
             refine r_val .none rfl (p_assign rfl) ?_
             refine r_nil ?_
             refine e_next ?_
             refine c_ret ?_
             refine e_ret_block ?_
             refine e_ret_then ?_
             refine e_ret_then ?_
             refine e_ret_block ?_
             refine e_ret_then ?_
             refine e_ret1 Try.results60 (.tmp rfl .nil) (fun w hm => ⟨?_, hm.since⟩)
             rw [check_eq c d, show max d 1 = d by omega]
             have e5 : (0 : Int) = rs.length ∨ 0 < rs.length := (by omega)
             first
             | exact congrArg (Value.int .i64) (if_pos (by omega)).symm
             | exact congrArg (Value.int .i64) ((if_neg (by omega)).trans ((if_neg (by omega)).trans (if_pos (by omega)))).symm
             | exact congrArg (Value.int .i64) ((if_neg (by omega)).trans ((if_neg (by omega)).trans ((if_neg (by omega)).trans (if_pos (by first | (right; omega) | (left; simp_all [headOk]; done)))))).symm
             | exact congrArg (Value.int .i64) ((if_neg (by omega)).trans ((if_neg (by omega)).trans ((if_neg (by omega)).trans (if_neg (by rintro (hx | hx) <;> first | omega | (simp_all [headOk]; done)))))).symm
             | exact congrArg (Value.int .i64) ((if_neg (by omega)).trans ((if_pos (by omega)).trans (if_pos (headNone_no (by omega))))).symm
             | exact congrArg (Value.int .i64) ((if_neg (by omega)).trans ((if_pos (by omega)).trans ((if_neg (headNone_yes (by omega))).trans (if_pos (by omega))))).symm
             | exact congrArg (Value.int .i64) ((if_neg (by omega)).trans ((if_pos (by omega)).trans ((if_neg (headNone_yes (by omega))).trans ((if_neg (by omega)).trans (by rw [← hphi.2, map_drop (i := k) (d := d0) (by omega), checkL_no hE]))))).symm
             | exact congrArg (Value.int .i64) ((if_neg (by omega)).trans ((if_pos (by omega)).trans ((if_neg (headNone_yes (by omega))).trans ((if_neg (by omega)).trans (by rw [← hphi.2, List.drop_eq_nil_of_le (by simp; omega), checkL]))))).symm
             )
          ·
           try simp only [norms] at h_17
           first
            | (exfalso; omega)
            | (
             refine c_cond_f rfl ?_
             refine c_skip ?_
             refine e_norm_block ?_
             refine e_next ?_
             refine c_region ?_
             refine r_val .none rfl (p_move rfl) ?_
             refine r_val .none rfl (p_add rfl rfl (by omega)) ?_
             refine r_val .none rfl (p_assign rfl) ?_
             refine r_nil ?_
             refine e_again ?_
             refine l_round (n := 2) ?_
             refine c_seq ?_
             refine c_seq ?_
             refine c_region ?_
             refine r_val .none rfl (p_move rfl) ?_
             refine r_val .none rfl (p_lt rfl rfl) ?_
             refine r_say (d := 38) (v := Value.bool true) rfl ?_
             refine r_nil ?_
             refine e_next ?_
             refine c_cond_t rfl ?_
             refine c_skip ?_
             refine e_next ?_
             refine c_seq ?_
             refine c_block ?_
             refine c_seq ?_
             refine c_region ?_
             refine r_val .none rfl (p_move rfl) ?_
             refine r_val .none rfl (p_field Try.underlying102 rfl sz100 rfl) ?_
             refine r_val .none rfl (p_iaddr (k := 1) Try.underlying100 sz99 rfl rfl (by first | exact of_decide_eq_true rfl | omega)) ?_
             refine r_val .none rfl (p_field Try.underlying99 rfl sz3 rfl) ?_
             refine r_val .none rfl (p_ld (k := 0) Try.underlying3 rfl rfl rfl (by first | exact of_decide_eq_true rfl | omega) (rfl : _ = Value.int _ _)) ?_
             refine r_val .none rfl (p_ne rfl rfl) ?_
             refine r_val .none rfl (p_move rfl) ?_
             refine r_splitd (d := 47) rfl (fun h_18 => ?_) (fun h_18 => ?_)
             ·
              first
               | (exfalso; omega)
               | (
                refine r_skip rfl (.no rfl rfl) ?_
                refine r_skip rfl (.no rfl rfl) ?_
                refine r_skip rfl (.no rfl rfl) ?_
                refine r_skip rfl (.no rfl rfl) ?_
                refine r_skip rfl (.no rfl rfl) ?_
                refine r_skip rfl (.no rfl rfl) ?_
                refine r_val .none rfl (p_pick_t rfl rfl) ?_
                refine r_nil ?_
                refine e_next ?_
                refine c_cond_t rfl ?_
                refine c_seq ?_
                refine c_region ?_
                refine r_val .none rfl (p_assign rfl) ?_
                refine r_nil ?_
                refine e_next ?_
                refine c_ret ?_
                refine e_ret_block ?_
                refine e_ret_then ?_
                refine e_ret_then ?_
                refine e_ret_block ?_
                refine e_ret_then ?_
                refine e_ret1 Try.results60 (.tmp rfl .nil) (fun w hm => ⟨?_, hm.since⟩)
                rw [check_eq c d, show max d 1 = d by omega]
                have e5 : (0 : Int) = rs.length ∨ 0 < rs.length := (by omega)
                first
                | exact congrArg (Value.int .i64) (if_pos (by omega)).symm
                | exact congrArg (Value.int .i64) ((if_neg (by omega)).trans ((if_neg (by omega)).trans (if_pos (by omega)))).symm
                | exact congrArg (Value.int .i64) ((if_neg (by omega)).trans ((if_neg (by omega)).trans ((if_neg (by omega)).trans (if_pos (by first | (right; omega) | (left; simp_all [headOk]; done)))))).symm
                | exact congrArg (Value.int .i64) ((if_neg (by omega)).trans ((if_neg (by omega)).trans ((if_neg (by omega)).trans (if_neg (by rintro (hx | hx) <;> first | omega | (simp_all [headOk]; done)))))).symm
                | exact congrArg (Value.int .i64) ((if_neg (by omega)).trans ((if_pos (by omega)).trans (if_pos (headNone_no (by omega))))).symm
                | exact congrArg (Value.int .i64) ((if_neg (by omega)).trans ((if_pos (by omega)).trans ((if_neg (headNone_yes (by omega))).trans (if_pos (by omega))))).symm
                | exact congrArg (Value.int .i64) ((if_neg (by omega)).trans ((if_pos (by omega)).trans ((if_neg (headNone_yes (by omega))).trans ((if_neg (by omega)).trans (by rw [← hphi.2, map_drop (i := k) (d := d0) (by omega), checkL_no hE]))))).symm
                | exact congrArg (Value.int .i64) ((if_neg (by omega)).trans ((if_pos (by omega)).trans ((if_neg (headNone_yes (by omega))).trans ((if_neg (by omega)).trans (by rw [← hphi.2, List.drop_eq_nil_of_le (by simp; omega), checkL]))))).symm
                )
             ·
              first
               | (exfalso; omega)
               | (
                refine r_val (.some rfl rfl) rfl (p_move rfl) ?_
                refine r_val (.some rfl rfl) rfl (p_field Try.underlying102 rfl sz100 rfl) ?_
                refine r_val (.some rfl rfl) rfl (p_iaddr (k := 1) Try.underlying100 sz99 rfl rfl (by first | exact of_decide_eq_true rfl | omega)) ?_
                refine r_val (.some rfl rfl) rfl (p_field Try.underlying99 rfl sz3 rfl) ?_
                refine r_val (.some rfl rfl) rfl (p_ld (k := 0) Try.underlying3 rfl rfl rfl (by first | exact of_decide_eq_true rfl | omega) (rfl : _ = Value.int _ _)) ?_
                refine r_val (.some rfl rfl) rfl (p_ne rfl rfl) ?_
                refine r_val .none rfl (p_pick_f rfl rfl) ?_
                refine r_nil ?_
                refine e_next ?_
                refine c_splitd (d := 54) rfl (fun h_19 => ?_) (fun h_19 => ?_)
                ·
                 first
                  | (exfalso; omega)
                  | (
                   refine c_cond_t rfl ?_
                   refine c_seq ?_
                   refine c_region ?_
                   refine r_val .none rfl (p_assign rfl) ?_
                   refine r_nil ?_
                   refine e_next ?_
                   refine c_ret ?_
                   refine e_ret_block ?_
                   refine e_ret_then ?_
                   refine e_ret_then ?_
                   refine e_ret_block ?_
                   refine e_ret_then ?_
                   refine e_ret1 Try.results60 (.tmp rfl .nil) (fun w hm => ⟨?_, hm.since⟩)
                   rw [check_eq c d, show max d 1 = d by omega]
                   have e5 : (0 : Int) = rs.length ∨ 0 < rs.length := (by omega)
                   first
                   | exact congrArg (Value.int .i64) (if_pos (by omega)).symm
                   | exact congrArg (Value.int .i64) ((if_neg (by omega)).trans ((if_neg (by omega)).trans (if_pos (by omega)))).symm
                   | exact congrArg (Value.int .i64) ((if_neg (by omega)).trans ((if_neg (by omega)).trans ((if_neg (by omega)).trans (if_pos (by first | (right; omega) | (left; simp_all [headOk]; done)))))).symm
                   | exact congrArg (Value.int .i64) ((if_neg (by omega)).trans ((if_neg (by omega)).trans ((if_neg (by omega)).trans (if_neg (by rintro (hx | hx) <;> first | omega | (simp_all [headOk]; done)))))).symm
                   | exact congrArg (Value.int .i64) ((if_neg (by omega)).trans ((if_pos (by omega)).trans (if_pos (headNone_no (by omega))))).symm
                   | exact congrArg (Value.int .i64) ((if_neg (by omega)).trans ((if_pos (by omega)).trans ((if_neg (headNone_yes (by omega))).trans (if_pos (by omega))))).symm
                   | exact congrArg (Value.int .i64) ((if_neg (by omega)).trans ((if_pos (by omega)).trans ((if_neg (headNone_yes (by omega))).trans ((if_neg (by omega)).trans (by rw [← hphi.2, map_drop (i := k) (d := d0) (by omega), checkL_no hE]))))).symm
                   | exact congrArg (Value.int .i64) ((if_neg (by omega)).trans ((if_pos (by omega)).trans ((if_neg (headNone_yes (by omega))).trans ((if_neg (by omega)).trans (by rw [← hphi.2, List.drop_eq_nil_of_le (by simp; omega), checkL]))))).symm
                   )
                ·
                 first
                  | (exfalso; omega)
                  | (
                   refine c_cond_f rfl ?_
                   refine c_skip ?_
                   refine e_norm_block ?_
                   refine e_next ?_
                   refine c_region ?_
                   refine r_val .none rfl (p_move rfl) ?_
                   refine r_val .none rfl (p_add rfl rfl (by omega)) ?_
                   refine r_val .none rfl (p_assign rfl) ?_
                   refine r_nil ?_
                   refine e_again ?_
                   refine l_round (n := 1) ?_
                   refine c_seq ?_
                   refine c_seq ?_
                   refine c_region ?_
                   refine r_val .none rfl (p_move rfl) ?_
                   refine r_val .none rfl (p_lt rfl rfl) ?_
                   refine r_say (d := 38) (v := Value.bool true) rfl ?_
                   refine r_nil ?_
                   refine e_next ?_
                   refine c_cond_t rfl ?_
                   refine c_skip ?_
                   refine e_next ?_
                   refine c_seq ?_
                   refine c_block ?_
                   refine c_seq ?_
                   refine c_region ?_
                   refine r_val .none rfl (p_move rfl) ?_
                   refine r_val .none rfl (p_field Try.underlying102 rfl sz100 rfl) ?_
                   refine r_val .none rfl (p_iaddr (k := 2) Try.underlying100 sz99 rfl rfl (by first | exact of_decide_eq_true rfl | omega)) ?_
                   refine r_val .none rfl (p_field Try.underlying99 rfl sz3 rfl) ?_
                   refine r_val .none rfl (p_ld (k := 0) Try.underlying3 rfl rfl rfl (by first | exact of_decide_eq_true rfl | omega) (rfl : _ = Value.int _ _)) ?_
                   refine r_val .none rfl (p_ne rfl rfl) ?_
                   refine r_val .none rfl (p_move rfl) ?_
                   refine r_splitd (d := 47) rfl (fun h_20 => ?_) (fun h_20 => ?_)
                   ·
                    first
                     | (exfalso; omega)
                     | (
                      refine r_skip rfl (.no rfl rfl) ?_
                      refine r_skip rfl (.no rfl rfl) ?_
                      refine r_skip rfl (.no rfl rfl) ?_
                      refine r_skip rfl (.no rfl rfl) ?_
                      refine r_skip rfl (.no rfl rfl) ?_
                      refine r_skip rfl (.no rfl rfl) ?_
                      refine r_val .none rfl (p_pick_t rfl rfl) ?_
                      refine r_nil ?_
                      refine e_next ?_
                      refine c_cond_t rfl ?_
                      refine c_seq ?_
                      refine c_region ?_
                      refine r_val .none rfl (p_assign rfl) ?_
                      refine r_nil ?_
                      refine e_next ?_
                      refine c_ret ?_
                      refine e_ret_block ?_
                      refine e_ret_then ?_
                      refine e_ret_then ?_
                      refine e_ret_block ?_
                      refine e_ret_then ?_
                      refine e_ret1 Try.results60 (.tmp rfl .nil) (fun w hm => ⟨?_, hm.since⟩)
                      rw [check_eq c d, show max d 1 = d by omega]
                      have e5 : (0 : Int) = rs.length ∨ 0 < rs.length := (by omega)
                      first
                      | exact congrArg (Value.int .i64) (if_pos (by omega)).symm
                      | exact congrArg (Value.int .i64) ((if_neg (by omega)).trans ((if_neg (by omega)).trans (if_pos (by omega)))).symm
                      | exact congrArg (Value.int .i64) ((if_neg (by omega)).trans ((if_neg (by omega)).trans ((if_neg (by omega)).trans (if_pos (by first | (right; omega) | (left; simp_all [headOk]; done)))))).symm
                      | exact congrArg (Value.int .i64) ((if_neg (by omega)).trans ((if_neg (by omega)).trans ((if_neg (by omega)).trans (if_neg (by rintro (hx | hx) <;> first | omega | (simp_all [headOk]; done)))))).symm
                      | exact congrArg (Value.int .i64) ((if_neg (by omega)).trans ((if_pos (by omega)).trans (if_pos (headNone_no (by omega))))).symm
                      | exact congrArg (Value.int .i64) ((if_neg (by omega)).trans ((if_pos (by omega)).trans ((if_neg (headNone_yes (by omega))).trans (if_pos (by omega))))).symm
                      | exact congrArg (Value.int .i64) ((if_neg (by omega)).trans ((if_pos (by omega)).trans ((if_neg (headNone_yes (by omega))).trans ((if_neg (by omega)).trans (by rw [← hphi.2, map_drop (i := k) (d := d0) (by omega), checkL_no hE]))))).symm
                      | exact congrArg (Value.int .i64) ((if_neg (by omega)).trans ((if_pos (by omega)).trans ((if_neg (headNone_yes (by omega))).trans ((if_neg (by omega)).trans (by rw [← hphi.2, List.drop_eq_nil_of_le (by simp; omega), checkL]))))).symm
                      )
                   ·
                    first
                     | (exfalso; omega)
                     | (
                      refine r_val (.some rfl rfl) rfl (p_move rfl) ?_
                      refine r_val (.some rfl rfl) rfl (p_field Try.underlying102 rfl sz100 rfl) ?_
                      refine r_val (.some rfl rfl) rfl (p_iaddr (k := 2) Try.underlying100 sz99 rfl rfl (by first | exact of_decide_eq_true rfl | omega)) ?_
                      refine r_val (.some rfl rfl) rfl (p_field Try.underlying99 rfl sz3 rfl) ?_
                      refine r_val (.some rfl rfl) rfl (p_ld (k := 0) Try.underlying3 rfl rfl rfl (by first | exact of_decide_eq_true rfl | omega) (rfl : _ = Value.int _ _)) ?_
                      refine r_val (.some rfl rfl) rfl (p_ne rfl rfl) ?_
                      refine r_val .none rfl (p_pick_f rfl rfl) ?_
                      refine r_nil ?_
                      refine e_next ?_
                      refine c_splitd (d := 54) rfl (fun h_21 => ?_) (fun h_21 => ?_)
                      ·
                       first
                        | (exfalso; omega)
                        | (
                         refine c_cond_t rfl ?_
                         refine c_seq ?_
                         refine c_region ?_
                         refine r_val .none rfl (p_assign rfl) ?_
                         refine r_nil ?_
                         refine e_next ?_
                         refine c_ret ?_
                         refine e_ret_block ?_
                         refine e_ret_then ?_
                         refine e_ret_then ?_
                         refine e_ret_block ?_
                         refine e_ret_then ?_
                         refine e_ret1 Try.results60 (.tmp rfl .nil) (fun w hm => ⟨?_, hm.since⟩)
                         rw [check_eq c d, show max d 1 = d by omega]
                         have e5 : (0 : Int) = rs.length ∨ 0 < rs.length := (by omega)
                         first
                         | exact congrArg (Value.int .i64) (if_pos (by omega)).symm
                         | exact congrArg (Value.int .i64) ((if_neg (by omega)).trans ((if_neg (by omega)).trans (if_pos (by omega)))).symm
                         | exact congrArg (Value.int .i64) ((if_neg (by omega)).trans ((if_neg (by omega)).trans ((if_neg (by omega)).trans (if_pos (by first | (right; omega) | (left; simp_all [headOk]; done)))))).symm
                         | exact congrArg (Value.int .i64) ((if_neg (by omega)).trans ((if_neg (by omega)).trans ((if_neg (by omega)).trans (if_neg (by rintro (hx | hx) <;> first | omega | (simp_all [headOk]; done)))))).symm
                         | exact congrArg (Value.int .i64) ((if_neg (by omega)).trans ((if_pos (by omega)).trans (if_pos (headNone_no (by omega))))).symm
                         | exact congrArg (Value.int .i64) ((if_neg (by omega)).trans ((if_pos (by omega)).trans ((if_neg (headNone_yes (by omega))).trans (if_pos (by omega))))).symm
                         | exact congrArg (Value.int .i64) ((if_neg (by omega)).trans ((if_pos (by omega)).trans ((if_neg (headNone_yes (by omega))).trans ((if_neg (by omega)).trans (by rw [← hphi.2, map_drop (i := k) (d := d0) (by omega), checkL_no hE]))))).symm
                         | exact congrArg (Value.int .i64) ((if_neg (by omega)).trans ((if_pos (by omega)).trans ((if_neg (headNone_yes (by omega))).trans ((if_neg (by omega)).trans (by rw [← hphi.2, List.drop_eq_nil_of_le (by simp; omega), checkL]))))).symm
                         )
                      ·
                       first
                        | (exfalso; omega)
                        | (
                         refine c_cond_f rfl ?_
                         refine c_skip ?_
                         refine e_norm_block ?_
                         refine e_next ?_
                         refine c_region ?_
                         refine r_val .none rfl (p_move rfl) ?_
                         refine r_val .none rfl (p_add rfl rfl (by omega)) ?_
                         refine r_val .none rfl (p_assign rfl) ?_
                         refine r_nil ?_
                         refine e_again ?_
                         refine l_round (n := 0) ?_
                         refine c_seq ?_
                         refine c_seq ?_
                         refine c_region ?_
                         refine r_val .none rfl (p_move rfl) ?_
                         refine r_val .none rfl (p_lt rfl rfl) ?_
                         refine r_say (d := 38) (v := Value.bool false) rfl ?_
                         refine r_nil ?_
                         refine e_next ?_
                         refine c_cond_f rfl ?_
                         refine c_exit ?_
                         refine e_exit_then ?_
                         refine e_exit_then ?_
                         refine e_exit_block ?_
                         refine e_next ?_
                         refine c_seq ?_
                         refine c_seq ?_
                         refine c_region ?_
                         refine r_val .none rfl (p_field Try.underlying102 rfl sz75 rfl) ?_
                         refine r_val .none rfl (p_ld (k := 0) Try.underlying75 rfl rfl rfl (by first | exact of_decide_eq_true rfl | omega) rfl) ?_
                         refine r_val .none rfl (p_leng Try.underlying75 rfl hr) ?_
                         have bd_22 := (hr).bound
                         refine r_val .none rfl (p_eq rfl rfl) ?_
                         refine r_nil ?_
                         refine e_next ?_
                         refine c_splitd (d := 58) rfl (fun h_23 => ?_) (fun h_23 => ?_)
                         ·
                          first
                           | (exfalso; omega)
                           | (
                            refine c_cond_t rfl ?_
                            refine c_seq ?_
                            refine c_region ?_
                            refine r_val .none rfl (p_assign rfl) ?_
                            refine r_nil ?_
                            refine e_next ?_
                            refine c_ret ?_
                            refine e_ret_then ?_
                            refine e_ret1 Try.results60 (.tmp rfl .nil) (fun w hm => ⟨?_, hm.since⟩)
                            rw [check_eq c d, show max d 1 = d by omega]
                            have e5 : (0 : Int) = rs.length ∨ 0 < rs.length := (by omega)
                            first
                            | exact congrArg (Value.int .i64) (if_pos (by omega)).symm
                            | exact congrArg (Value.int .i64) ((if_neg (by omega)).trans ((if_neg (by omega)).trans (if_pos (by omega)))).symm
                            | exact congrArg (Value.int .i64) ((if_neg (by omega)).trans ((if_neg (by omega)).trans ((if_neg (by omega)).trans (if_pos (by first | (right; omega) | (left; simp_all [headOk]; done)))))).symm
                            | exact congrArg (Value.int .i64) ((if_neg (by omega)).trans ((if_neg (by omega)).trans ((if_neg (by omega)).trans (if_neg (by rintro (hx | hx) <;> first | omega | (simp_all [headOk]; done)))))).symm
                            | exact congrArg (Value.int .i64) ((if_neg (by omega)).trans ((if_pos (by omega)).trans (if_pos (headNone_no (by omega))))).symm
                            | exact congrArg (Value.int .i64) ((if_neg (by omega)).trans ((if_pos (by omega)).trans ((if_neg (headNone_yes (by omega))).trans (if_pos (by omega))))).symm
                            | exact congrArg (Value.int .i64) ((if_neg (by omega)).trans ((if_pos (by omega)).trans ((if_neg (headNone_yes (by omega))).trans ((if_neg (by omega)).trans (by rw [← hphi.2, map_drop (i := k) (d := d0) (by omega), checkL_no hE]))))).symm
                            | exact congrArg (Value.int .i64) ((if_neg (by omega)).trans ((if_pos (by omega)).trans ((if_neg (headNone_yes (by omega))).trans ((if_neg (by omega)).trans (by rw [← hphi.2, List.drop_eq_nil_of_le (by simp; omega), checkL]))))).symm
                            )
                         ·
                          first
                           | (exfalso; omega)
                           | (
                            refine c_cond_f rfl ?_
                            refine c_skip ?_
                            refine e_next ?_
                            refine c_seq ?_
                            refine c_seq ?_
                            refine c_region ?_
                            refine r_val .none rfl (p_field Try.underlying102 rfl sz75 rfl) ?_
                            refine r_val .none rfl (p_ld (k := 0) Try.underlying75 rfl rfl rfl (by first | exact of_decide_eq_true rfl | omega) rfl) ?_
                            refine r_val .none rfl (p_leng Try.underlying75 rfl hr) ?_
                            have bd_24 := (hr).bound
                            refine r_val .none rfl (p_move rfl) ?_
                            refine r_nil ?_
                            refine e_next ?_
                            refine c_block ?_
                            refine c_name (d := 1) rfl (fun u_25 hu_25 => ?_)
                            refine c_name (d := 60) rfl (fun u_26 hu_26 => ?_)
                            refine c_name (d := 61) rfl (fun u_27 hu_27 => ?_)
                            refine c_nameL (k := 0) rfl (fun A_28 hA_28 => ?_)
                            refine c_loop (σ := Nat) (fun k => [(62, Value.int .i64 (k : Nat)), (1, u_25), (60, u_26), (61, u_27)]) (fun k => [A_28]) (fun _ => _) (fun k => k ≤ rs.length ∧ checkL ((rs.map Prod.fst).drop k) (d + 1) = checkL c.subs (d + 1)) (fun k => rs.length - k) (0) ⟨Nat.zero_le _, by rw [hl]; rfl⟩ rfl ⟨rfl, rfl, rfl, rfl, trivial⟩ (.keep (fun _ _ h => h) (.nil)) (fun k hphi => ?_)
                            subst hu_25
                            subst hu_26
                            subst hu_27
                            subst hA_28
                            refine c_seq ?_
                            refine c_region ?_
                            refine r_val .none rfl (p_lt rfl rfl) ?_
                            refine r_nil ?_
                            refine e_next ?_
                            refine c_seq ?_
                            refine c_splitd (d := 63) rfl (fun h_29 => ?_) (fun h_29 => ?_)
                            ·
                             first
                              | (exfalso; omega)
                              | (
                               refine c_cond_t rfl ?_
                               refine c_skip ?_
                               refine e_next ?_
                               refine c_seq ?_
                               refine c_block ?_
                               refine c_seq ?_
                               refine c_region ?_
                               refine r_iaddr_g .none rfl Try.underlying75 sz102 rfl hr rfl (by first | exact of_decide_eq_true rfl | omega) (fun p_31 o_32 R_30 => ?_)
                               have hc_33 := hp _ (getD_mem (i := k) (d := d0) (by omega))
                               refine r_val .none rfl (p_ldga0 Try.underlying102 rfl sz102 rfl R_30 (by first | exact of_decide_eq_true rfl | omega) (rfl : _ = Value.agg #[_, _, _, _, _, _, _, _])) ?_
                               refine r_alloc .none rfl zr102 (IsRow.lit _) (fun b_2 => ?_)
                               refine r_stw (k := 0) .none sz102 rfl rfl (IsRow.lit _) (one_lit rfl (all_cons rfl (all_cons rfl (all_cons rfl (all_cons rfl (all_cons rfl (all_cons rfl (all_cons rfl (all_cons (hc_33).one rfl))))))))) rfl ?_
                               refine r_nil ?_
                               refine e_next ?_
                               refine c_seq ?_
                               refine c_region ?_
                               refine r_val .none rfl (p_ldw (k := 0) Try.underlying102 rfl sz102 rfl rfl (rfl : _ = Value.agg #[_, _, _, _, _, _, _, _])) ?_
                               refine r_val .none rfl (p_move rfl) ?_
                               refine r_val .none rfl (p_add rfl rfl (by omega)) ?_
                               refine r_call (vs := [_, _]) .none rfl cl60 rfl (fun w hw => ih (rs.getD k d0).1 _ _ _ w (size_at hl (by omega) hz) (by omega) hc_33 hw) ?_
                               refine r_val .none rfl (p_assign rfl) ?_
                               refine r_nil ?_
                               refine e_next ?_
                               refine c_seq ?_
                               refine c_region ?_
                               refine r_val .none rfl (p_move rfl) ?_
                               refine r_val .none rfl (p_ne rfl rfl) ?_
                               refine r_nil ?_
                               refine e_next ?_
                               refine c_splitd (d := 71) rfl (fun h_34 => ?_) (fun h_34 => ?_)
                               ·
                                have hE := h_34
                                first
                                 | (exfalso; omega)
                                 | (
                                  refine c_cond_t rfl ?_
                                  refine c_seq ?_
                                  refine c_region ?_
                                  refine r_val .none rfl (p_move rfl) ?_
                                  refine r_val .none rfl (p_assign rfl) ?_
                                  refine r_nil ?_
                                  refine e_next ?_
                                  refine c_ret ?_
                                  refine e_ret_block ?_
                                  refine e_ret_then ?_
                                  refine e_ret_then ?_
                                  refine e_ret_block ?_
                                  refine e_ret_then ?_
                                  refine e_ret1 Try.results60 (.tmp rfl .nil) (fun w hm => ⟨?_, hm.since⟩)
                                  rw [check_eq c d, show max d 1 = d by omega]
                                  have e5 : (0 : Int) = rs.length ∨ 0 < rs.length := (by omega)
                                  first
                                  | exact congrArg (Value.int .i64) (if_pos (by omega)).symm
                                  | exact congrArg (Value.int .i64) ((if_neg (by omega)).trans ((if_neg (by omega)).trans (if_pos (by omega)))).symm
                                  | exact congrArg (Value.int .i64) ((if_neg (by omega)).trans ((if_neg (by omega)).trans ((if_neg (by omega)).trans (if_pos (by first | (right; omega) | (left; simp_all [headOk]; done)))))).symm
                                  | exact congrArg (Value.int .i64) ((if_neg (by omega)).trans ((if_neg (by omega)).trans ((if_neg (by omega)).trans (if_neg (by rintro (hx | hx) <;> first | omega | (simp_all [headOk]; done)))))).symm
                                  | exact congrArg (Value.int .i64) ((if_neg (by omega)).trans ((if_pos (by omega)).trans (if_pos (headNone_no (by omega))))).symm
                                  | exact congrArg (Value.int .i64) ((if_neg (by omega)).trans ((if_pos (by omega)).trans ((if_neg (headNone_yes (by omega))).trans (if_pos (by omega))))).symm
                                  | exact congrArg (Value.int .i64) ((if_neg (by omega)).trans ((if_pos (by omega)).trans ((if_neg (headNone_yes (by omega))).trans ((if_neg (by omega)).trans (by rw [← hphi.2, map_drop (i := k) (d := d0) (by omega), checkL_no hE]))))).symm
                                  | exact congrArg (Value.int .i64) ((if_neg (by omega)).trans ((if_pos (by omega)).trans ((if_neg (headNone_yes (by omega))).trans ((if_neg (by omega)).trans (by rw [← hphi.2, List.drop_eq_nil_of_le (by simp; omega), checkL]))))).symm
                                  )
                               ·
                                have hE := Decidable.not_not.1 h_34
                                first
                                 | (exfalso; omega)
                                 | (
                                  refine c_cond_f rfl ?_
                                  refine c_skip ?_
                                  refine e_norm_block ?_
                                  refine e_next ?_
                                  refine c_region ?_
                                  refine r_val .none rfl (p_add rfl rfl (by omega)) ?_
                                  refine r_val .none rfl (p_move rfl) ?_
                                  refine r_nil ?_
                                  refine e_round (k + 1) ⟨⟨by omega, by rw [← hphi.2, map_drop (i := k) (d := d0) (by omega), checkL_ok hE]⟩, by omega⟩ rfl ⟨rfl, rfl, rfl, rfl, trivial⟩ (.drop (.keep (fun _ _ h => h) (.nil)))
                                  )
                               )
                            ·
                             first
                              | (exfalso; omega)
                              | (
                               refine c_cond_f rfl ?_
                               refine c_exit ?_
                               refine e_exit_then ?_
                               refine e_exit_then ?_
                               refine e_exit_block ?_
                               refine e_next ?_
                               refine c_seq ?_
                               refine c_region ?_
                               refine r_val .none rfl (p_assign rfl) ?_
                               refine r_nil ?_
                               refine e_next ?_
                               refine c_ret ?_
                               refine e_ret1 Try.results60 (.tmp rfl .nil) (fun w hm => ⟨?_, hm.since⟩)
                               rw [check_eq c d, show max d 1 = d by omega]
                               have e5 : (0 : Int) = rs.length ∨ 0 < rs.length := (by omega)
                               first
                               | exact congrArg (Value.int .i64) (if_pos (by omega)).symm
                               | exact congrArg (Value.int .i64) ((if_neg (by omega)).trans ((if_neg (by omega)).trans (if_pos (by omega)))).symm
                               | exact congrArg (Value.int .i64) ((if_neg (by omega)).trans ((if_neg (by omega)).trans ((if_neg (by omega)).trans (if_pos (by first | (right; omega) | (left; simp_all [headOk]; done)))))).symm
                               | exact congrArg (Value.int .i64) ((if_neg (by omega)).trans ((if_neg (by omega)).trans ((if_neg (by omega)).trans (if_neg (by rintro (hx | hx) <;> first | omega | (simp_all [headOk]; done)))))).symm
                               | exact congrArg (Value.int .i64) ((if_neg (by omega)).trans ((if_pos (by omega)).trans (if_pos (headNone_no (by omega))))).symm
                               | exact congrArg (Value.int .i64) ((if_neg (by omega)).trans ((if_pos (by omega)).trans ((if_neg (headNone_yes (by omega))).trans (if_pos (by omega))))).symm
                               | exact congrArg (Value.int .i64) ((if_neg (by omega)).trans ((if_pos (by omega)).trans ((if_neg (headNone_yes (by omega))).trans ((if_neg (by omega)).trans (by rw [← hphi.2, map_drop (i := k) (d := d0) (by omega), checkL_no hE]))))).symm
                               | exact congrArg (Value.int .i64) ((if_neg (by omega)).trans ((if_pos (by omega)).trans ((if_neg (headNone_yes (by omega))).trans ((if_neg (by omega)).trans (by rw [← hphi.2, List.drop_eq_nil_of_le (by simp; omega), checkL]))))).symm
                               )
                            )
                         )
                      )
                   )
                )
             )
          )
       )
    )
theorem c_rcheck_n : ∀ n, RcheckIs n
 | 0 => fun c sv d G w hz hd hs hG => absurd hz (by have := size_subs c; omega)
 | n + 1 => fun c sv d G w hz hd hs hG => c_rcheck_s n (c_rcheck_n n) c sv d hz hd hs w hG
theorem c_rcheck (c : CT) (sv : Value) (d : Int) {G : Ghost} (hd : 1 ≤ d) (hs : Rs G sv c.subs) (w : World) (hG : Has G w) : Calls Try.prog 60 #[Value.agg #[Value.int .i64 c.h.k, Value.int .i64 (vi c.h.v0), Value.int .i64 c.h.n0, Value.int .i64 (vi c.h.v1), Value.int .i64 c.h.n1, Value.int .i64 (vi c.h.v2), Value.int .i64 c.h.n2, sv], Value.int .i64 d] w (Ret fun r w' => r = Value.int .i64 (check c d) ∧ Since nX w w') := c_rcheck_n _ c sv d G w (Nat.le_refl _) hd hs hG
theorem c_ref4_s (n : Nat) (ih : RefIs n) (c : CT) (sv : Value)  {G : Ghost} (hz : SizeOf.sizeOf c ≤ n + 1) (hsz : size c ≤ 1000) (hs : Cs G sv c.subs) (w : World) (hG : Has G w) :
  Calls Try.prog 43 #[Value.agg #[Value.int .i64 c.h.k, Value.bool c.h.v0, Value.int .i64 c.h.n0, Value.bool c.h.v1, Value.int .i64 c.h.n1, Value.bool c.h.v2, Value.int .i64 c.h.n2, sv]] w (Ret fun r w' => ∃ G', GNew w nX G G' ∧ Has G' w' ∧ (∃ u, r = Value.agg #[Value.int .i64 c.h.k, Value.int .i64 (vi c.h.v0), Value.int .i64 c.h.n0, Value.int .i64 (vi c.h.v1), Value.int .i64 c.h.n1, Value.int .i64 (vi c.h.v2), Value.int .i64 c.h.n2, u] ∧ Rs G' u c.subs) ∧ Since nX w w') := by
 refine enter (args := [_]) (X := nX) (G := G) (l := [(0, Value.agg #[Value.int .i64 c.h.k, Value.bool c.h.v0, Value.int .i64 c.h.n0, Value.bool c.h.v1, Value.int .i64 c.h.n1, Value.bool c.h.v2, Value.int .i64 c.h.n2, sv])]) Try.func43 rfl Try.ntmps43 hG ⟨rfl, trivial⟩ (Nat.le_of_ble_eq_true rfl) ?_
 obtain ⟨rs, hr, hp, hl⟩ := hs.inv
 have hlen : c.subs.length = rs.length := by rw [hl]; simp
 have hbd := hr.bound
 have hl1 := size_len hl hsz
 refine c_seq ?_
 refine c_region ?_
 refine r_box .none rfl rfl (IsRow.lit _) (fun b_1 => ?_)
 refine r_alloc .none rfl zr102 (IsRow.lit _) (fun b_2 => ?_)
 refine r_nil ?_
 refine e_next ?_
 refine c_seq ?_
 refine c_region_d (fun _ => false) _ mixed (.keep (fun _ _ h => h) (.keep (fun _ _ h => h) (.nil))) ?_
 refine d_val1 0 rfl rfl (by kernel_rfl) (fun _ _ => rfl) .none rfl (p_field Try.underlying97 rfl sz3 rfl) ?_
 refine d_val1 1 rfl rfl (by kernel_rfl) (fun _ _ => rfl) .none rfl (p_ld (k := 1) Try.underlying3 rfl rfl rfl (by first | exact of_decide_eq_true rfl | omega) (rfl : _ = Value.int _ _)) ?_
 refine d_val1 2 rfl rfl (by kernel_rfl) (fun _ _ => rfl) .none rfl (p_field Try.underlying97 rfl sz95 rfl) ?_
 refine d_val1 3 rfl rfl (by kernel_rfl) (fun _ _ => rfl) .none rfl (p_lda (k := 1) Try.underlying95 rfl sz95 rfl rfl (by first | exact of_decide_eq_true rfl | omega) (rfl : _ = Value.agg #[_, _, _, _, _, _])) ?_
 refine d_eff2 4 6 rfl rfl (by kernel_rfl) (fun K_1 hKK_1 hcK_1 => ?_) (fun K_1 hKK_1 hcK_1 => ?_)
 ·
  refine r_call (vs := [_]) .none rfl cl63 rfl (fun w hw => c_ref _ _ _ _ _ _ w) ?_
  refine r_nil (e_d (i := 4) (brk := (fun _ => false)) (ph' := true) hKK_1 hcK_1 rfl (fun _ => GLe.refl _) (fun _ => .keep (fun _ _ h => h) (.keep (fun _ _ h => h) (.nil))) ?_)
  clear hKK_1 hcK_1 K_1
  refine d_val1 5 rfl rfl (by kernel_rfl) (fun _ _ => rfl) .none rfl (p_build (vs := [(0, Value.int _ _), (1, Value.agg #[_, _, _, _, _, _])]) rfl (bl102_0i1_1a6 _ _ _ _ _ _ _)) ?_
  refine d_eff 6 rfl (by kernel_rfl) (fun K_2 hKK_2 hcK_2 => ?_)
  refine r_alloc .none rfl zr102 (IsRow.lit _) (fun b_3 => ?_)
  refine r_nil (e_d (i := 6) (brk := (fun _ => false)) (ph' := true) hKK_2 hcK_2 rfl (fun _ => GLe.refl _) (fun _ => .drop (.keep (fun _ _ h => h) (.keep (fun _ _ h => h) (.nil)))) ?_)
  clear hKK_2 hcK_2 K_2
  refine d_eff 7 rfl (by kernel_rfl) (fun K_3 hKK_3 hcK_3 => ?_)
  refine r_stw (k := 0) .none sz102 rfl rfl (IsRow.lit _) (one_lit rfl rfl) rfl ?_
  refine r_nil (e_d (i := 7) (brk := (fun _ => false)) (ph' := true) hKK_3 hcK_3 rfl (fun _ => GLe.refl _) (fun _ => .drop (.keep (fun _ _ h => h) (.keep (fun _ _ h => h) (.nil)))) ?_)
  clear hKK_3 hcK_3 K_3
  refine d_nil (by kernel_rfl) ?_
  refine e_next ?_
  refine c_seq ?_
  refine c_seq ?_
  refine c_region ?_
  refine r_val .none rfl (p_field Try.underlying97 rfl sz67 rfl) ?_
  refine r_val .none rfl (p_ld (k := 2) Try.underlying67 rfl rfl rfl (by first | exact of_decide_eq_true rfl | omega) rfl) ?_
  refine r_val .none rfl (p_leng Try.underlying67 rfl hr) ?_
  have bd_4 := (hr).bound
  refine r_val .none rfl (p_move rfl) ?_
  refine r_nil ?_
  refine e_next ?_
  refine c_block ?_
  refine c_nilrow 102 8 ?_
  refine c_name (d := 2) rfl (fun u_5 hu_5 => ?_)
  refine c_name (d := 3) rfl (fun u_6 hu_6 => ?_)
  refine c_name (d := 13) rfl (fun u_7 hu_7 => ?_)
  refine c_name (d := 14) rfl (fun u_8 hu_8 => ?_)
  refine c_nameL (k := 2) rfl (fun A_9 hA_9 => ?_)
  refine c_nameL (k := 3) rfl (fun A_10 hA_10 => ?_)
  refine c_loop (σ := Nat × Value × List (CT × Value) × Ghost) (fun s => [(15, Value.int .i64 (s.1 : Nat)), (2, u_5), (3, u_6), (13, u_7), (14, u_8)]) (fun s => [rowA (s.2.1) 102 8 (s.2.2.1).length ((s.2.2.1).flatMap rvC), box b_3 8 102 (at_ [.int .i64 c.h.k, .int .i64 (vi c.h.v0), .int .i64 c.h.n0, .int .i64 (vi c.h.v1), .int .i64 c.h.n1, .int .i64 (vi c.h.v2), .int .i64 c.h.n2, s.2.1]), A_9, A_10]) (fun s => s.2.2.2) (fun s => s.1 ≤ rs.length ∧ s.2.2.1.map Prod.fst = (rs.map Prod.fst).take s.1 ∧ (∀ p ∈ s.2.2.1, Rs s.2.2.2 p.2 p.1.subs) ∧ GNew w nX G s.2.2.2) (fun s => rs.length - s.1) ((0, _, [], _)) ⟨Nat.zero_le _, rfl, by simp, GNew.refl _ _ _⟩ rfl ⟨rfl, rfl, rfl, rfl, rfl, trivial⟩ (.keep (fun _ _ h => rowA_nil rfl _ _ h) (.keep (fun _ _ h => box_congr (fun i hi => by match i, hi with | 0, _ => rfl | 1, _ => rfl | 2, _ => rfl | 3, _ => rfl | 4, _ => rfl | 5, _ => rfl | 6, _ => rfl | 7, _ => rfl) _ _ h) (.keep (fun _ _ h => h) (.keep (fun _ _ h => h) (.nil))))) (fun s hphi => ?_)
  subst hu_5
  subst hu_6
  subst hu_7
  subst hu_8
  subst hA_9
  subst hA_10
  obtain ⟨k, v, qs, H⟩ := s
  obtain ⟨hk, hq, hqs, hgn⟩ := hphi
  dsimp only at hk hq hqs hgn ⊢
  have hql : qs.length ≤ k := (by have := congrArg List.length hq; simp at this; omega)
  refine c_row1 (k := 0) rfl (fun ov => ?_)
  refine c_rowlen (k := 0) rfl (fun l63 => ?_)
  replace hp := fun p hm0 => (hp p hm0).mono hgn.le
  replace hr := hr.mono hgn.le
  refine c_seq ?_
  refine c_region ?_
  refine r_val .none rfl (p_lt rfl rfl) ?_
  refine r_nil ?_
  refine e_next ?_
  refine c_seq ?_
  refine c_splitd (d := 16) rfl (fun h_11 => ?_) (fun h_11 => ?_)
  ·
   first
    | (exfalso; omega)
    | (
     refine c_cond_t rfl ?_
     refine c_skip ?_
     refine e_next ?_
     refine c_seq ?_
     refine c_block ?_
     refine c_seq ?_
     refine c_region ?_
     refine r_iaddr_g .none rfl Try.underlying67 sz97 rfl hr rfl (by first | exact of_decide_eq_true rfl | omega) (fun p_13 o_14 R_12 => ?_)
     have hc_15 := hp _ (getD_mem (i := k) (d := d0) (by omega))
     refine r_val .none rfl (p_ldga0 Try.underlying97 rfl sz97 rfl R_12 (by first | exact of_decide_eq_true rfl | omega) (rfl : _ = Value.agg #[_, _, _, _, _, _, _, _])) ?_
     refine r_alloc .none rfl zr97 (IsRow.lit _) (fun b_4 => ?_)
     refine r_stw (k := 0) .none sz97 rfl rfl (IsRow.lit _) (one_lit rfl (all_cons rfl (all_cons rfl (all_cons rfl (all_cons rfl (all_cons rfl (all_cons rfl (all_cons rfl (all_cons (hc_15).one rfl))))))))) rfl ?_
     refine r_nil ?_
     refine e_next ?_
     refine c_region_d (fun j => [5, 6, 7].contains j) _ mixed (.keep (fun _ _ h => h) (.keep (fun _ _ h => h) (.keep (fun _ _ h => h) (.keep (fun _ _ h => h) (.keep (fun _ _ h => h) (.nil)))))) ?_
     refine d_val1 0 rfl rfl (by kernel_rfl) (fun j hj => by have h : 7 < j := (Nat.lt_of_lt_of_le (by decide : 7 < 8) hj); simp; omega) .none rfl (p_field Try.underlying102 rfl sz75 rfl) ?_
     refine d_val1 1 rfl rfl (by kernel_rfl) (fun j hj => by have h : 7 < j := (Nat.lt_of_lt_of_le (by decide : 7 < 8) hj); simp; omega) .none rfl (p_ld (k := 2) Try.underlying75 rfl rfl rfl (by first | exact of_decide_eq_true rfl | omega) rfl) ?_
     refine d_val1 2 rfl rfl (by kernel_rfl) (fun j hj => by have h : 7 < j := (Nat.lt_of_lt_of_le (by decide : 7 < 8) hj); simp; omega) .none rfl (p_ldw (k := 0) Try.underlying97 rfl sz97 rfl rfl (rfl : _ = Value.agg #[_, _, _, _, _, _, _, _])) ?_
     refine d_eff 3 rfl (by kernel_rfl) (fun K_16 hKK_16 hcK_16 => ?_)
     refine r_callm (vs := [_]) .none rfl cl43 rfl (fun w hw => ih (rs.getD k d0).1 _ _ w (size_at hl (by omega) hz) (size_child hl (by omega) hsz) hc_15 hw) (fun G_17 v_20 hn_18 hr_19 => ?_)
     replace hp := fun p hm0 => (hp p hm0).mono hn_18.le
     replace hr := hr.mono hn_18.le
     replace hqs := fun p hm0 => (hqs p hm0).mono hn_18.le
     replace R_12 := R_12.mono hn_18.le
     replace hc_15 := hc_15.mono hn_18.le
     obtain ⟨u_21, rfl, u_21s⟩ := hr_19
     refine r_nil (e_d (i := 3) (brk := (fun j => [5, 6, 7].contains j)) (ph' := true) hKK_16 hcK_16 rfl (fun _ => hn_18.le) (fun _ => .keep (fun _ _ h => h) (.keep (fun _ _ h => h) (.keep (fun _ _ h => h) (.keep (fun _ _ h => h) (.keep (fun _ _ h => h) (.nil)))))) ?_)
     clear hKK_16 hcK_16 K_16
     refine d_eff 4 rfl (by kernel_rfl) (fun K_22 hKK_22 hcK_22 => ?_)
     refine r_bslice (vs := [(0, Value.agg #[_, _, _, _, _, _, _, _])]) (c := #[_, _, _, _, _, _, _, _]) .none rfl Try.underlying75 el102 rfl rfl rfl (bs102_10a8 _ _ _ _ _ _ _ _) (IsRow.lit _) (fun b_5 => ?_)
     refine r_nil (e_d (i := 4) (brk := (fun j => [5, 6, 7].contains j)) (ph' := true) hKK_22 hcK_22 rfl (fun _ => hn_18.le) (fun _ => .drop (.keep (fun _ _ h => h) (.keep (fun _ _ h => h) (.keep (fun _ _ h => h) (.keep (fun _ _ h => h) (.keep (fun _ _ h => h) (.nil))))))) ?_)
     clear hKK_22 hcK_22 K_22
     refine d_eff 5 rfl (by kernel_rfl) (fun K_23 hKK_23 hcK_23 => ?_)
     refine r_append (k := 2) (k2 := 0) .none rfl Try.underlying75 el102 rfl (by decide) rfl rfl rfl rfl rfl (one_lit rfl (all_cons rfl (all_cons rfl (all_cons rfl (all_cons rfl (all_cons rfl (all_cons rfl (all_cons rfl (all_cons (u_21s).one rfl))))))))) (by simp only [maxLen]; omega) (by omega) (fun v_24 => ?_)
     refine r_row1 (k := 2) rfl (fun o_25 => ?_)
     refine r_nil (e_d (i := 5) (brk := (fun j => [5, 6, 7].contains j)) (ph' := false) hKK_23 hcK_23 rfl (fun h => by cases h) (fun h => by cases h) ?_)
     clear hKK_23 hcK_23 K_23
     refine d_val2 6 rfl rfl (by kernel_rfl) .none rfl (fun _ => p_field Try.underlying102 rfl sz75 rfl) ?_
     refine d_eff 7 rfl (by kernel_rfl) (fun K_26 hKK_26 hcK_26 => ?_)
     refine r_st (k := 3) .none sz75 rfl rfl o_25 rfl (by first | exact of_decide_eq_true rfl | omega) ?_
     refine r_nil (e_d (i := 7) (brk := (fun j => [5, 6, 7].contains j)) (ph' := false) hKK_26 hcK_26 rfl (fun h => by cases h) (fun h => by cases h) ?_)
     clear hKK_26 hcK_26 K_26
     refine d_nil (by kernel_rfl) ?_
     refine e_norm_block ?_
     refine e_next ?_
     refine c_region ?_
     refine r_val .none rfl (p_add rfl rfl (by omega)) ?_
     refine r_val .none rfl (p_move rfl) ?_
     refine r_nil ?_
     refine e_round ((k + 1, _, qs ++ [((rs.getD k d0).1, u_21)], _)) ⟨⟨by dsimp only; omega, by rw [map_take (d := d0) (by omega), List.map_append, hq]; rfl, (fun p hp' => by rcases List.mem_append.1 hp' with h | h; exact hqs p h; rw [List.mem_singleton.1 h]; exact u_21s), (hgn.trans hn_18)⟩, by dsimp only; omega⟩ rfl ⟨rfl, rfl, rfl, rfl, rfl, trivial⟩ (.drop (.drop (.keep (fun _ _ h => rowA_snoc (l := qs) (x := ((rs.getD k d0).1, u_21)) rfl rfl rfl rfl _ _ h) (.keep (fun _ _ h => box_congr (fun i hi => by match i, hi with | 0, _ => rfl | 1, _ => rfl | 2, _ => rfl | 3, _ => rfl | 4, _ => rfl | 5, _ => rfl | 6, _ => rfl | 7, _ => rfl) _ _ h) (.keep (fun _ _ h => h) (.keep (fun _ _ h => h) (.nil)))))))
     )
  ·
   first
    | (exfalso; omega)
    | (
     refine c_cond_f rfl ?_
     refine c_exit ?_
     refine e_exit_then ?_
     refine e_exit_then ?_
     refine e_exit_block ?_
     refine e_next ?_
     refine c_seq ?_
     refine c_region ?_
     refine r_val .none rfl (p_ldw (k := 1) Try.underlying102 rfl sz102 rfl rfl (rfl : _ = Value.agg #[_, _, _, _, _, _, _, _])) ?_
     refine r_stw (k := 2) .none sz102 rfl rfl (IsRow.lit _) (one_lit rfl (all_cons rfl (all_cons rfl (all_cons rfl (all_cons rfl (all_cons rfl (all_cons rfl (all_cons rfl (all_cons ov rfl))))))))) rfl ?_
     refine r_nil ?_
     refine e_next ?_
     refine c_ret ?_
     refine e_freeze (k := 0) rfl (fun G_27 hn_28 hs_29 => ?_)
     replace hp := fun p hm0 => (hp p hm0).mono hn_28.le
     replace hr := hr.mono hn_28.le
     replace hqs := fun p hm0 => (hqs p hm0).mono hn_28.le
     refine e_ret1 Try.results43 (.cell (k := 1) rfl Try.underlying102 rfl sz102 rfl (rfl : _ = Value.agg #[_, _, _, _, _, _, _, _]) .nil) (fun w hm => ⟨_, (hgn.trans hn_28), hm.has, ⟨_, rfl, ?_⟩, hm.since⟩)
     rw [show c.subs = qs.map Prod.fst by rw [hl, hq, List.take_of_length_le (by simp; omega)]]
     exact Tr.mk qs (SlL.of d0 (fun _ => rfl) rfl hs_29) hqs
     )
 ·
  refine r_alloc .none rfl zr102 (IsRow.lit _) (fun b_6 => ?_)
  refine r_nil (e_d (i := 6) (brk := (fun _ => false)) (ph' := true) hKK_1 hcK_1 rfl (fun _ => GLe.refl _) (fun _ => .drop (.keep (fun _ _ h => h) (.keep (fun _ _ h => h) (.nil)))) ?_)
  clear hKK_1 hcK_1 K_1
  refine d_eff 4 rfl (by kernel_rfl) (fun K_30 hKK_30 hcK_30 => ?_)
  refine r_call (vs := [_]) .none rfl cl63 rfl (fun w hw => c_ref _ _ _ _ _ _ w) ?_
  refine r_nil (e_d (i := 4) (brk := (fun _ => false)) (ph' := true) hKK_30 hcK_30 rfl (fun _ => GLe.refl _) (fun _ => .drop (.keep (fun _ _ h => h) (.keep (fun _ _ h => h) (.nil)))) ?_)
  clear hKK_30 hcK_30 K_30
  refine d_val1 5 rfl rfl (by kernel_rfl) (fun _ _ => rfl) .none rfl (p_build (vs := [(0, Value.int _ _), (1, Value.agg #[_, _, _, _, _, _])]) rfl (bl102_0i1_1a6 _ _ _ _ _ _ _)) ?_
  refine d_eff 7 rfl (by kernel_rfl) (fun K_31 hKK_31 hcK_31 => ?_)
  refine r_stw (k := 0) .none sz102 rfl rfl (IsRow.lit _) (one_lit rfl rfl) rfl ?_
  refine r_nil (e_d (i := 7) (brk := (fun _ => false)) (ph' := true) hKK_31 hcK_31 rfl (fun _ => GLe.refl _) (fun _ => .drop (.keep (fun _ _ h => h) (.keep (fun _ _ h => h) (.nil)))) ?_)
  clear hKK_31 hcK_31 K_31
  refine d_nil (by kernel_rfl) ?_
  refine e_next ?_
  refine c_seq ?_
  refine c_seq ?_
  refine c_region ?_
  refine r_val .none rfl (p_field Try.underlying97 rfl sz67 rfl) ?_
  refine r_val .none rfl (p_ld (k := 2) Try.underlying67 rfl rfl rfl (by first | exact of_decide_eq_true rfl | omega) rfl) ?_
  refine r_val .none rfl (p_leng Try.underlying67 rfl hr) ?_
  have bd_32 := (hr).bound
  refine r_val .none rfl (p_move rfl) ?_
  refine r_nil ?_
  refine e_next ?_
  refine c_block ?_
  refine c_nilrow 102 8 ?_
  refine c_name (d := 2) rfl (fun u_33 hu_33 => ?_)
  refine c_name (d := 3) rfl (fun u_34 hu_34 => ?_)
  refine c_name (d := 13) rfl (fun u_35 hu_35 => ?_)
  refine c_name (d := 14) rfl (fun u_36 hu_36 => ?_)
  refine c_nameL (k := 2) rfl (fun A_37 hA_37 => ?_)
  refine c_nameL (k := 3) rfl (fun A_38 hA_38 => ?_)
  refine c_loop (σ := Nat × Value × List (CT × Value) × Ghost) (fun s => [(15, Value.int .i64 (s.1 : Nat)), (2, u_33), (3, u_34), (13, u_35), (14, u_36)]) (fun s => [rowA (s.2.1) 102 8 (s.2.2.1).length ((s.2.2.1).flatMap rvC), box b_6 8 102 (at_ [.int .i64 c.h.k, .int .i64 (vi c.h.v0), .int .i64 c.h.n0, .int .i64 (vi c.h.v1), .int .i64 c.h.n1, .int .i64 (vi c.h.v2), .int .i64 c.h.n2, s.2.1]), A_37, A_38]) (fun s => s.2.2.2) (fun s => s.1 ≤ rs.length ∧ s.2.2.1.map Prod.fst = (rs.map Prod.fst).take s.1 ∧ (∀ p ∈ s.2.2.1, Rs s.2.2.2 p.2 p.1.subs) ∧ GNew w nX G s.2.2.2) (fun s => rs.length - s.1) ((0, _, [], _)) ⟨Nat.zero_le _, rfl, by simp, GNew.refl _ _ _⟩ rfl ⟨rfl, rfl, rfl, rfl, rfl, trivial⟩ (.keep (fun _ _ h => rowA_nil rfl _ _ h) (.keep (fun _ _ h => box_congr (fun i hi => by match i, hi with | 0, _ => rfl | 1, _ => rfl | 2, _ => rfl | 3, _ => rfl | 4, _ => rfl | 5, _ => rfl | 6, _ => rfl | 7, _ => rfl) _ _ h) (.keep (fun _ _ h => h) (.keep (fun _ _ h => h) (.nil))))) (fun s hphi => ?_)
  subst hu_33
  subst hu_34
  subst hu_35
  subst hu_36
  subst hA_37
  subst hA_38
  obtain ⟨k, v, qs, H⟩ := s
  obtain ⟨hk, hq, hqs, hgn⟩ := hphi
  dsimp only at hk hq hqs hgn ⊢
  have hql : qs.length ≤ k := (by have := congrArg List.length hq; simp at this; omega)
  refine c_row1 (k := 0) rfl (fun ov => ?_)
  refine c_rowlen (k := 0) rfl (fun l63 => ?_)
  replace hp := fun p hm0 => (hp p hm0).mono hgn.le
  replace hr := hr.mono hgn.le
  refine c_seq ?_
  refine c_region ?_
  refine r_val .none rfl (p_lt rfl rfl) ?_
  refine r_nil ?_
  refine e_next ?_
  refine c_seq ?_
  refine c_splitd (d := 16) rfl (fun h_39 => ?_) (fun h_39 => ?_)
  ·
   first
    | (exfalso; omega)
    | (
     refine c_cond_t rfl ?_
     refine c_skip ?_
     refine e_next ?_
     refine c_seq ?_
     refine c_block ?_
     refine c_seq ?_
     refine c_region ?_
     refine r_iaddr_g .none rfl Try.underlying67 sz97 rfl hr rfl (by first | exact of_decide_eq_true rfl | omega) (fun p_41 o_42 R_40 => ?_)
     have hc_43 := hp _ (getD_mem (i := k) (d := d0) (by omega))
     refine r_val .none rfl (p_ldga0 Try.underlying97 rfl sz97 rfl R_40 (by first | exact of_decide_eq_true rfl | omega) (rfl : _ = Value.agg #[_, _, _, _, _, _, _, _])) ?_
     refine r_alloc .none rfl zr97 (IsRow.lit _) (fun b_7 => ?_)
     refine r_stw (k := 0) .none sz97 rfl rfl (IsRow.lit _) (one_lit rfl (all_cons rfl (all_cons rfl (all_cons rfl (all_cons rfl (all_cons rfl (all_cons rfl (all_cons rfl (all_cons (hc_43).one rfl))))))))) rfl ?_
     refine r_nil ?_
     refine e_next ?_
     refine c_region_d (fun j => [5, 6, 7].contains j) _ mixed (.keep (fun _ _ h => h) (.keep (fun _ _ h => h) (.keep (fun _ _ h => h) (.keep (fun _ _ h => h) (.keep (fun _ _ h => h) (.nil)))))) ?_
     refine d_val1 0 rfl rfl (by kernel_rfl) (fun j hj => by have h : 7 < j := (Nat.lt_of_lt_of_le (by decide : 7 < 8) hj); simp; omega) .none rfl (p_field Try.underlying102 rfl sz75 rfl) ?_
     refine d_val1 1 rfl rfl (by kernel_rfl) (fun j hj => by have h : 7 < j := (Nat.lt_of_lt_of_le (by decide : 7 < 8) hj); simp; omega) .none rfl (p_ld (k := 2) Try.underlying75 rfl rfl rfl (by first | exact of_decide_eq_true rfl | omega) rfl) ?_
     refine d_val1 2 rfl rfl (by kernel_rfl) (fun j hj => by have h : 7 < j := (Nat.lt_of_lt_of_le (by decide : 7 < 8) hj); simp; omega) .none rfl (p_ldw (k := 0) Try.underlying97 rfl sz97 rfl rfl (rfl : _ = Value.agg #[_, _, _, _, _, _, _, _])) ?_
     refine d_eff 3 rfl (by kernel_rfl) (fun K_44 hKK_44 hcK_44 => ?_)
     refine r_callm (vs := [_]) .none rfl cl43 rfl (fun w hw => ih (rs.getD k d0).1 _ _ w (size_at hl (by omega) hz) (size_child hl (by omega) hsz) hc_43 hw) (fun G_45 v_48 hn_46 hr_47 => ?_)
     replace hp := fun p hm0 => (hp p hm0).mono hn_46.le
     replace hr := hr.mono hn_46.le
     replace hqs := fun p hm0 => (hqs p hm0).mono hn_46.le
     replace R_40 := R_40.mono hn_46.le
     replace hc_43 := hc_43.mono hn_46.le
     obtain ⟨u_49, rfl, u_49s⟩ := hr_47
     refine r_nil (e_d (i := 3) (brk := (fun j => [5, 6, 7].contains j)) (ph' := true) hKK_44 hcK_44 rfl (fun _ => hn_46.le) (fun _ => .keep (fun _ _ h => h) (.keep (fun _ _ h => h) (.keep (fun _ _ h => h) (.keep (fun _ _ h => h) (.keep (fun _ _ h => h) (.nil)))))) ?_)
     clear hKK_44 hcK_44 K_44
     refine d_eff 4 rfl (by kernel_rfl) (fun K_50 hKK_50 hcK_50 => ?_)
     refine r_bslice (vs := [(0, Value.agg #[_, _, _, _, _, _, _, _])]) (c := #[_, _, _, _, _, _, _, _]) .none rfl Try.underlying75 el102 rfl rfl rfl (bs102_10a8 _ _ _ _ _ _ _ _) (IsRow.lit _) (fun b_8 => ?_)
     refine r_nil (e_d (i := 4) (brk := (fun j => [5, 6, 7].contains j)) (ph' := true) hKK_50 hcK_50 rfl (fun _ => hn_46.le) (fun _ => .drop (.keep (fun _ _ h => h) (.keep (fun _ _ h => h) (.keep (fun _ _ h => h) (.keep (fun _ _ h => h) (.keep (fun _ _ h => h) (.nil))))))) ?_)
     clear hKK_50 hcK_50 K_50
     refine d_eff 5 rfl (by kernel_rfl) (fun K_51 hKK_51 hcK_51 => ?_)
     refine r_append (k := 2) (k2 := 0) .none rfl Try.underlying75 el102 rfl (by decide) rfl rfl rfl rfl rfl (one_lit rfl (all_cons rfl (all_cons rfl (all_cons rfl (all_cons rfl (all_cons rfl (all_cons rfl (all_cons rfl (all_cons (u_49s).one rfl))))))))) (by simp only [maxLen]; omega) (by omega) (fun v_52 => ?_)
     refine r_row1 (k := 2) rfl (fun o_53 => ?_)
     refine r_nil (e_d (i := 5) (brk := (fun j => [5, 6, 7].contains j)) (ph' := false) hKK_51 hcK_51 rfl (fun h => by cases h) (fun h => by cases h) ?_)
     clear hKK_51 hcK_51 K_51
     refine d_val2 6 rfl rfl (by kernel_rfl) .none rfl (fun _ => p_field Try.underlying102 rfl sz75 rfl) ?_
     refine d_eff 7 rfl (by kernel_rfl) (fun K_54 hKK_54 hcK_54 => ?_)
     refine r_st (k := 3) .none sz75 rfl rfl o_53 rfl (by first | exact of_decide_eq_true rfl | omega) ?_
     refine r_nil (e_d (i := 7) (brk := (fun j => [5, 6, 7].contains j)) (ph' := false) hKK_54 hcK_54 rfl (fun h => by cases h) (fun h => by cases h) ?_)
     clear hKK_54 hcK_54 K_54
     refine d_nil (by kernel_rfl) ?_
     refine e_norm_block ?_
     refine e_next ?_
     refine c_region ?_
     refine r_val .none rfl (p_add rfl rfl (by omega)) ?_
     refine r_val .none rfl (p_move rfl) ?_
     refine r_nil ?_
     refine e_round ((k + 1, _, qs ++ [((rs.getD k d0).1, u_49)], _)) ⟨⟨by dsimp only; omega, by rw [map_take (d := d0) (by omega), List.map_append, hq]; rfl, (fun p hp' => by rcases List.mem_append.1 hp' with h | h; exact hqs p h; rw [List.mem_singleton.1 h]; exact u_49s), (hgn.trans hn_46)⟩, by dsimp only; omega⟩ rfl ⟨rfl, rfl, rfl, rfl, rfl, trivial⟩ (.drop (.drop (.keep (fun _ _ h => rowA_snoc (l := qs) (x := ((rs.getD k d0).1, u_49)) rfl rfl rfl rfl _ _ h) (.keep (fun _ _ h => box_congr (fun i hi => by match i, hi with | 0, _ => rfl | 1, _ => rfl | 2, _ => rfl | 3, _ => rfl | 4, _ => rfl | 5, _ => rfl | 6, _ => rfl | 7, _ => rfl) _ _ h) (.keep (fun _ _ h => h) (.keep (fun _ _ h => h) (.nil)))))))
     )
  ·
   first
    | (exfalso; omega)
    | (
     refine c_cond_f rfl ?_
     refine c_exit ?_
     refine e_exit_then ?_
     refine e_exit_then ?_
     refine e_exit_block ?_
     refine e_next ?_
     refine c_seq ?_
     refine c_region ?_
     refine r_val .none rfl (p_ldw (k := 1) Try.underlying102 rfl sz102 rfl rfl (rfl : _ = Value.agg #[_, _, _, _, _, _, _, _])) ?_
     refine r_stw (k := 2) .none sz102 rfl rfl (IsRow.lit _) (one_lit rfl (all_cons rfl (all_cons rfl (all_cons rfl (all_cons rfl (all_cons rfl (all_cons rfl (all_cons rfl (all_cons ov rfl))))))))) rfl ?_
     refine r_nil ?_
     refine e_next ?_
     refine c_ret ?_
     refine e_freeze (k := 0) rfl (fun G_55 hn_56 hs_57 => ?_)
     replace hp := fun p hm0 => (hp p hm0).mono hn_56.le
     replace hr := hr.mono hn_56.le
     replace hqs := fun p hm0 => (hqs p hm0).mono hn_56.le
     refine e_ret1 Try.results43 (.cell (k := 1) rfl Try.underlying102 rfl sz102 rfl (rfl : _ = Value.agg #[_, _, _, _, _, _, _, _]) .nil) (fun w hm => ⟨_, (hgn.trans hn_56), hm.has, ⟨_, rfl, ?_⟩, hm.since⟩)
     rw [show c.subs = qs.map Prod.fst by rw [hl, hq, List.take_of_length_le (by simp; omega)]]
     exact Tr.mk qs (SlL.of d0 (fun _ => rfl) rfl hs_57) hqs
     )
theorem c_ref4_n : ∀ n, RefIs n
 | 0 => fun c sv G w hz hsz hs hG => absurd hz (by have := size_subs c; omega)
 | n + 1 => fun c sv G w hz hsz hs hG => c_ref4_s n (c_ref4_n n) c sv hz hsz hs w hG
theorem c_ref4 (c : CT) (sv : Value) {G : Ghost} (hsz : size c ≤ 1000) (hs : Cs G sv c.subs) (w : World) (hG : Has G w) : Calls Try.prog 43 #[Value.agg #[Value.int .i64 c.h.k, Value.bool c.h.v0, Value.int .i64 c.h.n0, Value.bool c.h.v1, Value.int .i64 c.h.n1, Value.bool c.h.v2, Value.int .i64 c.h.n2, sv]] w (Ret fun r w' => ∃ G', GNew w nX G G' ∧ Has G' w' ∧ (∃ u, r = Value.agg #[Value.int .i64 c.h.k, Value.int .i64 (vi c.h.v0), Value.int .i64 c.h.n0, Value.int .i64 (vi c.h.v1), Value.int .i64 c.h.n1, Value.int .i64 (vi c.h.v2), Value.int .i64 c.h.n2, u] ∧ Rs G' u c.subs) ∧ Since nX w w') := c_ref4_n _ c sv G w (Nat.le_refl _) hsz hs hG
theorem c_rsize_s (n : Nat) (ih : RsizeIs n) (c : CT) (sv : Value)  {G : Ghost} (hz : SizeOf.sizeOf c ≤ n + 1) (hsz : size c ≤ 1000) (hs : Rs G sv c.subs) (w : World) (hG : Has G w) :
  Calls Try.prog 61 #[Value.agg #[Value.int .i64 c.h.k, Value.int .i64 (vi c.h.v0), Value.int .i64 c.h.n0, Value.int .i64 (vi c.h.v1), Value.int .i64 c.h.n1, Value.int .i64 (vi c.h.v2), Value.int .i64 c.h.n2, sv]] w (Ret fun r w' => r = Value.int .i64 (size c : Nat) ∧ Since nX w w') := by
 refine enter (args := [_]) (X := nX) (G := G) (l := [(0, Value.agg #[Value.int .i64 c.h.k, Value.int .i64 (vi c.h.v0), Value.int .i64 c.h.n0, Value.int .i64 (vi c.h.v1), Value.int .i64 c.h.n1, Value.int .i64 (vi c.h.v2), Value.int .i64 c.h.n2, sv])]) Try.func61 rfl Try.ntmps61 hG ⟨rfl, trivial⟩ (Nat.le_of_ble_eq_true rfl) ?_
 obtain ⟨rs, hr, hp, hl⟩ := hs.inv
 have hlen : c.subs.length = rs.length := by rw [hl]; simp
 have hbd := hr.bound
 refine c_seq ?_
 refine c_region ?_
 refine r_box .none rfl rfl (IsRow.lit _) (fun b_1 => ?_)
 refine r_val .none rfl (p_assign rfl) ?_
 refine r_nil ?_
 refine e_next ?_
 refine c_seq ?_
 refine c_region ?_
 refine r_val .none rfl (p_assign rfl) ?_
 refine r_nil ?_
 refine e_next ?_
 refine c_seq ?_
 refine c_seq ?_
 refine c_region ?_
 refine r_val .none rfl (p_field Try.underlying102 rfl sz75 rfl) ?_
 refine r_val .none rfl (p_ld (k := 0) Try.underlying75 rfl rfl rfl (by first | exact of_decide_eq_true rfl | omega) rfl) ?_
 refine r_val .none rfl (p_leng Try.underlying75 rfl hr) ?_
 have bd_1 := (hr).bound
 refine r_val .none rfl (p_move rfl) ?_
 refine r_nil ?_
 refine e_next ?_
 refine c_block ?_
 refine c_name (d := 2) rfl (fun u_2 hu_2 => ?_)
 refine c_name (d := 7) rfl (fun u_3 hu_3 => ?_)
 refine c_name (d := 8) rfl (fun u_4 hu_4 => ?_)
 refine c_nameL (k := 0) rfl (fun A_5 hA_5 => ?_)
 refine c_loop (σ := Nat) (fun k => [(9, Value.int .i64 (k : Nat)), (3, Value.int .i64 (1 + sizeL ((rs.map Prod.fst).take k) : Nat)), (2, u_2), (7, u_3), (8, u_4)]) (fun k => [A_5]) (fun _ => _) (fun k => k ≤ rs.length) (fun k => rs.length - k) (0) (by omega) rfl ⟨rfl, rfl, rfl, rfl, rfl, trivial⟩ (.keep (fun _ _ h => h) (.nil)) (fun k hphi => ?_)
 subst hu_2
 subst hu_3
 subst hu_4
 subst hA_5
 refine c_seq ?_
 refine c_region ?_
 refine r_val .none rfl (p_lt rfl rfl) ?_
 refine r_nil ?_
 refine e_next ?_
 refine c_seq ?_
 refine c_splitd (d := 10) rfl (fun h_6 => ?_) (fun h_6 => ?_)
 ·
  first
   | (exfalso; omega)
   | (
    refine c_cond_t rfl ?_
    refine c_skip ?_
    refine e_next ?_
    refine c_seq ?_
    refine c_block ?_
    refine c_seq ?_
    refine c_region ?_
    refine r_iaddr_g .none rfl Try.underlying75 sz102 rfl hr rfl (by first | exact of_decide_eq_true rfl | omega) (fun p_8 o_9 R_7 => ?_)
    have hc_10 := hp _ (getD_mem (i := k) (d := d0) (by omega))
    have hz3 := size_child (i := k) hl (by omega) hsz
    refine r_val .none rfl (p_ldga0 Try.underlying102 rfl sz102 rfl R_7 (by first | exact of_decide_eq_true rfl | omega) (rfl : _ = Value.agg #[_, _, _, _, _, _, _, _])) ?_
    refine r_alloc .none rfl zr102 (IsRow.lit _) (fun b_2 => ?_)
    refine r_stw (k := 0) .none sz102 rfl rfl (IsRow.lit _) (one_lit rfl (all_cons rfl (all_cons rfl (all_cons rfl (all_cons rfl (all_cons rfl (all_cons rfl (all_cons rfl (all_cons (hc_10).one rfl))))))))) rfl ?_
    refine r_nil ?_
    refine e_next ?_
    refine c_region ?_
    refine r_val .none rfl (p_move rfl) ?_
    refine r_val .none rfl (p_ldw (k := 0) Try.underlying102 rfl sz102 rfl rfl (rfl : _ = Value.agg #[_, _, _, _, _, _, _, _])) ?_
    refine r_call (vs := [_]) .none rfl cl61 rfl (fun w hw => ih (rs.getD k d0).1 _ _ w (size_at hl (by omega) hz) hz3 hc_10 hw) ?_
    refine r_val .none rfl (p_add rfl rfl (by have h1 := sizeL_take_le (rs.map Prod.fst) k; have h2 := size_eq c; rw [hl] at h2; omega)) ?_
    refine r_val .none rfl (p_assign rfl) ?_
    refine r_nil ?_
    refine e_norm_block ?_
    refine e_next ?_
    refine c_region ?_
    refine r_val .none rfl (p_add rfl rfl (by omega)) ?_
    refine r_val .none rfl (p_move rfl) ?_
    refine r_nil ?_
    refine e_round (k + 1) ⟨by omega, by omega⟩ rfl ⟨rfl, (congrArg (fun z => some (Value.int .i64 z)) (by rw [sizeL_take (by omega)]; omega)), rfl, rfl, rfl, trivial⟩ (.drop (.keep (fun _ _ h => h) (.nil)))
    )
 ·
  first
   | (exfalso; omega)
   | (
    refine c_cond_f rfl ?_
    refine c_exit ?_
    refine e_exit_then ?_
    refine e_exit_then ?_
    refine e_exit_block ?_
    refine e_next ?_
    refine c_seq ?_
    refine c_region ?_
    refine r_val .none rfl (p_move rfl) ?_
    refine r_val .none rfl (p_assign rfl) ?_
    refine r_nil ?_
    refine e_next ?_
    refine c_ret ?_
    refine e_ret1 Try.results61 (.tmp rfl .nil) (fun w hm => ⟨?_, hm.since⟩)
    have hk : k = rs.length := by omega
    subst hk
    rw [size_eq, hl, List.take_of_length_le (by simp)]
    )
theorem c_rsize_n : ∀ n, RsizeIs n
 | 0 => fun c sv G w hz hsz hs hG => absurd hz (by have := size_subs c; omega)
 | n + 1 => fun c sv G w hz hsz hs hG => c_rsize_s n (c_rsize_n n) c sv hz hsz hs w hG
theorem c_rsize (c : CT) (sv : Value) {G : Ghost} (hsz : size c ≤ 1000) (hs : Rs G sv c.subs) (w : World) (hG : Has G w) : Calls Try.prog 61 #[Value.agg #[Value.int .i64 c.h.k, Value.int .i64 (vi c.h.v0), Value.int .i64 c.h.n0, Value.int .i64 (vi c.h.v1), Value.int .i64 c.h.n1, Value.int .i64 (vi c.h.v2), Value.int .i64 c.h.n2, sv]] w (Ret fun r w' => r = Value.int .i64 (size c : Nat) ∧ Since nX w w') := c_rsize_n _ c sv G w (Nat.le_refl _) hsz hs hG
end Go.Proofs.Ytpadfgomhojjnaa

/- Walks: what Go functions of this chapter come to, each as a function on plain data; no condition but those that each theorem names. Printed by a program of this work (gen.py). -/
namespace Go.Proofs.Ytpadfgomhojjnaa
open Go.Gx Go.Gx.T3 Go.Gx.T4 Go.Gx.T3 Go.Gx.T8 Go.Gx.T4 Go.Gx.T3
theorem sz163 : SzIs Try.prog 163 3 := by
 unfold SzIs
 kernel_rfl
theorem zr163 : ZeroIs Try.prog 163 (Value.agg #[Value.int .i64 0, Value.int .i64 0, Value.int .i64 0]) := by
 unfold ZeroIs
 kernel_rfl
theorem cl42 : Callable Try.prog 42 := callable Try.func42 (by kernel_rfl) rfl
theorem cl59 : Callable Try.prog 59 := callable Try.func59 (by kernel_rfl) rfl
theorem bl97_2s3 (x0 : Option Addr) (x1 : Nat) (x2 : Nat) : Program.built Try.prog 97 [(2, Value.slice x0 x1 x2)] = some #[Value.int .i64 0, Value.bool false, Value.int .i64 0, Value.bool false, Value.int .i64 0, Value.bool false, Value.int .i64 0, Value.slice x0 x1 x2] := by
 kernel_rfl
theorem bl163_0i1_1i1_2i1 (x0 : Int) (x1 : Int) (x2 : Int) : Program.built Try.prog 163 [(0, Value.int .i64 x0), (1, Value.int .i64 x1), (2, Value.int .i64 x2)] = some #[Value.int .i64 x0, Value.int .i64 x1, Value.int .i64 x2] := by
 kernel_rfl
theorem bl163_  : Program.built Try.prog 163 [] = some #[Value.int .i64 0, Value.int .i64 0, Value.int .i64 0] := by
 kernel_rfl
theorem c_lref (v : Value) (l : List CT) {G : Ghost} (hsz : sizeL l ≤ 1000) (hs : Cs G v l) (w : World) (hG : Has G w) :
  Calls Try.prog 42 #[v] w (Ret fun r w' => ∃ G', GNew w nX G G' ∧ Has G' w' ∧ Rs G' r l ∧ Since nX w w') := by
 refine enter (args := [_]) (X := nX) (G := G) (l := [(0, v)]) Try.func42 rfl Try.ntmps42 hG ⟨rfl, trivial⟩ (Nat.le_of_ble_eq_true rfl) ?_
 obtain ⟨rs, hr, hp, rfl⟩ := hs.inv
 have hbd := hr.bound
 have hll := sizeL_len (rs.map Prod.fst)
 rw [List.length_map] at hll
 refine c_seq ?_
 refine c_region ?_
 refine r_val .none rfl (p_assign rfl) ?_
 refine r_nil ?_
 refine e_next ?_
 refine c_seq ?_
 refine c_region ?_
 refine r_val .none rfl (p_assign rfl) ?_
 refine r_nil ?_
 refine e_next ?_
 refine c_seq ?_
 refine c_seq ?_
 refine c_region ?_
 refine r_val .none rfl (p_move rfl) ?_
 refine r_val .none rfl (p_leng Try.underlying67 rfl hr) ?_
 have bd_1 := (hr).bound
 refine r_val .none rfl (p_move rfl) ?_
 refine r_nil ?_
 refine e_next ?_
 refine c_block ?_
 refine c_nilrow 102 8 ?_
 refine c_name (d := 2) rfl (fun u_2 hu_2 => ?_)
 refine c_name (d := 6) rfl (fun u_3 hu_3 => ?_)
 refine c_name (d := 7) rfl (fun u_4 hu_4 => ?_)
 refine c_loop (σ := Nat × Value × List (CT × Value) × Ghost) (fun s => [(8, Value.int .i64 (s.1 : Nat)), (3, s.2.1), (2, u_2), (6, u_3), (7, u_4)]) (fun s => [rowA (s.2.1) 102 8 (s.2.2.1).length ((s.2.2.1).flatMap rvC)]) (fun s => s.2.2.2) (fun s => s.1 ≤ rs.length ∧ s.2.2.1.map Prod.fst = (rs.map Prod.fst).take s.1 ∧ (∀ p ∈ s.2.2.1, Rs s.2.2.2 p.2 p.1.subs) ∧ GNew w nX G s.2.2.2) (fun s => rs.length - s.1) ((0, _, [], _)) ⟨Nat.zero_le _, rfl, by simp, GNew.refl _ _ _⟩ rfl ⟨rfl, rfl, rfl, rfl, rfl, trivial⟩ (.keep (fun _ _ h => rowA_nil rfl _ _ h) (.nil)) (fun s hphi => ?_)
 subst hu_2
 subst hu_3
 subst hu_4
 obtain ⟨k, v, qs, H⟩ := s
 obtain ⟨hk, hq, hqs, hgn⟩ := hphi
 dsimp only at hk hq hqs hgn ⊢
 have hql : qs.length ≤ k := (by have := congrArg List.length hq; simp at this; omega)
 replace hr := hr.mono hgn.le
 replace hp := fun p hm0 => (hp p hm0).mono hgn.le
 refine c_seq ?_
 refine c_region ?_
 refine r_val .none rfl (p_lt rfl rfl) ?_
 refine r_nil ?_
 refine e_next ?_
 refine c_seq ?_
 refine c_splitd (d := 9) rfl (fun h_5 => ?_) (fun h_5 => ?_)
 ·
  first
   | (exfalso; omega)
   | (
    refine c_cond_t rfl ?_
    refine c_skip ?_
    refine e_next ?_
    refine c_seq ?_
    refine c_block ?_
    refine c_seq ?_
    refine c_region ?_
    refine r_iaddr_g .none rfl Try.underlying67 sz97 rfl hr rfl (by first | exact of_decide_eq_true rfl | omega) (fun p_7 o_8 R_6 => ?_)
    have hc_9 := hp _ (getD_mem (i := k) (d := d0) (by omega))
    have hz3 : size (rs.getD k d0).1 ≤ 1000 := Nat.le_trans (sizeL_mem (List.mem_map.2 ⟨_, getD_mem (i := k) (d := d0) (by omega), rfl⟩)) hsz
    refine r_val .none rfl (p_ldga0 Try.underlying97 rfl sz97 rfl R_6 (by first | exact of_decide_eq_true rfl | omega) (rfl : _ = Value.agg #[_, _, _, _, _, _, _, _])) ?_
    refine r_alloc .none rfl zr97 (IsRow.lit _) (fun b_1 => ?_)
    refine r_stw (k := 0) .none sz97 rfl rfl (IsRow.lit _) (one_lit rfl (all_cons rfl (all_cons rfl (all_cons rfl (all_cons rfl (all_cons rfl (all_cons rfl (all_cons rfl (all_cons (hc_9).one rfl))))))))) rfl ?_
    refine r_nil ?_
    refine e_next ?_
    refine c_region ?_
    refine r_val .none rfl (p_move rfl) ?_
    refine r_val .none rfl (p_ldw (k := 0) Try.underlying97 rfl sz97 rfl rfl (rfl : _ = Value.agg #[_, _, _, _, _, _, _, _])) ?_
    refine r_callm (vs := [_]) .none rfl cl43 rfl (fun w hw => c_ref4 (rs.getD k d0).1 _ hz3 hc_9 w hw) (fun G_10 v_13 hn_11 hr_12 => ?_)
    replace hr := hr.mono hn_11.le
    replace hp := fun p hm0 => (hp p hm0).mono hn_11.le
    replace hqs := fun p hm0 => (hqs p hm0).mono hn_11.le
    replace R_6 := R_6.mono hn_11.le
    replace hc_9 := hc_9.mono hn_11.le
    obtain ⟨u_14, rfl, u_14s⟩ := hr_12
    refine r_bslice (vs := [(0, Value.agg #[_, _, _, _, _, _, _, _])]) (c := #[_, _, _, _, _, _, _, _]) .none rfl Try.underlying75 el102 rfl rfl rfl (bs102_10a8 _ _ _ _ _ _ _ _) (IsRow.lit _) (fun b_2 => ?_)
    refine r_append (k := 2) (k2 := 0) .none rfl Try.underlying75 el102 rfl (by decide) rfl rfl rfl rfl rfl (one_lit rfl (all_cons rfl (all_cons rfl (all_cons rfl (all_cons rfl (all_cons rfl (all_cons rfl (all_cons rfl (all_cons (u_14s).one rfl))))))))) (by simp only [maxLen]; omega) (by omega) (fun v_15 => ?_)
    refine r_row1 (k := 2) rfl (fun o_16 => ?_)
    refine r_val .none rfl (p_assign rfl) ?_
    refine r_nil ?_
    refine e_norm_block ?_
    refine e_next ?_
    refine c_region ?_
    refine r_val .none rfl (p_add rfl rfl (by omega)) ?_
    refine r_val .none rfl (p_move rfl) ?_
    refine r_nil ?_
    refine e_round ((k + 1, _, qs ++ [((rs.getD k d0).1, u_14)], _)) ⟨⟨by dsimp only; omega, by rw [map_take (d := d0) (by omega), List.map_append, hq]; rfl, (fun p hp' => by rcases List.mem_append.1 hp' with h | h; exact hqs p h; rw [List.mem_singleton.1 h]; exact u_14s), (hgn.trans hn_11)⟩, by dsimp only; omega⟩ rfl ⟨rfl, rfl, rfl, rfl, rfl, trivial⟩ (.drop (.drop (.keep (fun _ _ h => rowA_snoc (l := qs) (x := ((rs.getD k d0).1, u_14)) rfl rfl rfl rfl _ _ h) (.nil))))
    )
 ·
  first
   | (exfalso; omega)
   | (
    refine c_cond_f rfl ?_
    refine c_exit ?_
    refine e_exit_then ?_
    refine e_exit_then ?_
    refine e_exit_block ?_
    refine e_next ?_
    refine c_seq ?_
    refine c_region ?_
    refine r_val .none rfl (p_move rfl) ?_
    refine r_val .none rfl (p_assign rfl) ?_
    refine r_nil ?_
    refine e_next ?_
    refine c_ret ?_
    refine e_freeze (k := 0) rfl (fun G_17 hn_18 hs_19 => ?_)
    replace hr := hr.mono hn_18.le
    replace hp := fun p hm0 => (hp p hm0).mono hn_18.le
    replace hqs := fun p hm0 => (hqs p hm0).mono hn_18.le
    refine e_ret1 Try.results42 (.tmp rfl .nil) (fun w hm => ⟨_, (hgn.trans hn_18), hm.has, ?_, hm.since⟩)
    rw [show rs.map Prod.fst = qs.map Prod.fst by rw [hq, List.take_of_length_le (by simp; omega)]]
    exact Tr.mk qs (SlL.of d0 (fun _ => rfl) rfl hs_19) hqs
    )
theorem c_bound (va : Value) (l : List CT) (v : Int) {G : Ghost} (hs : Rs G va l) (w : World) (hG : Has G w) :
  Calls Try.prog 74 #[va, Value.int .i64 v] w (Ret fun r w' => r = Value.tuple #[Value.agg #[Value.int .i64 (if (bound v l 0).isSome = true then v else 0), Value.int .i64 ((bound v l 0).getD (0, 0)).1, Value.int .i64 ((bound v l 0).getD (0, 0)).2], Value.bool (bound v l 0).isSome] ∧ Since nX w w') := by
 refine enter (args := [_, _]) (X := nX) (G := G) (l := [(0, va), (1, Value.int .i64 v)]) Try.func74 rfl Try.ntmps74 hG ⟨rfl, rfl, trivial⟩ (Nat.le_of_ble_eq_true rfl) ?_
 obtain ⟨rs, hr, hp, rfl⟩ := hs.inv
 have hbd := hr.bound
 refine c_seq ?_
 refine c_region ?_
 refine r_alloc .none rfl zr163 (IsRow.lit _) (fun b_1 => ?_)
 refine r_val .none rfl (p_assign rfl) ?_
 refine r_nil ?_
 refine e_next ?_
 refine c_seq ?_
 refine c_region ?_
 refine r_val .none rfl (p_assign rfl) ?_
 refine r_nil ?_
 refine e_next ?_
 refine c_seq ?_
 refine c_seq ?_
 refine c_region ?_
 refine r_val .none rfl (p_move rfl) ?_
 refine r_val .none rfl (p_leng Try.underlying75 rfl hr) ?_
 have bd_1 := (hr).bound
 refine r_val .none rfl (p_move rfl) ?_
 refine r_nil ?_
 refine e_next ?_
 refine c_block ?_
 refine c_name (d := 1) rfl (fun u_2 hu_2 => ?_)
 refine c_name (d := 4) rfl (fun u_3 hu_3 => ?_)
 refine c_name (d := 10) rfl (fun u_4 hu_4 => ?_)
 refine c_name (d := 11) rfl (fun u_5 hu_5 => ?_)
 refine c_nameL (k := 0) rfl (fun A_6 hA_6 => ?_)
 refine c_loop (σ := Nat × Int) (fun s => [(12, Value.int .i64 (s.1 : Nat)), (6, Value.int .i64 s.2), (1, u_2), (4, u_3), (10, u_4), (11, u_5)]) (fun s => [A_6]) (fun _ => _) (fun s => s.1 ≤ rs.length ∧ (0 ≤ s.2 ∧ s.2 ≤ s.1) ∧ bound v ((rs.map Prod.fst).drop s.1) s.2 = bound v (rs.map Prod.fst) 0) (fun s => rs.length - s.1) ((0, 0)) ⟨Nat.zero_le _, ⟨Int.le_refl _, Int.le_refl _⟩, rfl⟩ rfl ⟨rfl, rfl, rfl, rfl, rfl, rfl, trivial⟩ (.keep (fun _ _ h => h) (.nil)) (fun s hphi => ?_)
 subst hu_2
 subst hu_3
 subst hu_4
 subst hu_5
 subst hA_6
 obtain ⟨k, b⟩ := s
 obtain ⟨hk, hb, hb3⟩ := hphi
 dsimp only at hk hb hb3 ⊢
 refine c_seq ?_
 refine c_region ?_
 refine r_val .none rfl (p_lt rfl rfl) ?_
 refine r_nil ?_
 refine e_next ?_
 refine c_seq ?_
 refine c_splitd (d := 13) rfl (fun h_7 => ?_) (fun h_7 => ?_)
 ·
  first
   | (exfalso; omega)
   | (
    refine c_cond_t rfl ?_
    refine c_skip ?_
    refine e_next ?_
    refine c_seq ?_
    refine c_block ?_
    refine c_seq ?_
    refine c_region ?_
    refine r_iaddr_g .none rfl Try.underlying75 sz102 rfl hr rfl (by first | exact of_decide_eq_true rfl | omega) (fun p_9 o_10 R_8 => ?_)
    have hc_11 := hp _ (getD_mem (i := k) (d := d0) (by omega))
    refine r_val .none rfl (p_ldga0 Try.underlying102 rfl sz102 rfl R_8 (by first | exact of_decide_eq_true rfl | omega) (rfl : _ = Value.agg #[_, _, _, _, _, _, _, _])) ?_
    refine r_alloc .none rfl zr102 (IsRow.lit _) (fun b_2 => ?_)
    refine r_stw (k := 0) .none sz102 rfl rfl (IsRow.lit _) (one_lit rfl (all_cons rfl (all_cons rfl (all_cons rfl (all_cons rfl (all_cons rfl (all_cons rfl (all_cons rfl (all_cons (hc_11).one rfl))))))))) rfl ?_
    refine r_nil ?_
    refine e_next ?_
    refine c_seq ?_
    refine c_seq ?_
    refine c_region ?_
    refine r_val .none rfl (p_field Try.underlying102 rfl sz3 rfl) ?_
    refine r_val .none rfl (p_ld (k := 0) Try.underlying3 rfl rfl rfl (by first | exact of_decide_eq_true rfl | omega) (rfl : _ = Value.int _ _)) ?_
    refine r_val .none rfl (p_ne rfl rfl) ?_
    refine r_nil ?_
    refine e_next ?_
    refine c_splitd (d := 18) rfl (fun h_12 => ?_) (fun h_12 => ?_)
    ·
     first
      | (exfalso; omega)
      | (
       refine c_cond_t rfl ?_
       refine c_exit ?_
       refine e_exit_then ?_
       refine e_exit_block ?_
       refine e_next ?_
       refine c_region ?_
       refine r_val .none rfl (p_add rfl rfl (by omega)) ?_
       refine r_val .none rfl (p_move rfl) ?_
       refine r_nil ?_
       refine e_round ((k + 1, _)) ⟨⟨by dsimp only; omega, by dsimp only; omega, by first | (rw [← hb3, map_drop (i := k) (d := d0) (by omega), bound_skip (by omega)]; done) | (rw [← hb3, map_drop (i := k) (d := d0) (by omega), bound_next (by omega) (firstF_no (by omega))]; done)⟩, by dsimp only; omega⟩ rfl ⟨rfl, rfl, rfl, rfl, rfl, rfl, trivial⟩ (.drop (.keep (fun _ _ h => h) (.nil)))
       )
    ·
     first
      | (exfalso; omega)
      | (
       refine c_cond_f rfl ?_
       refine c_skip ?_
       refine e_next ?_
       refine c_seq ?_
       refine c_seq ?_
       refine c_region ?_
       refine r_val .none rfl (p_assign rfl) ?_
       refine r_nil ?_
       refine e_next ?_
       refine c_block ?_
       refine c_unroll 4 ?_
       refine l_round (n := 3) ?_
       refine c_seq ?_
       refine c_seq ?_
       refine c_region ?_
       refine r_val .none rfl (p_move rfl) ?_
       refine r_val .none rfl (p_lt rfl rfl) ?_
       refine r_say (d := 20) (v := Value.bool true) rfl ?_
       refine r_nil ?_
       refine e_next ?_
       refine c_cond_t rfl ?_
       refine c_skip ?_
       refine e_next ?_
       refine c_seq ?_
       refine c_block ?_
       refine c_seq ?_
       refine c_region ?_
       refine r_val .none rfl (p_move rfl) ?_
       refine r_val .none rfl (p_field Try.underlying102 rfl sz100 rfl) ?_
       refine r_val .none rfl (p_iaddr (k := 0) Try.underlying100 sz99 rfl rfl (by first | exact of_decide_eq_true rfl | omega)) ?_
       refine r_val .none rfl (p_field Try.underlying99 rfl sz3 rfl) ?_
       refine r_val .none rfl (p_ld (k := 0) Try.underlying3 rfl rfl rfl (by first | exact of_decide_eq_true rfl | omega) (rfl : _ = Value.int _ _)) ?_
       refine r_val .none rfl (p_eq rfl rfl) ?_
       refine r_val .none rfl (p_move rfl) ?_
       refine' r_and (c := 29) (d := 37) [_, _, _, _, _, _, _, _] rfl (fun h_13 Q_14 hQ_15 => ?_) (fun h_13 Q_14 hQ_15 => ?_) ?_
       rotate_left 1
       ·
        replace h_13 := of_decide_eq_true h_13
        refine r_val (.some rfl rfl) rfl (p_move rfl) ?_
        refine r_val (.some rfl rfl) rfl (p_field Try.underlying102 rfl sz100 rfl) ?_
        refine r_val (.some rfl rfl) rfl (p_iaddr (k := 0) Try.underlying100 sz99 rfl rfl (by first | exact of_decide_eq_true rfl | omega)) ?_
        refine r_val (.some rfl rfl) rfl (p_field Try.underlying99 rfl sz3 rfl) ?_
        refine r_val (.some rfl rfl) rfl (p_ld (k := 0) Try.underlying3 rfl rfl rfl (by first | exact of_decide_eq_true rfl | omega) (rfl : _ = Value.int _ _)) ?_
        refine r_val (.some rfl rfl) rfl (p_move rfl) ?_
        refine r_val (.some rfl rfl) rfl (p_eq rfl rfl) ?_
        refine r_val .none rfl (p_pick_t rfl rfl) ?_
        refine r_nil (e_fin (d := 37) hQ_15 rfl (by repeat (first | exact .refl | refine .put rfl ?_ | refine .say rfl ?_ | refine .say2 rfl (by first | assumption | simp_all) ?_)))
       ·
        repeat (first | refine r_skip rfl (.no rfl rfl) ?_ | refine r_skip rfl (.un rfl rfl) ?_)
        refine r_val (by first | exact .none | exact .some rfl rfl) rfl (p_pick_f rfl rfl) ?_
        refine r_nil (e_fin (d := 37) hQ_15 rfl (by repeat (first | exact .refl | refine .put rfl ?_ | refine .say rfl ?_ | refine .say2 rfl (by first | assumption | simp_all) ?_)))
       refine r_nil ?_
       refine e_next ?_
       refine c_split (d := 37) rfl (fun h_17 => ?_) (fun h_17 => ?_)
       ·
        try simp only [norms] at h_17
        first
         | (exfalso; omega)
         | (
          refine c_cond_t rfl ?_
          refine c_seq ?_
          refine c_region ?_
          refine r_val .none rfl (p_move rfl) ?_
          refine r_val .none rfl (p_move rfl) ?_
          refine r_val .none rfl (p_move rfl) ?_
          refine r_val .none rfl (p_build (vs := [(0, Value.int _ _), (1, Value.int _ _), (2, Value.int _ _)]) rfl (bl163_0i1_1i1_2i1 _ _ _)) ?_
          refine r_stw (k := 1) .none sz163 rfl rfl (IsRow.lit _) (one_lit rfl rfl) rfl ?_
          refine r_val .none rfl (p_assign rfl) ?_
          refine r_nil ?_
          refine e_next ?_
          refine c_ret ?_
          refine e_ret_block ?_
          refine e_ret_then ?_
          refine e_ret_then ?_
          refine e_ret_block ?_
          refine e_ret_then ?_
          refine e_ret_block ?_
          refine e_ret_then ?_
          refine e_ret_then ?_
          refine e_ret_block ?_
          refine e_ret_then ?_
          refine e_retn Try.results74 (.cell (k := 1) rfl Try.underlying163 rfl sz163 rfl (rfl : _ = Value.agg #[_, _, _]) (.tmp rfl .nil)) rfl (fun w hm => ⟨?_, hm.since⟩)
          first
          | (rw [← hb3, map_drop (i := k) (d := d0) (by omega), bound_here (f := 0) (by omega) (firstF_at 0 (by omega))]; rfl)
          | (rw [← hb3, map_drop (i := k) (d := d0) (by omega), bound_here (f := 1) (by omega) (firstF_at 1 (by omega))]; rfl)
          | (rw [← hb3, map_drop (i := k) (d := d0) (by omega), bound_here (f := 2) (by omega) (firstF_at 2 (by omega))]; rfl)
          | (rw [← hb3, List.drop_eq_nil_of_le (by simp; omega)]; rfl)
          )
       ·
        try simp only [norms] at h_17
        first
         | (exfalso; omega)
         | (
          refine c_cond_f rfl ?_
          refine c_skip ?_
          refine e_norm_block ?_
          refine e_next ?_
          refine c_region ?_
          refine r_val .none rfl (p_move rfl) ?_
          refine r_val .none rfl (p_add rfl rfl (by omega)) ?_
          refine r_val .none rfl (p_assign rfl) ?_
          refine r_nil ?_
          refine e_again ?_
          refine l_round (n := 2) ?_
          refine c_seq ?_
          refine c_seq ?_
          refine c_region ?_
          refine r_val .none rfl (p_move rfl) ?_
          refine r_val .none rfl (p_lt rfl rfl) ?_
          refine r_say (d := 20) (v := Value.bool true) rfl ?_
          refine r_nil ?_
          refine e_next ?_
          refine c_cond_t rfl ?_
          refine c_skip ?_
          refine e_next ?_
          refine c_seq ?_
          refine c_block ?_
          refine c_seq ?_
          refine c_region ?_
          refine r_val .none rfl (p_move rfl) ?_
          refine r_val .none rfl (p_field Try.underlying102 rfl sz100 rfl) ?_
          refine r_val .none rfl (p_iaddr (k := 1) Try.underlying100 sz99 rfl rfl (by first | exact of_decide_eq_true rfl | omega)) ?_
          refine r_val .none rfl (p_field Try.underlying99 rfl sz3 rfl) ?_
          refine r_val .none rfl (p_ld (k := 0) Try.underlying3 rfl rfl rfl (by first | exact of_decide_eq_true rfl | omega) (rfl : _ = Value.int _ _)) ?_
          refine r_val .none rfl (p_eq rfl rfl) ?_
          refine r_val .none rfl (p_move rfl) ?_
          refine r_splitd (d := 29) rfl (fun h_18 => ?_) (fun h_18 => ?_)
          ·
           first
            | (exfalso; omega)
            | (
             refine r_val (.some rfl rfl) rfl (p_move rfl) ?_
             refine r_val (.some rfl rfl) rfl (p_field Try.underlying102 rfl sz100 rfl) ?_
             refine r_val (.some rfl rfl) rfl (p_iaddr (k := 1) Try.underlying100 sz99 rfl rfl (by first | exact of_decide_eq_true rfl | omega)) ?_
             refine r_val (.some rfl rfl) rfl (p_field Try.underlying99 rfl sz3 rfl) ?_
             refine r_val (.some rfl rfl) rfl (p_ld (k := 0) Try.underlying3 rfl rfl rfl (by first | exact of_decide_eq_true rfl | omega) (rfl : _ = Value.int _ _)) ?_
             refine r_val (.some rfl rfl) rfl (p_move rfl) ?_
             refine r_val (.some rfl rfl) rfl (p_eq rfl rfl) ?_
             refine r_val .none rfl (p_pick_t rfl rfl) ?_
             refine r_nil ?_
             refine e_next ?_
             refine c_splitd (d := 37) rfl (fun h_19 => ?_) (fun h_19 => ?_)
             ·
              first
               | (exfalso; omega)
               | (
                refine c_cond_t rfl ?_
                refine c_seq ?_
                refine c_region ?_
                refine r_val .none rfl (p_move rfl) ?_
                refine r_val .none rfl (p_move rfl) ?_
                refine r_val .none rfl (p_move rfl) ?_
                refine r_val .none rfl (p_build (vs := [(0, Value.int _ _), (1, Value.int _ _), (2, Value.int _ _)]) rfl (bl163_0i1_1i1_2i1 _ _ _)) ?_
                refine r_stw (k := 1) .none sz163 rfl rfl (IsRow.lit _) (one_lit rfl rfl) rfl ?_
                refine r_val .none rfl (p_assign rfl) ?_
                refine r_nil ?_
                refine e_next ?_
                refine c_ret ?_
                refine e_ret_block ?_
                refine e_ret_then ?_
                refine e_ret_then ?_
                refine e_ret_block ?_
                refine e_ret_then ?_
                refine e_ret_block ?_
                refine e_ret_then ?_
                refine e_ret_then ?_
                refine e_ret_block ?_
                refine e_ret_then ?_
                refine e_retn Try.results74 (.cell (k := 1) rfl Try.underlying163 rfl sz163 rfl (rfl : _ = Value.agg #[_, _, _]) (.tmp rfl .nil)) rfl (fun w hm => ⟨?_, hm.since⟩)
                first
                | (rw [← hb3, map_drop (i := k) (d := d0) (by omega), bound_here (f := 0) (by omega) (firstF_at 0 (by omega))]; rfl)
                | (rw [← hb3, map_drop (i := k) (d := d0) (by omega), bound_here (f := 1) (by omega) (firstF_at 1 (by omega))]; rfl)
                | (rw [← hb3, map_drop (i := k) (d := d0) (by omega), bound_here (f := 2) (by omega) (firstF_at 2 (by omega))]; rfl)
                | (rw [← hb3, List.drop_eq_nil_of_le (by simp; omega)]; rfl)
                )
             ·
              first
               | (exfalso; omega)
               | (
                refine c_cond_f rfl ?_
                refine c_skip ?_
                refine e_norm_block ?_
                refine e_next ?_
                refine c_region ?_
                refine r_val .none rfl (p_move rfl) ?_
                refine r_val .none rfl (p_add rfl rfl (by omega)) ?_
                refine r_val .none rfl (p_assign rfl) ?_
                refine r_nil ?_
                refine e_again ?_
                refine l_round (n := 1) ?_
                refine c_seq ?_
                refine c_seq ?_
                refine c_region ?_
                refine r_val .none rfl (p_move rfl) ?_
                refine r_val .none rfl (p_lt rfl rfl) ?_
                refine r_say (d := 20) (v := Value.bool true) rfl ?_
                refine r_nil ?_
                refine e_next ?_
                refine c_cond_t rfl ?_
                refine c_skip ?_
                refine e_next ?_
                refine c_seq ?_
                refine c_block ?_
                refine c_seq ?_
                refine c_region ?_
                refine r_val .none rfl (p_move rfl) ?_
                refine r_val .none rfl (p_field Try.underlying102 rfl sz100 rfl) ?_
                refine r_val .none rfl (p_iaddr (k := 2) Try.underlying100 sz99 rfl rfl (by first | exact of_decide_eq_true rfl | omega)) ?_
                refine r_val .none rfl (p_field Try.underlying99 rfl sz3 rfl) ?_
                refine r_val .none rfl (p_ld (k := 0) Try.underlying3 rfl rfl rfl (by first | exact of_decide_eq_true rfl | omega) (rfl : _ = Value.int _ _)) ?_
                refine r_val .none rfl (p_eq rfl rfl) ?_
                refine r_val .none rfl (p_move rfl) ?_
                refine r_splitd (d := 29) rfl (fun h_20 => ?_) (fun h_20 => ?_)
                ·
                 first
                  | (exfalso; omega)
                  | (
                   refine r_val (.some rfl rfl) rfl (p_move rfl) ?_
                   refine r_val (.some rfl rfl) rfl (p_field Try.underlying102 rfl sz100 rfl) ?_
                   refine r_val (.some rfl rfl) rfl (p_iaddr (k := 2) Try.underlying100 sz99 rfl rfl (by first | exact of_decide_eq_true rfl | omega)) ?_
                   refine r_val (.some rfl rfl) rfl (p_field Try.underlying99 rfl sz3 rfl) ?_
                   refine r_val (.some rfl rfl) rfl (p_ld (k := 0) Try.underlying3 rfl rfl rfl (by first | exact of_decide_eq_true rfl | omega) (rfl : _ = Value.int _ _)) ?_
                   refine r_val (.some rfl rfl) rfl (p_move rfl) ?_
                   refine r_val (.some rfl rfl) rfl (p_eq rfl rfl) ?_
                   refine r_val .none rfl (p_pick_t rfl rfl) ?_
                   refine r_nil ?_
                   refine e_next ?_
                   refine c_splitd (d := 37) rfl (fun h_21 => ?_) (fun h_21 => ?_)
                   ·
                    first
                     | (exfalso; omega)
                     | (
                      refine c_cond_t rfl ?_
                      refine c_seq ?_
                      refine c_region ?_
                      refine r_val .none rfl (p_move rfl) ?_
                      refine r_val .none rfl (p_move rfl) ?_
                      refine r_val .none rfl (p_move rfl) ?_
                      refine r_val .none rfl (p_build (vs := [(0, Value.int _ _), (1, Value.int _ _), (2, Value.int _ _)]) rfl (bl163_0i1_1i1_2i1 _ _ _)) ?_
                      refine r_stw (k := 1) .none sz163 rfl rfl (IsRow.lit _) (one_lit rfl rfl) rfl ?_
                      refine r_val .none rfl (p_assign rfl) ?_
                      refine r_nil ?_
                      refine e_next ?_
                      refine c_ret ?_
                      refine e_ret_block ?_
                      refine e_ret_then ?_
                      refine e_ret_then ?_
                      refine e_ret_block ?_
                      refine e_ret_then ?_
                      refine e_ret_block ?_
                      refine e_ret_then ?_
                      refine e_ret_then ?_
                      refine e_ret_block ?_
                      refine e_ret_then ?_
                      refine e_retn Try.results74 (.cell (k := 1) rfl Try.underlying163 rfl sz163 rfl (rfl : _ = Value.agg #[_, _, _]) (.tmp rfl .nil)) rfl (fun w hm => ⟨?_, hm.since⟩)
                      first
                      | (rw [← hb3, map_drop (i := k) (d := d0) (by omega), bound_here (f := 0) (by omega) (firstF_at 0 (by omega))]; rfl)
                      | (rw [← hb3, map_drop (i := k) (d := d0) (by omega), bound_here (f := 1) (by omega) (firstF_at 1 (by omega))]; rfl)
                      | (rw [← hb3, map_drop (i := k) (d := d0) (by omega), bound_here (f := 2) (by omega) (firstF_at 2 (by omega))]; rfl)
                      | (rw [← hb3, List.drop_eq_nil_of_le (by simp; omega)]; rfl)
                      )
                   ·
                    first
                     | (exfalso; omega)
                     | (
                      refine c_cond_f rfl ?_
                      refine c_skip ?_
                      refine e_norm_block ?_
                      refine e_next ?_
                      refine c_region ?_
                      refine r_val .none rfl (p_move rfl) ?_
                      refine r_val .none rfl (p_add rfl rfl (by omega)) ?_
                      refine r_val .none rfl (p_assign rfl) ?_
                      refine r_nil ?_
                      refine e_again ?_
                      refine l_round (n := 0) ?_
                      refine c_seq ?_
                      refine c_seq ?_
                      refine c_region ?_
                      refine r_val .none rfl (p_move rfl) ?_
                      refine r_val .none rfl (p_lt rfl rfl) ?_
                      refine r_say (d := 20) (v := Value.bool false) rfl ?_
                      refine r_nil ?_
                      refine e_next ?_
                      refine c_cond_f rfl ?_
                      refine c_exit ?_
                      refine e_exit_then ?_
                      refine e_exit_then ?_
                      refine e_exit_block ?_
                      refine e_next ?_
                      refine c_region ?_
                      refine r_val .none rfl (p_move rfl) ?_
                      refine r_val .none rfl (p_add rfl rfl (by omega)) ?_
                      refine r_val .none rfl (p_assign rfl) ?_
                      refine r_nil ?_
                      refine e_norm_block ?_
                      refine e_next ?_
                      refine c_region ?_
                      refine r_val .none rfl (p_add rfl rfl (by omega)) ?_
                      refine r_val .none rfl (p_move rfl) ?_
                      refine r_nil ?_
                      refine e_round ((k + 1, _)) ⟨⟨by dsimp only; omega, by dsimp only; omega, by first | (rw [← hb3, map_drop (i := k) (d := d0) (by omega), bound_skip (by omega)]; done) | (rw [← hb3, map_drop (i := k) (d := d0) (by omega), bound_next (by omega) (firstF_no (by omega))]; done)⟩, by dsimp only; omega⟩ rfl ⟨rfl, rfl, rfl, rfl, rfl, rfl, trivial⟩ (.drop (.keep (fun _ _ h => h) (.nil)))
                      )
                   )
                ·
                 first
                  | (exfalso; omega)
                  | (
                   refine r_skip rfl (.no rfl rfl) ?_
                   refine r_skip rfl (.no rfl rfl) ?_
                   refine r_skip rfl (.no rfl rfl) ?_
                   refine r_skip rfl (.no rfl rfl) ?_
                   refine r_skip rfl (.no rfl rfl) ?_
                   refine r_skip rfl (.no rfl rfl) ?_
                   refine r_skip rfl (.no rfl rfl) ?_
                   refine r_val .none rfl (p_pick_f rfl rfl) ?_
                   refine r_nil ?_
                   refine e_next ?_
                   refine c_cond_f rfl ?_
                   refine c_skip ?_
                   refine e_norm_block ?_
                   refine e_next ?_
                   refine c_region ?_
                   refine r_val .none rfl (p_move rfl) ?_
                   refine r_val .none rfl (p_add rfl rfl (by omega)) ?_
                   refine r_val .none rfl (p_assign rfl) ?_
                   refine r_nil ?_
                   refine e_again ?_
                   refine l_round (n := 0) ?_
                   refine c_seq ?_
                   refine c_seq ?_
                   refine c_region ?_
                   refine r_val .none rfl (p_move rfl) ?_
                   refine r_val .none rfl (p_lt rfl rfl) ?_
                   refine r_say (d := 20) (v := Value.bool false) rfl ?_
                   refine r_nil ?_
                   refine e_next ?_
                   refine c_cond_f rfl ?_
                   refine c_exit ?_
                   refine e_exit_then ?_
                   refine e_exit_then ?_
                   refine e_exit_block ?_
                   refine e_next ?_
                   refine c_region ?_
                   refine r_val .none rfl (p_move rfl) ?_
                   refine r_val .none rfl (p_add rfl rfl (by omega)) ?_
                   refine r_val .none rfl (p_assign rfl) ?_
                   refine r_nil ?_
                   refine e_norm_block ?_
                   refine e_next ?_
                   refine c_region ?_
                   refine r_val .none rfl (p_add rfl rfl (by omega)) ?_
                   refine r_val .none rfl (p_move rfl) ?_
                   refine r_nil ?_
                   refine e_round ((k + 1, _)) ⟨⟨by dsimp only; omega, by dsimp only; omega, by first | (rw [← hb3, map_drop (i := k) (d := d0) (by omega), bound_skip (by omega)]; done) | (rw [← hb3, map_drop (i := k) (d := d0) (by omega), bound_next (by omega) (firstF_no (by omega))]; done)⟩, by dsimp only; omega⟩ rfl ⟨rfl, rfl, rfl, rfl, rfl, rfl, trivial⟩ (.drop (.keep (fun _ _ h => h) (.nil)))
                   )
                )
             )
          ·
           first
            | (exfalso; omega)
            | (
             refine r_skip rfl (.no rfl rfl) ?_
             refine r_skip rfl (.no rfl rfl) ?_
             refine r_skip rfl (.no rfl rfl) ?_
             refine r_skip rfl (.no rfl rfl) ?_
             refine r_skip rfl (.no rfl rfl) ?_
             refine r_skip rfl (.no rfl rfl) ?_
             refine r_skip rfl (.no rfl rfl) ?_
             refine r_val .none rfl (p_pick_f rfl rfl) ?_
             refine r_nil ?_
             refine e_next ?_
             refine c_cond_f rfl ?_
             refine c_skip ?_
             refine e_norm_block ?_
             refine e_next ?_
             refine c_region ?_
             refine r_val .none rfl (p_move rfl) ?_
             refine r_val .none rfl (p_add rfl rfl (by omega)) ?_
             refine r_val .none rfl (p_assign rfl) ?_
             refine r_nil ?_
             refine e_again ?_
             refine l_round (n := 1) ?_
             refine c_seq ?_
             refine c_seq ?_
             refine c_region ?_
             refine r_val .none rfl (p_move rfl) ?_
             refine r_val .none rfl (p_lt rfl rfl) ?_
             refine r_say (d := 20) (v := Value.bool true) rfl ?_
             refine r_nil ?_
             refine e_next ?_
             refine c_cond_t rfl ?_
             refine c_skip ?_
             refine e_next ?_
             refine c_seq ?_
             refine c_block ?_
             refine c_seq ?_
             refine c_region ?_
             refine r_val .none rfl (p_move rfl) ?_
             refine r_val .none rfl (p_field Try.underlying102 rfl sz100 rfl) ?_
             refine r_val .none rfl (p_iaddr (k := 2) Try.underlying100 sz99 rfl rfl (by first | exact of_decide_eq_true rfl | omega)) ?_
             refine r_val .none rfl (p_field Try.underlying99 rfl sz3 rfl) ?_
             refine r_val .none rfl (p_ld (k := 0) Try.underlying3 rfl rfl rfl (by first | exact of_decide_eq_true rfl | omega) (rfl : _ = Value.int _ _)) ?_
             refine r_val .none rfl (p_eq rfl rfl) ?_
             refine r_val .none rfl (p_move rfl) ?_
             refine r_splitd (d := 29) rfl (fun h_22 => ?_) (fun h_22 => ?_)
             ·
              first
               | (exfalso; omega)
               | (
                refine r_val (.some rfl rfl) rfl (p_move rfl) ?_
                refine r_val (.some rfl rfl) rfl (p_field Try.underlying102 rfl sz100 rfl) ?_
                refine r_val (.some rfl rfl) rfl (p_iaddr (k := 2) Try.underlying100 sz99 rfl rfl (by first | exact of_decide_eq_true rfl | omega)) ?_
                refine r_val (.some rfl rfl) rfl (p_field Try.underlying99 rfl sz3 rfl) ?_
                refine r_val (.some rfl rfl) rfl (p_ld (k := 0) Try.underlying3 rfl rfl rfl (by first | exact of_decide_eq_true rfl | omega) (rfl : _ = Value.int _ _)) ?_
                refine r_val (.some rfl rfl) rfl (p_move rfl) ?_
                refine r_val (.some rfl rfl) rfl (p_eq rfl rfl) ?_
                refine r_val .none rfl (p_pick_t rfl rfl) ?_
                refine r_nil ?_
                refine e_next ?_
                refine c_splitd (d := 37) rfl (fun h_23 => ?_) (fun h_23 => ?_)
                ·
                 first
                  | (exfalso; omega)
                  | (
                   refine c_cond_t rfl ?_
                   refine c_seq ?_
                   refine c_region ?_
                   refine r_val .none rfl (p_move rfl) ?_
                   refine r_val .none rfl (p_move rfl) ?_
                   refine r_val .none rfl (p_move rfl) ?_
                   refine r_val .none rfl (p_build (vs := [(0, Value.int _ _), (1, Value.int _ _), (2, Value.int _ _)]) rfl (bl163_0i1_1i1_2i1 _ _ _)) ?_
                   refine r_stw (k := 1) .none sz163 rfl rfl (IsRow.lit _) (one_lit rfl rfl) rfl ?_
                   refine r_val .none rfl (p_assign rfl) ?_
                   refine r_nil ?_
                   refine e_next ?_
                   refine c_ret ?_
                   refine e_ret_block ?_
                   refine e_ret_then ?_
                   refine e_ret_then ?_
                   refine e_ret_block ?_
                   refine e_ret_then ?_
                   refine e_ret_block ?_
                   refine e_ret_then ?_
                   refine e_ret_then ?_
                   refine e_ret_block ?_
                   refine e_ret_then ?_
                   refine e_retn Try.results74 (.cell (k := 1) rfl Try.underlying163 rfl sz163 rfl (rfl : _ = Value.agg #[_, _, _]) (.tmp rfl .nil)) rfl (fun w hm => ⟨?_, hm.since⟩)
                   first
                   | (rw [← hb3, map_drop (i := k) (d := d0) (by omega), bound_here (f := 0) (by omega) (firstF_at 0 (by omega))]; rfl)
                   | (rw [← hb3, map_drop (i := k) (d := d0) (by omega), bound_here (f := 1) (by omega) (firstF_at 1 (by omega))]; rfl)
                   | (rw [← hb3, map_drop (i := k) (d := d0) (by omega), bound_here (f := 2) (by omega) (firstF_at 2 (by omega))]; rfl)
                   | (rw [← hb3, List.drop_eq_nil_of_le (by simp; omega)]; rfl)
                   )
                ·
                 first
                  | (exfalso; omega)
                  | (
                   refine c_cond_f rfl ?_
                   refine c_skip ?_
                   refine e_norm_block ?_
                   refine e_next ?_
                   refine c_region ?_
                   refine r_val .none rfl (p_move rfl) ?_
                   refine r_val .none rfl (p_add rfl rfl (by omega)) ?_
                   refine r_val .none rfl (p_assign rfl) ?_
                   refine r_nil ?_
                   refine e_again ?_
                   refine l_round (n := 0) ?_
                   refine c_seq ?_
                   refine c_seq ?_
                   refine c_region ?_
                   refine r_val .none rfl (p_move rfl) ?_
                   refine r_val .none rfl (p_lt rfl rfl) ?_
                   refine r_say (d := 20) (v := Value.bool false) rfl ?_
                   refine r_nil ?_
                   refine e_next ?_
                   refine c_cond_f rfl ?_
                   refine c_exit ?_
                   refine e_exit_then ?_
                   refine e_exit_then ?_
                   refine e_exit_block ?_
                   refine e_next ?_
                   refine c_region ?_
                   refine r_val .none rfl (p_move rfl) ?_
                   refine r_val .none rfl (p_add rfl rfl (by omega)) ?_
                   refine r_val .none rfl (p_assign rfl) ?_
                   refine r_nil ?_
                   refine e_norm_block ?_
                   refine e_next ?_
                   refine c_region ?_
                   refine r_val .none rfl (p_add rfl rfl (by omega)) ?_
                   refine r_val .none rfl (p_move rfl) ?_
                   refine r_nil ?_
                   refine e_round ((k + 1, _)) ⟨⟨by dsimp only; omega, by dsimp only; omega, by first | (rw [← hb3, map_drop (i := k) (d := d0) (by omega), bound_skip (by omega)]; done) | (rw [← hb3, map_drop (i := k) (d := d0) (by omega), bound_next (by omega) (firstF_no (by omega))]; done)⟩, by dsimp only; omega⟩ rfl ⟨rfl, rfl, rfl, rfl, rfl, rfl, trivial⟩ (.drop (.keep (fun _ _ h => h) (.nil)))
                   )
                )
             ·
              first
               | (exfalso; omega)
               | (
                refine r_skip rfl (.no rfl rfl) ?_
                refine r_skip rfl (.no rfl rfl) ?_
                refine r_skip rfl (.no rfl rfl) ?_
                refine r_skip rfl (.no rfl rfl) ?_
                refine r_skip rfl (.no rfl rfl) ?_
                refine r_skip rfl (.no rfl rfl) ?_
                refine r_skip rfl (.no rfl rfl) ?_
                refine r_val .none rfl (p_pick_f rfl rfl) ?_
                refine r_nil ?_
                refine e_next ?_
                refine c_cond_f rfl ?_
                refine c_skip ?_
                refine e_norm_block ?_
                refine e_next ?_
                refine c_region ?_
                refine r_val .none rfl (p_move rfl) ?_
                refine r_val .none rfl (p_add rfl rfl (by omega)) ?_
                refine r_val .none rfl (p_assign rfl) ?_
                refine r_nil ?_
                refine e_again ?_
                refine l_round (n := 0) ?_
                refine c_seq ?_
                refine c_seq ?_
                refine c_region ?_
                refine r_val .none rfl (p_move rfl) ?_
                refine r_val .none rfl (p_lt rfl rfl) ?_
                refine r_say (d := 20) (v := Value.bool false) rfl ?_
                refine r_nil ?_
                refine e_next ?_
                refine c_cond_f rfl ?_
                refine c_exit ?_
                refine e_exit_then ?_
                refine e_exit_then ?_
                refine e_exit_block ?_
                refine e_next ?_
                refine c_region ?_
                refine r_val .none rfl (p_move rfl) ?_
                refine r_val .none rfl (p_add rfl rfl (by omega)) ?_
                refine r_val .none rfl (p_assign rfl) ?_
                refine r_nil ?_
                refine e_norm_block ?_
                refine e_next ?_
                refine c_region ?_
                refine r_val .none rfl (p_add rfl rfl (by omega)) ?_
                refine r_val .none rfl (p_move rfl) ?_
                refine r_nil ?_
                refine e_round ((k + 1, _)) ⟨⟨by dsimp only; omega, by dsimp only; omega, by first | (rw [← hb3, map_drop (i := k) (d := d0) (by omega), bound_skip (by omega)]; done) | (rw [← hb3, map_drop (i := k) (d := d0) (by omega), bound_next (by omega) (firstF_no (by omega))]; done)⟩, by dsimp only; omega⟩ rfl ⟨rfl, rfl, rfl, rfl, rfl, rfl, trivial⟩ (.drop (.keep (fun _ _ h => h) (.nil)))
                )
             )
          )
       )
    )
 ·
  first
   | (exfalso; omega)
   | (
    refine c_cond_f rfl ?_
    refine c_exit ?_
    refine e_exit_then ?_
    refine e_exit_then ?_
    refine e_exit_block ?_
    refine e_next ?_
    refine c_seq ?_
    refine c_region ?_
    refine r_val .none rfl (p_build (vs := []) rfl (bl163_ )) ?_
    refine r_stw (k := 0) .none sz163 rfl rfl (IsRow.lit _) (one_lit rfl rfl) rfl ?_
    refine r_val .none rfl (p_assign rfl) ?_
    refine r_nil ?_
    refine e_next ?_
    refine c_ret ?_
    refine e_retn Try.results74 (.cell (k := 0) rfl Try.underlying163 rfl sz163 rfl (rfl : _ = Value.agg #[_, _, _]) (.tmp rfl .nil)) rfl (fun w hm => ⟨?_, hm.since⟩)
    first
    | (rw [← hb3, map_drop (i := k) (d := d0) (by omega), bound_here (f := 0) (by omega) (firstF_at 0 (by omega))]; rfl)
    | (rw [← hb3, map_drop (i := k) (d := d0) (by omega), bound_here (f := 1) (by omega) (firstF_at 1 (by omega))]; rfl)
    | (rw [← hb3, map_drop (i := k) (d := d0) (by omega), bound_here (f := 2) (by omega) (firstF_at 2 (by omega))]; rfl)
    | (rw [← hb3, List.drop_eq_nil_of_le (by simp; omega)]; rfl)
    )
end Go.Proofs.Ytpadfgomhojjnaa

/- Walks: what Go functions of this chapter come to, each as a function on plain data; no condition but those that each theorem names. Printed by a program of this work (gen.py). -/
namespace Go.Proofs.Ytpadfgomhojjnaa
open Go.Gx Go.Gx.T3 Go.Gx.T4 Go.Gx.T3 Go.Gx.T8 Go.Gx.T4 Go.Gx.T3
theorem sz83 : SzIs Try.prog 83 1 := by
 unfold SzIs
 kernel_rfl
theorem sz105 : SzIs Try.prog 105 3 := by
 unfold SzIs
 kernel_rfl
theorem sz114 : SzIs Try.prog 114 1 := by
 unfold SzIs
 kernel_rfl
theorem sz116 : SzIs Try.prog 116 6 := by
 unfold SzIs
 kernel_rfl
theorem zr116 : ZeroIs Try.prog 116 (Value.agg #[Value.int .i64 0, Value.int .i64 0, Value.int .i64 0, Value.int .i64 0, Value.slice none 0 0, Value.slice none 0 0]) := by
 unfold ZeroIs
 kernel_rfl
theorem lf99 : leafT Try.prog 9 99 = some [3, 3] := by
 kernel_rfl
theorem ef99 : eqT Try.prog 9 99 = true := by
 kernel_rfl
theorem eg99 : Try.prog.eqGuardType Try.prog.depth 99 = false := by
 kernel_rfl
theorem cl57 : Callable Try.prog 57 := callable Try.func57 (by kernel_rfl) rfl
theorem cl74 : Callable Try.prog 74 := callable Try.func74 (by kernel_rfl) rfl
theorem bl116_0i1 (x0 : Int) : Program.built Try.prog 116 [(0, Value.int .i64 x0)] = some #[Value.int .i64 x0, Value.int .i64 0, Value.int .i64 0, Value.int .i64 0, Value.slice none 0 0, Value.slice none 0 0] := by
 kernel_rfl
theorem bl140_0i1_1i1_2i1 (x0 : Int) (x1 : Int) (x2 : Int) : Program.built Try.prog 140 [(0, Value.int .i64 x0), (1, Value.int .i64 x1), (2, Value.int .i64 x2)] = some #[Value.int .i64 x0, Value.int .i64 x1, Value.int .i64 x2] := by
 kernel_rfl
theorem bs116_10a6 (a0 a1 a2 a3 a4 a5 : Value) : Instr.fill (fun i => some (i * 6, 6)) ((Array.range (1 * 6)).map ((Value.agg #[Value.int .i64 0, Value.int .i64 0, Value.int .i64 0, Value.int .i64 0, Value.slice none 0 0, Value.slice none 0 0]).cells[· % (Value.agg #[Value.int .i64 0, Value.int .i64 0, Value.int .i64 0, Value.int .i64 0, Value.slice none 0 0, Value.slice none 0 0]).cells.size]!)) [(0, Value.agg #[a0, a1, a2, a3, a4, a5])] = some #[a0, a1, a2, a3, a4, a5] := by
 kernel_rfl
theorem bs140_10a3 (a0 a1 a2 : Value) : Instr.fill (fun i => some (i * 3, 3)) ((Array.range (1 * 3)).map ((Value.agg #[Value.int .i64 0, Value.int .i64 0, Value.int .i64 0]).cells[· % (Value.agg #[Value.int .i64 0, Value.int .i64 0, Value.int .i64 0]).cells.size]!)) [(0, Value.agg #[a0, a1, a2])] = some #[a0, a1, a2] := by
 kernel_rfl
theorem el116 : ElemIs Try.prog 116 6 80 (Value.agg #[Value.int .i64 0, Value.int .i64 0, Value.int .i64 0, Value.int .i64 0, Value.slice none 0 0, Value.slice none 0 0]) := by
 unfold ElemIs
 kernel_rfl
theorem el140 : ElemIs Try.prog 140 3 24 (Value.agg #[Value.int .i64 0, Value.int .i64 0, Value.int .i64 0]) := by
 unfold ElemIs
 kernel_rfl
def OfIs (n : Nat) : Prop := ∀ (c : CT) (sv va : Value) (l : List CT) (G : Ghost) (w : World), SizeOf.sizeOf c ≤ n → l.length + size c ≤ 1000 → Rs G sv c.subs → Rs G va l → Has G w → Calls Try.prog 57 #[va, Value.agg #[Value.int .i64 c.h.k, Value.int .i64 (vi c.h.v0), Value.int .i64 c.h.n0, Value.int .i64 (vi c.h.v1), Value.int .i64 c.h.n1, Value.int .i64 (vi c.h.v2), Value.int .i64 c.h.n2, sv]] w (Ret fun r w' => ∃ G', GNew w nX G G' ∧ Has G' w' ∧ (∃ tv uv, r = Value.agg #[Value.int .i64 (stepOf l c).h.k, Value.int .i64 (stepOf l c).h.k0, Value.int .i64 (stepOf l c).h.k1, Value.int .i64 (stepOf l c).h.k2, tv, uv] ∧ SlL G' tv 3 tC t0 (stepOf l c).h.ts ∧ Ss G' uv (stepOf l c).subs) ∧ Since nX w w')
theorem c_of_s (n : Nat) (ih : OfIs n) (c : CT) (sv : Value) (va : Value) (l : List CT) {G : Ghost} (hz : SizeOf.sizeOf c ≤ n + 1) (hch : l.length + size c ≤ 1000) (hs : Rs G sv c.subs) (hs2 : Rs G va l) (w : World) (hG : Has G w) :
  Calls Try.prog 57 #[va, Value.agg #[Value.int .i64 c.h.k, Value.int .i64 (vi c.h.v0), Value.int .i64 c.h.n0, Value.int .i64 (vi c.h.v1), Value.int .i64 c.h.n1, Value.int .i64 (vi c.h.v2), Value.int .i64 c.h.n2, sv]] w (Ret fun r w' => ∃ G', GNew w nX G G' ∧ Has G' w' ∧ (∃ tv uv, r = Value.agg #[Value.int .i64 (stepOf l c).h.k, Value.int .i64 (stepOf l c).h.k0, Value.int .i64 (stepOf l c).h.k1, Value.int .i64 (stepOf l c).h.k2, tv, uv] ∧ SlL G' tv 3 tC t0 (stepOf l c).h.ts ∧ Ss G' uv (stepOf l c).subs) ∧ Since nX w w') := by
 refine enter (args := [_, _]) (X := nX) (G := G) (l := [(0, va), (1, Value.agg #[Value.int .i64 c.h.k, Value.int .i64 (vi c.h.v0), Value.int .i64 c.h.n0, Value.int .i64 (vi c.h.v1), Value.int .i64 c.h.n1, Value.int .i64 (vi c.h.v2), Value.int .i64 c.h.n2, sv])]) Try.func57 rfl Try.ntmps57 hG ⟨rfl, rfl, trivial⟩ (Nat.le_of_ble_eq_true rfl) ?_
 obtain ⟨rs, hr, hp, hl⟩ := hs.inv
 have hlen : c.subs.length = rs.length := by rw [hl]; simp
 have hbd := hr.bound
 have hrl := size_len hl (Nat.le_refl (size c))
 obtain ⟨rc, hrc, hpc, hlc⟩ := hs2.inv
 have hcl : l.length = rc.length := by rw [hlc]; simp
 refine c_seq ?_
 refine c_region ?_
 refine r_box .none rfl rfl (IsRow.lit _) (fun b_1 => ?_)
 refine r_alloc .none rfl zr116 (IsRow.lit _) (fun b_2 => ?_)
 refine r_nil ?_
 refine e_next ?_
 refine c_seq ?_
 refine c_region ?_
 refine r_val .none rfl (p_field Try.underlying102 rfl sz3 rfl) ?_
 refine r_val .none rfl (p_ld (k := 1) Try.underlying3 rfl rfl rfl (by first | exact of_decide_eq_true rfl | omega) (rfl : _ = Value.int _ _)) ?_
 refine r_val .none rfl (p_build (vs := [(0, Value.int _ _)]) rfl (bl116_0i1 _)) ?_
 refine r_alloc .none rfl zr116 (IsRow.lit _) (fun b_3 => ?_)
 refine r_stw (k := 0) .none sz116 rfl rfl (IsRow.lit _) (one_lit rfl rfl) rfl ?_
 refine r_nil ?_
 refine e_next ?_
 refine c_seq ?_
 refine c_seq ?_
 refine c_region ?_
 refine r_val .none rfl (p_field Try.underlying102 rfl sz3 rfl) ?_
 refine r_val .none rfl (p_ld (k := 2) Try.underlying3 rfl rfl rfl (by first | exact of_decide_eq_true rfl | omega) (rfl : _ = Value.int _ _)) ?_
 refine r_val .none rfl (p_eq rfl rfl) ?_
 refine r_nil ?_
 refine e_next ?_
 refine c_splitd (d := 18) rfl (fun h_1 => ?_) (fun h_1 => ?_)
 ·
  first
   | (exfalso; omega)
   | (
    refine c_cond_t rfl ?_
    refine c_seq ?_
    refine c_seq ?_
    refine c_region ?_
    refine r_val .none rfl (p_field Try.underlying102 rfl sz75 rfl) ?_
    refine r_val .none rfl (p_ld (k := 2) Try.underlying75 rfl rfl rfl (by first | exact of_decide_eq_true rfl | omega) rfl) ?_
    refine r_val .none rfl (p_leng Try.underlying75 rfl hr) ?_
    have bd_2 := (hr).bound
    refine r_val .none rfl (p_move rfl) ?_
    refine r_nil ?_
    refine e_next ?_
    refine c_block ?_
    refine c_nilrow 116 6 ?_
    refine c_name (d := 0) rfl (fun u_3 hu_3 => ?_)
    refine c_name (d := 3) rfl (fun u_4 hu_4 => ?_)
    refine c_name (d := 4) rfl (fun u_5 hu_5 => ?_)
    refine c_name (d := 5) rfl (fun u_6 hu_6 => ?_)
    refine c_name (d := 20) rfl (fun u_7 hu_7 => ?_)
    refine c_name (d := 21) rfl (fun u_8 hu_8 => ?_)
    refine c_nameL (k := 2) rfl (fun A_9 hA_9 => ?_)
    refine c_nameL (k := 3) rfl (fun A_10 hA_10 => ?_)
    refine c_loop (σ := Nat × Value × List SVal × Ghost) (fun s => [(22, Value.int .i64 (s.1 : Nat)), (0, u_3), (3, u_4), (4, u_5), (5, u_6), (20, u_7), (21, u_8)]) (fun s => [rowA (s.2.1) 116 6 (s.2.2.1).length ((s.2.2.1).flatMap sC), box b_3 6 116 (at_ [.int .i64 c.h.k, .int .i64 0, .int .i64 0, .int .i64 0, .slice none 0 0, s.2.1]), A_9, A_10]) (fun s => s.2.2.2) (fun s => s.1 ≤ rs.length ∧ s.2.2.1.map Prod.fst = stepsOf l ((rs.map Prod.fst).take s.1) ∧ (∀ p ∈ s.2.2.1, SlL s.2.2.2 p.2.1 3 tC t0 p.1.h.ts) ∧ (∀ p ∈ s.2.2.1, Ss s.2.2.2 p.2.2 p.1.subs) ∧ GNew w nX G s.2.2.2) (fun s => rs.length - s.1) ((0, _, [], _)) ⟨Nat.zero_le _, rfl, by simp, by simp, GNew.refl _ _ _⟩ rfl ⟨rfl, rfl, rfl, rfl, rfl, rfl, rfl, trivial⟩ (.keep (fun _ _ h => rowA_nil rfl _ _ h) (.keep (fun _ _ h => box_congr (fun i hi => by match i, hi with | 0, _ => rfl | 1, _ => rfl | 2, _ => rfl | 3, _ => rfl | 4, _ => rfl | 5, _ => rfl) _ _ h) (.keep (fun _ _ h => h) (.keep (fun _ _ h => h) (.nil))))) (fun s hphi => ?_)
    subst hu_3
    subst hu_4
    subst hu_5
    subst hu_6
    subst hu_7
    subst hu_8
    subst hA_9
    subst hA_10
    obtain ⟨k, v, qs, H⟩ := s
    obtain ⟨hk, hq, hqt, hqs, hgn⟩ := hphi
    dsimp only at hk hq hqt hqs hgn ⊢
    have hql : qs.length ≤ k := (by have := congrArg List.length hq; rw [stepsOf_len] at this; simp at this; omega)
    refine c_row1 (k := 0) rfl (fun ov => ?_)
    refine c_rowlen (k := 0) rfl (fun l63 => ?_)
    replace hrc := hrc.mono hgn.le
    replace hp := fun p hm0 => (hp p hm0).mono hgn.le
    replace hr := hr.mono hgn.le
    replace hpc := fun p hm0 => (hpc p hm0).mono hgn.le
    replace hs2 := hs2.mono hgn.le
    refine c_seq ?_
    refine c_region ?_
    refine r_val .none rfl (p_lt rfl rfl) ?_
    refine r_nil ?_
    refine e_next ?_
    refine c_seq ?_
    refine c_splitd (d := 23) rfl (fun h_11 => ?_) (fun h_11 => ?_)
    ·
     first
      | (exfalso; omega)
      | (
       refine c_cond_t rfl ?_
       refine c_skip ?_
       refine e_next ?_
       refine c_seq ?_
       refine c_block ?_
       refine c_seq ?_
       refine c_region ?_
       refine r_val .none rfl (p_move rfl) ?_
       refine r_iaddr_g .none rfl Try.underlying75 sz102 rfl hr rfl (by first | exact of_decide_eq_true rfl | omega) (fun p_13 o_14 R_12 => ?_)
       have hc_15 := hp _ (getD_mem (i := k) (d := d0) (by omega))
       have hz5 : (l ++ ((rs.map Prod.fst).take k)).length + size (rs.getD k d0).1 ≤ 1000 := by have h1 := sizeL_take (rs := rs) (k := k) (by omega); have h2 := sizeL_take_le (rs.map Prod.fst) (k + 1); have h3 := sizeL_len ((rs.map Prod.fst).take k); have h4 := size_eq c; rw [hl] at h4; rw [List.length_take, List.length_map] at h3; rw [List.length_append, List.length_take, List.length_map]; omega
       refine r_val .none rfl (p_ldga0 Try.underlying102 rfl sz102 rfl R_12 (by first | exact of_decide_eq_true rfl | omega) (rfl : _ = Value.agg #[_, _, _, _, _, _, _, _])) ?_
       refine r_alloc .none rfl zr102 (IsRow.lit _) (fun b_4 => ?_)
       refine r_val .none rfl (p_assign rfl) ?_
       refine r_stw (k := 0) .none sz102 rfl rfl (IsRow.lit _) (one_lit rfl (all_cons rfl (all_cons rfl (all_cons rfl (all_cons rfl (all_cons rfl (all_cons rfl (all_cons rfl (all_cons (hc_15).one rfl))))))))) rfl ?_
       refine r_nil ?_
       refine e_next ?_
       refine c_seq ?_
       refine c_region ?_
       refine r_val .none rfl (p_assign rfl) ?_
       refine r_nil ?_
       refine e_next ?_
       refine c_seq ?_
       refine c_region ?_
       refine r_val .none rfl (p_move rfl) ?_
       refine r_val .none rfl (p_move rfl) ?_
       refine r_nilrow 102 8 ?_
       refine r_append_g (k := 0) .none rfl Try.underlying75 el102 rfl (by decide) rfl rfl rfl hrc (rv_ones hpc) (by simp only [maxLen]; omega) (by omega) (fun v_16 => ?_)
       refine r_row1 (k := 0) rfl (fun o_17 => ?_)
       refine r_val .none rfl (p_assign rfl) ?_
       refine r_nil ?_
       refine e_next ?_
       refine c_seq ?_
       refine c_region ?_
       refine r_val .none rfl (p_move rfl) ?_
       refine r_val .none rfl (p_field Try.underlying102 rfl sz75 rfl) ?_
       refine r_val .none rfl (p_ld (k := 5) Try.underlying75 rfl rfl rfl (by first | exact of_decide_eq_true rfl | omega) rfl) ?_
       refine r_val .none rfl (p_move rfl) ?_
       refine r_slice0 (k) .none rfl Try.underlying75 sz102 rfl hr rfl (by first | exact of_decide_eq_true rfl | omega) (fun v_18 hs_19 => ?_)
       have hpt_21 := (Tr.take (by omega) hs_19 hp).1
       refine r_append_g (k := 0) .none rfl Try.underlying75 el102 rfl (by decide) rfl rfl rfl hpt_21 (rv_ones (fun p hm0 => hp p (List.mem_of_mem_take hm0))) (by rw [List.length_take]; simp only [maxLen]; omega) (by rw [List.length_take]; omega) (fun v_22 => ?_)
       refine r_row1 (k := 0) rfl (fun o_23 => ?_)
       refine r_freeze (k := 0) rfl (fun G_24 hn_25 hs_26 => ?_)
       replace hrc := hrc.mono hn_25.le
       replace hp := fun p hm0 => (hp p hm0).mono hn_25.le
       replace hr := hr.mono hn_25.le
       replace hpc := fun p hm0 => (hpc p hm0).mono hn_25.le
       replace hs2 := hs2.mono hn_25.le
       replace hqt := fun p hm0 => (hqt p hm0).mono hn_25.le
       replace hqs := fun p hm0 => (hqs p hm0).mono hn_25.le
       replace R_12 := R_12.mono hn_25.le
       replace hc_15 := hc_15.mono hn_25.le
       replace hs_19 := hs_19.mono hn_25.le
       replace hpt_21 := hpt_21.mono hn_25.le
       have hf_27 : SlL G_24 v_22 8 rvC d0 (rc ++ rs.take k) := SlL.of2 d0 (fun _ => rfl) (by simp) (by rw [List.nil_append, flat_all (cells := rvC) (fun _ => rfl), flat_all (cells := rvC) (fun _ => rfl), List.flatMap_append]) hs_26
       have hT_28 : Rs G_24 v_22 (l ++ ((rs.map Prod.fst).take k)) := by rw [hlc, ← List.map_take, ← List.map_append]; exact Tr.mk _ hf_27 (fun p hm0 => by rcases List.mem_append.1 hm0 with h | h; exact hpc p h; exact hp p (List.mem_of_mem_take h))
       refine r_val .none rfl (p_assign rfl) ?_
       refine r_nil ?_
       refine e_next ?_
       refine c_region_d (fun j => [6, 7, 8].contains j) _ mixed (.keep (fun _ _ h => h) (.keep (fun _ _ h => h) (.keep (fun _ _ h => h) (.keep (fun _ _ h => h) (.keep (fun _ _ h => h) (.nil)))))) ?_
       refine d_val1 0 rfl rfl (by kernel_rfl) (fun j hj => by have h : 8 < j := (Nat.lt_of_lt_of_le (by decide : 8 < 9) hj); simp; omega) .none rfl (p_field Try.underlying116 rfl sz83 rfl) ?_
       refine d_val1 1 rfl rfl (by kernel_rfl) (fun j hj => by have h : 8 < j := (Nat.lt_of_lt_of_le (by decide : 8 < 9) hj); simp; omega) .none rfl (p_ld (k := 2) Try.underlying83 rfl rfl rfl (by first | exact of_decide_eq_true rfl | omega) rfl) ?_
       refine d_val1 2 rfl rfl (by kernel_rfl) (fun j hj => by have h : 8 < j := (Nat.lt_of_lt_of_le (by decide : 8 < 9) hj); simp; omega) .none rfl (p_move rfl) ?_
       refine d_val1 3 rfl rfl (by kernel_rfl) (fun j hj => by have h : 8 < j := (Nat.lt_of_lt_of_le (by decide : 8 < 9) hj); simp; omega) .none rfl (p_ldw (k := 0) Try.underlying102 rfl sz102 rfl rfl (rfl : _ = Value.agg #[_, _, _, _, _, _, _, _])) ?_
       refine d_eff 4 rfl (by kernel_rfl) (fun K_29 hKK_29 hcK_29 => ?_)
       refine r_callm (vs := [_, _]) .none rfl cl57 rfl (fun w hw => ih (rs.getD k d0).1 _ _ _ _ w (size_at hl (by omega) hz) hz5 hc_15 hT_28 hw) (fun G_30 v_33 hn_31 hr_32 => ?_)
       replace hrc := hrc.mono hn_31.le
       replace hp := fun p hm0 => (hp p hm0).mono hn_31.le
       replace hr := hr.mono hn_31.le
       replace hpc := fun p hm0 => (hpc p hm0).mono hn_31.le
       replace hs2 := hs2.mono hn_31.le
       replace hqt := fun p hm0 => (hqt p hm0).mono hn_31.le
       replace hqs := fun p hm0 => (hqs p hm0).mono hn_31.le
       replace R_12 := R_12.mono hn_31.le
       replace hc_15 := hc_15.mono hn_31.le
       replace hs_19 := hs_19.mono hn_31.le
       replace hpt_21 := hpt_21.mono hn_31.le
       replace hT_28 := hT_28.mono hn_31.le
       obtain ⟨u_34a, u_34b, rfl, u_34s, u_34t⟩ := hr_32
       refine r_nil (e_d (i := 4) (brk := (fun j => [6, 7, 8].contains j)) (ph' := true) hKK_29 hcK_29 rfl (fun _ => hn_31.le) (fun _ => .keep (fun _ _ h => h) (.keep (fun _ _ h => h) (.keep (fun _ _ h => h) (.keep (fun _ _ h => h) (.keep (fun _ _ h => h) (.nil)))))) ?_)
       clear hKK_29 hcK_29 K_29
       refine d_eff 5 rfl (by kernel_rfl) (fun K_35 hKK_35 hcK_35 => ?_)
       refine r_bslice (vs := [(0, Value.agg #[_, _, _, _, _, _])]) (c := #[_, _, _, _, _, _]) .none rfl Try.underlying83 el116 rfl rfl rfl (bs116_10a6 _ _ _ _ _ _) (IsRow.lit _) (fun b_5 => ?_)
       refine r_nil (e_d (i := 5) (brk := (fun j => [6, 7, 8].contains j)) (ph' := true) hKK_35 hcK_35 rfl (fun _ => hn_31.le) (fun _ => .drop (.keep (fun _ _ h => h) (.keep (fun _ _ h => h) (.keep (fun _ _ h => h) (.keep (fun _ _ h => h) (.keep (fun _ _ h => h) (.nil))))))) ?_)
       clear hKK_35 hcK_35 K_35
       refine d_eff 6 rfl (by kernel_rfl) (fun K_36 hKK_36 hcK_36 => ?_)
       refine r_append (k := 2) (k2 := 0) .none rfl Try.underlying83 el116 rfl (by decide) rfl rfl rfl rfl rfl (one_lit rfl (all_cons rfl (all_cons rfl (all_cons rfl (all_cons rfl (all_cons (u_34s).one (all_cons (u_34t).one rfl))))))) (by simp only [maxLen]; omega) (by omega) (fun v_37 => ?_)
       refine r_row1 (k := 2) rfl (fun o_38 => ?_)
       refine r_nil (e_d (i := 6) (brk := (fun j => [6, 7, 8].contains j)) (ph' := false) hKK_36 hcK_36 rfl (fun h => by cases h) (fun h => by cases h) ?_)
       clear hKK_36 hcK_36 K_36
       refine d_val2 7 rfl rfl (by kernel_rfl) .none rfl (fun _ => p_field Try.underlying116 rfl sz83 rfl) ?_
       refine d_eff 8 rfl (by kernel_rfl) (fun K_39 hKK_39 hcK_39 => ?_)
       refine r_st (k := 3) .none sz83 rfl rfl o_38 rfl (by first | exact of_decide_eq_true rfl | omega) ?_
       refine r_nil (e_d (i := 8) (brk := (fun j => [6, 7, 8].contains j)) (ph' := false) hKK_39 hcK_39 rfl (fun h => by cases h) (fun h => by cases h) ?_)
       clear hKK_39 hcK_39 K_39
       refine d_nil (by kernel_rfl) ?_
       refine e_norm_block ?_
       refine e_next ?_
       refine c_region ?_
       refine r_val .none rfl (p_add rfl rfl (by omega)) ?_
       refine r_val .none rfl (p_move rfl) ?_
       refine r_nil ?_
       refine e_round ((k + 1, _, qs ++ [(stepOf (l ++ ((rs.map Prod.fst).take k)) (rs.getD k d0).1, u_34a, u_34b)], _)) ⟨⟨by dsimp only; omega, by rw [stepsOf_take (by omega), List.map_append, hq]; rfl, (fun p hp' => by rcases List.mem_append.1 hp' with h | h; exact hqt p h; rw [List.mem_singleton.1 h]; exact u_34s), (fun p hp' => by rcases List.mem_append.1 hp' with h | h; exact hqs p h; rw [List.mem_singleton.1 h]; exact u_34t), ((hgn.trans hn_25).trans hn_31)⟩, by dsimp only; omega⟩ rfl ⟨rfl, rfl, rfl, rfl, rfl, rfl, rfl, trivial⟩ (.drop (.drop (.keep (fun _ _ h => rowA_snoc (l := qs) (x := (stepOf (l ++ ((rs.map Prod.fst).take k)) (rs.getD k d0).1, u_34a, u_34b)) rfl rfl rfl rfl _ _ h) (.keep (fun _ _ h => box_congr (fun i hi => by match i, hi with | 0, _ => rfl | 1, _ => rfl | 2, _ => rfl | 3, _ => rfl | 4, _ => rfl | 5, _ => rfl) _ _ h) (.keep (fun _ _ h => h) (.keep (fun _ _ h => h) (.nil)))))))
       )
    ·
     first
      | (exfalso; omega)
      | (
       refine c_cond_f rfl ?_
       refine c_exit ?_
       refine e_exit_then ?_
       refine e_exit_then ?_
       refine e_exit_block ?_
       refine e_next ?_
       refine c_seq ?_
       refine c_region ?_
       refine r_val .none rfl (p_ldw (k := 1) Try.underlying116 rfl sz116 rfl rfl (rfl : _ = Value.agg #[_, _, _, _, _, _])) ?_
       refine r_stw (k := 2) .none sz116 rfl rfl (IsRow.lit _) (one_lit rfl (all_cons rfl (all_cons rfl (all_cons rfl (all_cons rfl (all_cons rfl (all_cons ov rfl))))))) rfl ?_
       refine r_nil ?_
       refine e_next ?_
       refine c_ret ?_
       refine e_ret_then ?_
       refine e_freeze (k := 0) rfl (fun G_40 hn_41 hs_42 => ?_)
       replace hrc := hrc.mono hn_41.le
       replace hp := fun p hm0 => (hp p hm0).mono hn_41.le
       replace hr := hr.mono hn_41.le
       replace hpc := fun p hm0 => (hpc p hm0).mono hn_41.le
       replace hs2 := hs2.mono hn_41.le
       replace hqt := fun p hm0 => (hqt p hm0).mono hn_41.le
       replace hqs := fun p hm0 => (hqs p hm0).mono hn_41.le
       refine e_ret1 Try.results57 (.cell (k := 1) rfl Try.underlying116 rfl sz116 rfl (rfl : _ = Value.agg #[_, _, _, _, _, _]) .nil) (fun w hm => ⟨_, (hgn.trans hn_41), hm.has, ?_, hm.since⟩)
       have hk2 : k = rs.length := by omega
       rw [stepOf_ncc (by omega)]
       refine ⟨_, _, rfl, SlG.nil _ _ _, ?_⟩
       show Ss _ _ (stepsOf l c.subs)
       rw [show stepsOf l c.subs = qs.map Prod.fst by rw [hq, hl, List.take_of_length_le (by simp; omega)]]
       exact Ss.mk qs (SlL.of s0 (fun _ => rfl) rfl hs_42) hqt hqs
       )
    )
 ·
  first
   | (exfalso; omega)
   | (
    refine c_cond_f rfl ?_
    refine c_skip ?_
    refine e_next ?_
    refine c_seq ?_
    refine c_seq ?_
    refine c_region ?_
    refine r_val .none rfl (p_assign rfl) ?_
    refine r_nil ?_
    refine e_next ?_
    refine c_block ?_
    refine c_nilrow 140 3 ?_
    refine c_name (d := 0) rfl (fun u_43 hu_43 => ?_)
    refine c_name (d := 3) rfl (fun u_44 hu_44 => ?_)
    refine c_name (d := 4) rfl (fun u_45 hu_45 => ?_)
    refine c_name (d := 5) rfl (fun u_46 hu_46 => ?_)
    refine c_nameL (k := 2) rfl (fun A_47 hA_47 => ?_)
    refine c_nameL (k := 3) rfl (fun A_48 hA_48 => ?_)
    refine c_loop (σ := Nat × Value) (fun s => [(9, Value.int .i64 (s.1 : Nat)), (0, u_43), (3, u_44), (4, u_45), (5, u_46)]) (fun s => [rowA (s.2) 140 3 ((testsTo l c.h s.1)).length (((testsTo l c.h s.1)).flatMap tC), box b_3 6 116 (at_ [.int .i64 c.h.k, .int .i64 (keyTo c.h s.1 0), .int .i64 (keyTo c.h s.1 1), .int .i64 (keyTo c.h s.1 2), s.2, .slice none 0 0]), A_47, A_48]) (fun _ => _) (fun s => s.1 ≤ 3) (fun s => 3 - s.1) ((0, _)) (by omega) rfl ⟨rfl, rfl, rfl, rfl, rfl, trivial⟩ (.keep (fun _ _ h => rowA_nil rfl _ _ h) (.keep (fun _ _ h => box_congr (fun i hi => by match i, hi with | 0, _ => rfl | 1, _ => rfl | 2, _ => rfl | 3, _ => rfl | 4, _ => rfl | 5, _ => rfl) _ _ h) (.keep (fun _ _ h => h) (.keep (fun _ _ h => h) (.nil))))) (fun s hphi => ?_)
    subst hu_43
    subst hu_44
    subst hu_45
    subst hu_46
    subst hA_47
    subst hA_48
    obtain ⟨f, v⟩ := s
    dsimp only at hphi ⊢
    refine c_row1 (k := 0) rfl (fun ov => ?_)
    refine c_rowlen (k := 0) rfl (fun l63 => ?_)
    obtain rfl | rfl | rfl | rfl : f = 0 ∨ f = 1 ∨ f = 2 ∨ f = 3 := by omega
    ·
     refine c_seq ?_
     refine c_seq ?_
     refine c_region ?_
     refine r_val .none rfl (p_move rfl) ?_
     refine r_val .none rfl (p_lt rfl rfl) ?_
     refine r_say (d := 47) (v := Value.bool true) rfl ?_
     refine r_nil ?_
     refine e_next ?_
     refine c_cond_t rfl ?_
     refine c_skip ?_
     refine e_next ?_
     refine c_seq ?_
     refine c_block ?_
     refine c_seq ?_
     refine c_seq ?_
     refine c_region ?_
     refine r_val .none rfl (p_move rfl) ?_
     refine r_val .none rfl (p_field Try.underlying102 rfl sz100 rfl) ?_
     refine r_val .none rfl (p_iaddr (k := 0) Try.underlying100 sz99 rfl rfl (by first | exact of_decide_eq_true rfl | omega)) ?_
     refine r_val .none rfl (p_field Try.underlying99 rfl sz3 rfl) ?_
     refine r_val .none rfl (p_ld (k := 3) Try.underlying3 rfl rfl rfl (by first | exact of_decide_eq_true rfl | omega) (rfl : _ = Value.int _ _)) ?_
     refine r_val .none rfl (p_eq rfl rfl) ?_
     refine r_nil ?_
     refine e_next ?_
     refine c_splitd (d := 55) rfl (fun h_49 => ?_) (fun h_49 => ?_)
     ·
      have hv : vF c.h 0 = false := vF_no h_49
      first
       | (exfalso; omega)
       | (
        refine c_cond_t rfl ?_
        refine c_seq ?_
        refine c_region ?_
        refine r_val .none rfl (p_move rfl) ?_
        refine r_val .none rfl (p_move rfl) ?_
        refine r_val .none rfl (p_field Try.underlying102 rfl sz100 rfl) ?_
        refine r_val .none rfl (p_iaddr (k := 0) Try.underlying100 sz99 rfl rfl (by first | exact of_decide_eq_true rfl | omega)) ?_
        refine r_val .none rfl (p_field Try.underlying99 rfl sz3 rfl) ?_
        refine r_val .none rfl (p_ld (k := 3) Try.underlying3 rfl rfl rfl (by first | exact of_decide_eq_true rfl | omega) (rfl : _ = Value.int _ _)) ?_
        refine r_val .none rfl (p_field Try.underlying116 rfl sz105 rfl) ?_
        refine r_val .none rfl (p_iaddr (k := 0) Try.underlying105 sz3 rfl rfl (by first | exact of_decide_eq_true rfl | omega)) ?_
        refine r_st (k := 1) .none sz3 rfl rfl rfl rfl (by first | exact of_decide_eq_true rfl | omega) ?_
        refine r_nil ?_
        refine e_next ?_
        refine c_exit ?_
        refine e_exit_then ?_
        refine e_exit_block ?_
        refine e_next ?_
        refine c_region ?_
        refine r_val .none rfl (p_move rfl) ?_
        refine r_val .none rfl (p_add rfl rfl (by omega)) ?_
        refine r_val .none rfl (p_assign rfl) ?_
        refine r_nil ?_
        refine e_round ((1, _)) ⟨Nat.le_of_ble_eq_true rfl, Nat.le_of_ble_eq_true rfl⟩ rfl ⟨rfl, rfl, rfl, rfl, rfl, trivial⟩ (.keep (fun _ _ h => rowA_same (by show testsTo l c.h (0 + 1) = _; rw [testsTo_succ, (by first | exact T1 (by assumption) | exact T4 (by assumption) (by assumption) (dup0 _) : testF l c.h 0 = []), List.append_nil]) _ _ h) (.keep (fun _ _ h => box_congr (fun i hi => by match i, hi with | 0, _ => rfl | 1, _ => exact (by first | exact congrArg (Value.int .i64) (key_set (h := c.h) (f := 0) (by assumption)).symm | exact congrArg (Value.int .i64) ((show keyTo c.h 0 0 = 0 by simp [keyTo]).trans (key_not (h := c.h) (f := 0) (by assumption)).symm)) | 2, _ => exact congrArg (Value.int .i64) (key_else (h := c.h) (f := 0) (i := 1) (by decide)).symm | 3, _ => exact congrArg (Value.int .i64) (key_else (h := c.h) (f := 0) (i := 2) (by decide)).symm | 4, _ => rfl | 5, _ => rfl) _ _ h) (.keep (fun _ _ h => h) (.keep (fun _ _ h => h) (.nil)))))
        )
     ·
      have hv : vF c.h 0 = true := vF_yes h_49
      first
       | (exfalso; omega)
       | (
        refine c_cond_f rfl ?_
        refine c_skip ?_
        refine e_next ?_
        refine c_seq ?_
        refine c_region ?_
        refine r_val .none rfl (p_move rfl) ?_
        refine r_val .none rfl (p_move rfl) ?_
        refine r_val .none rfl (p_field Try.underlying102 rfl sz100 rfl) ?_
        refine r_val .none rfl (p_iaddr (k := 0) Try.underlying100 sz99 rfl rfl (by first | exact of_decide_eq_true rfl | omega)) ?_
        refine r_val .none rfl (p_field Try.underlying99 rfl sz3 rfl) ?_
        refine r_val .none rfl (p_ld (k := 3) Try.underlying3 rfl rfl rfl (by first | exact of_decide_eq_true rfl | omega) (rfl : _ = Value.int _ _)) ?_
        refine r_call (vs := [_, _]) .none rfl cl74 rfl (fun w hw => c_bound _ _ _ hs2 w hw) ?_
        refine r_val .none rfl (p_move rfl) ?_
        refine r_val .none rfl (p_extract rfl rfl) ?_
        refine r_val .none rfl (p_extract rfl rfl) ?_
        refine r_alloc .none rfl zr163 (IsRow.lit _) (fun b_6 => ?_)
        refine r_stw (k := 0) .none sz163 rfl rfl (IsRow.lit _) (one_lit rfl rfl) rfl ?_
        refine r_val .none rfl (p_assign rfl) ?_
        refine r_nil ?_
        refine e_next ?_
        refine c_seq ?_
        refine c_seq ?_
        refine c_region ?_
        refine r_val .none rfl (p_move rfl) ?_
        refine r_nil ?_
        refine e_next ?_
        refine c_split (d := 74) rfl (fun h_50 => ?_) (fun h_50 => ?_)
        ·
         have hb : (bound (nF c.h 0) l 0).isSome = true := h_50
         first
          | (exfalso; omega)
          | (
           refine c_cond_t rfl ?_
           refine c_seq ?_
           refine c_region ?_
           refine r_val .none rfl (p_field Try.underlying116 rfl sz114 rfl) ?_
           refine r_val .none rfl (p_ld (k := 2) Try.underlying114 rfl rfl rfl (by first | exact of_decide_eq_true rfl | omega) rfl) ?_
           refine r_val .none rfl (p_move rfl) ?_
           refine r_val .none rfl (p_field Try.underlying163 rfl sz3 rfl) ?_
           refine r_val .none rfl (p_ld (k := 0) Try.underlying3 rfl rfl rfl (by first | exact of_decide_eq_true rfl | omega) (rfl : _ = Value.int _ _)) ?_
           refine r_val .none rfl (p_field Try.underlying163 rfl sz3 rfl) ?_
           refine r_val .none rfl (p_ld (k := 0) Try.underlying3 rfl rfl rfl (by first | exact of_decide_eq_true rfl | omega) (rfl : _ = Value.int _ _)) ?_
           refine r_val .none rfl (p_build (vs := [(0, Value.int _ _), (1, Value.int _ _), (2, Value.int _ _)]) rfl (bl140_0i1_1i1_2i1 _ _ _)) ?_
           refine r_bslice (vs := [(0, Value.agg #[_, _, _])]) (c := #[_, _, _]) .none rfl Try.underlying114 el140 rfl rfl rfl (bs140_10a3 _ _ _) (IsRow.lit _) (fun b_7 => ?_)
           refine r_append (k := 2) (k2 := 0) .none rfl Try.underlying114 el140 rfl (by decide) rfl rfl rfl rfl rfl (one_lit rfl rfl) (by have q0 := testsTo_len l c.h 0; have q1 := testsTo_len l c.h 1; have q2 := testsTo_len l c.h 2; simp only [maxLen]; omega) (by have q0 := testsTo_len l c.h 0; have q1 := testsTo_len l c.h 1; have q2 := testsTo_len l c.h 2; omega) (fun v_51 => ?_)
           refine r_row1 (k := 2) rfl (fun o_52 => ?_)
           refine r_val .none rfl (p_field Try.underlying116 rfl sz114 rfl) ?_
           refine r_st (k := 3) .none sz114 rfl rfl o_52 rfl (by first | exact of_decide_eq_true rfl | omega) ?_
           refine r_nil ?_
           refine e_next ?_
           refine c_exit ?_
           refine e_exit_then ?_
           refine e_exit_block ?_
           refine e_next ?_
           refine c_region ?_
           refine r_val .none rfl (p_move rfl) ?_
           refine r_val .none rfl (p_add rfl rfl (by omega)) ?_
           refine r_val .none rfl (p_assign rfl) ?_
           refine r_nil ?_
           refine e_round ((1, _)) ⟨Nat.le_of_ble_eq_true rfl, Nat.le_of_ble_eq_true rfl⟩ rfl ⟨rfl, rfl, rfl, rfl, rfl, trivial⟩ (.drop (.drop (.keep (fun _ _ h => rowA_snoc (x := (((0 : Nat) : Int), ((bound (nF c.h 0) l 0).getD (0, 0)).1, ((bound (nF c.h 0) l 0).getD (0, 0)).2)) (by show testsTo l c.h (0 + 1) = _; rw [testsTo_succ, T2 (by assumption) (by assumption)]) rfl rfl rfl _ _ h) (.keep (fun _ _ h => box_congr (fun i hi => by match i, hi with | 0, _ => rfl | 1, _ => exact (by first | exact congrArg (Value.int .i64) (key_set (h := c.h) (f := 0) (by assumption)).symm | exact congrArg (Value.int .i64) ((show keyTo c.h 0 0 = 0 by simp [keyTo]).trans (key_not (h := c.h) (f := 0) (by assumption)).symm)) | 2, _ => exact congrArg (Value.int .i64) (key_else (h := c.h) (f := 0) (i := 1) (by decide)).symm | 3, _ => exact congrArg (Value.int .i64) (key_else (h := c.h) (f := 0) (i := 2) (by decide)).symm | 4, _ => rfl | 5, _ => rfl) _ _ h) (.keep (fun _ _ h => h) (.keep (fun _ _ h => h) (.nil)))))))
           )
        ·
         have hb : (bound (nF c.h 0) l 0).isSome = false := h_50
         first
          | (exfalso; omega)
          | (
           refine c_cond_f rfl ?_
           refine c_skip ?_
           refine e_next ?_
           refine c_seq ?_
           refine c_region ?_
           refine r_val .none rfl (p_assign rfl) ?_
           refine r_nil ?_
           refine e_next ?_
           refine c_block ?_
           refine c_unroll 3 ?_
           refine l_round (n := 2) ?_
           refine c_seq ?_
           refine c_seq ?_
           refine c_region ?_
           refine r_val .none rfl (p_move rfl) ?_
           refine r_val .none rfl (p_move rfl) ?_
           refine r_val .none rfl (p_lt rfl rfl) ?_
           refine r_say (d := 88) (v := Value.bool false) rfl ?_
           refine r_nil ?_
           refine e_next ?_
           refine c_cond_f rfl ?_
           refine c_exit ?_
           refine e_exit_then ?_
           refine e_exit_then ?_
           refine e_exit_block ?_
           refine e_norm_block ?_
           refine e_next ?_
           refine c_region ?_
           refine r_val .none rfl (p_move rfl) ?_
           refine r_val .none rfl (p_add rfl rfl (by omega)) ?_
           refine r_val .none rfl (p_assign rfl) ?_
           refine r_nil ?_
           refine e_round ((1, _)) ⟨Nat.le_of_ble_eq_true rfl, Nat.le_of_ble_eq_true rfl⟩ rfl ⟨rfl, rfl, rfl, rfl, rfl, trivial⟩ (.drop (.keep (fun _ _ h => rowA_same (by show testsTo l c.h (0 + 1) = _; rw [testsTo_succ, (by first | exact T1 (by assumption) | exact T4 (by assumption) (by assumption) (dup0 _) : testF l c.h 0 = []), List.append_nil]) _ _ h) (.keep (fun _ _ h => box_congr (fun i hi => by match i, hi with | 0, _ => rfl | 1, _ => exact (by first | exact congrArg (Value.int .i64) (key_set (h := c.h) (f := 0) (by assumption)).symm | exact congrArg (Value.int .i64) ((show keyTo c.h 0 0 = 0 by simp [keyTo]).trans (key_not (h := c.h) (f := 0) (by assumption)).symm)) | 2, _ => exact congrArg (Value.int .i64) (key_else (h := c.h) (f := 0) (i := 1) (by decide)).symm | 3, _ => exact congrArg (Value.int .i64) (key_else (h := c.h) (f := 0) (i := 2) (by decide)).symm | 4, _ => rfl | 5, _ => rfl) _ _ h) (.keep (fun _ _ h => h) (.keep (fun _ _ h => h) (.nil))))))
           )
        )
    ·
     refine c_seq ?_
     refine c_seq ?_
     refine c_region ?_
     refine r_val .none rfl (p_move rfl) ?_
     refine r_val .none rfl (p_lt rfl rfl) ?_
     refine r_say (d := 47) (v := Value.bool true) rfl ?_
     refine r_nil ?_
     refine e_next ?_
     refine c_cond_t rfl ?_
     refine c_skip ?_
     refine e_next ?_
     refine c_seq ?_
     refine c_block ?_
     refine c_seq ?_
     refine c_seq ?_
     refine c_region ?_
     refine r_val .none rfl (p_move rfl) ?_
     refine r_val .none rfl (p_field Try.underlying102 rfl sz100 rfl) ?_
     refine r_val .none rfl (p_iaddr (k := 1) Try.underlying100 sz99 rfl rfl (by first | exact of_decide_eq_true rfl | omega)) ?_
     refine r_val .none rfl (p_field Try.underlying99 rfl sz3 rfl) ?_
     refine r_val .none rfl (p_ld (k := 3) Try.underlying3 rfl rfl rfl (by first | exact of_decide_eq_true rfl | omega) (rfl : _ = Value.int _ _)) ?_
     refine r_val .none rfl (p_eq rfl rfl) ?_
     refine r_nil ?_
     refine e_next ?_
     refine c_splitd (d := 55) rfl (fun h_53 => ?_) (fun h_53 => ?_)
     ·
      have hv : vF c.h 1 = false := vF_no h_53
      first
       | (exfalso; omega)
       | (
        refine c_cond_t rfl ?_
        refine c_seq ?_
        refine c_region ?_
        refine r_val .none rfl (p_move rfl) ?_
        refine r_val .none rfl (p_move rfl) ?_
        refine r_val .none rfl (p_field Try.underlying102 rfl sz100 rfl) ?_
        refine r_val .none rfl (p_iaddr (k := 1) Try.underlying100 sz99 rfl rfl (by first | exact of_decide_eq_true rfl | omega)) ?_
        refine r_val .none rfl (p_field Try.underlying99 rfl sz3 rfl) ?_
        refine r_val .none rfl (p_ld (k := 3) Try.underlying3 rfl rfl rfl (by first | exact of_decide_eq_true rfl | omega) (rfl : _ = Value.int _ _)) ?_
        refine r_val .none rfl (p_field Try.underlying116 rfl sz105 rfl) ?_
        refine r_val .none rfl (p_iaddr (k := 1) Try.underlying105 sz3 rfl rfl (by first | exact of_decide_eq_true rfl | omega)) ?_
        refine r_st (k := 1) .none sz3 rfl rfl rfl rfl (by first | exact of_decide_eq_true rfl | omega) ?_
        refine r_nil ?_
        refine e_next ?_
        refine c_exit ?_
        refine e_exit_then ?_
        refine e_exit_block ?_
        refine e_next ?_
        refine c_region ?_
        refine r_val .none rfl (p_move rfl) ?_
        refine r_val .none rfl (p_add rfl rfl (by omega)) ?_
        refine r_val .none rfl (p_assign rfl) ?_
        refine r_nil ?_
        refine e_round ((2, _)) ⟨Nat.le_of_ble_eq_true rfl, Nat.le_of_ble_eq_true rfl⟩ rfl ⟨rfl, rfl, rfl, rfl, rfl, trivial⟩ (.keep (fun _ _ h => rowA_same (by show testsTo l c.h (1 + 1) = _; rw [testsTo_succ, (by first | exact T1 (by assumption) | exact T4 (by assumption) (by assumption) (dup1_no (by assumption)) : testF l c.h 1 = []), List.append_nil]) _ _ h) (.keep (fun _ _ h => box_congr (fun i hi => by match i, hi with | 0, _ => rfl | 1, _ => exact congrArg (Value.int .i64) (key_else (h := c.h) (f := 1) (i := 0) (by decide)).symm | 2, _ => exact (by first | exact congrArg (Value.int .i64) (key_set (h := c.h) (f := 1) (by assumption)).symm | exact congrArg (Value.int .i64) ((show keyTo c.h 1 1 = 0 by simp [keyTo]).trans (key_not (h := c.h) (f := 1) (by assumption)).symm)) | 3, _ => exact congrArg (Value.int .i64) (key_else (h := c.h) (f := 1) (i := 2) (by decide)).symm | 4, _ => rfl | 5, _ => rfl) _ _ h) (.keep (fun _ _ h => h) (.keep (fun _ _ h => h) (.nil)))))
        )
     ·
      have hv : vF c.h 1 = true := vF_yes h_53
      first
       | (exfalso; omega)
       | (
        refine c_cond_f rfl ?_
        refine c_skip ?_
        refine e_next ?_
        refine c_seq ?_
        refine c_region ?_
        refine r_val .none rfl (p_move rfl) ?_
        refine r_val .none rfl (p_move rfl) ?_
        refine r_val .none rfl (p_field Try.underlying102 rfl sz100 rfl) ?_
        refine r_val .none rfl (p_iaddr (k := 1) Try.underlying100 sz99 rfl rfl (by first | exact of_decide_eq_true rfl | omega)) ?_
        refine r_val .none rfl (p_field Try.underlying99 rfl sz3 rfl) ?_
        refine r_val .none rfl (p_ld (k := 3) Try.underlying3 rfl rfl rfl (by first | exact of_decide_eq_true rfl | omega) (rfl : _ = Value.int _ _)) ?_
        refine r_call (vs := [_, _]) .none rfl cl74 rfl (fun w hw => c_bound _ _ _ hs2 w hw) ?_
        refine r_val .none rfl (p_move rfl) ?_
        refine r_val .none rfl (p_extract rfl rfl) ?_
        refine r_val .none rfl (p_extract rfl rfl) ?_
        refine r_alloc .none rfl zr163 (IsRow.lit _) (fun b_8 => ?_)
        refine r_stw (k := 0) .none sz163 rfl rfl (IsRow.lit _) (one_lit rfl rfl) rfl ?_
        refine r_val .none rfl (p_assign rfl) ?_
        refine r_nil ?_
        refine e_next ?_
        refine c_seq ?_
        refine c_seq ?_
        refine c_region ?_
        refine r_val .none rfl (p_move rfl) ?_
        refine r_nil ?_
        refine e_next ?_
        refine c_split (d := 74) rfl (fun h_54 => ?_) (fun h_54 => ?_)
        ·
         have hb : (bound (nF c.h 1) l 0).isSome = true := h_54
         first
          | (exfalso; omega)
          | (
           refine c_cond_t rfl ?_
           refine c_seq ?_
           refine c_region ?_
           refine r_val .none rfl (p_field Try.underlying116 rfl sz114 rfl) ?_
           refine r_val .none rfl (p_ld (k := 2) Try.underlying114 rfl rfl rfl (by first | exact of_decide_eq_true rfl | omega) rfl) ?_
           refine r_val .none rfl (p_move rfl) ?_
           refine r_val .none rfl (p_field Try.underlying163 rfl sz3 rfl) ?_
           refine r_val .none rfl (p_ld (k := 0) Try.underlying3 rfl rfl rfl (by first | exact of_decide_eq_true rfl | omega) (rfl : _ = Value.int _ _)) ?_
           refine r_val .none rfl (p_field Try.underlying163 rfl sz3 rfl) ?_
           refine r_val .none rfl (p_ld (k := 0) Try.underlying3 rfl rfl rfl (by first | exact of_decide_eq_true rfl | omega) (rfl : _ = Value.int _ _)) ?_
           refine r_val .none rfl (p_build (vs := [(0, Value.int _ _), (1, Value.int _ _), (2, Value.int _ _)]) rfl (bl140_0i1_1i1_2i1 _ _ _)) ?_
           refine r_bslice (vs := [(0, Value.agg #[_, _, _])]) (c := #[_, _, _]) .none rfl Try.underlying114 el140 rfl rfl rfl (bs140_10a3 _ _ _) (IsRow.lit _) (fun b_9 => ?_)
           refine r_append (k := 2) (k2 := 0) .none rfl Try.underlying114 el140 rfl (by decide) rfl rfl rfl rfl rfl (one_lit rfl rfl) (by have q0 := testsTo_len l c.h 0; have q1 := testsTo_len l c.h 1; have q2 := testsTo_len l c.h 2; simp only [maxLen]; omega) (by have q0 := testsTo_len l c.h 0; have q1 := testsTo_len l c.h 1; have q2 := testsTo_len l c.h 2; omega) (fun v_55 => ?_)
           refine r_row1 (k := 2) rfl (fun o_56 => ?_)
           refine r_val .none rfl (p_field Try.underlying116 rfl sz114 rfl) ?_
           refine r_st (k := 3) .none sz114 rfl rfl o_56 rfl (by first | exact of_decide_eq_true rfl | omega) ?_
           refine r_nil ?_
           refine e_next ?_
           refine c_exit ?_
           refine e_exit_then ?_
           refine e_exit_block ?_
           refine e_next ?_
           refine c_region ?_
           refine r_val .none rfl (p_move rfl) ?_
           refine r_val .none rfl (p_add rfl rfl (by omega)) ?_
           refine r_val .none rfl (p_assign rfl) ?_
           refine r_nil ?_
           refine e_round ((2, _)) ⟨Nat.le_of_ble_eq_true rfl, Nat.le_of_ble_eq_true rfl⟩ rfl ⟨rfl, rfl, rfl, rfl, rfl, trivial⟩ (.drop (.drop (.keep (fun _ _ h => rowA_snoc (x := (((1 : Nat) : Int), ((bound (nF c.h 1) l 0).getD (0, 0)).1, ((bound (nF c.h 1) l 0).getD (0, 0)).2)) (by show testsTo l c.h (1 + 1) = _; rw [testsTo_succ, T2 (by assumption) (by assumption)]) rfl rfl rfl _ _ h) (.keep (fun _ _ h => box_congr (fun i hi => by match i, hi with | 0, _ => rfl | 1, _ => exact congrArg (Value.int .i64) (key_else (h := c.h) (f := 1) (i := 0) (by decide)).symm | 2, _ => exact (by first | exact congrArg (Value.int .i64) (key_set (h := c.h) (f := 1) (by assumption)).symm | exact congrArg (Value.int .i64) ((show keyTo c.h 1 1 = 0 by simp [keyTo]).trans (key_not (h := c.h) (f := 1) (by assumption)).symm)) | 3, _ => exact congrArg (Value.int .i64) (key_else (h := c.h) (f := 1) (i := 2) (by decide)).symm | 4, _ => rfl | 5, _ => rfl) _ _ h) (.keep (fun _ _ h => h) (.keep (fun _ _ h => h) (.nil)))))))
           )
        ·
         have hb : (bound (nF c.h 1) l 0).isSome = false := h_54
         first
          | (exfalso; omega)
          | (
           refine c_cond_f rfl ?_
           refine c_skip ?_
           refine e_next ?_
           refine c_seq ?_
           refine c_region ?_
           refine r_val .none rfl (p_assign rfl) ?_
           refine r_nil ?_
           refine e_next ?_
           refine c_block ?_
           refine c_unroll 3 ?_
           refine l_round (n := 2) ?_
           refine c_seq ?_
           refine c_seq ?_
           refine c_region ?_
           refine r_val .none rfl (p_move rfl) ?_
           refine r_val .none rfl (p_move rfl) ?_
           refine r_val .none rfl (p_lt rfl rfl) ?_
           refine r_say (d := 88) (v := Value.bool true) rfl ?_
           refine r_nil ?_
           refine e_next ?_
           refine c_cond_t rfl ?_
           refine c_skip ?_
           refine e_next ?_
           refine c_seq ?_
           refine c_block ?_
           refine c_seq ?_
           refine c_region_q mixed (by kernel_rfl) ?_
           refine q_val .none rfl (p_move rfl) ?_
           refine q_val .none rfl (p_field Try.underlying102 rfl sz100 rfl) ?_
           refine q_val .none rfl (p_iaddr (k := 0) Try.underlying100 sz99 rfl rfl (by first | exact of_decide_eq_true rfl | omega)) ?_
           refine q_val .none rfl (p_lda (k := 4) Try.underlying99 rfl sz99 rfl rfl (by first | exact of_decide_eq_true rfl | omega) (rfl : _ = Value.agg #[_, _])) ?_
           refine q_val .none rfl (p_move rfl) ?_
           refine q_val .none rfl (p_field Try.underlying102 rfl sz100 rfl) ?_
           refine q_val .none rfl (p_iaddr (k := 1) Try.underlying100 sz99 rfl rfl (by first | exact of_decide_eq_true rfl | omega)) ?_
           refine q_val .none rfl (p_lda (k := 4) Try.underlying99 rfl sz99 rfl rfl (by first | exact of_decide_eq_true rfl | omega) (rfl : _ = Value.agg #[_, _])) ?_
           refine q_val .none rfl (p_eqa rfl rfl (eq_flat Try.underlying99 rfl lf99 ef99 eg99 (.cons (.int Try.underlying3) (.cons (.int Try.underlying3) (.nil))) (.cons (.int Try.underlying3) (.cons (.int Try.underlying3) (.nil))))) ?_
           refine q_nil ?_
           refine e_next ?_
           refine c_split (d := 99) rfl (fun h_57 => ?_) (fun h_57 => ?_)
           ·
            first | have s0 : sameF c.h 0 1 = true := (same_cs c.h 0 1).symm.trans h_57 | have s1 : sameF c.h 1 1 = true := (same_cs c.h 1 1).symm.trans h_57
            first
             | (exfalso; omega)
             | (
              refine c_cond_t rfl ?_
              refine c_seq ?_
              refine c_region ?_
              refine r_val .none rfl (p_field Try.underlying116 rfl sz114 rfl) ?_
              refine r_val .none rfl (p_ld (k := 2) Try.underlying114 rfl rfl rfl (by first | exact of_decide_eq_true rfl | omega) rfl) ?_
              refine r_val .none rfl (p_move rfl) ?_
              refine r_val .none rfl (p_move rfl) ?_
              refine r_val .none rfl (p_build (vs := [(0, Value.int _ _), (1, Value.int _ _), (2, Value.int _ _)]) rfl (bl140_0i1_1i1_2i1 _ _ _)) ?_
              refine r_bslice (vs := [(0, Value.agg #[_, _, _])]) (c := #[_, _, _]) .none rfl Try.underlying114 el140 rfl rfl rfl (bs140_10a3 _ _ _) (IsRow.lit _) (fun b_10 => ?_)
              refine r_append (k := 2) (k2 := 0) .none rfl Try.underlying114 el140 rfl (by decide) rfl rfl rfl rfl rfl (one_lit rfl rfl) (by have q0 := testsTo_len l c.h 0; have q1 := testsTo_len l c.h 1; have q2 := testsTo_len l c.h 2; simp only [maxLen]; omega) (by have q0 := testsTo_len l c.h 0; have q1 := testsTo_len l c.h 1; have q2 := testsTo_len l c.h 2; omega) (fun v_58 => ?_)
              refine r_row1 (k := 2) rfl (fun o_59 => ?_)
              refine r_val .none rfl (p_field Try.underlying116 rfl sz114 rfl) ?_
              refine r_st (k := 3) .none sz114 rfl rfl o_59 rfl (by first | exact of_decide_eq_true rfl | omega) ?_
              refine r_nil ?_
              refine e_next ?_
              refine c_exit ?_
              refine e_exit_past rfl ?_
              refine e_exit_then ?_
              refine e_exit_then ?_
              refine e_exit_block ?_
              refine e_norm_block ?_
              refine e_next ?_
              refine c_region ?_
              refine r_val .none rfl (p_move rfl) ?_
              refine r_val .none rfl (p_add rfl rfl (by omega)) ?_
              refine r_val .none rfl (p_assign rfl) ?_
              refine r_nil ?_
              refine e_round ((2, _)) ⟨Nat.le_of_ble_eq_true rfl, Nat.le_of_ble_eq_true rfl⟩ rfl ⟨rfl, rfl, rfl, rfl, rfl, trivial⟩ (.drop (.drop (.keep (fun _ _ h => rowA_snoc (x := (((1 : Nat) : Int), -1, 0)) (by show testsTo l c.h (1 + 1) = _; rw [testsTo_succ, T3 (by assumption) (by assumption) (dup1_yes (by assumption))]) rfl rfl rfl _ _ h) (.keep (fun _ _ h => box_congr (fun i hi => by match i, hi with | 0, _ => rfl | 1, _ => exact congrArg (Value.int .i64) (key_else (h := c.h) (f := 1) (i := 0) (by decide)).symm | 2, _ => exact (by first | exact congrArg (Value.int .i64) (key_set (h := c.h) (f := 1) (by assumption)).symm | exact congrArg (Value.int .i64) ((show keyTo c.h 1 1 = 0 by simp [keyTo]).trans (key_not (h := c.h) (f := 1) (by assumption)).symm)) | 3, _ => exact congrArg (Value.int .i64) (key_else (h := c.h) (f := 1) (i := 2) (by decide)).symm | 4, _ => rfl | 5, _ => rfl) _ _ h) (.keep (fun _ _ h => h) (.keep (fun _ _ h => h) (.nil)))))))
              )
           ·
            first | have s0 : sameF c.h 0 1 = false := (same_cs c.h 0 1).symm.trans h_57 | have s1 : sameF c.h 1 1 = false := (same_cs c.h 1 1).symm.trans h_57
            first
             | (exfalso; omega)
             | (
              refine c_cond_f rfl ?_
              refine c_skip ?_
              refine e_norm_block ?_
              refine e_next ?_
              refine c_region ?_
              refine r_val .none rfl (p_move rfl) ?_
              refine r_val .none rfl (p_add rfl rfl (by omega)) ?_
              refine r_val .none rfl (p_assign rfl) ?_
              refine r_nil ?_
              refine e_again ?_
              refine l_round (n := 1) ?_
              refine c_seq ?_
              refine c_seq ?_
              refine c_region ?_
              refine r_val .none rfl (p_move rfl) ?_
              refine r_val .none rfl (p_move rfl) ?_
              refine r_val .none rfl (p_lt rfl rfl) ?_
              refine r_say (d := 88) (v := Value.bool false) rfl ?_
              refine r_nil ?_
              refine e_next ?_
              refine c_cond_f rfl ?_
              refine c_exit ?_
              refine e_exit_then ?_
              refine e_exit_then ?_
              refine e_exit_block ?_
              refine e_norm_block ?_
              refine e_next ?_
              refine c_region ?_
              refine r_val .none rfl (p_move rfl) ?_
              refine r_val .none rfl (p_add rfl rfl (by omega)) ?_
              refine r_val .none rfl (p_assign rfl) ?_
              refine r_nil ?_
              refine e_round ((2, _)) ⟨Nat.le_of_ble_eq_true rfl, Nat.le_of_ble_eq_true rfl⟩ rfl ⟨rfl, rfl, rfl, rfl, rfl, trivial⟩ (.drop (.keep (fun _ _ h => rowA_same (by show testsTo l c.h (1 + 1) = _; rw [testsTo_succ, (by first | exact T1 (by assumption) | exact T4 (by assumption) (by assumption) (dup1_no (by assumption)) : testF l c.h 1 = []), List.append_nil]) _ _ h) (.keep (fun _ _ h => box_congr (fun i hi => by match i, hi with | 0, _ => rfl | 1, _ => exact congrArg (Value.int .i64) (key_else (h := c.h) (f := 1) (i := 0) (by decide)).symm | 2, _ => exact (by first | exact congrArg (Value.int .i64) (key_set (h := c.h) (f := 1) (by assumption)).symm | exact congrArg (Value.int .i64) ((show keyTo c.h 1 1 = 0 by simp [keyTo]).trans (key_not (h := c.h) (f := 1) (by assumption)).symm)) | 3, _ => exact congrArg (Value.int .i64) (key_else (h := c.h) (f := 1) (i := 2) (by decide)).symm | 4, _ => rfl | 5, _ => rfl) _ _ h) (.keep (fun _ _ h => h) (.keep (fun _ _ h => h) (.nil))))))
              )
           )
        )
    ·
     refine c_seq ?_
     refine c_seq ?_
     refine c_region ?_
     refine r_val .none rfl (p_move rfl) ?_
     refine r_val .none rfl (p_lt rfl rfl) ?_
     refine r_say (d := 47) (v := Value.bool true) rfl ?_
     refine r_nil ?_
     refine e_next ?_
     refine c_cond_t rfl ?_
     refine c_skip ?_
     refine e_next ?_
     refine c_seq ?_
     refine c_block ?_
     refine c_seq ?_
     refine c_seq ?_
     refine c_region ?_
     refine r_val .none rfl (p_move rfl) ?_
     refine r_val .none rfl (p_field Try.underlying102 rfl sz100 rfl) ?_
     refine r_val .none rfl (p_iaddr (k := 2) Try.underlying100 sz99 rfl rfl (by first | exact of_decide_eq_true rfl | omega)) ?_
     refine r_val .none rfl (p_field Try.underlying99 rfl sz3 rfl) ?_
     refine r_val .none rfl (p_ld (k := 3) Try.underlying3 rfl rfl rfl (by first | exact of_decide_eq_true rfl | omega) (rfl : _ = Value.int _ _)) ?_
     refine r_val .none rfl (p_eq rfl rfl) ?_
     refine r_nil ?_
     refine e_next ?_
     refine c_splitd (d := 55) rfl (fun h_60 => ?_) (fun h_60 => ?_)
     ·
      have hv : vF c.h 2 = false := vF_no h_60
      first
       | (exfalso; omega)
       | (
        refine c_cond_t rfl ?_
        refine c_seq ?_
        refine c_region ?_
        refine r_val .none rfl (p_move rfl) ?_
        refine r_val .none rfl (p_move rfl) ?_
        refine r_val .none rfl (p_field Try.underlying102 rfl sz100 rfl) ?_
        refine r_val .none rfl (p_iaddr (k := 2) Try.underlying100 sz99 rfl rfl (by first | exact of_decide_eq_true rfl | omega)) ?_
        refine r_val .none rfl (p_field Try.underlying99 rfl sz3 rfl) ?_
        refine r_val .none rfl (p_ld (k := 3) Try.underlying3 rfl rfl rfl (by first | exact of_decide_eq_true rfl | omega) (rfl : _ = Value.int _ _)) ?_
        refine r_val .none rfl (p_field Try.underlying116 rfl sz105 rfl) ?_
        refine r_val .none rfl (p_iaddr (k := 2) Try.underlying105 sz3 rfl rfl (by first | exact of_decide_eq_true rfl | omega)) ?_
        refine r_st (k := 1) .none sz3 rfl rfl rfl rfl (by first | exact of_decide_eq_true rfl | omega) ?_
        refine r_nil ?_
        refine e_next ?_
        refine c_exit ?_
        refine e_exit_then ?_
        refine e_exit_block ?_
        refine e_next ?_
        refine c_region ?_
        refine r_val .none rfl (p_move rfl) ?_
        refine r_val .none rfl (p_add rfl rfl (by omega)) ?_
        refine r_val .none rfl (p_assign rfl) ?_
        refine r_nil ?_
        refine e_round ((3, _)) ⟨Nat.le_of_ble_eq_true rfl, Nat.le_of_ble_eq_true rfl⟩ rfl ⟨rfl, rfl, rfl, rfl, rfl, trivial⟩ (.keep (fun _ _ h => rowA_same (by show testsTo l c.h (2 + 1) = _; rw [testsTo_succ, (by first | exact T1 (by assumption) | exact T4 (by assumption) (by assumption) (dup2_no (by assumption) (by assumption)) : testF l c.h 2 = []), List.append_nil]) _ _ h) (.keep (fun _ _ h => box_congr (fun i hi => by match i, hi with | 0, _ => rfl | 1, _ => exact congrArg (Value.int .i64) (key_else (h := c.h) (f := 2) (i := 0) (by decide)).symm | 2, _ => exact congrArg (Value.int .i64) (key_else (h := c.h) (f := 2) (i := 1) (by decide)).symm | 3, _ => exact (by first | exact congrArg (Value.int .i64) (key_set (h := c.h) (f := 2) (by assumption)).symm | exact congrArg (Value.int .i64) ((show keyTo c.h 2 2 = 0 by simp [keyTo]).trans (key_not (h := c.h) (f := 2) (by assumption)).symm)) | 4, _ => rfl | 5, _ => rfl) _ _ h) (.keep (fun _ _ h => h) (.keep (fun _ _ h => h) (.nil)))))
        )
     ·
      have hv : vF c.h 2 = true := vF_yes h_60
      first
       | (exfalso; omega)
       | (
        refine c_cond_f rfl ?_
        refine c_skip ?_
        refine e_next ?_
        refine c_seq ?_
        refine c_region ?_
        refine r_val .none rfl (p_move rfl) ?_
        refine r_val .none rfl (p_move rfl) ?_
        refine r_val .none rfl (p_field Try.underlying102 rfl sz100 rfl) ?_
        refine r_val .none rfl (p_iaddr (k := 2) Try.underlying100 sz99 rfl rfl (by first | exact of_decide_eq_true rfl | omega)) ?_
        refine r_val .none rfl (p_field Try.underlying99 rfl sz3 rfl) ?_
        refine r_val .none rfl (p_ld (k := 3) Try.underlying3 rfl rfl rfl (by first | exact of_decide_eq_true rfl | omega) (rfl : _ = Value.int _ _)) ?_
        refine r_call (vs := [_, _]) .none rfl cl74 rfl (fun w hw => c_bound _ _ _ hs2 w hw) ?_
        refine r_val .none rfl (p_move rfl) ?_
        refine r_val .none rfl (p_extract rfl rfl) ?_
        refine r_val .none rfl (p_extract rfl rfl) ?_
        refine r_alloc .none rfl zr163 (IsRow.lit _) (fun b_11 => ?_)
        refine r_stw (k := 0) .none sz163 rfl rfl (IsRow.lit _) (one_lit rfl rfl) rfl ?_
        refine r_val .none rfl (p_assign rfl) ?_
        refine r_nil ?_
        refine e_next ?_
        refine c_seq ?_
        refine c_seq ?_
        refine c_region ?_
        refine r_val .none rfl (p_move rfl) ?_
        refine r_nil ?_
        refine e_next ?_
        refine c_split (d := 74) rfl (fun h_61 => ?_) (fun h_61 => ?_)
        ·
         have hb : (bound (nF c.h 2) l 0).isSome = true := h_61
         first
          | (exfalso; omega)
          | (
           refine c_cond_t rfl ?_
           refine c_seq ?_
           refine c_region ?_
           refine r_val .none rfl (p_field Try.underlying116 rfl sz114 rfl) ?_
           refine r_val .none rfl (p_ld (k := 2) Try.underlying114 rfl rfl rfl (by first | exact of_decide_eq_true rfl | omega) rfl) ?_
           refine r_val .none rfl (p_move rfl) ?_
           refine r_val .none rfl (p_field Try.underlying163 rfl sz3 rfl) ?_
           refine r_val .none rfl (p_ld (k := 0) Try.underlying3 rfl rfl rfl (by first | exact of_decide_eq_true rfl | omega) (rfl : _ = Value.int _ _)) ?_
           refine r_val .none rfl (p_field Try.underlying163 rfl sz3 rfl) ?_
           refine r_val .none rfl (p_ld (k := 0) Try.underlying3 rfl rfl rfl (by first | exact of_decide_eq_true rfl | omega) (rfl : _ = Value.int _ _)) ?_
           refine r_val .none rfl (p_build (vs := [(0, Value.int _ _), (1, Value.int _ _), (2, Value.int _ _)]) rfl (bl140_0i1_1i1_2i1 _ _ _)) ?_
           refine r_bslice (vs := [(0, Value.agg #[_, _, _])]) (c := #[_, _, _]) .none rfl Try.underlying114 el140 rfl rfl rfl (bs140_10a3 _ _ _) (IsRow.lit _) (fun b_12 => ?_)
           refine r_append (k := 2) (k2 := 0) .none rfl Try.underlying114 el140 rfl (by decide) rfl rfl rfl rfl rfl (one_lit rfl rfl) (by have q0 := testsTo_len l c.h 0; have q1 := testsTo_len l c.h 1; have q2 := testsTo_len l c.h 2; simp only [maxLen]; omega) (by have q0 := testsTo_len l c.h 0; have q1 := testsTo_len l c.h 1; have q2 := testsTo_len l c.h 2; omega) (fun v_62 => ?_)
           refine r_row1 (k := 2) rfl (fun o_63 => ?_)
           refine r_val .none rfl (p_field Try.underlying116 rfl sz114 rfl) ?_
           refine r_st (k := 3) .none sz114 rfl rfl o_63 rfl (by first | exact of_decide_eq_true rfl | omega) ?_
           refine r_nil ?_
           refine e_next ?_
           refine c_exit ?_
           refine e_exit_then ?_
           refine e_exit_block ?_
           refine e_next ?_
           refine c_region ?_
           refine r_val .none rfl (p_move rfl) ?_
           refine r_val .none rfl (p_add rfl rfl (by omega)) ?_
           refine r_val .none rfl (p_assign rfl) ?_
           refine r_nil ?_
           refine e_round ((3, _)) ⟨Nat.le_of_ble_eq_true rfl, Nat.le_of_ble_eq_true rfl⟩ rfl ⟨rfl, rfl, rfl, rfl, rfl, trivial⟩ (.drop (.drop (.keep (fun _ _ h => rowA_snoc (x := (((2 : Nat) : Int), ((bound (nF c.h 2) l 0).getD (0, 0)).1, ((bound (nF c.h 2) l 0).getD (0, 0)).2)) (by show testsTo l c.h (2 + 1) = _; rw [testsTo_succ, T2 (by assumption) (by assumption)]) rfl rfl rfl _ _ h) (.keep (fun _ _ h => box_congr (fun i hi => by match i, hi with | 0, _ => rfl | 1, _ => exact congrArg (Value.int .i64) (key_else (h := c.h) (f := 2) (i := 0) (by decide)).symm | 2, _ => exact congrArg (Value.int .i64) (key_else (h := c.h) (f := 2) (i := 1) (by decide)).symm | 3, _ => exact (by first | exact congrArg (Value.int .i64) (key_set (h := c.h) (f := 2) (by assumption)).symm | exact congrArg (Value.int .i64) ((show keyTo c.h 2 2 = 0 by simp [keyTo]).trans (key_not (h := c.h) (f := 2) (by assumption)).symm)) | 4, _ => rfl | 5, _ => rfl) _ _ h) (.keep (fun _ _ h => h) (.keep (fun _ _ h => h) (.nil)))))))
           )
        ·
         have hb : (bound (nF c.h 2) l 0).isSome = false := h_61
         first
          | (exfalso; omega)
          | (
           refine c_cond_f rfl ?_
           refine c_skip ?_
           refine e_next ?_
           refine c_seq ?_
           refine c_region ?_
           refine r_val .none rfl (p_assign rfl) ?_
           refine r_nil ?_
           refine e_next ?_
           refine c_block ?_
           refine c_unroll 3 ?_
           refine l_round (n := 2) ?_
           refine c_seq ?_
           refine c_seq ?_
           refine c_region ?_
           refine r_val .none rfl (p_move rfl) ?_
           refine r_val .none rfl (p_move rfl) ?_
           refine r_val .none rfl (p_lt rfl rfl) ?_
           refine r_say (d := 88) (v := Value.bool true) rfl ?_
           refine r_nil ?_
           refine e_next ?_
           refine c_cond_t rfl ?_
           refine c_skip ?_
           refine e_next ?_
           refine c_seq ?_
           refine c_block ?_
           refine c_seq ?_
           refine c_region_q mixed (by kernel_rfl) ?_
           refine q_val .none rfl (p_move rfl) ?_
           refine q_val .none rfl (p_field Try.underlying102 rfl sz100 rfl) ?_
           refine q_val .none rfl (p_iaddr (k := 0) Try.underlying100 sz99 rfl rfl (by first | exact of_decide_eq_true rfl | omega)) ?_
           refine q_val .none rfl (p_lda (k := 4) Try.underlying99 rfl sz99 rfl rfl (by first | exact of_decide_eq_true rfl | omega) (rfl : _ = Value.agg #[_, _])) ?_
           refine q_val .none rfl (p_move rfl) ?_
           refine q_val .none rfl (p_field Try.underlying102 rfl sz100 rfl) ?_
           refine q_val .none rfl (p_iaddr (k := 2) Try.underlying100 sz99 rfl rfl (by first | exact of_decide_eq_true rfl | omega)) ?_
           refine q_val .none rfl (p_lda (k := 4) Try.underlying99 rfl sz99 rfl rfl (by first | exact of_decide_eq_true rfl | omega) (rfl : _ = Value.agg #[_, _])) ?_
           refine q_val .none rfl (p_eqa rfl rfl (eq_flat Try.underlying99 rfl lf99 ef99 eg99 (.cons (.int Try.underlying3) (.cons (.int Try.underlying3) (.nil))) (.cons (.int Try.underlying3) (.cons (.int Try.underlying3) (.nil))))) ?_
           refine q_nil ?_
           refine e_next ?_
           refine c_split (d := 99) rfl (fun h_64 => ?_) (fun h_64 => ?_)
           ·
            first | have s0 : sameF c.h 0 2 = true := (same_cs c.h 0 2).symm.trans h_64 | have s1 : sameF c.h 1 2 = true := (same_cs c.h 1 2).symm.trans h_64
            first
             | (exfalso; omega)
             | (
              refine c_cond_t rfl ?_
              refine c_seq ?_
              refine c_region ?_
              refine r_val .none rfl (p_field Try.underlying116 rfl sz114 rfl) ?_
              refine r_val .none rfl (p_ld (k := 2) Try.underlying114 rfl rfl rfl (by first | exact of_decide_eq_true rfl | omega) rfl) ?_
              refine r_val .none rfl (p_move rfl) ?_
              refine r_val .none rfl (p_move rfl) ?_
              refine r_val .none rfl (p_build (vs := [(0, Value.int _ _), (1, Value.int _ _), (2, Value.int _ _)]) rfl (bl140_0i1_1i1_2i1 _ _ _)) ?_
              refine r_bslice (vs := [(0, Value.agg #[_, _, _])]) (c := #[_, _, _]) .none rfl Try.underlying114 el140 rfl rfl rfl (bs140_10a3 _ _ _) (IsRow.lit _) (fun b_13 => ?_)
              refine r_append (k := 2) (k2 := 0) .none rfl Try.underlying114 el140 rfl (by decide) rfl rfl rfl rfl rfl (one_lit rfl rfl) (by have q0 := testsTo_len l c.h 0; have q1 := testsTo_len l c.h 1; have q2 := testsTo_len l c.h 2; simp only [maxLen]; omega) (by have q0 := testsTo_len l c.h 0; have q1 := testsTo_len l c.h 1; have q2 := testsTo_len l c.h 2; omega) (fun v_65 => ?_)
              refine r_row1 (k := 2) rfl (fun o_66 => ?_)
              refine r_val .none rfl (p_field Try.underlying116 rfl sz114 rfl) ?_
              refine r_st (k := 3) .none sz114 rfl rfl o_66 rfl (by first | exact of_decide_eq_true rfl | omega) ?_
              refine r_nil ?_
              refine e_next ?_
              refine c_exit ?_
              refine e_exit_past rfl ?_
              refine e_exit_then ?_
              refine e_exit_then ?_
              refine e_exit_block ?_
              refine e_norm_block ?_
              refine e_next ?_
              refine c_region ?_
              refine r_val .none rfl (p_move rfl) ?_
              refine r_val .none rfl (p_add rfl rfl (by omega)) ?_
              refine r_val .none rfl (p_assign rfl) ?_
              refine r_nil ?_
              refine e_round ((3, _)) ⟨Nat.le_of_ble_eq_true rfl, Nat.le_of_ble_eq_true rfl⟩ rfl ⟨rfl, rfl, rfl, rfl, rfl, trivial⟩ (.drop (.drop (.keep (fun _ _ h => rowA_snoc (x := (((2 : Nat) : Int), -1, 0)) (by show testsTo l c.h (2 + 1) = _; rw [testsTo_succ, T3 (by assumption) (by assumption) (dup2_0 (by assumption))]) rfl rfl rfl _ _ h) (.keep (fun _ _ h => box_congr (fun i hi => by match i, hi with | 0, _ => rfl | 1, _ => exact congrArg (Value.int .i64) (key_else (h := c.h) (f := 2) (i := 0) (by decide)).symm | 2, _ => exact congrArg (Value.int .i64) (key_else (h := c.h) (f := 2) (i := 1) (by decide)).symm | 3, _ => exact (by first | exact congrArg (Value.int .i64) (key_set (h := c.h) (f := 2) (by assumption)).symm | exact congrArg (Value.int .i64) ((show keyTo c.h 2 2 = 0 by simp [keyTo]).trans (key_not (h := c.h) (f := 2) (by assumption)).symm)) | 4, _ => rfl | 5, _ => rfl) _ _ h) (.keep (fun _ _ h => h) (.keep (fun _ _ h => h) (.nil)))))))
              )
           ·
            first | have s0 : sameF c.h 0 2 = false := (same_cs c.h 0 2).symm.trans h_64 | have s1 : sameF c.h 1 2 = false := (same_cs c.h 1 2).symm.trans h_64
            first
             | (exfalso; omega)
             | (
              refine c_cond_f rfl ?_
              refine c_skip ?_
              refine e_norm_block ?_
              refine e_next ?_
              refine c_region ?_
              refine r_val .none rfl (p_move rfl) ?_
              refine r_val .none rfl (p_add rfl rfl (by omega)) ?_
              refine r_val .none rfl (p_assign rfl) ?_
              refine r_nil ?_
              refine e_again ?_
              refine l_round (n := 1) ?_
              refine c_seq ?_
              refine c_seq ?_
              refine c_region ?_
              refine r_val .none rfl (p_move rfl) ?_
              refine r_val .none rfl (p_move rfl) ?_
              refine r_val .none rfl (p_lt rfl rfl) ?_
              refine r_say (d := 88) (v := Value.bool true) rfl ?_
              refine r_nil ?_
              refine e_next ?_
              refine c_cond_t rfl ?_
              refine c_skip ?_
              refine e_next ?_
              refine c_seq ?_
              refine c_block ?_
              refine c_seq ?_
              refine c_region_q mixed (by kernel_rfl) ?_
              refine q_val .none rfl (p_move rfl) ?_
              refine q_val .none rfl (p_field Try.underlying102 rfl sz100 rfl) ?_
              refine q_val .none rfl (p_iaddr (k := 1) Try.underlying100 sz99 rfl rfl (by first | exact of_decide_eq_true rfl | omega)) ?_
              refine q_val .none rfl (p_lda (k := 4) Try.underlying99 rfl sz99 rfl rfl (by first | exact of_decide_eq_true rfl | omega) (rfl : _ = Value.agg #[_, _])) ?_
              refine q_val .none rfl (p_move rfl) ?_
              refine q_val .none rfl (p_field Try.underlying102 rfl sz100 rfl) ?_
              refine q_val .none rfl (p_iaddr (k := 2) Try.underlying100 sz99 rfl rfl (by first | exact of_decide_eq_true rfl | omega)) ?_
              refine q_val .none rfl (p_lda (k := 4) Try.underlying99 rfl sz99 rfl rfl (by first | exact of_decide_eq_true rfl | omega) (rfl : _ = Value.agg #[_, _])) ?_
              refine q_val .none rfl (p_eqa rfl rfl (eq_flat Try.underlying99 rfl lf99 ef99 eg99 (.cons (.int Try.underlying3) (.cons (.int Try.underlying3) (.nil))) (.cons (.int Try.underlying3) (.cons (.int Try.underlying3) (.nil))))) ?_
              refine q_nil ?_
              refine e_next ?_
              refine c_split (d := 99) rfl (fun h_67 => ?_) (fun h_67 => ?_)
              ·
               first | have s0 : sameF c.h 0 2 = true := (same_cs c.h 0 2).symm.trans h_67 | have s1 : sameF c.h 1 2 = true := (same_cs c.h 1 2).symm.trans h_67
               first
                | (exfalso; omega)
                | (
                 refine c_cond_t rfl ?_
                 refine c_seq ?_
                 refine c_region ?_
                 refine r_val .none rfl (p_field Try.underlying116 rfl sz114 rfl) ?_
                 refine r_val .none rfl (p_ld (k := 2) Try.underlying114 rfl rfl rfl (by first | exact of_decide_eq_true rfl | omega) rfl) ?_
                 refine r_val .none rfl (p_move rfl) ?_
                 refine r_val .none rfl (p_move rfl) ?_
                 refine r_val .none rfl (p_build (vs := [(0, Value.int _ _), (1, Value.int _ _), (2, Value.int _ _)]) rfl (bl140_0i1_1i1_2i1 _ _ _)) ?_
                 refine r_bslice (vs := [(0, Value.agg #[_, _, _])]) (c := #[_, _, _]) .none rfl Try.underlying114 el140 rfl rfl rfl (bs140_10a3 _ _ _) (IsRow.lit _) (fun b_14 => ?_)
                 refine r_append (k := 2) (k2 := 0) .none rfl Try.underlying114 el140 rfl (by decide) rfl rfl rfl rfl rfl (one_lit rfl rfl) (by have q0 := testsTo_len l c.h 0; have q1 := testsTo_len l c.h 1; have q2 := testsTo_len l c.h 2; simp only [maxLen]; omega) (by have q0 := testsTo_len l c.h 0; have q1 := testsTo_len l c.h 1; have q2 := testsTo_len l c.h 2; omega) (fun v_68 => ?_)
                 refine r_row1 (k := 2) rfl (fun o_69 => ?_)
                 refine r_val .none rfl (p_field Try.underlying116 rfl sz114 rfl) ?_
                 refine r_st (k := 3) .none sz114 rfl rfl o_69 rfl (by first | exact of_decide_eq_true rfl | omega) ?_
                 refine r_nil ?_
                 refine e_next ?_
                 refine c_exit ?_
                 refine e_exit_past rfl ?_
                 refine e_exit_then ?_
                 refine e_exit_then ?_
                 refine e_exit_block ?_
                 refine e_norm_block ?_
                 refine e_next ?_
                 refine c_region ?_
                 refine r_val .none rfl (p_move rfl) ?_
                 refine r_val .none rfl (p_add rfl rfl (by omega)) ?_
                 refine r_val .none rfl (p_assign rfl) ?_
                 refine r_nil ?_
                 refine e_round ((3, _)) ⟨Nat.le_of_ble_eq_true rfl, Nat.le_of_ble_eq_true rfl⟩ rfl ⟨rfl, rfl, rfl, rfl, rfl, trivial⟩ (.drop (.drop (.keep (fun _ _ h => rowA_snoc (x := (((2 : Nat) : Int), -1, 1)) (by show testsTo l c.h (2 + 1) = _; rw [testsTo_succ, T3 (by assumption) (by assumption) (dup2_1 (by assumption) (by assumption))]) rfl rfl rfl _ _ h) (.keep (fun _ _ h => box_congr (fun i hi => by match i, hi with | 0, _ => rfl | 1, _ => exact congrArg (Value.int .i64) (key_else (h := c.h) (f := 2) (i := 0) (by decide)).symm | 2, _ => exact congrArg (Value.int .i64) (key_else (h := c.h) (f := 2) (i := 1) (by decide)).symm | 3, _ => exact (by first | exact congrArg (Value.int .i64) (key_set (h := c.h) (f := 2) (by assumption)).symm | exact congrArg (Value.int .i64) ((show keyTo c.h 2 2 = 0 by simp [keyTo]).trans (key_not (h := c.h) (f := 2) (by assumption)).symm)) | 4, _ => rfl | 5, _ => rfl) _ _ h) (.keep (fun _ _ h => h) (.keep (fun _ _ h => h) (.nil)))))))
                 )
              ·
               first | have s0 : sameF c.h 0 2 = false := (same_cs c.h 0 2).symm.trans h_67 | have s1 : sameF c.h 1 2 = false := (same_cs c.h 1 2).symm.trans h_67
               first
                | (exfalso; omega)
                | (
                 refine c_cond_f rfl ?_
                 refine c_skip ?_
                 refine e_norm_block ?_
                 refine e_next ?_
                 refine c_region ?_
                 refine r_val .none rfl (p_move rfl) ?_
                 refine r_val .none rfl (p_add rfl rfl (by omega)) ?_
                 refine r_val .none rfl (p_assign rfl) ?_
                 refine r_nil ?_
                 refine e_again ?_
                 refine l_round (n := 0) ?_
                 refine c_seq ?_
                 refine c_seq ?_
                 refine c_region ?_
                 refine r_val .none rfl (p_move rfl) ?_
                 refine r_val .none rfl (p_move rfl) ?_
                 refine r_val .none rfl (p_lt rfl rfl) ?_
                 refine r_say (d := 88) (v := Value.bool false) rfl ?_
                 refine r_nil ?_
                 refine e_next ?_
                 refine c_cond_f rfl ?_
                 refine c_exit ?_
                 refine e_exit_then ?_
                 refine e_exit_then ?_
                 refine e_exit_block ?_
                 refine e_norm_block ?_
                 refine e_next ?_
                 refine c_region ?_
                 refine r_val .none rfl (p_move rfl) ?_
                 refine r_val .none rfl (p_add rfl rfl (by omega)) ?_
                 refine r_val .none rfl (p_assign rfl) ?_
                 refine r_nil ?_
                 refine e_round ((3, _)) ⟨Nat.le_of_ble_eq_true rfl, Nat.le_of_ble_eq_true rfl⟩ rfl ⟨rfl, rfl, rfl, rfl, rfl, trivial⟩ (.drop (.keep (fun _ _ h => rowA_same (by show testsTo l c.h (2 + 1) = _; rw [testsTo_succ, (by first | exact T1 (by assumption) | exact T4 (by assumption) (by assumption) (dup2_no (by assumption) (by assumption)) : testF l c.h 2 = []), List.append_nil]) _ _ h) (.keep (fun _ _ h => box_congr (fun i hi => by match i, hi with | 0, _ => rfl | 1, _ => exact congrArg (Value.int .i64) (key_else (h := c.h) (f := 2) (i := 0) (by decide)).symm | 2, _ => exact congrArg (Value.int .i64) (key_else (h := c.h) (f := 2) (i := 1) (by decide)).symm | 3, _ => exact (by first | exact congrArg (Value.int .i64) (key_set (h := c.h) (f := 2) (by assumption)).symm | exact congrArg (Value.int .i64) ((show keyTo c.h 2 2 = 0 by simp [keyTo]).trans (key_not (h := c.h) (f := 2) (by assumption)).symm)) | 4, _ => rfl | 5, _ => rfl) _ _ h) (.keep (fun _ _ h => h) (.keep (fun _ _ h => h) (.nil))))))
                 )
              )
           )
        )
    ·
     refine c_seq ?_
     refine c_seq ?_
     refine c_region ?_
     refine r_val .none rfl (p_move rfl) ?_
     refine r_val .none rfl (p_lt rfl rfl) ?_
     refine r_say (d := 47) (v := Value.bool false) rfl ?_
     refine r_nil ?_
     refine e_next ?_
     refine c_cond_f rfl ?_
     refine c_exit ?_
     refine e_exit_then ?_
     refine e_exit_then ?_
     refine e_exit_block ?_
     refine e_next ?_
     refine c_seq ?_
     refine c_region ?_
     refine r_val .none rfl (p_ldw (k := 1) Try.underlying116 rfl sz116 rfl rfl (rfl : _ = Value.agg #[_, _, _, _, _, _])) ?_
     refine r_stw (k := 2) .none sz116 rfl rfl (IsRow.lit _) (one_lit rfl (all_cons rfl (all_cons rfl (all_cons rfl (all_cons rfl (all_cons ov (all_cons rfl rfl))))))) rfl ?_
     refine r_nil ?_
     refine e_next ?_
     refine c_ret ?_
     refine e_freeze (k := 0) rfl (fun G_70 hn_71 hs_72 => ?_)
     replace hrc := hrc.mono hn_71.le
     replace hp := fun p hm0 => (hp p hm0).mono hn_71.le
     replace hr := hr.mono hn_71.le
     replace hpc := fun p hm0 => (hpc p hm0).mono hn_71.le
     replace hs2 := hs2.mono hn_71.le
     refine e_ret1 Try.results57 (.cell (k := 1) rfl Try.underlying116 rfl sz116 rfl (rfl : _ = Value.agg #[_, _, _, _, _, _]) .nil) (fun w hm => ⟨_, hn_71, hm.has, ?_, hm.since⟩)
     rw [stepOf_other (by omega)]
     exact ⟨_, _, rfl, SlL.of t0 (fun _ => rfl) rfl hs_72, Ss.nil⟩
    )
theorem c_of_n : ∀ n, OfIs n
 | 0 => fun c sv va l G w hz hch hs hs2 hG => absurd hz (by have := size_subs c; omega)
 | n + 1 => fun c sv va l G w hz hch hs hs2 hG => c_of_s n (c_of_n n) c sv va l hz hch hs hs2 w hG
theorem c_of (c : CT) (sv va : Value) (l : List CT) {G : Ghost} (hch : l.length + size c ≤ 1000) (hs : Rs G sv c.subs) (hs2 : Rs G va l) (w : World) (hG : Has G w) : Calls Try.prog 57 #[va, Value.agg #[Value.int .i64 c.h.k, Value.int .i64 (vi c.h.v0), Value.int .i64 c.h.n0, Value.int .i64 (vi c.h.v1), Value.int .i64 c.h.n1, Value.int .i64 (vi c.h.v2), Value.int .i64 c.h.n2, sv]] w (Ret fun r w' => ∃ G', GNew w nX G G' ∧ Has G' w' ∧ (∃ tv uv, r = Value.agg #[Value.int .i64 (stepOf l c).h.k, Value.int .i64 (stepOf l c).h.k0, Value.int .i64 (stepOf l c).h.k1, Value.int .i64 (stepOf l c).h.k2, tv, uv] ∧ SlL G' tv 3 tC t0 (stepOf l c).h.ts ∧ Ss G' uv (stepOf l c).subs) ∧ Since nX w w') := c_of_n _ c sv va l G w (Nat.le_refl _) hch hs hs2 hG
end Go.Proofs.Ytpadfgomhojjnaa
