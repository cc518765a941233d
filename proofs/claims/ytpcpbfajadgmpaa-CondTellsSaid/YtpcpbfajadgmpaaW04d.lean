/- Walks: what Go functions of this chapter come to, each as a function on plain data; no condition but those that each theorem names. Printed by a program of this work (gen.py). -/
import Derived.Test.YtpcpbfajadgmpaaW04c
import Derived.Test.YtpcpbfajadgmpaaRows
namespace Go.Proofs.Ytpcpbfajadgmpaa
open Go.Gx Go.Gx.T3 Go.Gx.T4 Go.Gx.T3
theorem zr23 : ZeroIs Try.prog 23 (Value.agg #[Value.bool false, Value.int .i64 0]) := by
  unfold ZeroIs
  kernel_rfl
theorem zr35 : ZeroIs Try.prog 35 (Value.agg #[Value.int .i64 0, Value.int .i64 0, Value.int .i64 0, Value.int .i64 0, Value.int .i64 0, Value.int .i64 0]) := by
  unfold ZeroIs
  kernel_rfl
theorem cl15 : Callable Try.prog 15 := callable Try.func15 (by kernel_rfl) rfl
theorem cl38 : Callable Try.prog 38 := callable Try.func38 (by kernel_rfl) rfl
theorem bl38_0i1_1a6 (x0 : Int) (x1 : Value) (x2 : Value) (x3 : Value) (x4 : Value) (x5 : Value) (x6 : Value) : Program.built Try.prog 38 [(0, Value.int .i64 x0), (1, Value.agg #[x1, x2, x3, x4, x5, x6])] = some #[Value.int .i64 x0, x1, x2, x3, x4, x5, x6, Value.slice none 0 0] := by
  kernel_rfl
theorem bs38_10a8 (a0 a1 a2 a3 a4 a5 a6 a7 : Value) : Instr.fill (fun i => some (i * 8, 8)) ((Array.range (1 * 8)).map ((Value.agg #[Value.int .i64 0, Value.int .i64 0, Value.int .i64 0, Value.int .i64 0, Value.int .i64 0, Value.int .i64 0, Value.int .i64 0, Value.slice none 0 0]).cells[· % (Value.agg #[Value.int .i64 0, Value.int .i64 0, Value.int .i64 0, Value.int .i64 0, Value.int .i64 0, Value.int .i64 0, Value.int .i64 0, Value.slice none 0 0]).cells.size]!)) [(0, Value.agg #[a0, a1, a2, a3, a4, a5, a6, a7])] = some #[a0, a1, a2, a3, a4, a5, a6, a7] := by
  kernel_rfl
theorem el38 : ElemIs Try.prog 38 8 80 (Value.agg #[Value.int .i64 0, Value.int .i64 0, Value.int .i64 0, Value.int .i64 0, Value.int .i64 0, Value.int .i64 0, Value.int .i64 0, Value.slice none 0 0]) := by
  unfold ElemIs
  kernel_rfl
def RefIs (n : Nat) : Prop := ∀ (c : CT) (sv : Value) (G : Ghost) (w : World), SizeOf.sizeOf c ≤ n → size c ≤ 1000 → Cs G sv c.subs → Has G w → Calls Try.prog 15 #[Value.agg #[Value.int .i64 c.h.k, Value.bool c.h.v0, Value.int .i64 c.h.n0, Value.bool c.h.v1, Value.int .i64 c.h.n1, Value.bool c.h.v2, Value.int .i64 c.h.n2, sv]] w (Ret fun r w' => ∃ G', GNew w nX G G' ∧ Has G' w' ∧ (∃ u, r = Value.agg #[Value.int .i64 c.h.k, Value.int .i64 (vi c.h.v0), Value.int .i64 c.h.n0, Value.int .i64 (vi c.h.v1), Value.int .i64 c.h.n1, Value.int .i64 (vi c.h.v2), Value.int .i64 c.h.n2, u] ∧ Rs G' u c.subs) ∧ Since nX w w')
theorem c_ref (v0 : Bool) (n0 : Int) (v1 : Bool) (n1 : Int) (v2 : Bool) (n2 : Int)  (w : World)  :
    Calls Try.prog 38 #[Value.agg #[Value.bool v0, Value.int .i64 n0, Value.bool v1, Value.int .i64 n1, Value.bool v2, Value.int .i64 n2]] w (Ret fun r w' => r = Value.agg #[Value.int .i64 (vi v0), Value.int .i64 n0, Value.int .i64 (vi v1), Value.int .i64 n1, Value.int .i64 (vi v2), Value.int .i64 n2] ∧ Since nX w w') := by
  refine enter (args := [_]) (X := nX) (G := (fun _ => none)) (l := [(0, Value.agg #[Value.bool v0, Value.int .i64 n0, Value.bool v1, Value.int .i64 n1, Value.bool v2, Value.int .i64 n2])]) Try.func38 rfl Try.ntmps38 (fun _ _ h => by cases h) ⟨rfl, trivial⟩ (Nat.le_of_ble_eq_true rfl) ?_
  refine c_seq ?_
  refine c_region ?_
  refine r_box .none rfl rfl (IsRow.lit _) (fun b_1 => ?_)
  refine r_alloc .none rfl zr35 (IsRow.lit _) (fun b_2 => ?_)
  refine r_nil ?_
  refine e_next ?_
  refine c_seq ?_
  refine c_region ?_
  refine r_alloc .none rfl zr35 (IsRow.lit _) (fun b_3 => ?_)
  refine r_nil ?_
  refine e_next ?_
  refine c_seq ?_
  refine c_seq ?_
  refine c_region ?_
  refine r_val .none rfl (p_ldw (k := 2) Try.underlying24 rfl sz24 rfl rfl (rfl : _ = Value.agg #[_, _, _, _, _, _])) ?_
  refine r_val .none rfl (p_move rfl) ?_
  refine r_nil ?_
  refine e_next ?_
  refine c_block ?_
  refine c_unroll 4 ?_
  refine l_round (n := 3) ?_
  refine c_seq ?_
  refine c_region ?_
  refine r_val .none rfl (p_lt rfl rfl) ?_
  refine r_say (d := 8) (v := Value.bool true) rfl ?_
  refine r_nil ?_
  refine e_next ?_
  refine c_seq ?_
  refine c_cond_t rfl ?_
  refine c_skip ?_
  refine e_next ?_
  refine c_seq ?_
  refine c_block ?_
  refine c_seq ?_
  refine c_region ?_
  refine r_val .none rfl (p_move rfl) ?_
  refine r_val .none rfl (p_indexa (k := 0) Try.underlying24 Try.underlying23 rfl sz23 rfl (IsRow.lit _) rfl rfl (by first | exact of_decide_eq_true rfl | omega) (rfl : _ = Value.agg #[_, _])) ?_
  refine r_alloc .none rfl zr23 (IsRow.lit _) (fun b_4 => ?_)
  refine r_val .none rfl (p_assign rfl) ?_
  refine r_stw (k := 0) .none sz23 rfl rfl (IsRow.lit _) (one_lit rfl rfl) rfl ?_
  refine r_nil ?_
  refine e_next ?_
  refine c_seq ?_
  refine c_region ?_
  refine r_val .none rfl (p_move rfl) ?_
  refine r_val .none rfl (p_field Try.underlying23 rfl sz3 rfl) ?_
  refine r_val .none rfl (p_ld (k := 0) Try.underlying3 rfl rfl rfl (by first | exact of_decide_eq_true rfl | omega) (rfl : _ = Value.int _ _)) ?_
  refine r_val .none rfl (p_iaddr (k := 0) Try.underlying35 sz34 rfl rfl (by first | exact of_decide_eq_true rfl | omega)) ?_
  refine r_val .none rfl (p_field Try.underlying34 rfl sz3 rfl) ?_
  refine r_st (k := 1) .none sz3 rfl rfl rfl rfl (by first | exact of_decide_eq_true rfl | omega) ?_
  refine r_nil ?_
  refine e_next ?_
  refine c_seq ?_
  refine c_region ?_
  refine r_val .none rfl (p_field Try.underlying23 rfl sz4 rfl) ?_
  refine r_val .none rfl (p_ld (k := 0) Try.underlying4 rfl rfl rfl (by first | exact of_decide_eq_true rfl | omega) (rfl : _ = Value.bool _)) ?_
  refine r_nil ?_
  refine e_next ?_
  refine c_split (d := 17) rfl (fun h_1 => ?_) (fun h_1 => ?_)
  · skip
    first
      | (exfalso; omega)
      | (
        refine c_cond_t rfl ?_
        refine c_region ?_
        refine r_val .none rfl (p_move rfl) ?_
        refine r_val .none rfl (p_iaddr (k := 0) Try.underlying35 sz34 rfl rfl (by first | exact of_decide_eq_true rfl | omega)) ?_
        refine r_val .none rfl (p_field Try.underlying34 rfl sz3 rfl) ?_
        refine r_st (k := 1) .none sz3 rfl rfl rfl rfl (by first | exact of_decide_eq_true rfl | omega) ?_
        refine r_nil ?_
        refine e_norm_block ?_
        refine e_next ?_
        refine c_region ?_
        refine r_val .none rfl (p_add rfl rfl (by omega)) ?_
        refine r_val .none rfl (p_move rfl) ?_
        refine r_nil ?_
        refine e_again ?_
        refine l_round (n := 2) ?_
        refine c_seq ?_
        refine c_region ?_
        refine r_val .none rfl (p_lt rfl rfl) ?_
        refine r_say (d := 8) (v := Value.bool true) rfl ?_
        refine r_nil ?_
        refine e_next ?_
        refine c_seq ?_
        refine c_cond_t rfl ?_
        refine c_skip ?_
        refine e_next ?_
        refine c_seq ?_
        refine c_block ?_
        refine c_seq ?_
        refine c_region ?_
        refine r_val .none rfl (p_move rfl) ?_
        refine r_val .none rfl (p_indexa (k := 1) Try.underlying24 Try.underlying23 rfl sz23 rfl (IsRow.lit _) rfl rfl (by first | exact of_decide_eq_true rfl | omega) (rfl : _ = Value.agg #[_, _])) ?_
        refine r_alloc .none rfl zr23 (IsRow.lit _) (fun b_5 => ?_)
        refine r_val .none rfl (p_assign rfl) ?_
        refine r_stw (k := 0) .none sz23 rfl rfl (IsRow.lit _) (one_lit rfl rfl) rfl ?_
        refine r_nil ?_
        refine e_next ?_
        refine c_seq ?_
        refine c_region ?_
        refine r_val .none rfl (p_move rfl) ?_
        refine r_val .none rfl (p_field Try.underlying23 rfl sz3 rfl) ?_
        refine r_val .none rfl (p_ld (k := 0) Try.underlying3 rfl rfl rfl (by first | exact of_decide_eq_true rfl | omega) (rfl : _ = Value.int _ _)) ?_
        refine r_val .none rfl (p_iaddr (k := 1) Try.underlying35 sz34 rfl rfl (by first | exact of_decide_eq_true rfl | omega)) ?_
        refine r_val .none rfl (p_field Try.underlying34 rfl sz3 rfl) ?_
        refine r_st (k := 2) .none sz3 rfl rfl rfl rfl (by first | exact of_decide_eq_true rfl | omega) ?_
        refine r_nil ?_
        refine e_next ?_
        refine c_seq ?_
        refine c_region ?_
        refine r_val .none rfl (p_field Try.underlying23 rfl sz4 rfl) ?_
        refine r_val .none rfl (p_ld (k := 0) Try.underlying4 rfl rfl rfl (by first | exact of_decide_eq_true rfl | omega) (rfl : _ = Value.bool _)) ?_
        refine r_nil ?_
        refine e_next ?_
        refine c_split (d := 17) rfl (fun h_2 => ?_) (fun h_2 => ?_)
        · skip
          first
            | (exfalso; omega)
            | (
              refine c_cond_t rfl ?_
              refine c_region ?_
              refine r_val .none rfl (p_move rfl) ?_
              refine r_val .none rfl (p_iaddr (k := 1) Try.underlying35 sz34 rfl rfl (by first | exact of_decide_eq_true rfl | omega)) ?_
              refine r_val .none rfl (p_field Try.underlying34 rfl sz3 rfl) ?_
              refine r_st (k := 2) .none sz3 rfl rfl rfl rfl (by first | exact of_decide_eq_true rfl | omega) ?_
              refine r_nil ?_
              refine e_norm_block ?_
              refine e_next ?_
              refine c_region ?_
              refine r_val .none rfl (p_add rfl rfl (by omega)) ?_
              refine r_val .none rfl (p_move rfl) ?_
              refine r_nil ?_
              refine e_again ?_
              refine l_round (n := 1) ?_
              refine c_seq ?_
              refine c_region ?_
              refine r_val .none rfl (p_lt rfl rfl) ?_
              refine r_say (d := 8) (v := Value.bool true) rfl ?_
              refine r_nil ?_
              refine e_next ?_
              refine c_seq ?_
              refine c_cond_t rfl ?_
              refine c_skip ?_
              refine e_next ?_
              refine c_seq ?_
              refine c_block ?_
              refine c_seq ?_
              refine c_region ?_
              refine r_val .none rfl (p_move rfl) ?_
              refine r_val .none rfl (p_indexa (k := 2) Try.underlying24 Try.underlying23 rfl sz23 rfl (IsRow.lit _) rfl rfl (by first | exact of_decide_eq_true rfl | omega) (rfl : _ = Value.agg #[_, _])) ?_
              refine r_alloc .none rfl zr23 (IsRow.lit _) (fun b_6 => ?_)
              refine r_val .none rfl (p_assign rfl) ?_
              refine r_stw (k := 0) .none sz23 rfl rfl (IsRow.lit _) (one_lit rfl rfl) rfl ?_
              refine r_nil ?_
              refine e_next ?_
              refine c_seq ?_
              refine c_region ?_
              refine r_val .none rfl (p_move rfl) ?_
              refine r_val .none rfl (p_field Try.underlying23 rfl sz3 rfl) ?_
              refine r_val .none rfl (p_ld (k := 0) Try.underlying3 rfl rfl rfl (by first | exact of_decide_eq_true rfl | omega) (rfl : _ = Value.int _ _)) ?_
              refine r_val .none rfl (p_iaddr (k := 2) Try.underlying35 sz34 rfl rfl (by first | exact of_decide_eq_true rfl | omega)) ?_
              refine r_val .none rfl (p_field Try.underlying34 rfl sz3 rfl) ?_
              refine r_st (k := 3) .none sz3 rfl rfl rfl rfl (by first | exact of_decide_eq_true rfl | omega) ?_
              refine r_nil ?_
              refine e_next ?_
              refine c_seq ?_
              refine c_region ?_
              refine r_val .none rfl (p_field Try.underlying23 rfl sz4 rfl) ?_
              refine r_val .none rfl (p_ld (k := 0) Try.underlying4 rfl rfl rfl (by first | exact of_decide_eq_true rfl | omega) (rfl : _ = Value.bool _)) ?_
              refine r_nil ?_
              refine e_next ?_
              refine c_split (d := 17) rfl (fun h_3 => ?_) (fun h_3 => ?_)
              · skip
                first
                  | (exfalso; omega)
                  | (
                    refine c_cond_t rfl ?_
                    refine c_region ?_
                    refine r_val .none rfl (p_move rfl) ?_
                    refine r_val .none rfl (p_iaddr (k := 2) Try.underlying35 sz34 rfl rfl (by first | exact of_decide_eq_true rfl | omega)) ?_
                    refine r_val .none rfl (p_field Try.underlying34 rfl sz3 rfl) ?_
                    refine r_st (k := 3) .none sz3 rfl rfl rfl rfl (by first | exact of_decide_eq_true rfl | omega) ?_
                    refine r_nil ?_
                    refine e_norm_block ?_
                    refine e_next ?_
                    refine c_region ?_
                    refine r_val .none rfl (p_add rfl rfl (by omega)) ?_
                    refine r_val .none rfl (p_move rfl) ?_
                    refine r_nil ?_
                    refine e_again ?_
                    refine l_round (n := 0) ?_
                    refine c_seq ?_
                    refine c_region ?_
                    refine r_val .none rfl (p_lt rfl rfl) ?_
                    refine r_say (d := 8) (v := Value.bool false) rfl ?_
                    refine r_nil ?_
                    refine e_next ?_
                    refine c_seq ?_
                    refine c_cond_f rfl ?_
                    refine c_exit ?_
                    refine e_exit_then ?_
                    refine e_exit_then ?_
                    refine e_exit_block ?_
                    refine e_next ?_
                    refine c_seq ?_
                    refine c_region ?_
                    refine r_val .none rfl (p_ldw (k := 3) Try.underlying35 rfl sz35 rfl rfl (rfl : _ = Value.agg #[_, _, _, _, _, _])) ?_
                    refine r_stw (k := 4) .none sz35 rfl rfl (IsRow.lit _) (one_lit rfl rfl) rfl ?_
                    refine r_nil ?_
                    refine e_next ?_
                    refine c_ret ?_
                    refine e_ret1 Try.results38 (.cell (k := 4) rfl Try.underlying35 rfl sz35 rfl (rfl : _ = Value.agg #[_, _, _, _, _, _]) .nil) (fun w hm => ⟨?_, hm.since⟩)
                    subst_vars; rfl
                    )
              · skip
                first
                  | (exfalso; omega)
                  | (
                    refine c_cond_f rfl ?_
                    refine c_skip ?_
                    refine e_norm_block ?_
                    refine e_next ?_
                    refine c_region ?_
                    refine r_val .none rfl (p_add rfl rfl (by omega)) ?_
                    refine r_val .none rfl (p_move rfl) ?_
                    refine r_nil ?_
                    refine e_again ?_
                    refine l_round (n := 0) ?_
                    refine c_seq ?_
                    refine c_region ?_
                    refine r_val .none rfl (p_lt rfl rfl) ?_
                    refine r_say (d := 8) (v := Value.bool false) rfl ?_
                    refine r_nil ?_
                    refine e_next ?_
                    refine c_seq ?_
                    refine c_cond_f rfl ?_
                    refine c_exit ?_
                    refine e_exit_then ?_
                    refine e_exit_then ?_
                    refine e_exit_block ?_
                    refine e_next ?_
                    refine c_seq ?_
                    refine c_region ?_
                    refine r_val .none rfl (p_ldw (k := 3) Try.underlying35 rfl sz35 rfl rfl (rfl : _ = Value.agg #[_, _, _, _, _, _])) ?_
                    refine r_stw (k := 4) .none sz35 rfl rfl (IsRow.lit _) (one_lit rfl rfl) rfl ?_
                    refine r_nil ?_
                    refine e_next ?_
                    refine c_ret ?_
                    refine e_ret1 Try.results38 (.cell (k := 4) rfl Try.underlying35 rfl sz35 rfl (rfl : _ = Value.agg #[_, _, _, _, _, _]) .nil) (fun w hm => ⟨?_, hm.since⟩)
                    subst_vars; rfl
                    )
              )
        · skip
          first
            | (exfalso; omega)
            | (
              refine c_cond_f rfl ?_
              refine c_skip ?_
              refine e_norm_block ?_
              refine e_next ?_
              refine c_region ?_
              refine r_val .none rfl (p_add rfl rfl (by omega)) ?_
              refine r_val .none rfl (p_move rfl) ?_
              refine r_nil ?_
              refine e_again ?_
              refine l_round (n := 1) ?_
              refine c_seq ?_
              refine c_region ?_
              refine r_val .none rfl (p_lt rfl rfl) ?_
              refine r_say (d := 8) (v := Value.bool true) rfl ?_
              refine r_nil ?_
              refine e_next ?_
              refine c_seq ?_
              refine c_cond_t rfl ?_
              refine c_skip ?_
              refine e_next ?_
              refine c_seq ?_
              refine c_block ?_
              refine c_seq ?_
              refine c_region ?_
              refine r_val .none rfl (p_move rfl) ?_
              refine r_val .none rfl (p_indexa (k := 2) Try.underlying24 Try.underlying23 rfl sz23 rfl (IsRow.lit _) rfl rfl (by first | exact of_decide_eq_true rfl | omega) (rfl : _ = Value.agg #[_, _])) ?_
              refine r_alloc .none rfl zr23 (IsRow.lit _) (fun b_7 => ?_)
              refine r_val .none rfl (p_assign rfl) ?_
              refine r_stw (k := 0) .none sz23 rfl rfl (IsRow.lit _) (one_lit rfl rfl) rfl ?_
              refine r_nil ?_
              refine e_next ?_
              refine c_seq ?_
              refine c_region ?_
              refine r_val .none rfl (p_move rfl) ?_
              refine r_val .none rfl (p_field Try.underlying23 rfl sz3 rfl) ?_
              refine r_val .none rfl (p_ld (k := 0) Try.underlying3 rfl rfl rfl (by first | exact of_decide_eq_true rfl | omega) (rfl : _ = Value.int _ _)) ?_
              refine r_val .none rfl (p_iaddr (k := 2) Try.underlying35 sz34 rfl rfl (by first | exact of_decide_eq_true rfl | omega)) ?_
              refine r_val .none rfl (p_field Try.underlying34 rfl sz3 rfl) ?_
              refine r_st (k := 3) .none sz3 rfl rfl rfl rfl (by first | exact of_decide_eq_true rfl | omega) ?_
              refine r_nil ?_
              refine e_next ?_
              refine c_seq ?_
              refine c_region ?_
              refine r_val .none rfl (p_field Try.underlying23 rfl sz4 rfl) ?_
              refine r_val .none rfl (p_ld (k := 0) Try.underlying4 rfl rfl rfl (by first | exact of_decide_eq_true rfl | omega) (rfl : _ = Value.bool _)) ?_
              refine r_nil ?_
              refine e_next ?_
              refine c_split (d := 17) rfl (fun h_4 => ?_) (fun h_4 => ?_)
              · skip
                first
                  | (exfalso; omega)
                  | (
                    refine c_cond_t rfl ?_
                    refine c_region ?_
                    refine r_val .none rfl (p_move rfl) ?_
                    refine r_val .none rfl (p_iaddr (k := 2) Try.underlying35 sz34 rfl rfl (by first | exact of_decide_eq_true rfl | omega)) ?_
                    refine r_val .none rfl (p_field Try.underlying34 rfl sz3 rfl) ?_
                    refine r_st (k := 3) .none sz3 rfl rfl rfl rfl (by first | exact of_decide_eq_true rfl | omega) ?_
                    refine r_nil ?_
                    refine e_norm_block ?_
                    refine e_next ?_
                    refine c_region ?_
                    refine r_val .none rfl (p_add rfl rfl (by omega)) ?_
                    refine r_val .none rfl (p_move rfl) ?_
                    refine r_nil ?_
                    refine e_again ?_
                    refine l_round (n := 0) ?_
                    refine c_seq ?_
                    refine c_region ?_
                    refine r_val .none rfl (p_lt rfl rfl) ?_
                    refine r_say (d := 8) (v := Value.bool false) rfl ?_
                    refine r_nil ?_
                    refine e_next ?_
                    refine c_seq ?_
                    refine c_cond_f rfl ?_
                    refine c_exit ?_
                    refine e_exit_then ?_
                    refine e_exit_then ?_
                    refine e_exit_block ?_
                    refine e_next ?_
                    refine c_seq ?_
                    refine c_region ?_
                    refine r_val .none rfl (p_ldw (k := 3) Try.underlying35 rfl sz35 rfl rfl (rfl : _ = Value.agg #[_, _, _, _, _, _])) ?_
                    refine r_stw (k := 4) .none sz35 rfl rfl (IsRow.lit _) (one_lit rfl rfl) rfl ?_
                    refine r_nil ?_
                    refine e_next ?_
                    refine c_ret ?_
                    refine e_ret1 Try.results38 (.cell (k := 4) rfl Try.underlying35 rfl sz35 rfl (rfl : _ = Value.agg #[_, _, _, _, _, _]) .nil) (fun w hm => ⟨?_, hm.since⟩)
                    subst_vars; rfl
                    )
              · skip
                first
                  | (exfalso; omega)
                  | (
                    refine c_cond_f rfl ?_
                    refine c_skip ?_
                    refine e_norm_block ?_
                    refine e_next ?_
                    refine c_region ?_
                    refine r_val .none rfl (p_add rfl rfl (by omega)) ?_
                    refine r_val .none rfl (p_move rfl) ?_
                    refine r_nil ?_
                    refine e_again ?_
                    refine l_round (n := 0) ?_
                    refine c_seq ?_
                    refine c_region ?_
                    refine r_val .none rfl (p_lt rfl rfl) ?_
                    refine r_say (d := 8) (v := Value.bool false) rfl ?_
                    refine r_nil ?_
                    refine e_next ?_
                    refine c_seq ?_
                    refine c_cond_f rfl ?_
                    refine c_exit ?_
                    refine e_exit_then ?_
                    refine e_exit_then ?_
                    refine e_exit_block ?_
                    refine e_next ?_
                    refine c_seq ?_
                    refine c_region ?_
                    refine r_val .none rfl (p_ldw (k := 3) Try.underlying35 rfl sz35 rfl rfl (rfl : _ = Value.agg #[_, _, _, _, _, _])) ?_
                    refine r_stw (k := 4) .none sz35 rfl rfl (IsRow.lit _) (one_lit rfl rfl) rfl ?_
                    refine r_nil ?_
                    refine e_next ?_
                    refine c_ret ?_
                    refine e_ret1 Try.results38 (.cell (k := 4) rfl Try.underlying35 rfl sz35 rfl (rfl : _ = Value.agg #[_, _, _, _, _, _]) .nil) (fun w hm => ⟨?_, hm.since⟩)
                    subst_vars; rfl
                    )
              )
        )
  · skip
    first
      | (exfalso; omega)
      | (
        refine c_cond_f rfl ?_
        refine c_skip ?_
        refine e_norm_block ?_
        refine e_next ?_
        refine c_region ?_
        refine r_val .none rfl (p_add rfl rfl (by omega)) ?_
        refine r_val .none rfl (p_move rfl) ?_
        refine r_nil ?_
        refine e_again ?_
        refine l_round (n := 2) ?_
        refine c_seq ?_
        refine c_region ?_
        refine r_val .none rfl (p_lt rfl rfl) ?_
        refine r_say (d := 8) (v := Value.bool true) rfl ?_
        refine r_nil ?_
        refine e_next ?_
        refine c_seq ?_
        refine c_cond_t rfl ?_
        refine c_skip ?_
        refine e_next ?_
        refine c_seq ?_
        refine c_block ?_
        refine c_seq ?_
        refine c_region ?_
        refine r_val .none rfl (p_move rfl) ?_
        refine r_val .none rfl (p_indexa (k := 1) Try.underlying24 Try.underlying23 rfl sz23 rfl (IsRow.lit _) rfl rfl (by first | exact of_decide_eq_true rfl | omega) (rfl : _ = Value.agg #[_, _])) ?_
        refine r_alloc .none rfl zr23 (IsRow.lit _) (fun b_8 => ?_)
        refine r_val .none rfl (p_assign rfl) ?_
        refine r_stw (k := 0) .none sz23 rfl rfl (IsRow.lit _) (one_lit rfl rfl) rfl ?_
        refine r_nil ?_
        refine e_next ?_
        refine c_seq ?_
        refine c_region ?_
        refine r_val .none rfl (p_move rfl) ?_
        refine r_val .none rfl (p_field Try.underlying23 rfl sz3 rfl) ?_
        refine r_val .none rfl (p_ld (k := 0) Try.underlying3 rfl rfl rfl (by first | exact of_decide_eq_true rfl | omega) (rfl : _ = Value.int _ _)) ?_
        refine r_val .none rfl (p_iaddr (k := 1) Try.underlying35 sz34 rfl rfl (by first | exact of_decide_eq_true rfl | omega)) ?_
        refine r_val .none rfl (p_field Try.underlying34 rfl sz3 rfl) ?_
        refine r_st (k := 2) .none sz3 rfl rfl rfl rfl (by first | exact of_decide_eq_true rfl | omega) ?_
        refine r_nil ?_
        refine e_next ?_
        refine c_seq ?_
        refine c_region ?_
        refine r_val .none rfl (p_field Try.underlying23 rfl sz4 rfl) ?_
        refine r_val .none rfl (p_ld (k := 0) Try.underlying4 rfl rfl rfl (by first | exact of_decide_eq_true rfl | omega) (rfl : _ = Value.bool _)) ?_
        refine r_nil ?_
        refine e_next ?_
        refine c_split (d := 17) rfl (fun h_5 => ?_) (fun h_5 => ?_)
        · skip
          first
            | (exfalso; omega)
            | (
              refine c_cond_t rfl ?_
              refine c_region ?_
              refine r_val .none rfl (p_move rfl) ?_
              refine r_val .none rfl (p_iaddr (k := 1) Try.underlying35 sz34 rfl rfl (by first | exact of_decide_eq_true rfl | omega)) ?_
              refine r_val .none rfl (p_field Try.underlying34 rfl sz3 rfl) ?_
              refine r_st (k := 2) .none sz3 rfl rfl rfl rfl (by first | exact of_decide_eq_true rfl | omega) ?_
              refine r_nil ?_
              refine e_norm_block ?_
              refine e_next ?_
              refine c_region ?_
              refine r_val .none rfl (p_add rfl rfl (by omega)) ?_
              refine r_val .none rfl (p_move rfl) ?_
              refine r_nil ?_
              refine e_again ?_
              refine l_round (n := 1) ?_
              refine c_seq ?_
              refine c_region ?_
              refine r_val .none rfl (p_lt rfl rfl) ?_
              refine r_say (d := 8) (v := Value.bool true) rfl ?_
              refine r_nil ?_
              refine e_next ?_
              refine c_seq ?_
              refine c_cond_t rfl ?_
              refine c_skip ?_
              refine e_next ?_
              refine c_seq ?_
              refine c_block ?_
              refine c_seq ?_
              refine c_region ?_
              refine r_val .none rfl (p_move rfl) ?_
              refine r_val .none rfl (p_indexa (k := 2) Try.underlying24 Try.underlying23 rfl sz23 rfl (IsRow.lit _) rfl rfl (by first | exact of_decide_eq_true rfl | omega) (rfl : _ = Value.agg #[_, _])) ?_
              refine r_alloc .none rfl zr23 (IsRow.lit _) (fun b_9 => ?_)
              refine r_val .none rfl (p_assign rfl) ?_
              refine r_stw (k := 0) .none sz23 rfl rfl (IsRow.lit _) (one_lit rfl rfl) rfl ?_
              refine r_nil ?_
              refine e_next ?_
              refine c_seq ?_
              refine c_region ?_
              refine r_val .none rfl (p_move rfl) ?_
              refine r_val .none rfl (p_field Try.underlying23 rfl sz3 rfl) ?_
              refine r_val .none rfl (p_ld (k := 0) Try.underlying3 rfl rfl rfl (by first | exact of_decide_eq_true rfl | omega) (rfl : _ = Value.int _ _)) ?_
              refine r_val .none rfl (p_iaddr (k := 2) Try.underlying35 sz34 rfl rfl (by first | exact of_decide_eq_true rfl | omega)) ?_
              refine r_val .none rfl (p_field Try.underlying34 rfl sz3 rfl) ?_
              refine r_st (k := 3) .none sz3 rfl rfl rfl rfl (by first | exact of_decide_eq_true rfl | omega) ?_
              refine r_nil ?_
              refine e_next ?_
              refine c_seq ?_
              refine c_region ?_
              refine r_val .none rfl (p_field Try.underlying23 rfl sz4 rfl) ?_
              refine r_val .none rfl (p_ld (k := 0) Try.underlying4 rfl rfl rfl (by first | exact of_decide_eq_true rfl | omega) (rfl : _ = Value.bool _)) ?_
              refine r_nil ?_
              refine e_next ?_
              refine c_split (d := 17) rfl (fun h_6 => ?_) (fun h_6 => ?_)
              · skip
                first
                  | (exfalso; omega)
                  | (
                    refine c_cond_t rfl ?_
                    refine c_region ?_
                    refine r_val .none rfl (p_move rfl) ?_
                    refine r_val .none rfl (p_iaddr (k := 2) Try.underlying35 sz34 rfl rfl (by first | exact of_decide_eq_true rfl | omega)) ?_
                    refine r_val .none rfl (p_field Try.underlying34 rfl sz3 rfl) ?_
                    refine r_st (k := 3) .none sz3 rfl rfl rfl rfl (by first | exact of_decide_eq_true rfl | omega) ?_
                    refine r_nil ?_
                    refine e_norm_block ?_
                    refine e_next ?_
                    refine c_region ?_
                    refine r_val .none rfl (p_add rfl rfl (by omega)) ?_
                    refine r_val .none rfl (p_move rfl) ?_
                    refine r_nil ?_
                    refine e_again ?_
                    refine l_round (n := 0) ?_
                    refine c_seq ?_
                    refine c_region ?_
                    refine r_val .none rfl (p_lt rfl rfl) ?_
                    refine r_say (d := 8) (v := Value.bool false) rfl ?_
                    refine r_nil ?_
                    refine e_next ?_
                    refine c_seq ?_
                    refine c_cond_f rfl ?_
                    refine c_exit ?_
                    refine e_exit_then ?_
                    refine e_exit_then ?_
                    refine e_exit_block ?_
                    refine e_next ?_
                    refine c_seq ?_
                    refine c_region ?_
                    refine r_val .none rfl (p_ldw (k := 3) Try.underlying35 rfl sz35 rfl rfl (rfl : _ = Value.agg #[_, _, _, _, _, _])) ?_
                    refine r_stw (k := 4) .none sz35 rfl rfl (IsRow.lit _) (one_lit rfl rfl) rfl ?_
                    refine r_nil ?_
                    refine e_next ?_
                    refine c_ret ?_
                    refine e_ret1 Try.results38 (.cell (k := 4) rfl Try.underlying35 rfl sz35 rfl (rfl : _ = Value.agg #[_, _, _, _, _, _]) .nil) (fun w hm => ⟨?_, hm.since⟩)
                    subst_vars; rfl
                    )
              · skip
                first
                  | (exfalso; omega)
                  | (
                    refine c_cond_f rfl ?_
                    refine c_skip ?_
                    refine e_norm_block ?_
                    refine e_next ?_
                    refine c_region ?_
                    refine r_val .none rfl (p_add rfl rfl (by omega)) ?_
                    refine r_val .none rfl (p_move rfl) ?_
                    refine r_nil ?_
                    refine e_again ?_
                    refine l_round (n := 0) ?_
                    refine c_seq ?_
                    refine c_region ?_
                    refine r_val .none rfl (p_lt rfl rfl) ?_
                    refine r_say (d := 8) (v := Value.bool false) rfl ?_
                    refine r_nil ?_
                    refine e_next ?_
                    refine c_seq ?_
                    refine c_cond_f rfl ?_
                    refine c_exit ?_
                    refine e_exit_then ?_
                    refine e_exit_then ?_
                    refine e_exit_block ?_
                    refine e_next ?_
                    refine c_seq ?_
                    refine c_region ?_
                    refine r_val .none rfl (p_ldw (k := 3) Try.underlying35 rfl sz35 rfl rfl (rfl : _ = Value.agg #[_, _, _, _, _, _])) ?_
                    refine r_stw (k := 4) .none sz35 rfl rfl (IsRow.lit _) (one_lit rfl rfl) rfl ?_
                    refine r_nil ?_
                    refine e_next ?_
                    refine c_ret ?_
                    refine e_ret1 Try.results38 (.cell (k := 4) rfl Try.underlying35 rfl sz35 rfl (rfl : _ = Value.agg #[_, _, _, _, _, _]) .nil) (fun w hm => ⟨?_, hm.since⟩)
                    subst_vars; rfl
                    )
              )
        · skip
          first
            | (exfalso; omega)
            | (
              refine c_cond_f rfl ?_
              refine c_skip ?_
              refine e_norm_block ?_
              refine e_next ?_
              refine c_region ?_
              refine r_val .none rfl (p_add rfl rfl (by omega)) ?_
              refine r_val .none rfl (p_move rfl) ?_
              refine r_nil ?_
              refine e_again ?_
              refine l_round (n := 1) ?_
              refine c_seq ?_
              refine c_region ?_
              refine r_val .none rfl (p_lt rfl rfl) ?_
              refine r_say (d := 8) (v := Value.bool true) rfl ?_
              refine r_nil ?_
              refine e_next ?_
              refine c_seq ?_
              refine c_cond_t rfl ?_
              refine c_skip ?_
              refine e_next ?_
              refine c_seq ?_
              refine c_block ?_
              refine c_seq ?_
              refine c_region ?_
              refine r_val .none rfl (p_move rfl) ?_
              refine r_val .none rfl (p_indexa (k := 2) Try.underlying24 Try.underlying23 rfl sz23 rfl (IsRow.lit _) rfl rfl (by first | exact of_decide_eq_true rfl | omega) (rfl : _ = Value.agg #[_, _])) ?_
              refine r_alloc .none rfl zr23 (IsRow.lit _) (fun b_10 => ?_)
              refine r_val .none rfl (p_assign rfl) ?_
              refine r_stw (k := 0) .none sz23 rfl rfl (IsRow.lit _) (one_lit rfl rfl) rfl ?_
              refine r_nil ?_
              refine e_next ?_
              refine c_seq ?_
              refine c_region ?_
              refine r_val .none rfl (p_move rfl) ?_
              refine r_val .none rfl (p_field Try.underlying23 rfl sz3 rfl) ?_
              refine r_val .none rfl (p_ld (k := 0) Try.underlying3 rfl rfl rfl (by first | exact of_decide_eq_true rfl | omega) (rfl : _ = Value.int _ _)) ?_
              refine r_val .none rfl (p_iaddr (k := 2) Try.underlying35 sz34 rfl rfl (by first | exact of_decide_eq_true rfl | omega)) ?_
              refine r_val .none rfl (p_field Try.underlying34 rfl sz3 rfl) ?_
              refine r_st (k := 3) .none sz3 rfl rfl rfl rfl (by first | exact of_decide_eq_true rfl | omega) ?_
              refine r_nil ?_
              refine e_next ?_
              refine c_seq ?_
              refine c_region ?_
              refine r_val .none rfl (p_field Try.underlying23 rfl sz4 rfl) ?_
              refine r_val .none rfl (p_ld (k := 0) Try.underlying4 rfl rfl rfl (by first | exact of_decide_eq_true rfl | omega) (rfl : _ = Value.bool _)) ?_
              refine r_nil ?_
              refine e_next ?_
              refine c_split (d := 17) rfl (fun h_7 => ?_) (fun h_7 => ?_)
              · skip
                first
                  | (exfalso; omega)
                  | (
                    refine c_cond_t rfl ?_
                    refine c_region ?_
                    refine r_val .none rfl (p_move rfl) ?_
                    refine r_val .none rfl (p_iaddr (k := 2) Try.underlying35 sz34 rfl rfl (by first | exact of_decide_eq_true rfl | omega)) ?_
                    refine r_val .none rfl (p_field Try.underlying34 rfl sz3 rfl) ?_
                    refine r_st (k := 3) .none sz3 rfl rfl rfl rfl (by first | exact of_decide_eq_true rfl | omega) ?_
                    refine r_nil ?_
                    refine e_norm_block ?_
                    refine e_next ?_
                    refine c_region ?_
                    refine r_val .none rfl (p_add rfl rfl (by omega)) ?_
                    refine r_val .none rfl (p_move rfl) ?_
                    refine r_nil ?_
                    refine e_again ?_
                    refine l_round (n := 0) ?_
                    refine c_seq ?_
                    refine c_region ?_
                    refine r_val .none rfl (p_lt rfl rfl) ?_
                    refine r_say (d := 8) (v := Value.bool false) rfl ?_
                    refine r_nil ?_
                    refine e_next ?_
                    refine c_seq ?_
                    refine c_cond_f rfl ?_
                    refine c_exit ?_
                    refine e_exit_then ?_
                    refine e_exit_then ?_
                    refine e_exit_block ?_
                    refine e_next ?_
                    refine c_seq ?_
                    refine c_region ?_
                    refine r_val .none rfl (p_ldw (k := 3) Try.underlying35 rfl sz35 rfl rfl (rfl : _ = Value.agg #[_, _, _, _, _, _])) ?_
                    refine r_stw (k := 4) .none sz35 rfl rfl (IsRow.lit _) (one_lit rfl rfl) rfl ?_
                    refine r_nil ?_
                    refine e_next ?_
                    refine c_ret ?_
                    refine e_ret1 Try.results38 (.cell (k := 4) rfl Try.underlying35 rfl sz35 rfl (rfl : _ = Value.agg #[_, _, _, _, _, _]) .nil) (fun w hm => ⟨?_, hm.since⟩)
                    subst_vars; rfl
                    )
              · skip
                first
                  | (exfalso; omega)
                  | (
                    refine c_cond_f rfl ?_
                    refine c_skip ?_
                    refine e_norm_block ?_
                    refine e_next ?_
                    refine c_region ?_
                    refine r_val .none rfl (p_add rfl rfl (by omega)) ?_
                    refine r_val .none rfl (p_move rfl) ?_
                    refine r_nil ?_
                    refine e_again ?_
                    refine l_round (n := 0) ?_
                    refine c_seq ?_
                    refine c_region ?_
                    refine r_val .none rfl (p_lt rfl rfl) ?_
                    refine r_say (d := 8) (v := Value.bool false) rfl ?_
                    refine r_nil ?_
                    refine e_next ?_
                    refine c_seq ?_
                    refine c_cond_f rfl ?_
                    refine c_exit ?_
                    refine e_exit_then ?_
                    refine e_exit_then ?_
                    refine e_exit_block ?_
                    refine e_next ?_
                    refine c_seq ?_
                    refine c_region ?_
                    refine r_val .none rfl (p_ldw (k := 3) Try.underlying35 rfl sz35 rfl rfl (rfl : _ = Value.agg #[_, _, _, _, _, _])) ?_
                    refine r_stw (k := 4) .none sz35 rfl rfl (IsRow.lit _) (one_lit rfl rfl) rfl ?_
                    refine r_nil ?_
                    refine e_next ?_
                    refine c_ret ?_
                    refine e_ret1 Try.results38 (.cell (k := 4) rfl Try.underlying35 rfl sz35 rfl (rfl : _ = Value.agg #[_, _, _, _, _, _]) .nil) (fun w hm => ⟨?_, hm.since⟩)
                    subst_vars; rfl
                    )
              )
        )
theorem c_ref4_s (n : Nat) (ih : RefIs n) (c : CT) (sv : Value)  {G : Ghost} (hz : SizeOf.sizeOf c ≤ n + 1) (hsz : size c ≤ 1000) (hs : Cs G sv c.subs) (w : World) (hG : Has G w) :
    Calls Try.prog 15 #[Value.agg #[Value.int .i64 c.h.k, Value.bool c.h.v0, Value.int .i64 c.h.n0, Value.bool c.h.v1, Value.int .i64 c.h.n1, Value.bool c.h.v2, Value.int .i64 c.h.n2, sv]] w (Ret fun r w' => ∃ G', GNew w nX G G' ∧ Has G' w' ∧ (∃ u, r = Value.agg #[Value.int .i64 c.h.k, Value.int .i64 (vi c.h.v0), Value.int .i64 c.h.n0, Value.int .i64 (vi c.h.v1), Value.int .i64 c.h.n1, Value.int .i64 (vi c.h.v2), Value.int .i64 c.h.n2, u] ∧ Rs G' u c.subs) ∧ Since nX w w') := by
  refine enter (args := [_]) (X := nX) (G := G) (l := [(0, Value.agg #[Value.int .i64 c.h.k, Value.bool c.h.v0, Value.int .i64 c.h.n0, Value.bool c.h.v1, Value.int .i64 c.h.n1, Value.bool c.h.v2, Value.int .i64 c.h.n2, sv])]) Try.func15 rfl Try.ntmps15 hG ⟨rfl, trivial⟩ (Nat.le_of_ble_eq_true rfl) ?_
  obtain ⟨rs, hr, hp, hl⟩ := hs.inv
  have hlen : c.subs.length = rs.length := by rw [hl]; simp
  have hbd := hr.bound
  have hl1 := size_len hl hsz
  refine c_seq ?_
  refine c_region ?_
  refine r_box .none rfl rfl (IsRow.lit _) (fun b_1 => ?_)
  refine r_alloc .none rfl zr38 (IsRow.lit _) (fun b_2 => ?_)
  refine r_nil ?_
  refine e_next ?_
  refine c_seq ?_
  refine c_region_d (fun _ => false) _ mixed (.keep (fun _ _ h => h) (.keep (fun _ _ h => h) (.nil))) ?_
  refine d_val1 0 rfl rfl (by kernel_rfl) (fun _ _ => rfl) .none rfl (p_field Try.underlying27 rfl sz3 rfl) ?_
  refine d_val1 1 rfl rfl (by kernel_rfl) (fun _ _ => rfl) .none rfl (p_ld (k := 1) Try.underlying3 rfl rfl rfl (by first | exact of_decide_eq_true rfl | omega) (rfl : _ = Value.int _ _)) ?_
  refine d_val1 2 rfl rfl (by kernel_rfl) (fun _ _ => rfl) .none rfl (p_field Try.underlying27 rfl sz24 rfl) ?_
  refine d_val1 3 rfl rfl (by kernel_rfl) (fun _ _ => rfl) .none rfl (p_lda (k := 1) Try.underlying24 rfl sz24 rfl rfl (by first | exact of_decide_eq_true rfl | omega) (rfl : _ = Value.agg #[_, _, _, _, _, _])) ?_
  refine d_eff2 4 6 rfl rfl (by kernel_rfl) (fun K_1 hKK_1 hcK_1 => ?_) (fun K_1 hKK_1 hcK_1 => ?_)
  · skip
    refine r_call (vs := [_]) .none rfl cl38 rfl (fun w hw => c_ref _ _ _ _ _ _ w) ?_
    refine r_nil (e_d (i := 4) (brk := (fun _ => false)) (ph' := true) hKK_1 hcK_1 rfl (fun _ => GLe.refl _) (fun _ => .keep (fun _ _ h => h) (.keep (fun _ _ h => h) (.nil))) ?_)
    clear hKK_1 hcK_1 K_1
    refine d_val1 5 rfl rfl (by kernel_rfl) (fun _ _ => rfl) .none rfl (p_build (vs := [(0, Value.int _ _), (1, Value.agg #[_, _, _, _, _, _])]) rfl (bl38_0i1_1a6 _ _ _ _ _ _ _)) ?_
    refine d_eff 6 rfl (by kernel_rfl) (fun K_2 hKK_2 hcK_2 => ?_)
    refine r_alloc .none rfl zr38 (IsRow.lit _) (fun b_3 => ?_)
    refine r_nil (e_d (i := 6) (brk := (fun _ => false)) (ph' := true) hKK_2 hcK_2 rfl (fun _ => GLe.refl _) (fun _ => .drop (.keep (fun _ _ h => h) (.keep (fun _ _ h => h) (.nil)))) ?_)
    clear hKK_2 hcK_2 K_2
    refine d_eff 7 rfl (by kernel_rfl) (fun K_3 hKK_3 hcK_3 => ?_)
    refine r_stw (k := 0) .none sz38 rfl rfl (IsRow.lit _) (one_lit rfl rfl) rfl ?_
    refine r_nil (e_d (i := 7) (brk := (fun _ => false)) (ph' := true) hKK_3 hcK_3 rfl (fun _ => GLe.refl _) (fun _ => .drop (.keep (fun _ _ h => h) (.keep (fun _ _ h => h) (.nil)))) ?_)
    clear hKK_3 hcK_3 K_3
    refine d_nil (by kernel_rfl) ?_
    refine e_next ?_
    refine c_seq ?_
    refine c_seq ?_
    refine c_region ?_
    refine r_val .none rfl (p_field Try.underlying27 rfl sz25 rfl) ?_
    refine r_val .none rfl (p_ld (k := 2) Try.underlying25 rfl rfl rfl (by first | exact of_decide_eq_true rfl | omega) rfl) ?_
    refine r_val .none rfl (p_leng Try.underlying25 rfl hr) ?_
    have bd_4 := (hr).bound
    refine r_val .none rfl (p_move rfl) ?_
    refine r_nil ?_
    refine e_next ?_
    refine c_block ?_
    refine c_nilrow 38 8 ?_
    refine c_name (d := 2) rfl (fun u_5 hu_5 => ?_)
    refine c_name (d := 3) rfl (fun u_6 hu_6 => ?_)
    refine c_name (d := 13) rfl (fun u_7 hu_7 => ?_)
    refine c_name (d := 14) rfl (fun u_8 hu_8 => ?_)
    refine c_nameL (k := 2) rfl (fun A_9 hA_9 => ?_)
    refine c_nameL (k := 3) rfl (fun A_10 hA_10 => ?_)
    refine c_loop (σ := Nat × Value × List (CT × Value) × Ghost) (fun s => [(15, Value.int .i64 (s.1 : Nat)), (2, u_5), (3, u_6), (13, u_7), (14, u_8)]) (fun s => [rowA (s.2.1) 38 8 (s.2.2.1).length ((s.2.2.1).flatMap rvC), box b_3 8 38 (at_ [.int .i64 c.h.k, .int .i64 (vi c.h.v0), .int .i64 c.h.n0, .int .i64 (vi c.h.v1), .int .i64 c.h.n1, .int .i64 (vi c.h.v2), .int .i64 c.h.n2, s.2.1]), A_9, A_10]) (fun s => s.2.2.2) (fun s => s.1 ≤ rs.length ∧ s.2.2.1.map Prod.fst = (rs.map Prod.fst).take s.1 ∧ (∀ p ∈ s.2.2.1, Rs s.2.2.2 p.2 p.1.subs) ∧ GNew w nX G s.2.2.2) (fun s => rs.length - s.1) ((0, _, [], _)) ⟨Nat.zero_le _, rfl, by simp, GNew.refl _ _ _⟩ rfl ⟨rfl, rfl, rfl, rfl, rfl, trivial⟩ (.keep (fun _ _ h => rowA_nil rfl _ _ h) (.keep (fun _ _ h => box_congr (fun i hi => by match i, hi with | 0, _ => rfl | 1, _ => rfl | 2, _ => rfl | 3, _ => rfl | 4, _ => rfl | 5, _ => rfl | 6, _ => rfl | 7, _ => rfl) _ _ h) (.keep (fun _ _ h => h) (.keep (fun _ _ h => h) (.nil))))) (fun s hphi => ?_)
    subst hu_5
    subst hu_6
    subst hu_7
    subst hu_8
    subst hA_9
    subst hA_10
    obtain ⟨k, v, qs, H⟩ := s
    obtain ⟨hk, hq, hqs, hgn⟩ := hphi
    dsimp only at hk hq hqs hgn ⊢
    have hql : qs.length ≤ k := (by have := congrArg List.length hq; simp at this; omega)
    refine c_row1 (k := 0) rfl (fun ov => ?_)
    refine c_rowlen (k := 0) rfl (fun l63 => ?_)
    replace hp := fun p hm0 => (hp p hm0).mono hgn.le
    replace hr := hr.mono hgn.le
    refine c_seq ?_
    refine c_region ?_
    refine r_val .none rfl (p_lt rfl rfl) ?_
    refine r_nil ?_
    refine e_next ?_
    refine c_seq ?_
    refine c_splitd (d := 16) rfl (fun h_11 => ?_) (fun h_11 => ?_)
    · skip
      first
        | (exfalso; omega)
        | (
          refine c_cond_t rfl ?_
          refine c_skip ?_
          refine e_next ?_
          refine c_seq ?_
          refine c_block ?_
          refine c_seq ?_
          refine c_region ?_
          refine r_iaddr_g .none rfl Try.underlying25 sz27 rfl hr rfl (by first | exact of_decide_eq_true rfl | omega) (fun p_13 o_14 R_12 => ?_)
          have hc_15 := hp _ (getD_mem (i := k) (d := d0) (by omega))
          refine r_val .none rfl (p_ldga0 Try.underlying27 rfl sz27 rfl R_12 (by first | exact of_decide_eq_true rfl | omega) (rfl : _ = Value.agg #[_, _, _, _, _, _, _, _])) ?_
          refine r_alloc .none rfl zr27 (IsRow.lit _) (fun b_4 => ?_)
          refine r_stw (k := 0) .none sz27 rfl rfl (IsRow.lit _) (one_lit rfl (all_cons rfl (all_cons rfl (all_cons rfl (all_cons rfl (all_cons rfl (all_cons rfl (all_cons rfl (all_cons (hc_15).one rfl))))))))) rfl ?_
          refine r_nil ?_
          refine e_next ?_
          refine c_region_d (fun j => [5, 6, 7].contains j) _ mixed (.keep (fun _ _ h => h) (.keep (fun _ _ h => h) (.keep (fun _ _ h => h) (.keep (fun _ _ h => h) (.keep (fun _ _ h => h) (.nil)))))) ?_
          refine d_val1 0 rfl rfl (by kernel_rfl) (fun j hj => by have h : 7 < j := (Nat.lt_of_lt_of_le (by decide : 7 < 8) hj); simp; omega) .none rfl (p_field Try.underlying38 rfl sz36 rfl) ?_
          refine d_val1 1 rfl rfl (by kernel_rfl) (fun j hj => by have h : 7 < j := (Nat.lt_of_lt_of_le (by decide : 7 < 8) hj); simp; omega) .none rfl (p_ld (k := 2) Try.underlying36 rfl rfl rfl (by first | exact of_decide_eq_true rfl | omega) rfl) ?_
          refine d_val1 2 rfl rfl (by kernel_rfl) (fun j hj => by have h : 7 < j := (Nat.lt_of_lt_of_le (by decide : 7 < 8) hj); simp; omega) .none rfl (p_ldw (k := 0) Try.underlying27 rfl sz27 rfl rfl (rfl : _ = Value.agg #[_, _, _, _, _, _, _, _])) ?_
          refine d_eff 3 rfl (by kernel_rfl) (fun K_16 hKK_16 hcK_16 => ?_)
          refine r_callm (vs := [_]) .none rfl cl15 rfl (fun w hw => ih (rs.getD k d0).1 _ _ w (size_at hl (by omega) hz) (size_child hl (by omega) hsz) hc_15 hw) (fun G_17 v_20 hn_18 hr_19 => ?_)
          replace hp := fun p hm0 => (hp p hm0).mono hn_18.le
          replace hr := hr.mono hn_18.le
          replace hqs := fun p hm0 => (hqs p hm0).mono hn_18.le
          replace R_12 := R_12.mono hn_18.le
          replace hc_15 := hc_15.mono hn_18.le
          obtain ⟨u_21, rfl, u_21s⟩ := hr_19
          refine r_nil (e_d (i := 3) (brk := (fun j => [5, 6, 7].contains j)) (ph' := true) hKK_16 hcK_16 rfl (fun _ => hn_18.le) (fun _ => .keep (fun _ _ h => h) (.keep (fun _ _ h => h) (.keep (fun _ _ h => h) (.keep (fun _ _ h => h) (.keep (fun _ _ h => h) (.nil)))))) ?_)
          clear hKK_16 hcK_16 K_16
          refine d_eff 4 rfl (by kernel_rfl) (fun K_22 hKK_22 hcK_22 => ?_)
          refine r_bslice (vs := [(0, Value.agg #[_, _, _, _, _, _, _, _])]) (c := #[_, _, _, _, _, _, _, _]) .none rfl Try.underlying36 el38 rfl rfl rfl (bs38_10a8 _ _ _ _ _ _ _ _) (IsRow.lit _) (fun b_5 => ?_)
          refine r_nil (e_d (i := 4) (brk := (fun j => [5, 6, 7].contains j)) (ph' := true) hKK_22 hcK_22 rfl (fun _ => hn_18.le) (fun _ => .drop (.keep (fun _ _ h => h) (.keep (fun _ _ h => h) (.keep (fun _ _ h => h) (.keep (fun _ _ h => h) (.keep (fun _ _ h => h) (.nil))))))) ?_)
          clear hKK_22 hcK_22 K_22
          refine d_eff 5 rfl (by kernel_rfl) (fun K_23 hKK_23 hcK_23 => ?_)
          refine r_append (k := 2) (k2 := 0) .none rfl Try.underlying36 el38 rfl (by decide) rfl rfl rfl rfl rfl (one_lit rfl (all_cons rfl (all_cons rfl (all_cons rfl (all_cons rfl (all_cons rfl (all_cons rfl (all_cons rfl (all_cons (u_21s).one rfl))))))))) (by simp only [maxLen]; omega) (by omega) (fun v_24 => ?_)
          refine r_row1 (k := 2) rfl (fun o_25 => ?_)
          refine r_nil (e_d (i := 5) (brk := (fun j => [5, 6, 7].contains j)) (ph' := false) hKK_23 hcK_23 rfl (fun h => by cases h) (fun h => by cases h) ?_)
          clear hKK_23 hcK_23 K_23
          refine d_val2 6 rfl rfl (by kernel_rfl) .none rfl (fun _ => p_field Try.underlying38 rfl sz36 rfl) ?_
          refine d_eff 7 rfl (by kernel_rfl) (fun K_26 hKK_26 hcK_26 => ?_)
          refine r_st (k := 3) .none sz36 rfl rfl o_25 rfl (by first | exact of_decide_eq_true rfl | omega) ?_
          refine r_nil (e_d (i := 7) (brk := (fun j => [5, 6, 7].contains j)) (ph' := false) hKK_26 hcK_26 rfl (fun h => by cases h) (fun h => by cases h) ?_)
          clear hKK_26 hcK_26 K_26
          refine d_nil (by kernel_rfl) ?_
          refine e_norm_block ?_
          refine e_next ?_
          refine c_region ?_
          refine r_val .none rfl (p_add rfl rfl (by omega)) ?_
          refine r_val .none rfl (p_move rfl) ?_
          refine r_nil ?_
          refine e_round ((k + 1, _, qs ++ [((rs.getD k d0).1, u_21)], _)) ⟨⟨by dsimp only; omega, by rw [map_take (d := d0) (by omega), List.map_append, hq]; rfl, (fun p hp' => by rcases List.mem_append.1 hp' with h | h; exact hqs p h; rw [List.mem_singleton.1 h]; exact u_21s), (hgn.trans hn_18)⟩, by dsimp only; omega⟩ rfl ⟨rfl, rfl, rfl, rfl, rfl, trivial⟩ (.drop (.drop (.keep (fun _ _ h => rowA_snoc (l := qs) (x := ((rs.getD k d0).1, u_21)) rfl rfl rfl rfl _ _ h) (.keep (fun _ _ h => box_congr (fun i hi => by match i, hi with | 0, _ => rfl | 1, _ => rfl | 2, _ => rfl | 3, _ => rfl | 4, _ => rfl | 5, _ => rfl | 6, _ => rfl | 7, _ => rfl) _ _ h) (.keep (fun _ _ h => h) (.keep (fun _ _ h => h) (.nil)))))))
          )
    · skip
      first
        | (exfalso; omega)
        | (
          refine c_cond_f rfl ?_
          refine c_exit ?_
          refine e_exit_then ?_
          refine e_exit_then ?_
          refine e_exit_block ?_
          refine e_next ?_
          refine c_seq ?_
          refine c_region ?_
          refine r_val .none rfl (p_ldw (k := 1) Try.underlying38 rfl sz38 rfl rfl (rfl : _ = Value.agg #[_, _, _, _, _, _, _, _])) ?_
          refine r_stw (k := 2) .none sz38 rfl rfl (IsRow.lit _) (one_lit rfl (all_cons rfl (all_cons rfl (all_cons rfl (all_cons rfl (all_cons rfl (all_cons rfl (all_cons rfl (all_cons ov rfl))))))))) rfl ?_
          refine r_nil ?_
          refine e_next ?_
          refine c_ret ?_
          refine e_freeze (k := 0) rfl (fun G_27 hn_28 hs_29 => ?_)
          replace hp := fun p hm0 => (hp p hm0).mono hn_28.le
          replace hr := hr.mono hn_28.le
          replace hqs := fun p hm0 => (hqs p hm0).mono hn_28.le
          refine e_ret1 Try.results15 (.cell (k := 1) rfl Try.underlying38 rfl sz38 rfl (rfl : _ = Value.agg #[_, _, _, _, _, _, _, _]) .nil) (fun w hm => ⟨_, (hgn.trans hn_28), hm.has, ⟨_, rfl, ?_⟩, hm.since⟩)
          rw [show c.subs = qs.map Prod.fst by rw [hl, hq, List.take_of_length_le (by simp; omega)]]
          exact Tr.mk qs (SlL.of d0 (fun _ => rfl) rfl hs_29) hqs
          )
  · skip
    refine r_alloc .none rfl zr38 (IsRow.lit _) (fun b_6 => ?_)
    refine r_nil (e_d (i := 6) (brk := (fun _ => false)) (ph' := true) hKK_1 hcK_1 rfl (fun _ => GLe.refl _) (fun _ => .drop (.keep (fun _ _ h => h) (.keep (fun _ _ h => h) (.nil)))) ?_)
    clear hKK_1 hcK_1 K_1
    refine d_eff 4 rfl (by kernel_rfl) (fun K_30 hKK_30 hcK_30 => ?_)
    refine r_call (vs := [_]) .none rfl cl38 rfl (fun w hw => c_ref _ _ _ _ _ _ w) ?_
    refine r_nil (e_d (i := 4) (brk := (fun _ => false)) (ph' := true) hKK_30 hcK_30 rfl (fun _ => GLe.refl _) (fun _ => .drop (.keep (fun _ _ h => h) (.keep (fun _ _ h => h) (.nil)))) ?_)
    clear hKK_30 hcK_30 K_30
    refine d_val1 5 rfl rfl (by kernel_rfl) (fun _ _ => rfl) .none rfl (p_build (vs := [(0, Value.int _ _), (1, Value.agg #[_, _, _, _, _, _])]) rfl (bl38_0i1_1a6 _ _ _ _ _ _ _)) ?_
    refine d_eff 7 rfl (by kernel_rfl) (fun K_31 hKK_31 hcK_31 => ?_)
    refine r_stw (k := 0) .none sz38 rfl rfl (IsRow.lit _) (one_lit rfl rfl) rfl ?_
    refine r_nil (e_d (i := 7) (brk := (fun _ => false)) (ph' := true) hKK_31 hcK_31 rfl (fun _ => GLe.refl _) (fun _ => .drop (.keep (fun _ _ h => h) (.keep (fun _ _ h => h) (.nil)))) ?_)
    clear hKK_31 hcK_31 K_31
    refine d_nil (by kernel_rfl) ?_
    refine e_next ?_
    refine c_seq ?_
    refine c_seq ?_
    refine c_region ?_
    refine r_val .none rfl (p_field Try.underlying27 rfl sz25 rfl) ?_
    refine r_val .none rfl (p_ld (k := 2) Try.underlying25 rfl rfl rfl (by first | exact of_decide_eq_true rfl | omega) rfl) ?_
    refine r_val .none rfl (p_leng Try.underlying25 rfl hr) ?_
    have bd_32 := (hr).bound
    refine r_val .none rfl (p_move rfl) ?_
    refine r_nil ?_
    refine e_next ?_
    refine c_block ?_
    refine c_nilrow 38 8 ?_
    refine c_name (d := 2) rfl (fun u_33 hu_33 => ?_)
    refine c_name (d := 3) rfl (fun u_34 hu_34 => ?_)
    refine c_name (d := 13) rfl (fun u_35 hu_35 => ?_)
    refine c_name (d := 14) rfl (fun u_36 hu_36 => ?_)
    refine c_nameL (k := 2) rfl (fun A_37 hA_37 => ?_)
    refine c_nameL (k := 3) rfl (fun A_38 hA_38 => ?_)
    refine c_loop (σ := Nat × Value × List (CT × Value) × Ghost) (fun s => [(15, Value.int .i64 (s.1 : Nat)), (2, u_33), (3, u_34), (13, u_35), (14, u_36)]) (fun s => [rowA (s.2.1) 38 8 (s.2.2.1).length ((s.2.2.1).flatMap rvC), box b_6 8 38 (at_ [.int .i64 c.h.k, .int .i64 (vi c.h.v0), .int .i64 c.h.n0, .int .i64 (vi c.h.v1), .int .i64 c.h.n1, .int .i64 (vi c.h.v2), .int .i64 c.h.n2, s.2.1]), A_37, A_38]) (fun s => s.2.2.2) (fun s => s.1 ≤ rs.length ∧ s.2.2.1.map Prod.fst = (rs.map Prod.fst).take s.1 ∧ (∀ p ∈ s.2.2.1, Rs s.2.2.2 p.2 p.1.subs) ∧ GNew w nX G s.2.2.2) (fun s => rs.length - s.1) ((0, _, [], _)) ⟨Nat.zero_le _, rfl, by simp, GNew.refl _ _ _⟩ rfl ⟨rfl, rfl, rfl, rfl, rfl, trivial⟩ (.keep (fun _ _ h => rowA_nil rfl _ _ h) (.keep (fun _ _ h => box_congr (fun i hi => by match i, hi with | 0, _ => rfl | 1, _ => rfl | 2, _ => rfl | 3, _ => rfl | 4, _ => rfl | 5, _ => rfl | 6, _ => rfl | 7, _ => rfl) _ _ h) (.keep (fun _ _ h => h) (.keep (fun _ _ h => h) (.nil))))) (fun s hphi => ?_)
    subst hu_33
    subst hu_34
    subst hu_35
    subst hu_36
    subst hA_37
    subst hA_38
    obtain ⟨k, v, qs, H⟩ := s
    obtain ⟨hk, hq, hqs, hgn⟩ := hphi
    dsimp only at hk hq hqs hgn ⊢
    have hql : qs.length ≤ k := (by have := congrArg List.length hq; simp at this; omega)
    refine c_row1 (k := 0) rfl (fun ov => ?_)
    refine c_rowlen (k := 0) rfl (fun l63 => ?_)
    replace hp := fun p hm0 => (hp p hm0).mono hgn.le
    replace hr := hr.mono hgn.le
    refine c_seq ?_
    refine c_region ?_
    refine r_val .none rfl (p_lt rfl rfl) ?_
    refine r_nil ?_
    refine e_next ?_
    refine c_seq ?_
    refine c_splitd (d := 16) rfl (fun h_39 => ?_) (fun h_39 => ?_)
    · skip
      first
        | (exfalso; omega)
        | (
          refine c_cond_t rfl ?_
          refine c_skip ?_
          refine e_next ?_
          refine c_seq ?_
          refine c_block ?_
          refine c_seq ?_
          refine c_region ?_
          refine r_iaddr_g .none rfl Try.underlying25 sz27 rfl hr rfl (by first | exact of_decide_eq_true rfl | omega) (fun p_41 o_42 R_40 => ?_)
          have hc_43 := hp _ (getD_mem (i := k) (d := d0) (by omega))
          refine r_val .none rfl (p_ldga0 Try.underlying27 rfl sz27 rfl R_40 (by first | exact of_decide_eq_true rfl | omega) (rfl : _ = Value.agg #[_, _, _, _, _, _, _, _])) ?_
          refine r_alloc .none rfl zr27 (IsRow.lit _) (fun b_7 => ?_)
          refine r_stw (k := 0) .none sz27 rfl rfl (IsRow.lit _) (one_lit rfl (all_cons rfl (all_cons rfl (all_cons rfl (all_cons rfl (all_cons rfl (all_cons rfl (all_cons rfl (all_cons (hc_43).one rfl))))))))) rfl ?_
          refine r_nil ?_
          refine e_next ?_
          refine c_region_d (fun j => [5, 6, 7].contains j) _ mixed (.keep (fun _ _ h => h) (.keep (fun _ _ h => h) (.keep (fun _ _ h => h) (.keep (fun _ _ h => h) (.keep (fun _ _ h => h) (.nil)))))) ?_
          refine d_val1 0 rfl rfl (by kernel_rfl) (fun j hj => by have h : 7 < j := (Nat.lt_of_lt_of_le (by decide : 7 < 8) hj); simp; omega) .none rfl (p_field Try.underlying38 rfl sz36 rfl) ?_
          refine d_val1 1 rfl rfl (by kernel_rfl) (fun j hj => by have h : 7 < j := (Nat.lt_of_lt_of_le (by decide : 7 < 8) hj); simp; omega) .none rfl (p_ld (k := 2) Try.underlying36 rfl rfl rfl (by first | exact of_decide_eq_true rfl | omega) rfl) ?_
          refine d_val1 2 rfl rfl (by kernel_rfl) (fun j hj => by have h : 7 < j := (Nat.lt_of_lt_of_le (by decide : 7 < 8) hj); simp; omega) .none rfl (p_ldw (k := 0) Try.underlying27 rfl sz27 rfl rfl (rfl : _ = Value.agg #[_, _, _, _, _, _, _, _])) ?_
          refine d_eff 3 rfl (by kernel_rfl) (fun K_44 hKK_44 hcK_44 => ?_)
          refine r_callm (vs := [_]) .none rfl cl15 rfl (fun w hw => ih (rs.getD k d0).1 _ _ w (size_at hl (by omega) hz) (size_child hl (by omega) hsz) hc_43 hw) (fun G_45 v_48 hn_46 hr_47 => ?_)
          replace hp := fun p hm0 => (hp p hm0).mono hn_46.le
          replace hr := hr.mono hn_46.le
          replace hqs := fun p hm0 => (hqs p hm0).mono hn_46.le
          replace R_40 := R_40.mono hn_46.le
          replace hc_43 := hc_43.mono hn_46.le
          obtain ⟨u_49, rfl, u_49s⟩ := hr_47
          refine r_nil (e_d (i := 3) (brk := (fun j => [5, 6, 7].contains j)) (ph' := true) hKK_44 hcK_44 rfl (fun _ => hn_46.le) (fun _ => .keep (fun _ _ h => h) (.keep (fun _ _ h => h) (.keep (fun _ _ h => h) (.keep (fun _ _ h => h) (.keep (fun _ _ h => h) (.nil)))))) ?_)
          clear hKK_44 hcK_44 K_44
          refine d_eff 4 rfl (by kernel_rfl) (fun K_50 hKK_50 hcK_50 => ?_)
          refine r_bslice (vs := [(0, Value.agg #[_, _, _, _, _, _, _, _])]) (c := #[_, _, _, _, _, _, _, _]) .none rfl Try.underlying36 el38 rfl rfl rfl (bs38_10a8 _ _ _ _ _ _ _ _) (IsRow.lit _) (fun b_8 => ?_)
          refine r_nil (e_d (i := 4) (brk := (fun j => [5, 6, 7].contains j)) (ph' := true) hKK_50 hcK_50 rfl (fun _ => hn_46.le) (fun _ => .drop (.keep (fun _ _ h => h) (.keep (fun _ _ h => h) (.keep (fun _ _ h => h) (.keep (fun _ _ h => h) (.keep (fun _ _ h => h) (.nil))))))) ?_)
          clear hKK_50 hcK_50 K_50
          refine d_eff 5 rfl (by kernel_rfl) (fun K_51 hKK_51 hcK_51 => ?_)
          refine r_append (k := 2) (k2 := 0) .none rfl Try.underlying36 el38 rfl (by decide) rfl rfl rfl rfl rfl (one_lit rfl (all_cons rfl (all_cons rfl (all_cons rfl (all_cons rfl (all_cons rfl (all_cons rfl (all_cons rfl (all_cons (u_49s).one rfl))))))))) (by simp only [maxLen]; omega) (by omega) (fun v_52 => ?_)
          refine r_row1 (k := 2) rfl (fun o_53 => ?_)
          refine r_nil (e_d (i := 5) (brk := (fun j => [5, 6, 7].contains j)) (ph' := false) hKK_51 hcK_51 rfl (fun h => by cases h) (fun h => by cases h) ?_)
          clear hKK_51 hcK_51 K_51
          refine d_val2 6 rfl rfl (by kernel_rfl) .none rfl (fun _ => p_field Try.underlying38 rfl sz36 rfl) ?_
          refine d_eff 7 rfl (by kernel_rfl) (fun K_54 hKK_54 hcK_54 => ?_)
          refine r_st (k := 3) .none sz36 rfl rfl o_53 rfl (by first | exact of_decide_eq_true rfl | omega) ?_
          refine r_nil (e_d (i := 7) (brk := (fun j => [5, 6, 7].contains j)) (ph' := false) hKK_54 hcK_54 rfl (fun h => by cases h) (fun h => by cases h) ?_)
          clear hKK_54 hcK_54 K_54
          refine d_nil (by kernel_rfl) ?_
          refine e_norm_block ?_
          refine e_next ?_
          refine c_region ?_
          refine r_val .none rfl (p_add rfl rfl (by omega)) ?_
          refine r_val .none rfl (p_move rfl) ?_
          refine r_nil ?_
          refine e_round ((k + 1, _, qs ++ [((rs.getD k d0).1, u_49)], _)) ⟨⟨by dsimp only; omega, by rw [map_take (d := d0) (by omega), List.map_append, hq]; rfl, (fun p hp' => by rcases List.mem_append.1 hp' with h | h; exact hqs p h; rw [List.mem_singleton.1 h]; exact u_49s), (hgn.trans hn_46)⟩, by dsimp only; omega⟩ rfl ⟨rfl, rfl, rfl, rfl, rfl, trivial⟩ (.drop (.drop (.keep (fun _ _ h => rowA_snoc (l := qs) (x := ((rs.getD k d0).1, u_49)) rfl rfl rfl rfl _ _ h) (.keep (fun _ _ h => box_congr (fun i hi => by match i, hi with | 0, _ => rfl | 1, _ => rfl | 2, _ => rfl | 3, _ => rfl | 4, _ => rfl | 5, _ => rfl | 6, _ => rfl | 7, _ => rfl) _ _ h) (.keep (fun _ _ h => h) (.keep (fun _ _ h => h) (.nil)))))))
          )
    · skip
      first
        | (exfalso; omega)
        | (
          refine c_cond_f rfl ?_
          refine c_exit ?_
          refine e_exit_then ?_
          refine e_exit_then ?_
          refine e_exit_block ?_
          refine e_next ?_
          refine c_seq ?_
          refine c_region ?_
          refine r_val .none rfl (p_ldw (k := 1) Try.underlying38 rfl sz38 rfl rfl (rfl : _ = Value.agg #[_, _, _, _, _, _, _, _])) ?_
          refine r_stw (k := 2) .none sz38 rfl rfl (IsRow.lit _) (one_lit rfl (all_cons rfl (all_cons rfl (all_cons rfl (all_cons rfl (all_cons rfl (all_cons rfl (all_cons rfl (all_cons ov rfl))))))))) rfl ?_
          refine r_nil ?_
          refine e_next ?_
          refine c_ret ?_
          refine e_freeze (k := 0) rfl (fun G_55 hn_56 hs_57 => ?_)
          replace hp := fun p hm0 => (hp p hm0).mono hn_56.le
          replace hr := hr.mono hn_56.le
          replace hqs := fun p hm0 => (hqs p hm0).mono hn_56.le
          refine e_ret1 Try.results15 (.cell (k := 1) rfl Try.underlying38 rfl sz38 rfl (rfl : _ = Value.agg #[_, _, _, _, _, _, _, _]) .nil) (fun w hm => ⟨_, (hgn.trans hn_56), hm.has, ⟨_, rfl, ?_⟩, hm.since⟩)
          rw [show c.subs = qs.map Prod.fst by rw [hl, hq, List.take_of_length_le (by simp; omega)]]
          exact Tr.mk qs (SlL.of d0 (fun _ => rfl) rfl hs_57) hqs
          )
theorem c_ref4_n : ∀ n, RefIs n
  | 0 => fun c sv G w hz hsz hs hG => absurd hz (by have := size_subs c; omega)
  | n + 1 => fun c sv G w hz hsz hs hG => c_ref4_s n (c_ref4_n n) c sv hz hsz hs w hG
theorem c_ref4 (c : CT) (sv : Value) {G : Ghost} (hsz : size c ≤ 1000) (hs : Cs G sv c.subs) (w : World) (hG : Has G w) : Calls Try.prog 15 #[Value.agg #[Value.int .i64 c.h.k, Value.bool c.h.v0, Value.int .i64 c.h.n0, Value.bool c.h.v1, Value.int .i64 c.h.n1, Value.bool c.h.v2, Value.int .i64 c.h.n2, sv]] w (Ret fun r w' => ∃ G', GNew w nX G G' ∧ Has G' w' ∧ (∃ u, r = Value.agg #[Value.int .i64 c.h.k, Value.int .i64 (vi c.h.v0), Value.int .i64 c.h.n0, Value.int .i64 (vi c.h.v1), Value.int .i64 c.h.n1, Value.int .i64 (vi c.h.v2), Value.int .i64 c.h.n2, u] ∧ Rs G' u c.subs) ∧ Since nX w w') := c_ref4_n _ c sv G w (Nat.le_refl _) hsz hs hG
end Go.Proofs.Ytpcpbfajadgmpaa
