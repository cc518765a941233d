/- Walks: what Go functions of this chapter come to, each as a function on plain data; no condition but those that each theorem names. Printed by a program of this work (gen.py). -/
import Derived.Test.YtinbigokigkfaaaW13d
import Derived.Test.YtinbigokigkfaaaPl13
import Derived.Test.YtinbigokigkfaaaGxFreeze
import Derived.Test.YtinbigokigkfaaaRows
namespace Go.Proofs.Ytinbigokigkfaaa
open Go.Gx Go.Gx.T13 Go.Gx.T8 Go.Gx.T4 Go.Gx.T3 Go.Gx.T3 Go.Gx.T4 Go.Gx.T3 Go.Gx.T8 Go.Gx.T4 Go.Gx.T3
theorem sz26 : SzIs Try.prog 26 3 := by
  unfold SzIs
  kernel_rfl
theorem sz63 : SzIs Try.prog 63 3 := by
  unfold SzIs
  kernel_rfl
theorem zr26 : ZeroIs Try.prog 26 (Value.agg #[Value.int .i64 0, Value.int .i64 0, Value.int .i64 0]) := by
  unfold ZeroIs
  kernel_rfl
theorem zr63 : ZeroIs Try.prog 63 (Value.agg #[Value.int .i64 0, Value.int .i64 0, Value.int .i64 0]) := by
  unfold ZeroIs
  kernel_rfl
theorem cl27 : Callable Try.prog 27 := callable Try.func27 (by kernel_rfl) rfl
theorem cl28 : Callable Try.prog 28 := callable Try.func28 (by kernel_rfl) rfl
theorem cl68 : Callable Try.prog 68 := callable Try.func68 (by kernel_rfl) rfl
theorem cl69 : Callable Try.prog 69 := callable Try.func69 (by kernel_rfl) rfl
theorem bl59_0i1_2s3 (x0 : Int) (x1 : Option Addr) (x2 : Nat) (x3 : Nat) : Program.built Try.prog 59 [(0, Value.int .i64 x0), (2, Value.slice x1 x2 x3)] = some #[Value.int .i64 x0, Value.int .i64 0, Value.int .i64 0, Value.int .i64 0, Value.slice x1 x2 x3, Value.slice none 0 0] := by
  kernel_rfl
theorem bl26_0i1_1i1_2i1 (x0 : Int) (x1 : Int) (x2 : Int) : Program.built Try.prog 26 [(0, Value.int .i64 x0), (1, Value.int .i64 x1), (2, Value.int .i64 x2)] = some #[Value.int .i64 x0, Value.int .i64 x1, Value.int .i64 x2] := by
  kernel_rfl
theorem bs26_10a3 (a0 a1 a2 : Value) : Instr.fill (fun i => some (i * 3, 3)) ((Array.range (1 * 3)).map ((Value.agg #[Value.int .i64 0, Value.int .i64 0, Value.int .i64 0]).cells[· % (Value.agg #[Value.int .i64 0, Value.int .i64 0, Value.int .i64 0]).cells.size]!)) [(0, Value.agg #[a0, a1, a2])] = some #[a0, a1, a2] := by
  kernel_rfl
theorem el26 : ElemIs Try.prog 26 3 24 (Value.agg #[Value.int .i64 0, Value.int .i64 0, Value.int .i64 0]) := by
  unfold ElemIs
  kernel_rfl
theorem c_khas (t k : Tri)  (w : World)  :
    Calls Try.prog 68 #[kT t, kT k] w (Ret fun r w' => r = Value.bool (hasK t k) ∧ Since nX w w') := by
  refine enter (args := [_, _]) (X := nX) (G := (fun _ => none)) (l := [(0, kT t), (1, kT k)]) Try.func68 rfl Try.ntmps68 (fun _ _ h => by cases h) ⟨rfl, rfl, trivial⟩ (Nat.le_of_ble_eq_true rfl) ?_
  refine c_seq ?_
  refine c_region ?_
  refine r_box .none rfl rfl (IsRow.lit _) (fun b_1 => ?_)
  refine r_box .none rfl rfl (IsRow.lit _) (fun b_2 => ?_)
  refine r_val .none rfl (p_assign rfl) ?_
  refine r_nil ?_
  refine e_next ?_
  refine c_seq ?_
  refine c_seq ?_
  refine c_region ?_
  refine r_val .none rfl (p_ldw (k := 0) Try.underlying26 rfl sz26 rfl rfl (rfl : _ = Value.agg #[_, _, _])) ?_
  refine r_val .none rfl (p_move rfl) ?_
  refine r_nil ?_
  refine e_next ?_
  refine c_block ?_
  refine c_unroll 4 ?_
  refine l_round (n := 3) ?_
  refine c_seq ?_
  refine c_region ?_
  refine r_val .none rfl (p_lt rfl rfl) ?_
  refine r_say (d := 9) (v := Value.bool true) rfl ?_
  refine r_nil ?_
  refine e_next ?_
  refine c_seq ?_
  refine c_cond_t rfl ?_
  refine c_skip ?_
  refine e_next ?_
  refine c_seq ?_
  refine c_block ?_
  refine c_seq ?_
  refine c_region ?_
  refine r_val .none rfl (p_move rfl) ?_
  refine r_val .none rfl (p_index (k := 0) Try.underlying26 Try.underlying3 rfl sz3 rfl (IsRow.lit _) rfl (by first | exact of_decide_eq_true rfl | omega) (rfl : _ = Value.int _ _)) ?_
  refine r_val .none rfl (p_assign rfl) ?_
  refine r_val .none rfl (p_assign rfl) ?_
  refine r_nil ?_
  refine e_next ?_
  refine c_seq ?_
  refine c_region ?_
  refine r_val .none rfl (p_move rfl) ?_
  refine r_val .none rfl (p_ne rfl rfl) ?_
  refine r_val .none rfl (p_move rfl) ?_
  refine r_splitd (d := 14) rfl (fun h_1 => ?_) (fun h_1 => ?_)
  · skip
    first
      | (exfalso; omega)
      | (
        refine r_val (.some rfl rfl) rfl (p_move rfl) ?_
        refine r_val (.some rfl rfl) rfl (p_move rfl) ?_
        refine r_val (.some rfl rfl) rfl (p_iaddr (k := 0) Try.underlying26 sz3 rfl rfl (by first | exact of_decide_eq_true rfl | omega)) ?_
        refine r_val (.some rfl rfl) rfl (p_ld (k := 1) Try.underlying3 rfl rfl rfl (by first | exact of_decide_eq_true rfl | omega) (rfl : _ = Value.int _ _)) ?_
        refine r_val (.some rfl rfl) rfl (p_ne rfl rfl) ?_
        refine r_val .none rfl (p_pick_t rfl rfl) ?_
        refine r_nil ?_
        refine e_next ?_
        refine c_splitd (d := 20) rfl (fun h_2 => ?_) (fun h_2 => ?_)
        · skip
          first
            | (exfalso; omega)
            | (
              refine c_cond_t rfl ?_
              refine c_seq ?_
              refine c_region ?_
              refine r_val .none rfl (p_assign rfl) ?_
              refine r_nil ?_
              refine e_next ?_
              refine c_ret ?_
              refine e_ret_block ?_
              refine e_ret_then ?_
              refine e_ret_then ?_
              refine e_ret_block ?_
              refine e_ret_then ?_
              refine e_ret1 Try.results68 (.tmp rfl .nil) (fun w hm => ⟨?_, hm.since⟩)
              (simp [hasK, triL, at_] at *; try omega)
              )
        · skip
          first
            | (exfalso; omega)
            | (
              refine c_cond_f rfl ?_
              refine c_skip ?_
              refine e_norm_block ?_
              refine e_next ?_
              refine c_region ?_
              refine r_val .none rfl (p_add rfl rfl (by omega)) ?_
              refine r_val .none rfl (p_move rfl) ?_
              refine r_nil ?_
              refine e_again ?_
              refine l_round (n := 2) ?_
              refine c_seq ?_
              refine c_region ?_
              refine r_val .none rfl (p_lt rfl rfl) ?_
              refine r_say (d := 9) (v := Value.bool true) rfl ?_
              refine r_nil ?_
              refine e_next ?_
              refine c_seq ?_
              refine c_cond_t rfl ?_
              refine c_skip ?_
              refine e_next ?_
              refine c_seq ?_
              refine c_block ?_
              refine c_seq ?_
              refine c_region ?_
              refine r_val .none rfl (p_move rfl) ?_
              refine r_val .none rfl (p_index (k := 1) Try.underlying26 Try.underlying3 rfl sz3 rfl (IsRow.lit _) rfl (by first | exact of_decide_eq_true rfl | omega) (rfl : _ = Value.int _ _)) ?_
              refine r_val .none rfl (p_assign rfl) ?_
              refine r_val .none rfl (p_assign rfl) ?_
              refine r_nil ?_
              refine e_next ?_
              refine c_seq ?_
              refine c_region ?_
              refine r_val .none rfl (p_move rfl) ?_
              refine r_val .none rfl (p_ne rfl rfl) ?_
              refine r_val .none rfl (p_move rfl) ?_
              refine r_splitd (d := 14) rfl (fun h_3 => ?_) (fun h_3 => ?_)
              · skip
                first
                  | (exfalso; omega)
                  | (
                    refine r_val (.some rfl rfl) rfl (p_move rfl) ?_
                    refine r_val (.some rfl rfl) rfl (p_move rfl) ?_
                    refine r_val (.some rfl rfl) rfl (p_iaddr (k := 1) Try.underlying26 sz3 rfl rfl (by first | exact of_decide_eq_true rfl | omega)) ?_
                    refine r_val (.some rfl rfl) rfl (p_ld (k := 1) Try.underlying3 rfl rfl rfl (by first | exact of_decide_eq_true rfl | omega) (rfl : _ = Value.int _ _)) ?_
                    refine r_val (.some rfl rfl) rfl (p_ne rfl rfl) ?_
                    refine r_val .none rfl (p_pick_t rfl rfl) ?_
                    refine r_nil ?_
                    refine e_next ?_
                    refine c_splitd (d := 20) rfl (fun h_4 => ?_) (fun h_4 => ?_)
                    · skip
                      first
                        | (exfalso; omega)
                        | (
                          refine c_cond_t rfl ?_
                          refine c_seq ?_
                          refine c_region ?_
                          refine r_val .none rfl (p_assign rfl) ?_
                          refine r_nil ?_
                          refine e_next ?_
                          refine c_ret ?_
                          refine e_ret_block ?_
                          refine e_ret_then ?_
                          refine e_ret_then ?_
                          refine e_ret_block ?_
                          refine e_ret_then ?_
                          refine e_ret1 Try.results68 (.tmp rfl .nil) (fun w hm => ⟨?_, hm.since⟩)
                          (simp [hasK, triL, at_] at *; try omega)
                          )
                    · skip
                      first
                        | (exfalso; omega)
                        | (
                          refine c_cond_f rfl ?_
                          refine c_skip ?_
                          refine e_norm_block ?_
                          refine e_next ?_
                          refine c_region ?_
                          refine r_val .none rfl (p_add rfl rfl (by omega)) ?_
                          refine r_val .none rfl (p_move rfl) ?_
                          refine r_nil ?_
                          refine e_again ?_
                          refine l_round (n := 1) ?_
                          refine c_seq ?_
                          refine c_region ?_
                          refine r_val .none rfl (p_lt rfl rfl) ?_
                          refine r_say (d := 9) (v := Value.bool true) rfl ?_
                          refine r_nil ?_
                          refine e_next ?_
                          refine c_seq ?_
                          refine c_cond_t rfl ?_
                          refine c_skip ?_
                          refine e_next ?_
                          refine c_seq ?_
                          refine c_block ?_
                          refine c_seq ?_
                          refine c_region ?_
                          refine r_val .none rfl (p_move rfl) ?_
                          refine r_val .none rfl (p_index (k := 2) Try.underlying26 Try.underlying3 rfl sz3 rfl (IsRow.lit _) rfl (by first | exact of_decide_eq_true rfl | omega) (rfl : _ = Value.int _ _)) ?_
                          refine r_val .none rfl (p_assign rfl) ?_
                          refine r_val .none rfl (p_assign rfl) ?_
                          refine r_nil ?_
                          refine e_next ?_
                          refine c_seq ?_
                          refine c_region ?_
                          refine r_val .none rfl (p_move rfl) ?_
                          refine r_val .none rfl (p_ne rfl rfl) ?_
                          refine r_val .none rfl (p_move rfl) ?_
                          refine r_splitd (d := 14) rfl (fun h_5 => ?_) (fun h_5 => ?_)
                          · skip
                            first
                              | (exfalso; omega)
                              | (
                                refine r_val (.some rfl rfl) rfl (p_move rfl) ?_
                                refine r_val (.some rfl rfl) rfl (p_move rfl) ?_
                                refine r_val (.some rfl rfl) rfl (p_iaddr (k := 2) Try.underlying26 sz3 rfl rfl (by first | exact of_decide_eq_true rfl | omega)) ?_
                                refine r_val (.some rfl rfl) rfl (p_ld (k := 1) Try.underlying3 rfl rfl rfl (by first | exact of_decide_eq_true rfl | omega) (rfl : _ = Value.int _ _)) ?_
                                refine r_val (.some rfl rfl) rfl (p_ne rfl rfl) ?_
                                refine r_val .none rfl (p_pick_t rfl rfl) ?_
                                refine r_nil ?_
                                refine e_next ?_
                                refine c_splitd (d := 20) rfl (fun h_6 => ?_) (fun h_6 => ?_)
                                · skip
                                  first
                                    | (exfalso; omega)
                                    | (
                                      refine c_cond_t rfl ?_
                                      refine c_seq ?_
                                      refine c_region ?_
                                      refine r_val .none rfl (p_assign rfl) ?_
                                      refine r_nil ?_
                                      refine e_next ?_
                                      refine c_ret ?_
                                      refine e_ret_block ?_
                                      refine e_ret_then ?_
                                      refine e_ret_then ?_
                                      refine e_ret_block ?_
                                      refine e_ret_then ?_
                                      refine e_ret1 Try.results68 (.tmp rfl .nil) (fun w hm => ⟨?_, hm.since⟩)
                                      (simp [hasK, triL, at_] at *; try omega)
                                      )
                                · skip
                                  first
                                    | (exfalso; omega)
                                    | (
                                      refine c_cond_f rfl ?_
                                      refine c_skip ?_
                                      refine e_norm_block ?_
                                      refine e_next ?_
                                      refine c_region ?_
                                      refine r_val .none rfl (p_add rfl rfl (by omega)) ?_
                                      refine r_val .none rfl (p_move rfl) ?_
                                      refine r_nil ?_
                                      refine e_again ?_
                                      refine l_round (n := 0) ?_
                                      refine c_seq ?_
                                      refine c_region ?_
                                      refine r_val .none rfl (p_lt rfl rfl) ?_
                                      refine r_say (d := 9) (v := Value.bool false) rfl ?_
                                      refine r_nil ?_
                                      refine e_next ?_
                                      refine c_seq ?_
                                      refine c_cond_f rfl ?_
                                      refine c_exit ?_
                                      refine e_exit_then ?_
                                      refine e_exit_then ?_
                                      refine e_exit_block ?_
                                      refine e_next ?_
                                      refine c_seq ?_
                                      refine c_region ?_
                                      refine r_val .none rfl (p_assign rfl) ?_
                                      refine r_nil ?_
                                      refine e_next ?_
                                      refine c_ret ?_
                                      refine e_ret1 Try.results68 (.tmp rfl .nil) (fun w hm => ⟨?_, hm.since⟩)
                                      (simp [hasK, triL, at_] at *; try omega)
                                      )
                                )
                          · skip
                            first
                              | (exfalso; omega)
                              | (
                                refine r_skip rfl (.no rfl rfl) ?_
                                refine r_skip rfl (.no rfl rfl) ?_
                                refine r_skip rfl (.no rfl rfl) ?_
                                refine r_skip rfl (.no rfl rfl) ?_
                                refine r_skip rfl (.no rfl rfl) ?_
                                refine r_val .none rfl (p_pick_f rfl rfl) ?_
                                refine r_nil ?_
                                refine e_next ?_
                                refine c_cond_f rfl ?_
                                refine c_skip ?_
                                refine e_norm_block ?_
                                refine e_next ?_
                                refine c_region ?_
                                refine r_val .none rfl (p_add rfl rfl (by omega)) ?_
                                refine r_val .none rfl (p_move rfl) ?_
                                refine r_nil ?_
                                refine e_again ?_
                                refine l_round (n := 0) ?_
                                refine c_seq ?_
                                refine c_region ?_
                                refine r_val .none rfl (p_lt rfl rfl) ?_
                                refine r_say (d := 9) (v := Value.bool false) rfl ?_
                                refine r_nil ?_
                                refine e_next ?_
                                refine c_seq ?_
                                refine c_cond_f rfl ?_
                                refine c_exit ?_
                                refine e_exit_then ?_
                                refine e_exit_then ?_
                                refine e_exit_block ?_
                                refine e_next ?_
                                refine c_seq ?_
                                refine c_region ?_
                                refine r_val .none rfl (p_assign rfl) ?_
                                refine r_nil ?_
                                refine e_next ?_
                                refine c_ret ?_
                                refine e_ret1 Try.results68 (.tmp rfl .nil) (fun w hm => ⟨?_, hm.since⟩)
                                (simp [hasK, triL, at_] at *; try omega)
                                )
                          )
                    )
              · skip
                first
                  | (exfalso; omega)
                  | (
                    refine r_skip rfl (.no rfl rfl) ?_
                    refine r_skip rfl (.no rfl rfl) ?_
                    refine r_skip rfl (.no rfl rfl) ?_
                    refine r_skip rfl (.no rfl rfl) ?_
                    refine r_skip rfl (.no rfl rfl) ?_
                    refine r_val .none rfl (p_pick_f rfl rfl) ?_
                    refine r_nil ?_
                    refine e_next ?_
                    refine c_cond_f rfl ?_
                    refine c_skip ?_
                    refine e_norm_block ?_
                    refine e_next ?_
                    refine c_region ?_
                    refine r_val .none rfl (p_add rfl rfl (by omega)) ?_
                    refine r_val .none rfl (p_move rfl) ?_
                    refine r_nil ?_
                    refine e_again ?_
                    refine l_round (n := 1) ?_
                    refine c_seq ?_
                    refine c_region ?_
                    refine r_val .none rfl (p_lt rfl rfl) ?_
                    refine r_say (d := 9) (v := Value.bool true) rfl ?_
                    refine r_nil ?_
                    refine e_next ?_
                    refine c_seq ?_
                    refine c_cond_t rfl ?_
                    refine c_skip ?_
                    refine e_next ?_
                    refine c_seq ?_
                    refine c_block ?_
                    refine c_seq ?_
                    refine c_region ?_
                    refine r_val .none rfl (p_move rfl) ?_
                    refine r_val .none rfl (p_index (k := 2) Try.underlying26 Try.underlying3 rfl sz3 rfl (IsRow.lit _) rfl (by first | exact of_decide_eq_true rfl | omega) (rfl : _ = Value.int _ _)) ?_
                    refine r_val .none rfl (p_assign rfl) ?_
                    refine r_val .none rfl (p_assign rfl) ?_
                    refine r_nil ?_
                    refine e_next ?_
                    refine c_seq ?_
                    refine c_region ?_
                    refine r_val .none rfl (p_move rfl) ?_
                    refine r_val .none rfl (p_ne rfl rfl) ?_
                    refine r_val .none rfl (p_move rfl) ?_
                    refine r_splitd (d := 14) rfl (fun h_7 => ?_) (fun h_7 => ?_)
                    · skip
                      first
                        | (exfalso; omega)
                        | (
                          refine r_val (.some rfl rfl) rfl (p_move rfl) ?_
                          refine r_val (.some rfl rfl) rfl (p_move rfl) ?_
                          refine r_val (.some rfl rfl) rfl (p_iaddr (k := 2) Try.underlying26 sz3 rfl rfl (by first | exact of_decide_eq_true rfl | omega)) ?_
                          refine r_val (.some rfl rfl) rfl (p_ld (k := 1) Try.underlying3 rfl rfl rfl (by first | exact of_decide_eq_true rfl | omega) (rfl : _ = Value.int _ _)) ?_
                          refine r_val (.some rfl rfl) rfl (p_ne rfl rfl) ?_
                          refine r_val .none rfl (p_pick_t rfl rfl) ?_
                          refine r_nil ?_
                          refine e_next ?_
                          refine c_splitd (d := 20) rfl (fun h_8 => ?_) (fun h_8 => ?_)
                          · skip
                            first
                              | (exfalso; omega)
                              | (
                                refine c_cond_t rfl ?_
                                refine c_seq ?_
                                refine c_region ?_
                                refine r_val .none rfl (p_assign rfl) ?_
                                refine r_nil ?_
                                refine e_next ?_
                                refine c_ret ?_
                                refine e_ret_block ?_
                                refine e_ret_then ?_
                                refine e_ret_then ?_
                                refine e_ret_block ?_
                                refine e_ret_then ?_
                                refine e_ret1 Try.results68 (.tmp rfl .nil) (fun w hm => ⟨?_, hm.since⟩)
                                (simp [hasK, triL, at_] at *; try omega)
                                )
                          · skip
                            first
                              | (exfalso; omega)
                              | (
                                refine c_cond_f rfl ?_
                                refine c_skip ?_
                                refine e_norm_block ?_
                                refine e_next ?_
                                refine c_region ?_
                                refine r_val .none rfl (p_add rfl rfl (by omega)) ?_
                                refine r_val .none rfl (p_move rfl) ?_
                                refine r_nil ?_
                                refine e_again ?_
                                refine l_round (n := 0) ?_
                                refine c_seq ?_
                                refine c_region ?_
                                refine r_val .none rfl (p_lt rfl rfl) ?_
                                refine r_say (d := 9) (v := Value.bool false) rfl ?_
                                refine r_nil ?_
                                refine e_next ?_
                                refine c_seq ?_
                                refine c_cond_f rfl ?_
                                refine c_exit ?_
                                refine e_exit_then ?_
                                refine e_exit_then ?_
                                refine e_exit_block ?_
                                refine e_next ?_
                                refine c_seq ?_
                                refine c_region ?_
                                refine r_val .none rfl (p_assign rfl) ?_
                                refine r_nil ?_
                                refine e_next ?_
                                refine c_ret ?_
                                refine e_ret1 Try.results68 (.tmp rfl .nil) (fun w hm => ⟨?_, hm.since⟩)
                                (simp [hasK, triL, at_] at *; try omega)
                                )
                          )
                    · skip
                      first
                        | (exfalso; omega)
                        | (
                          refine r_skip rfl (.no rfl rfl) ?_
                          refine r_skip rfl (.no rfl rfl) ?_
                          refine r_skip rfl (.no rfl rfl) ?_
                          refine r_skip rfl (.no rfl rfl) ?_
                          refine r_skip rfl (.no rfl rfl) ?_
                          refine r_val .none rfl (p_pick_f rfl rfl) ?_
                          refine r_nil ?_
                          refine e_next ?_
                          refine c_cond_f rfl ?_
                          refine c_skip ?_
                          refine e_norm_block ?_
                          refine e_next ?_
                          refine c_region ?_
                          refine r_val .none rfl (p_add rfl rfl (by omega)) ?_
                          refine r_val .none rfl (p_move rfl) ?_
                          refine r_nil ?_
                          refine e_again ?_
                          refine l_round (n := 0) ?_
                          refine c_seq ?_
                          refine c_region ?_
                          refine r_val .none rfl (p_lt rfl rfl) ?_
                          refine r_say (d := 9) (v := Value.bool false) rfl ?_
                          refine r_nil ?_
                          refine e_next ?_
                          refine c_seq ?_
                          refine c_cond_f rfl ?_
                          refine c_exit ?_
                          refine e_exit_then ?_
                          refine e_exit_then ?_
                          refine e_exit_block ?_
                          refine e_next ?_
                          refine c_seq ?_
                          refine c_region ?_
                          refine r_val .none rfl (p_assign rfl) ?_
                          refine r_nil ?_
                          refine e_next ?_
                          refine c_ret ?_
                          refine e_ret1 Try.results68 (.tmp rfl .nil) (fun w hm => ⟨?_, hm.since⟩)
                          (simp [hasK, triL, at_] at *; try omega)
                          )
                    )
              )
        )
  · skip
    first
      | (exfalso; omega)
      | (
        refine r_skip rfl (.no rfl rfl) ?_
        refine r_skip rfl (.no rfl rfl) ?_
        refine r_skip rfl (.no rfl rfl) ?_
        refine r_skip rfl (.no rfl rfl) ?_
        refine r_skip rfl (.no rfl rfl) ?_
        refine r_val .none rfl (p_pick_f rfl rfl) ?_
        refine r_nil ?_
        refine e_next ?_
        refine c_cond_f rfl ?_
        refine c_skip ?_
        refine e_norm_block ?_
        refine e_next ?_
        refine c_region ?_
        refine r_val .none rfl (p_add rfl rfl (by omega)) ?_
        refine r_val .none rfl (p_move rfl) ?_
        refine r_nil ?_
        refine e_again ?_
        refine l_round (n := 2) ?_
        refine c_seq ?_
        refine c_region ?_
        refine r_val .none rfl (p_lt rfl rfl) ?_
        refine r_say (d := 9) (v := Value.bool true) rfl ?_
        refine r_nil ?_
        refine e_next ?_
        refine c_seq ?_
        refine c_cond_t rfl ?_
        refine c_skip ?_
        refine e_next ?_
        refine c_seq ?_
        refine c_block ?_
        refine c_seq ?_
        refine c_region ?_
        refine r_val .none rfl (p_move rfl) ?_
        refine r_val .none rfl (p_index (k := 1) Try.underlying26 Try.underlying3 rfl sz3 rfl (IsRow.lit _) rfl (by first | exact of_decide_eq_true rfl | omega) (rfl : _ = Value.int _ _)) ?_
        refine r_val .none rfl (p_assign rfl) ?_
        refine r_val .none rfl (p_assign rfl) ?_
        refine r_nil ?_
        refine e_next ?_
        refine c_seq ?_
        refine c_region ?_
        refine r_val .none rfl (p_move rfl) ?_
        refine r_val .none rfl (p_ne rfl rfl) ?_
        refine r_val .none rfl (p_move rfl) ?_
        refine r_splitd (d := 14) rfl (fun h_9 => ?_) (fun h_9 => ?_)
        · skip
          first
            | (exfalso; omega)
            | (
              refine r_val (.some rfl rfl) rfl (p_move rfl) ?_
              refine r_val (.some rfl rfl) rfl (p_move rfl) ?_
              refine r_val (.some rfl rfl) rfl (p_iaddr (k := 1) Try.underlying26 sz3 rfl rfl (by first | exact of_decide_eq_true rfl | omega)) ?_
              refine r_val (.some rfl rfl) rfl (p_ld (k := 1) Try.underlying3 rfl rfl rfl (by first | exact of_decide_eq_true rfl | omega) (rfl : _ = Value.int _ _)) ?_
              refine r_val (.some rfl rfl) rfl (p_ne rfl rfl) ?_
              refine r_val .none rfl (p_pick_t rfl rfl) ?_
              refine r_nil ?_
              refine e_next ?_
              refine c_splitd (d := 20) rfl (fun h_10 => ?_) (fun h_10 => ?_)
              · skip
                first
                  | (exfalso; omega)
                  | (
                    refine c_cond_t rfl ?_
                    refine c_seq ?_
                    refine c_region ?_
                    refine r_val .none rfl (p_assign rfl) ?_
                    refine r_nil ?_
                    refine e_next ?_
                    refine c_ret ?_
                    refine e_ret_block ?_
                    refine e_ret_then ?_
                    refine e_ret_then ?_
                    refine e_ret_block ?_
                    refine e_ret_then ?_
                    refine e_ret1 Try.results68 (.tmp rfl .nil) (fun w hm => ⟨?_, hm.since⟩)
                    (simp [hasK, triL, at_] at *; try omega)
                    )
              · skip
                first
                  | (exfalso; omega)
                  | (
                    refine c_cond_f rfl ?_
                    refine c_skip ?_
                    refine e_norm_block ?_
                    refine e_next ?_
                    refine c_region ?_
                    refine r_val .none rfl (p_add rfl rfl (by omega)) ?_
                    refine r_val .none rfl (p_move rfl) ?_
                    refine r_nil ?_
                    refine e_again ?_
                    refine l_round (n := 1) ?_
                    refine c_seq ?_
                    refine c_region ?_
                    refine r_val .none rfl (p_lt rfl rfl) ?_
                    refine r_say (d := 9) (v := Value.bool true) rfl ?_
                    refine r_nil ?_
                    refine e_next ?_
                    refine c_seq ?_
                    refine c_cond_t rfl ?_
                    refine c_skip ?_
                    refine e_next ?_
                    refine c_seq ?_
                    refine c_block ?_
                    refine c_seq ?_
                    refine c_region ?_
                    refine r_val .none rfl (p_move rfl) ?_
                    refine r_val .none rfl (p_index (k := 2) Try.underlying26 Try.underlying3 rfl sz3 rfl (IsRow.lit _) rfl (by first | exact of_decide_eq_true rfl | omega) (rfl : _ = Value.int _ _)) ?_
                    refine r_val .none rfl (p_assign rfl) ?_
                    refine r_val .none rfl (p_assign rfl) ?_
                    refine r_nil ?_
                    refine e_next ?_
                    refine c_seq ?_
                    refine c_region ?_
                    refine r_val .none rfl (p_move rfl) ?_
                    refine r_val .none rfl (p_ne rfl rfl) ?_
                    refine r_val .none rfl (p_move rfl) ?_
                    refine r_splitd (d := 14) rfl (fun h_11 => ?_) (fun h_11 => ?_)
                    · skip
                      first
                        | (exfalso; omega)
                        | (
                          refine r_val (.some rfl rfl) rfl (p_move rfl) ?_
                          refine r_val (.some rfl rfl) rfl (p_move rfl) ?_
                          refine r_val (.some rfl rfl) rfl (p_iaddr (k := 2) Try.underlying26 sz3 rfl rfl (by first | exact of_decide_eq_true rfl | omega)) ?_
                          refine r_val (.some rfl rfl) rfl (p_ld (k := 1) Try.underlying3 rfl rfl rfl (by first | exact of_decide_eq_true rfl | omega) (rfl : _ = Value.int _ _)) ?_
                          refine r_val (.some rfl rfl) rfl (p_ne rfl rfl) ?_
                          refine r_val .none rfl (p_pick_t rfl rfl) ?_
                          refine r_nil ?_
                          refine e_next ?_
                          refine c_splitd (d := 20) rfl (fun h_12 => ?_) (fun h_12 => ?_)
                          · skip
                            first
                              | (exfalso; omega)
                              | (
                                refine c_cond_t rfl ?_
                                refine c_seq ?_
                                refine c_region ?_
                                refine r_val .none rfl (p_assign rfl) ?_
                                refine r_nil ?_
                                refine e_next ?_
                                refine c_ret ?_
                                refine e_ret_block ?_
                                refine e_ret_then ?_
                                refine e_ret_then ?_
                                refine e_ret_block ?_
                                refine e_ret_then ?_
                                refine e_ret1 Try.results68 (.tmp rfl .nil) (fun w hm => ⟨?_, hm.since⟩)
                                (simp [hasK, triL, at_] at *; try omega)
                                )
                          · skip
                            first
                              | (exfalso; omega)
                              | (
                                refine c_cond_f rfl ?_
                                refine c_skip ?_
                                refine e_norm_block ?_
                                refine e_next ?_
                                refine c_region ?_
                                refine r_val .none rfl (p_add rfl rfl (by omega)) ?_
                                refine r_val .none rfl (p_move rfl) ?_
                                refine r_nil ?_
                                refine e_again ?_
                                refine l_round (n := 0) ?_
                                refine c_seq ?_
                                refine c_region ?_
                                refine r_val .none rfl (p_lt rfl rfl) ?_
                                refine r_say (d := 9) (v := Value.bool false) rfl ?_
                                refine r_nil ?_
                                refine e_next ?_
                                refine c_seq ?_
                                refine c_cond_f rfl ?_
                                refine c_exit ?_
                                refine e_exit_then ?_
                                refine e_exit_then ?_
                                refine e_exit_block ?_
                                refine e_next ?_
                                refine c_seq ?_
                                refine c_region ?_
                                refine r_val .none rfl (p_assign rfl) ?_
                                refine r_nil ?_
                                refine e_next ?_
                                refine c_ret ?_
                                refine e_ret1 Try.results68 (.tmp rfl .nil) (fun w hm => ⟨?_, hm.since⟩)
                                (simp [hasK, triL, at_] at *; try omega)
                                )
                          )
                    · skip
                      first
                        | (exfalso; omega)
                        | (
                          refine r_skip rfl (.no rfl rfl) ?_
                          refine r_skip rfl (.no rfl rfl) ?_
                          refine r_skip rfl (.no rfl rfl) ?_
                          refine r_skip rfl (.no rfl rfl) ?_
                          refine r_skip rfl (.no rfl rfl) ?_
                          refine r_val .none rfl (p_pick_f rfl rfl) ?_
                          refine r_nil ?_
                          refine e_next ?_
                          refine c_cond_f rfl ?_
                          refine c_skip ?_
                          refine e_norm_block ?_
                          refine e_next ?_
                          refine c_region ?_
                          refine r_val .none rfl (p_add rfl rfl (by omega)) ?_
                          refine r_val .none rfl (p_move rfl) ?_
                          refine r_nil ?_
                          refine e_again ?_
                          refine l_round (n := 0) ?_
                          refine c_seq ?_
                          refine c_region ?_
                          refine r_val .none rfl (p_lt rfl rfl) ?_
                          refine r_say (d := 9) (v := Value.bool false) rfl ?_
                          refine r_nil ?_
                          refine e_next ?_
                          refine c_seq ?_
                          refine c_cond_f rfl ?_
                          refine c_exit ?_
                          refine e_exit_then ?_
                          refine e_exit_then ?_
                          refine e_exit_block ?_
                          refine e_next ?_
                          refine c_seq ?_
                          refine c_region ?_
                          refine r_val .none rfl (p_assign rfl) ?_
                          refine r_nil ?_
                          refine e_next ?_
                          refine c_ret ?_
                          refine e_ret1 Try.results68 (.tmp rfl .nil) (fun w hm => ⟨?_, hm.since⟩)
                          (simp [hasK, triL, at_] at *; try omega)
                          )
                    )
              )
        · skip
          first
            | (exfalso; omega)
            | (
              refine r_skip rfl (.no rfl rfl) ?_
              refine r_skip rfl (.no rfl rfl) ?_
              refine r_skip rfl (.no rfl rfl) ?_
              refine r_skip rfl (.no rfl rfl) ?_
              refine r_skip rfl (.no rfl rfl) ?_
              refine r_val .none rfl (p_pick_f rfl rfl) ?_
              refine r_nil ?_
              refine e_next ?_
              refine c_cond_f rfl ?_
              refine c_skip ?_
              refine e_norm_block ?_
              refine e_next ?_
              refine c_region ?_
              refine r_val .none rfl (p_add rfl rfl (by omega)) ?_
              refine r_val .none rfl (p_move rfl) ?_
              refine r_nil ?_
              refine e_again ?_
              refine l_round (n := 1) ?_
              refine c_seq ?_
              refine c_region ?_
              refine r_val .none rfl (p_lt rfl rfl) ?_
              refine r_say (d := 9) (v := Value.bool true) rfl ?_
              refine r_nil ?_
              refine e_next ?_
              refine c_seq ?_
              refine c_cond_t rfl ?_
              refine c_skip ?_
              refine e_next ?_
              refine c_seq ?_
              refine c_block ?_
              refine c_seq ?_
              refine c_region ?_
              refine r_val .none rfl (p_move rfl) ?_
              refine r_val .none rfl (p_index (k := 2) Try.underlying26 Try.underlying3 rfl sz3 rfl (IsRow.lit _) rfl (by first | exact of_decide_eq_true rfl | omega) (rfl : _ = Value.int _ _)) ?_
              refine r_val .none rfl (p_assign rfl) ?_
              refine r_val .none rfl (p_assign rfl) ?_
              refine r_nil ?_
              refine e_next ?_
              refine c_seq ?_
              refine c_region ?_
              refine r_val .none rfl (p_move rfl) ?_
              refine r_val .none rfl (p_ne rfl rfl) ?_
              refine r_val .none rfl (p_move rfl) ?_
              refine r_splitd (d := 14) rfl (fun h_13 => ?_) (fun h_13 => ?_)
              · skip
                first
                  | (exfalso; omega)
                  | (
                    refine r_val (.some rfl rfl) rfl (p_move rfl) ?_
                    refine r_val (.some rfl rfl) rfl (p_move rfl) ?_
                    refine r_val (.some rfl rfl) rfl (p_iaddr (k := 2) Try.underlying26 sz3 rfl rfl (by first | exact of_decide_eq_true rfl | omega)) ?_
                    refine r_val (.some rfl rfl) rfl (p_ld (k := 1) Try.underlying3 rfl rfl rfl (by first | exact of_decide_eq_true rfl | omega) (rfl : _ = Value.int _ _)) ?_
                    refine r_val (.some rfl rfl) rfl (p_ne rfl rfl) ?_
                    refine r_val .none rfl (p_pick_t rfl rfl) ?_
                    refine r_nil ?_
                    refine e_next ?_
                    refine c_splitd (d := 20) rfl (fun h_14 => ?_) (fun h_14 => ?_)
                    · skip
                      first
                        | (exfalso; omega)
                        | (
                          refine c_cond_t rfl ?_
                          refine c_seq ?_
                          refine c_region ?_
                          refine r_val .none rfl (p_assign rfl) ?_
                          refine r_nil ?_
                          refine e_next ?_
                          refine c_ret ?_
                          refine e_ret_block ?_
                          refine e_ret_then ?_
                          refine e_ret_then ?_
                          refine e_ret_block ?_
                          refine e_ret_then ?_
                          refine e_ret1 Try.results68 (.tmp rfl .nil) (fun w hm => ⟨?_, hm.since⟩)
                          (simp [hasK, triL, at_] at *; try omega)
                          )
                    · skip
                      first
                        | (exfalso; omega)
                        | (
                          refine c_cond_f rfl ?_
                          refine c_skip ?_
                          refine e_norm_block ?_
                          refine e_next ?_
                          refine c_region ?_
                          refine r_val .none rfl (p_add rfl rfl (by omega)) ?_
                          refine r_val .none rfl (p_move rfl) ?_
                          refine r_nil ?_
                          refine e_again ?_
                          refine l_round (n := 0) ?_
                          refine c_seq ?_
                          refine c_region ?_
                          refine r_val .none rfl (p_lt rfl rfl) ?_
                          refine r_say (d := 9) (v := Value.bool false) rfl ?_
                          refine r_nil ?_
                          refine e_next ?_
                          refine c_seq ?_
                          refine c_cond_f rfl ?_
                          refine c_exit ?_
                          refine e_exit_then ?_
                          refine e_exit_then ?_
                          refine e_exit_block ?_
                          refine e_next ?_
                          refine c_seq ?_
                          refine c_region ?_
                          refine r_val .none rfl (p_assign rfl) ?_
                          refine r_nil ?_
                          refine e_next ?_
                          refine c_ret ?_
                          refine e_ret1 Try.results68 (.tmp rfl .nil) (fun w hm => ⟨?_, hm.since⟩)
                          (simp [hasK, triL, at_] at *; try omega)
                          )
                    )
              · skip
                first
                  | (exfalso; omega)
                  | (
                    refine r_skip rfl (.no rfl rfl) ?_
                    refine r_skip rfl (.no rfl rfl) ?_
                    refine r_skip rfl (.no rfl rfl) ?_
                    refine r_skip rfl (.no rfl rfl) ?_
                    refine r_skip rfl (.no rfl rfl) ?_
                    refine r_val .none rfl (p_pick_f rfl rfl) ?_
                    refine r_nil ?_
                    refine e_next ?_
                    refine c_cond_f rfl ?_
                    refine c_skip ?_
                    refine e_norm_block ?_
                    refine e_next ?_
                    refine c_region ?_
                    refine r_val .none rfl (p_add rfl rfl (by omega)) ?_
                    refine r_val .none rfl (p_move rfl) ?_
                    refine r_nil ?_
                    refine e_again ?_
                    refine l_round (n := 0) ?_
                    refine c_seq ?_
                    refine c_region ?_
                    refine r_val .none rfl (p_lt rfl rfl) ?_
                    refine r_say (d := 9) (v := Value.bool false) rfl ?_
                    refine r_nil ?_
                    refine e_next ?_
                    refine c_seq ?_
                    refine c_cond_f rfl ?_
                    refine c_exit ?_
                    refine e_exit_then ?_
                    refine e_exit_then ?_
                    refine e_exit_block ?_
                    refine e_next ?_
                    refine c_seq ?_
                    refine c_region ?_
                    refine r_val .none rfl (p_assign rfl) ?_
                    refine r_nil ?_
                    refine e_next ?_
                    refine c_ret ?_
                    refine e_ret1 Try.results68 (.tmp rfl .nil) (fun w hm => ⟨?_, hm.since⟩)
                    (simp [hasK, triL, at_] at *; try omega)
                    )
              )
        )
theorem c_rtri13 (t : Tri)  (w : World)  :
    Calls Try.prog 28 #[kT t] w (Ret fun r w' => r = Value.bool (tripleRight t.1 t.2.1 t.2.2) ∧ Since nX w w') := by
  refine enter (args := [_]) (X := nX) (G := (fun _ => none)) (l := [(0, kT t)]) Try.func28 rfl Try.ntmps28 (fun _ _ h => by cases h) ⟨rfl, trivial⟩ (Nat.le_of_ble_eq_true rfl) ?_
  refine c_seq ?_
  refine c_region ?_
  refine r_box .none rfl rfl (IsRow.lit _) (fun b_1 => ?_)
  refine r_val .none rfl (p_assign rfl) ?_
  refine r_nil ?_
  refine e_next ?_
  refine c_seq ?_
  refine c_seq ?_
  refine c_region ?_
  refine r_val .none rfl (p_assign rfl) ?_
  refine r_nil ?_
  refine e_next ?_
  refine c_block ?_
  refine c_unroll 4 ?_
  refine l_round (n := 3) ?_
  refine c_seq ?_
  refine c_seq ?_
  refine c_region ?_
  refine r_val .none rfl (p_move rfl) ?_
  refine r_val .none rfl (p_lt rfl rfl) ?_
  refine r_say (d := 5) (v := Value.bool true) rfl ?_
  refine r_nil ?_
  refine e_next ?_
  refine c_cond_t rfl ?_
  refine c_skip ?_
  refine e_next ?_
  refine c_seq ?_
  refine c_block ?_
  refine c_seq ?_
  refine c_region ?_
  refine r_val .none rfl (p_move rfl) ?_
  refine r_val .none rfl (p_iaddr (k := 0) Try.underlying25 sz3 rfl rfl (by first | exact of_decide_eq_true rfl | omega)) ?_
  refine r_val .none rfl (p_ld (k := 0) Try.underlying3 rfl rfl rfl (by first | exact of_decide_eq_true rfl | omega) (rfl : _ = Value.int _ _)) ?_
  refine r_val .none rfl (p_lt rfl rfl) ?_
  refine r_val .none rfl (p_move rfl) ?_
  refine r_splitd (d := 12) rfl (fun h_1 => ?_) (fun h_1 => ?_)
  · skip
    first
      | (exfalso; omega)
      | (
        refine r_skip rfl (.no rfl rfl) ?_
        refine r_skip rfl (.no rfl rfl) ?_
        refine r_skip rfl (.no rfl rfl) ?_
        refine r_skip rfl (.no rfl rfl) ?_
        refine r_val .none rfl (p_pick_t rfl rfl) ?_
        refine r_nil ?_
        refine e_next ?_
        refine c_cond_t rfl ?_
        refine c_seq ?_
        refine c_region ?_
        refine r_val .none rfl (p_assign rfl) ?_
        refine r_nil ?_
        refine e_next ?_
        refine c_ret ?_
        refine e_ret_block ?_
        refine e_ret_then ?_
        refine e_ret_then ?_
        refine e_ret_block ?_
        refine e_ret_then ?_
        refine e_ret1 Try.results28 (.tmp rfl .nil) (fun w hm => ⟨?_, hm.since⟩)
        (simp [tripleRight, triL, at_] at *; try omega)
        )
  · skip
    first
      | (exfalso; omega)
      | (
        refine r_val (.some rfl rfl) rfl (p_move rfl) ?_
        refine r_val (.some rfl rfl) rfl (p_iaddr (k := 0) Try.underlying25 sz3 rfl rfl (by first | exact of_decide_eq_true rfl | omega)) ?_
        refine r_val (.some rfl rfl) rfl (p_ld (k := 0) Try.underlying3 rfl rfl rfl (by first | exact of_decide_eq_true rfl | omega) (rfl : _ = Value.int _ _)) ?_
        refine r_val (.some rfl rfl) rfl (p_gt rfl rfl) ?_
        refine r_val .none rfl (p_pick_f rfl rfl) ?_
        refine r_nil ?_
        refine e_next ?_
        refine c_splitd (d := 17) rfl (fun h_2 => ?_) (fun h_2 => ?_)
        · skip
          first
            | (exfalso; omega)
            | (
              refine c_cond_t rfl ?_
              refine c_seq ?_
              refine c_region ?_
              refine r_val .none rfl (p_assign rfl) ?_
              refine r_nil ?_
              refine e_next ?_
              refine c_ret ?_
              refine e_ret_block ?_
              refine e_ret_then ?_
              refine e_ret_then ?_
              refine e_ret_block ?_
              refine e_ret_then ?_
              refine e_ret1 Try.results28 (.tmp rfl .nil) (fun w hm => ⟨?_, hm.since⟩)
              (simp [tripleRight, triL, at_] at *; try omega)
              )
        · skip
          first
            | (exfalso; omega)
            | (
              refine c_cond_f rfl ?_
              refine c_skip ?_
              refine e_norm_block ?_
              refine e_next ?_
              refine c_region ?_
              refine r_val .none rfl (p_move rfl) ?_
              refine r_val .none rfl (p_add rfl rfl (by omega)) ?_
              refine r_val .none rfl (p_assign rfl) ?_
              refine r_nil ?_
              refine e_again ?_
              refine l_round (n := 2) ?_
              refine c_seq ?_
              refine c_seq ?_
              refine c_region ?_
              refine r_val .none rfl (p_move rfl) ?_
              refine r_val .none rfl (p_lt rfl rfl) ?_
              refine r_say (d := 5) (v := Value.bool true) rfl ?_
              refine r_nil ?_
              refine e_next ?_
              refine c_cond_t rfl ?_
              refine c_skip ?_
              refine e_next ?_
              refine c_seq ?_
              refine c_block ?_
              refine c_seq ?_
              refine c_region ?_
              refine r_val .none rfl (p_move rfl) ?_
              refine r_val .none rfl (p_iaddr (k := 1) Try.underlying25 sz3 rfl rfl (by first | exact of_decide_eq_true rfl | omega)) ?_
              refine r_val .none rfl (p_ld (k := 0) Try.underlying3 rfl rfl rfl (by first | exact of_decide_eq_true rfl | omega) (rfl : _ = Value.int _ _)) ?_
              refine r_val .none rfl (p_lt rfl rfl) ?_
              refine r_val .none rfl (p_move rfl) ?_
              refine r_splitd (d := 12) rfl (fun h_3 => ?_) (fun h_3 => ?_)
              · skip
                first
                  | (exfalso; omega)
                  | (
                    refine r_skip rfl (.no rfl rfl) ?_
                    refine r_skip rfl (.no rfl rfl) ?_
                    refine r_skip rfl (.no rfl rfl) ?_
                    refine r_skip rfl (.no rfl rfl) ?_
                    refine r_val .none rfl (p_pick_t rfl rfl) ?_
                    refine r_nil ?_
                    refine e_next ?_
                    refine c_cond_t rfl ?_
                    refine c_seq ?_
                    refine c_region ?_
                    refine r_val .none rfl (p_assign rfl) ?_
                    refine r_nil ?_
                    refine e_next ?_
                    refine c_ret ?_
                    refine e_ret_block ?_
                    refine e_ret_then ?_
                    refine e_ret_then ?_
                    refine e_ret_block ?_
                    refine e_ret_then ?_
                    refine e_ret1 Try.results28 (.tmp rfl .nil) (fun w hm => ⟨?_, hm.since⟩)
                    (simp [tripleRight, triL, at_] at *; try omega)
                    )
              · skip
                first
                  | (exfalso; omega)
                  | (
                    refine r_val (.some rfl rfl) rfl (p_move rfl) ?_
                    refine r_val (.some rfl rfl) rfl (p_iaddr (k := 1) Try.underlying25 sz3 rfl rfl (by first | exact of_decide_eq_true rfl | omega)) ?_
                    refine r_val (.some rfl rfl) rfl (p_ld (k := 0) Try.underlying3 rfl rfl rfl (by first | exact of_decide_eq_true rfl | omega) (rfl : _ = Value.int _ _)) ?_
                    refine r_val (.some rfl rfl) rfl (p_gt rfl rfl) ?_
                    refine r_val .none rfl (p_pick_f rfl rfl) ?_
                    refine r_nil ?_
                    refine e_next ?_
                    refine c_splitd (d := 17) rfl (fun h_4 => ?_) (fun h_4 => ?_)
                    · skip
                      first
                        | (exfalso; omega)
                        | (
                          refine c_cond_t rfl ?_
                          refine c_seq ?_
                          refine c_region ?_
                          refine r_val .none rfl (p_assign rfl) ?_
                          refine r_nil ?_
                          refine e_next ?_
                          refine c_ret ?_
                          refine e_ret_block ?_
                          refine e_ret_then ?_
                          refine e_ret_then ?_
                          refine e_ret_block ?_
                          refine e_ret_then ?_
                          refine e_ret1 Try.results28 (.tmp rfl .nil) (fun w hm => ⟨?_, hm.since⟩)
                          (simp [tripleRight, triL, at_] at *; try omega)
                          )
                    · skip
                      first
                        | (exfalso; omega)
                        | (
                          refine c_cond_f rfl ?_
                          refine c_skip ?_
                          refine e_norm_block ?_
                          refine e_next ?_
                          refine c_region ?_
                          refine r_val .none rfl (p_move rfl) ?_
                          refine r_val .none rfl (p_add rfl rfl (by omega)) ?_
                          refine r_val .none rfl (p_assign rfl) ?_
                          refine r_nil ?_
                          refine e_again ?_
                          refine l_round (n := 1) ?_
                          refine c_seq ?_
                          refine c_seq ?_
                          refine c_region ?_
                          refine r_val .none rfl (p_move rfl) ?_
                          refine r_val .none rfl (p_lt rfl rfl) ?_
                          refine r_say (d := 5) (v := Value.bool true) rfl ?_
                          refine r_nil ?_
                          refine e_next ?_
                          refine c_cond_t rfl ?_
                          refine c_skip ?_
                          refine e_next ?_
                          refine c_seq ?_
                          refine c_block ?_
                          refine c_seq ?_
                          refine c_region ?_
                          refine r_val .none rfl (p_move rfl) ?_
                          refine r_val .none rfl (p_iaddr (k := 2) Try.underlying25 sz3 rfl rfl (by first | exact of_decide_eq_true rfl | omega)) ?_
                          refine r_val .none rfl (p_ld (k := 0) Try.underlying3 rfl rfl rfl (by first | exact of_decide_eq_true rfl | omega) (rfl : _ = Value.int _ _)) ?_
                          refine r_val .none rfl (p_lt rfl rfl) ?_
                          refine r_val .none rfl (p_move rfl) ?_
                          refine r_splitd (d := 12) rfl (fun h_5 => ?_) (fun h_5 => ?_)
                          · skip
                            first
                              | (exfalso; omega)
                              | (
                                refine r_skip rfl (.no rfl rfl) ?_
                                refine r_skip rfl (.no rfl rfl) ?_
                                refine r_skip rfl (.no rfl rfl) ?_
                                refine r_skip rfl (.no rfl rfl) ?_
                                refine r_val .none rfl (p_pick_t rfl rfl) ?_
                                refine r_nil ?_
                                refine e_next ?_
                                refine c_cond_t rfl ?_
                                refine c_seq ?_
                                refine c_region ?_
                                refine r_val .none rfl (p_assign rfl) ?_
                                refine r_nil ?_
                                refine e_next ?_
                                refine c_ret ?_
                                refine e_ret_block ?_
                                refine e_ret_then ?_
                                refine e_ret_then ?_
                                refine e_ret_block ?_
                                refine e_ret_then ?_
                                refine e_ret1 Try.results28 (.tmp rfl .nil) (fun w hm => ⟨?_, hm.since⟩)
                                (simp [tripleRight, triL, at_] at *; try omega)
                                )
                          · skip
                            first
                              | (exfalso; omega)
                              | (
                                refine r_val (.some rfl rfl) rfl (p_move rfl) ?_
                                refine r_val (.some rfl rfl) rfl (p_iaddr (k := 2) Try.underlying25 sz3 rfl rfl (by first | exact of_decide_eq_true rfl | omega)) ?_
                                refine r_val (.some rfl rfl) rfl (p_ld (k := 0) Try.underlying3 rfl rfl rfl (by first | exact of_decide_eq_true rfl | omega) (rfl : _ = Value.int _ _)) ?_
                                refine r_val (.some rfl rfl) rfl (p_gt rfl rfl) ?_
                                refine r_val .none rfl (p_pick_f rfl rfl) ?_
                                refine r_nil ?_
                                refine e_next ?_
                                refine c_splitd (d := 17) rfl (fun h_6 => ?_) (fun h_6 => ?_)
                                · skip
                                  first
                                    | (exfalso; omega)
                                    | (
                                      refine c_cond_t rfl ?_
                                      refine c_seq ?_
                                      refine c_region ?_
                                      refine r_val .none rfl (p_assign rfl) ?_
                                      refine r_nil ?_
                                      refine e_next ?_
                                      refine c_ret ?_
                                      refine e_ret_block ?_
                                      refine e_ret_then ?_
                                      refine e_ret_then ?_
                                      refine e_ret_block ?_
                                      refine e_ret_then ?_
                                      refine e_ret1 Try.results28 (.tmp rfl .nil) (fun w hm => ⟨?_, hm.since⟩)
                                      (simp [tripleRight, triL, at_] at *; try omega)
                                      )
                                · skip
                                  first
                                    | (exfalso; omega)
                                    | (
                                      refine c_cond_f rfl ?_
                                      refine c_skip ?_
                                      refine e_norm_block ?_
                                      refine e_next ?_
                                      refine c_region ?_
                                      refine r_val .none rfl (p_move rfl) ?_
                                      refine r_val .none rfl (p_add rfl rfl (by omega)) ?_
                                      refine r_val .none rfl (p_assign rfl) ?_
                                      refine r_nil ?_
                                      refine e_again ?_
                                      refine l_round (n := 0) ?_
                                      refine c_seq ?_
                                      refine c_seq ?_
                                      refine c_region ?_
                                      refine r_val .none rfl (p_move rfl) ?_
                                      refine r_val .none rfl (p_lt rfl rfl) ?_
                                      refine r_say (d := 5) (v := Value.bool false) rfl ?_
                                      refine r_nil ?_
                                      refine e_next ?_
                                      refine c_cond_f rfl ?_
                                      refine c_exit ?_
                                      refine e_exit_then ?_
                                      refine e_exit_then ?_
                                      refine e_exit_block ?_
                                      refine e_next ?_
                                      refine c_seq ?_
                                      refine c_region ?_
                                      refine r_val .none rfl (p_assign rfl) ?_
                                      refine r_nil ?_
                                      refine e_next ?_
                                      refine c_ret ?_
                                      refine e_ret1 Try.results28 (.tmp rfl .nil) (fun w hm => ⟨?_, hm.since⟩)
                                      (simp [tripleRight, triL, at_] at *; try omega)
                                      )
                                )
                          )
                    )
              )
        )
theorem c_holds00 (b : Int) (vb : Value) (bs : List Tri) (t : Tri) {G : Ghost} (hb : SlL G vb 3 triL z3 bs) (w : World) (hG : Has G w) :
    Calls Try.prog 69 #[Value.agg #[Value.int .i64 0, Value.int .i64 b, Value.int .i64 0], vb, kT t] w (Ret fun r w' => r = Value.bool (holdsT (0, b, 0) bs t) ∧ Since nX w w') := by
  refine enter (args := [_, _, _]) (X := nX) (G := G) (l := [(0, Value.agg #[Value.int .i64 0, Value.int .i64 b, Value.int .i64 0]), (1, vb), (2, kT t)]) Try.func69 rfl Try.ntmps69 hG ⟨rfl, rfl, rfl, trivial⟩ (Nat.le_of_ble_eq_true rfl) ?_
  refine c_seq ?_
  refine c_region ?_
  refine r_box .none rfl rfl (IsRow.lit _) (fun b_1 => ?_)
  refine r_box .none rfl rfl (IsRow.lit _) (fun b_2 => ?_)
  refine r_val .none rfl (p_assign rfl) ?_
  refine r_nil ?_
  refine e_next ?_
  refine c_seq ?_
  refine c_region ?_
  refine r_val .none rfl (p_ldw (k := 0) Try.underlying26 rfl sz26 rfl rfl (rfl : _ = Value.agg #[_, _, _])) ?_
  refine r_alloc .none rfl zr26 (IsRow.lit _) (fun b_3 => ?_)
  refine r_stw (k := 0) .none sz26 rfl rfl (IsRow.lit _) (one_lit rfl rfl) rfl ?_
  refine r_nil ?_
  refine e_next ?_
  refine c_seq ?_
  refine c_seq ?_
  refine c_region ?_
  refine r_val .none rfl (p_field Try.underlying63 rfl sz3 rfl) ?_
  refine r_val .none rfl (p_ld (k := 2) Try.underlying3 rfl rfl rfl (by first | exact of_decide_eq_true rfl | omega) (rfl : _ = Value.int _ _)) ?_
  refine r_val .none rfl (p_move rfl) ?_
  refine r_val .none rfl (p_leng Try.underlying22 rfl hb) ?_
  have bd_1 := (hb).bound
  refine r_val .none rfl (p_ge rfl rfl) ?_
  refine r_nil ?_
  refine e_next ?_
  refine c_splitd (d := 13) rfl (fun h_2 => ?_) (fun h_2 => ?_)
  · skip
    first
      | (exfalso; omega)
      | (
        refine c_cond_t rfl ?_
        refine c_seq ?_
        refine c_region ?_
        refine r_val .none rfl (p_assign rfl) ?_
        refine r_nil ?_
        refine e_next ?_
        refine c_ret ?_
        refine e_ret_then ?_
        refine e_ret1 Try.results69 (.tmp rfl .nil) (fun w hm => ⟨?_, hm.since⟩)
        first
        | (rw [holds_out (by omega)]; done)
        | (rw [holds_back (by omega)]; rfl)
        | (rw [holds_own (by omega)]; rfl)
        )
  · skip
    first
      | (exfalso; omega)
      | (
        refine c_cond_f rfl ?_
        refine c_skip ?_
        refine e_next ?_
        refine c_seq ?_
        refine c_seq ?_
        refine c_region ?_
        refine r_val .none rfl (p_field Try.underlying63 rfl sz3 rfl) ?_
        refine r_val .none rfl (p_ld (k := 2) Try.underlying3 rfl rfl rfl (by first | exact of_decide_eq_true rfl | omega) (rfl : _ = Value.int _ _)) ?_
        refine r_val .none rfl (p_ge rfl rfl) ?_
        refine r_nil ?_
        refine e_next ?_
        refine c_splitd (d := 16) rfl (fun h_3 => ?_) (fun h_3 => ?_)
        · skip
          first
            | (exfalso; omega)
            | (
              refine c_cond_t rfl ?_
              refine c_region ?_
              refine r_val .none rfl (p_move rfl) ?_
              refine r_val .none rfl (p_field Try.underlying63 rfl sz3 rfl) ?_
              refine r_val .none rfl (p_ld (k := 2) Try.underlying3 rfl rfl rfl (by first | exact of_decide_eq_true rfl | omega) (rfl : _ = Value.int _ _)) ?_
              obtain ⟨bn, rfl⟩ : ∃ bn : Nat, b = (bn : Int) := ⟨b.toNat, by omega⟩
              refine r_iaddr_g .none rfl Try.underlying22 sz26 rfl hb rfl (by first | exact of_decide_eq_true rfl | omega) (fun p_5 o_6 R_4 => ?_)
              refine r_val .none rfl (p_ldga0 Try.underlying26 rfl sz26 rfl R_4 (by first | exact of_decide_eq_true rfl | omega) (rfl : _ = Value.agg #[_, _, _])) ?_
              refine r_stw (k := 0) .none sz26 rfl rfl (IsRow.lit _) (one_lit rfl rfl) rfl ?_
              refine r_nil ?_
              refine e_next ?_
              refine c_seq ?_
              refine c_region_q mixed (by kernel_rfl) ?_
              refine q_val .none rfl (p_field Try.underlying63 rfl sz3 rfl) ?_
              refine q_val .none rfl (p_ld (k := 2) Try.underlying3 rfl rfl rfl (by first | exact of_decide_eq_true rfl | omega) (rfl : _ = Value.int _ _)) ?_
              refine q_val .none rfl (p_iaddr (k := 0) Try.underlying26 sz3 rfl rfl (by first | exact of_decide_eq_true rfl | omega)) ?_
              refine q_val .none rfl (p_ld (k := 1) Try.underlying3 rfl rfl rfl (by first | exact of_decide_eq_true rfl | omega) (rfl : _ = Value.int _ _)) ?_
              refine q_val .none rfl (p_field Try.underlying63 rfl sz3 rfl) ?_
              refine q_val .none rfl (p_ld (k := 2) Try.underlying3 rfl rfl rfl (by first | exact of_decide_eq_true rfl | omega) (rfl : _ = Value.int _ _)) ?_
              refine q_val .none rfl (p_iaddr (k := 0) Try.underlying26 sz3 rfl rfl (by first | exact of_decide_eq_true rfl | omega)) ?_
              refine q_val .none rfl (p_ld (k := 0) Try.underlying3 rfl rfl rfl (by first | exact of_decide_eq_true rfl | omega) (rfl : _ = Value.int _ _)) ?_
              refine q_val .none rfl (p_eq rfl rfl) ?_
              refine q_val .none rfl (p_assign rfl) ?_
              refine q_nil ?_
              refine e_next ?_
              refine c_ret ?_
              refine e_ret1 Try.results69 (.tmp rfl .nil) (fun w hm => ⟨?_, hm.since⟩)
              first
              | (rw [holds_out (by omega)]; done)
              | (rw [holds_back (by omega)]; rfl)
              | (rw [holds_own (by omega)]; rfl)
              )
        · skip
          first
            | (exfalso; omega)
            | (
              refine c_cond_f rfl ?_
              refine c_skip ?_
              refine e_next ?_
              refine c_seq ?_
              refine c_region_q mixed (by kernel_rfl) ?_
              refine q_val .none rfl (p_field Try.underlying63 rfl sz3 rfl) ?_
              refine q_val .none rfl (p_ld (k := 2) Try.underlying3 rfl rfl rfl (by first | exact of_decide_eq_true rfl | omega) (rfl : _ = Value.int _ _)) ?_
              refine q_val .none rfl (p_iaddr (k := 0) Try.underlying26 sz3 rfl rfl (by first | exact of_decide_eq_true rfl | omega)) ?_
              refine q_val .none rfl (p_ld (k := 1) Try.underlying3 rfl rfl rfl (by first | exact of_decide_eq_true rfl | omega) (rfl : _ = Value.int _ _)) ?_
              refine q_val .none rfl (p_field Try.underlying63 rfl sz3 rfl) ?_
              refine q_val .none rfl (p_ld (k := 2) Try.underlying3 rfl rfl rfl (by first | exact of_decide_eq_true rfl | omega) (rfl : _ = Value.int _ _)) ?_
              refine q_val .none rfl (p_iaddr (k := 0) Try.underlying26 sz3 rfl rfl (by first | exact of_decide_eq_true rfl | omega)) ?_
              refine q_val .none rfl (p_ld (k := 0) Try.underlying3 rfl rfl rfl (by first | exact of_decide_eq_true rfl | omega) (rfl : _ = Value.int _ _)) ?_
              refine q_val .none rfl (p_eq rfl rfl) ?_
              refine q_val .none rfl (p_assign rfl) ?_
              refine q_nil ?_
              refine e_next ?_
              refine c_ret ?_
              refine e_ret1 Try.results69 (.tmp rfl .nil) (fun w hm => ⟨?_, hm.since⟩)
              first
              | (rw [holds_out (by omega)]; done)
              | (rw [holds_back (by omega)]; rfl)
              | (rw [holds_own (by omega)]; rfl)
              )
        )
theorem c_holds01 (b : Int) (vb : Value) (bs : List Tri) (t : Tri) {G : Ghost} (hb : SlL G vb 3 triL z3 bs) (w : World) (hG : Has G w) :
    Calls Try.prog 69 #[Value.agg #[Value.int .i64 0, Value.int .i64 b, Value.int .i64 1], vb, kT t] w (Ret fun r w' => r = Value.bool (holdsT (0, b, 1) bs t) ∧ Since nX w w') := by
  refine enter (args := [_, _, _]) (X := nX) (G := G) (l := [(0, Value.agg #[Value.int .i64 0, Value.int .i64 b, Value.int .i64 1]), (1, vb), (2, kT t)]) Try.func69 rfl Try.ntmps69 hG ⟨rfl, rfl, rfl, trivial⟩ (Nat.le_of_ble_eq_true rfl) ?_
  refine c_seq ?_
  refine c_region ?_
  refine r_box .none rfl rfl (IsRow.lit _) (fun b_1 => ?_)
  refine r_box .none rfl rfl (IsRow.lit _) (fun b_2 => ?_)
  refine r_val .none rfl (p_assign rfl) ?_
  refine r_nil ?_
  refine e_next ?_
  refine c_seq ?_
  refine c_region ?_
  refine r_val .none rfl (p_ldw (k := 0) Try.underlying26 rfl sz26 rfl rfl (rfl : _ = Value.agg #[_, _, _])) ?_
  refine r_alloc .none rfl zr26 (IsRow.lit _) (fun b_3 => ?_)
  refine r_stw (k := 0) .none sz26 rfl rfl (IsRow.lit _) (one_lit rfl rfl) rfl ?_
  refine r_nil ?_
  refine e_next ?_
  refine c_seq ?_
  refine c_seq ?_
  refine c_region ?_
  refine r_val .none rfl (p_field Try.underlying63 rfl sz3 rfl) ?_
  refine r_val .none rfl (p_ld (k := 2) Try.underlying3 rfl rfl rfl (by first | exact of_decide_eq_true rfl | omega) (rfl : _ = Value.int _ _)) ?_
  refine r_val .none rfl (p_move rfl) ?_
  refine r_val .none rfl (p_leng Try.underlying22 rfl hb) ?_
  have bd_1 := (hb).bound
  refine r_val .none rfl (p_ge rfl rfl) ?_
  refine r_nil ?_
  refine e_next ?_
  refine c_splitd (d := 13) rfl (fun h_2 => ?_) (fun h_2 => ?_)
  · skip
    first
      | (exfalso; omega)
      | (
        refine c_cond_t rfl ?_
        refine c_seq ?_
        refine c_region ?_
        refine r_val .none rfl (p_assign rfl) ?_
        refine r_nil ?_
        refine e_next ?_
        refine c_ret ?_
        refine e_ret_then ?_
        refine e_ret1 Try.results69 (.tmp rfl .nil) (fun w hm => ⟨?_, hm.since⟩)
        first
        | (rw [holds_out (by omega)]; done)
        | (rw [holds_back (by omega)]; rfl)
        | (rw [holds_own (by omega)]; rfl)
        )
  · skip
    first
      | (exfalso; omega)
      | (
        refine c_cond_f rfl ?_
        refine c_skip ?_
        refine e_next ?_
        refine c_seq ?_
        refine c_seq ?_
        refine c_region ?_
        refine r_val .none rfl (p_field Try.underlying63 rfl sz3 rfl) ?_
        refine r_val .none rfl (p_ld (k := 2) Try.underlying3 rfl rfl rfl (by first | exact of_decide_eq_true rfl | omega) (rfl : _ = Value.int _ _)) ?_
        refine r_val .none rfl (p_ge rfl rfl) ?_
        refine r_nil ?_
        refine e_next ?_
        refine c_splitd (d := 16) rfl (fun h_3 => ?_) (fun h_3 => ?_)
        · skip
          first
            | (exfalso; omega)
            | (
              refine c_cond_t rfl ?_
              refine c_region ?_
              refine r_val .none rfl (p_move rfl) ?_
              refine r_val .none rfl (p_field Try.underlying63 rfl sz3 rfl) ?_
              refine r_val .none rfl (p_ld (k := 2) Try.underlying3 rfl rfl rfl (by first | exact of_decide_eq_true rfl | omega) (rfl : _ = Value.int _ _)) ?_
              obtain ⟨bn, rfl⟩ : ∃ bn : Nat, b = (bn : Int) := ⟨b.toNat, by omega⟩
              refine r_iaddr_g .none rfl Try.underlying22 sz26 rfl hb rfl (by first | exact of_decide_eq_true rfl | omega) (fun p_5 o_6 R_4 => ?_)
              refine r_val .none rfl (p_ldga0 Try.underlying26 rfl sz26 rfl R_4 (by first | exact of_decide_eq_true rfl | omega) (rfl : _ = Value.agg #[_, _, _])) ?_
              refine r_stw (k := 0) .none sz26 rfl rfl (IsRow.lit _) (one_lit rfl rfl) rfl ?_
              refine r_nil ?_
              refine e_next ?_
              refine c_seq ?_
              refine c_region_q mixed (by kernel_rfl) ?_
              refine q_val .none rfl (p_field Try.underlying63 rfl sz3 rfl) ?_
              refine q_val .none rfl (p_ld (k := 2) Try.underlying3 rfl rfl rfl (by first | exact of_decide_eq_true rfl | omega) (rfl : _ = Value.int _ _)) ?_
              refine q_val .none rfl (p_iaddr (k := 0) Try.underlying26 sz3 rfl rfl (by first | exact of_decide_eq_true rfl | omega)) ?_
              refine q_val .none rfl (p_ld (k := 1) Try.underlying3 rfl rfl rfl (by first | exact of_decide_eq_true rfl | omega) (rfl : _ = Value.int _ _)) ?_
              refine q_val .none rfl (p_field Try.underlying63 rfl sz3 rfl) ?_
              refine q_val .none rfl (p_ld (k := 2) Try.underlying3 rfl rfl rfl (by first | exact of_decide_eq_true rfl | omega) (rfl : _ = Value.int _ _)) ?_
              refine q_val .none rfl (p_iaddr (k := 1) Try.underlying26 sz3 rfl rfl (by first | exact of_decide_eq_true rfl | omega)) ?_
              refine q_val .none rfl (p_ld (k := 0) Try.underlying3 rfl rfl rfl (by first | exact of_decide_eq_true rfl | omega) (rfl : _ = Value.int _ _)) ?_
              refine q_val .none rfl (p_eq rfl rfl) ?_
              refine q_val .none rfl (p_assign rfl) ?_
              refine q_nil ?_
              refine e_next ?_
              refine c_ret ?_
              refine e_ret1 Try.results69 (.tmp rfl .nil) (fun w hm => ⟨?_, hm.since⟩)
              first
              | (rw [holds_out (by omega)]; done)
              | (rw [holds_back (by omega)]; rfl)
              | (rw [holds_own (by omega)]; rfl)
              )
        · skip
          first
            | (exfalso; omega)
            | (
              refine c_cond_f rfl ?_
              refine c_skip ?_
              refine e_next ?_
              refine c_seq ?_
              refine c_region_q mixed (by kernel_rfl) ?_
              refine q_val .none rfl (p_field Try.underlying63 rfl sz3 rfl) ?_
              refine q_val .none rfl (p_ld (k := 2) Try.underlying3 rfl rfl rfl (by first | exact of_decide_eq_true rfl | omega) (rfl : _ = Value.int _ _)) ?_
              refine q_val .none rfl (p_iaddr (k := 0) Try.underlying26 sz3 rfl rfl (by first | exact of_decide_eq_true rfl | omega)) ?_
              refine q_val .none rfl (p_ld (k := 1) Try.underlying3 rfl rfl rfl (by first | exact of_decide_eq_true rfl | omega) (rfl : _ = Value.int _ _)) ?_
              refine q_val .none rfl (p_field Try.underlying63 rfl sz3 rfl) ?_
              refine q_val .none rfl (p_ld (k := 2) Try.underlying3 rfl rfl rfl (by first | exact of_decide_eq_true rfl | omega) (rfl : _ = Value.int _ _)) ?_
              refine q_val .none rfl (p_iaddr (k := 1) Try.underlying26 sz3 rfl rfl (by first | exact of_decide_eq_true rfl | omega)) ?_
              refine q_val .none rfl (p_ld (k := 0) Try.underlying3 rfl rfl rfl (by first | exact of_decide_eq_true rfl | omega) (rfl : _ = Value.int _ _)) ?_
              refine q_val .none rfl (p_eq rfl rfl) ?_
              refine q_val .none rfl (p_assign rfl) ?_
              refine q_nil ?_
              refine e_next ?_
              refine c_ret ?_
              refine e_ret1 Try.results69 (.tmp rfl .nil) (fun w hm => ⟨?_, hm.since⟩)
              first
              | (rw [holds_out (by omega)]; done)
              | (rw [holds_back (by omega)]; rfl)
              | (rw [holds_own (by omega)]; rfl)
              )
        )
theorem c_holds02 (b : Int) (vb : Value) (bs : List Tri) (t : Tri) {G : Ghost} (hb : SlL G vb 3 triL z3 bs) (w : World) (hG : Has G w) :
    Calls Try.prog 69 #[Value.agg #[Value.int .i64 0, Value.int .i64 b, Value.int .i64 2], vb, kT t] w (Ret fun r w' => r = Value.bool (holdsT (0, b, 2) bs t) ∧ Since nX w w') := by
  refine enter (args := [_, _, _]) (X := nX) (G := G) (l := [(0, Value.agg #[Value.int .i64 0, Value.int .i64 b, Value.int .i64 2]), (1, vb), (2, kT t)]) Try.func69 rfl Try.ntmps69 hG ⟨rfl, rfl, rfl, trivial⟩ (Nat.le_of_ble_eq_true rfl) ?_
  refine c_seq ?_
  refine c_region ?_
  refine r_box .none rfl rfl (IsRow.lit _) (fun b_1 => ?_)
  refine r_box .none rfl rfl (IsRow.lit _) (fun b_2 => ?_)
  refine r_val .none rfl (p_assign rfl) ?_
  refine r_nil ?_
  refine e_next ?_
  refine c_seq ?_
  refine c_region ?_
  refine r_val .none rfl (p_ldw (k := 0) Try.underlying26 rfl sz26 rfl rfl (rfl : _ = Value.agg #[_, _, _])) ?_
  refine r_alloc .none rfl zr26 (IsRow.lit _) (fun b_3 => ?_)
  refine r_stw (k := 0) .none sz26 rfl rfl (IsRow.lit _) (one_lit rfl rfl) rfl ?_
  refine r_nil ?_
  refine e_next ?_
  refine c_seq ?_
  refine c_seq ?_
  refine c_region ?_
  refine r_val .none rfl (p_field Try.underlying63 rfl sz3 rfl) ?_
  refine r_val .none rfl (p_ld (k := 2) Try.underlying3 rfl rfl rfl (by first | exact of_decide_eq_true rfl | omega) (rfl : _ = Value.int _ _)) ?_
  refine r_val .none rfl (p_move rfl) ?_
  refine r_val .none rfl (p_leng Try.underlying22 rfl hb) ?_
  have bd_1 := (hb).bound
  refine r_val .none rfl (p_ge rfl rfl) ?_
  refine r_nil ?_
  refine e_next ?_
  refine c_splitd (d := 13) rfl (fun h_2 => ?_) (fun h_2 => ?_)
  · skip
    first
      | (exfalso; omega)
      | (
        refine c_cond_t rfl ?_
        refine c_seq ?_
        refine c_region ?_
        refine r_val .none rfl (p_assign rfl) ?_
        refine r_nil ?_
        refine e_next ?_
        refine c_ret ?_
        refine e_ret_then ?_
        refine e_ret1 Try.results69 (.tmp rfl .nil) (fun w hm => ⟨?_, hm.since⟩)
        first
        | (rw [holds_out (by omega)]; done)
        | (rw [holds_back (by omega)]; rfl)
        | (rw [holds_own (by omega)]; rfl)
        )
  · skip
    first
      | (exfalso; omega)
      | (
        refine c_cond_f rfl ?_
        refine c_skip ?_
        refine e_next ?_
        refine c_seq ?_
        refine c_seq ?_
        refine c_region ?_
        refine r_val .none rfl (p_field Try.underlying63 rfl sz3 rfl) ?_
        refine r_val .none rfl (p_ld (k := 2) Try.underlying3 rfl rfl rfl (by first | exact of_decide_eq_true rfl | omega) (rfl : _ = Value.int _ _)) ?_
        refine r_val .none rfl (p_ge rfl rfl) ?_
        refine r_nil ?_
        refine e_next ?_
        refine c_splitd (d := 16) rfl (fun h_3 => ?_) (fun h_3 => ?_)
        · skip
          first
            | (exfalso; omega)
            | (
              refine c_cond_t rfl ?_
              refine c_region ?_
              refine r_val .none rfl (p_move rfl) ?_
              refine r_val .none rfl (p_field Try.underlying63 rfl sz3 rfl) ?_
              refine r_val .none rfl (p_ld (k := 2) Try.underlying3 rfl rfl rfl (by first | exact of_decide_eq_true rfl | omega) (rfl : _ = Value.int _ _)) ?_
              obtain ⟨bn, rfl⟩ : ∃ bn : Nat, b = (bn : Int) := ⟨b.toNat, by omega⟩
              refine r_iaddr_g .none rfl Try.underlying22 sz26 rfl hb rfl (by first | exact of_decide_eq_true rfl | omega) (fun p_5 o_6 R_4 => ?_)
              refine r_val .none rfl (p_ldga0 Try.underlying26 rfl sz26 rfl R_4 (by first | exact of_decide_eq_true rfl | omega) (rfl : _ = Value.agg #[_, _, _])) ?_
              refine r_stw (k := 0) .none sz26 rfl rfl (IsRow.lit _) (one_lit rfl rfl) rfl ?_
              refine r_nil ?_
              refine e_next ?_
              refine c_seq ?_
              refine c_region_q mixed (by kernel_rfl) ?_
              refine q_val .none rfl (p_field Try.underlying63 rfl sz3 rfl) ?_
              refine q_val .none rfl (p_ld (k := 2) Try.underlying3 rfl rfl rfl (by first | exact of_decide_eq_true rfl | omega) (rfl : _ = Value.int _ _)) ?_
              refine q_val .none rfl (p_iaddr (k := 0) Try.underlying26 sz3 rfl rfl (by first | exact of_decide_eq_true rfl | omega)) ?_
              refine q_val .none rfl (p_ld (k := 1) Try.underlying3 rfl rfl rfl (by first | exact of_decide_eq_true rfl | omega) (rfl : _ = Value.int _ _)) ?_
              refine q_val .none rfl (p_field Try.underlying63 rfl sz3 rfl) ?_
              refine q_val .none rfl (p_ld (k := 2) Try.underlying3 rfl rfl rfl (by first | exact of_decide_eq_true rfl | omega) (rfl : _ = Value.int _ _)) ?_
              refine q_val .none rfl (p_iaddr (k := 2) Try.underlying26 sz3 rfl rfl (by first | exact of_decide_eq_true rfl | omega)) ?_
              refine q_val .none rfl (p_ld (k := 0) Try.underlying3 rfl rfl rfl (by first | exact of_decide_eq_true rfl | omega) (rfl : _ = Value.int _ _)) ?_
              refine q_val .none rfl (p_eq rfl rfl) ?_
              refine q_val .none rfl (p_assign rfl) ?_
              refine q_nil ?_
              refine e_next ?_
              refine c_ret ?_
              refine e_ret1 Try.results69 (.tmp rfl .nil) (fun w hm => ⟨?_, hm.since⟩)
              first
              | (rw [holds_out (by omega)]; done)
              | (rw [holds_back (by omega)]; rfl)
              | (rw [holds_own (by omega)]; rfl)
              )
        · skip
          first
            | (exfalso; omega)
            | (
              refine c_cond_f rfl ?_
              refine c_skip ?_
              refine e_next ?_
              refine c_seq ?_
              refine c_region_q mixed (by kernel_rfl) ?_
              refine q_val .none rfl (p_field Try.underlying63 rfl sz3 rfl) ?_
              refine q_val .none rfl (p_ld (k := 2) Try.underlying3 rfl rfl rfl (by first | exact of_decide_eq_true rfl | omega) (rfl : _ = Value.int _ _)) ?_
              refine q_val .none rfl (p_iaddr (k := 0) Try.underlying26 sz3 rfl rfl (by first | exact of_decide_eq_true rfl | omega)) ?_
              refine q_val .none rfl (p_ld (k := 1) Try.underlying3 rfl rfl rfl (by first | exact of_decide_eq_true rfl | omega) (rfl : _ = Value.int _ _)) ?_
              refine q_val .none rfl (p_field Try.underlying63 rfl sz3 rfl) ?_
              refine q_val .none rfl (p_ld (k := 2) Try.underlying3 rfl rfl rfl (by first | exact of_decide_eq_true rfl | omega) (rfl : _ = Value.int _ _)) ?_
              refine q_val .none rfl (p_iaddr (k := 2) Try.underlying26 sz3 rfl rfl (by first | exact of_decide_eq_true rfl | omega)) ?_
              refine q_val .none rfl (p_ld (k := 0) Try.underlying3 rfl rfl rfl (by first | exact of_decide_eq_true rfl | omega) (rfl : _ = Value.int _ _)) ?_
              refine q_val .none rfl (p_eq rfl rfl) ?_
              refine q_val .none rfl (p_assign rfl) ?_
              refine q_nil ?_
              refine e_next ?_
              refine c_ret ?_
              refine e_ret1 Try.results69 (.tmp rfl .nil) (fun w hm => ⟨?_, hm.since⟩)
              first
              | (rw [holds_out (by omega)]; done)
              | (rw [holds_back (by omega)]; rfl)
              | (rw [holds_own (by omega)]; rfl)
              )
        )
theorem c_holds10 (b : Int) (vb : Value) (bs : List Tri) (t : Tri) {G : Ghost} (hb : SlL G vb 3 triL z3 bs) (w : World) (hG : Has G w) :
    Calls Try.prog 69 #[Value.agg #[Value.int .i64 1, Value.int .i64 b, Value.int .i64 0], vb, kT t] w (Ret fun r w' => r = Value.bool (holdsT (1, b, 0) bs t) ∧ Since nX w w') := by
  refine enter (args := [_, _, _]) (X := nX) (G := G) (l := [(0, Value.agg #[Value.int .i64 1, Value.int .i64 b, Value.int .i64 0]), (1, vb), (2, kT t)]) Try.func69 rfl Try.ntmps69 hG ⟨rfl, rfl, rfl, trivial⟩ (Nat.le_of_ble_eq_true rfl) ?_
  refine c_seq ?_
  refine c_region ?_
  refine r_box .none rfl rfl (IsRow.lit _) (fun b_1 => ?_)
  refine r_box .none rfl rfl (IsRow.lit _) (fun b_2 => ?_)
  refine r_val .none rfl (p_assign rfl) ?_
  refine r_nil ?_
  refine e_next ?_
  refine c_seq ?_
  refine c_region ?_
  refine r_val .none rfl (p_ldw (k := 0) Try.underlying26 rfl sz26 rfl rfl (rfl : _ = Value.agg #[_, _, _])) ?_
  refine r_alloc .none rfl zr26 (IsRow.lit _) (fun b_3 => ?_)
  refine r_stw (k := 0) .none sz26 rfl rfl (IsRow.lit _) (one_lit rfl rfl) rfl ?_
  refine r_nil ?_
  refine e_next ?_
  refine c_seq ?_
  refine c_seq ?_
  refine c_region ?_
  refine r_val .none rfl (p_field Try.underlying63 rfl sz3 rfl) ?_
  refine r_val .none rfl (p_ld (k := 2) Try.underlying3 rfl rfl rfl (by first | exact of_decide_eq_true rfl | omega) (rfl : _ = Value.int _ _)) ?_
  refine r_val .none rfl (p_move rfl) ?_
  refine r_val .none rfl (p_leng Try.underlying22 rfl hb) ?_
  have bd_1 := (hb).bound
  refine r_val .none rfl (p_ge rfl rfl) ?_
  refine r_nil ?_
  refine e_next ?_
  refine c_splitd (d := 13) rfl (fun h_2 => ?_) (fun h_2 => ?_)
  · skip
    first
      | (exfalso; omega)
      | (
        refine c_cond_t rfl ?_
        refine c_seq ?_
        refine c_region ?_
        refine r_val .none rfl (p_assign rfl) ?_
        refine r_nil ?_
        refine e_next ?_
        refine c_ret ?_
        refine e_ret_then ?_
        refine e_ret1 Try.results69 (.tmp rfl .nil) (fun w hm => ⟨?_, hm.since⟩)
        first
        | (rw [holds_out (by omega)]; done)
        | (rw [holds_back (by omega)]; rfl)
        | (rw [holds_own (by omega)]; rfl)
        )
  · skip
    first
      | (exfalso; omega)
      | (
        refine c_cond_f rfl ?_
        refine c_skip ?_
        refine e_next ?_
        refine c_seq ?_
        refine c_seq ?_
        refine c_region ?_
        refine r_val .none rfl (p_field Try.underlying63 rfl sz3 rfl) ?_
        refine r_val .none rfl (p_ld (k := 2) Try.underlying3 rfl rfl rfl (by first | exact of_decide_eq_true rfl | omega) (rfl : _ = Value.int _ _)) ?_
        refine r_val .none rfl (p_ge rfl rfl) ?_
        refine r_nil ?_
        refine e_next ?_
        refine c_splitd (d := 16) rfl (fun h_3 => ?_) (fun h_3 => ?_)
        · skip
          first
            | (exfalso; omega)
            | (
              refine c_cond_t rfl ?_
              refine c_region ?_
              refine r_val .none rfl (p_move rfl) ?_
              refine r_val .none rfl (p_field Try.underlying63 rfl sz3 rfl) ?_
              refine r_val .none rfl (p_ld (k := 2) Try.underlying3 rfl rfl rfl (by first | exact of_decide_eq_true rfl | omega) (rfl : _ = Value.int _ _)) ?_
              obtain ⟨bn, rfl⟩ : ∃ bn : Nat, b = (bn : Int) := ⟨b.toNat, by omega⟩
              refine r_iaddr_g .none rfl Try.underlying22 sz26 rfl hb rfl (by first | exact of_decide_eq_true rfl | omega) (fun p_5 o_6 R_4 => ?_)
              refine r_val .none rfl (p_ldga0 Try.underlying26 rfl sz26 rfl R_4 (by first | exact of_decide_eq_true rfl | omega) (rfl : _ = Value.agg #[_, _, _])) ?_
              refine r_stw (k := 0) .none sz26 rfl rfl (IsRow.lit _) (one_lit rfl rfl) rfl ?_
              refine r_nil ?_
              refine e_next ?_
              refine c_seq ?_
              refine c_region_q mixed (by kernel_rfl) ?_
              refine q_val .none rfl (p_field Try.underlying63 rfl sz3 rfl) ?_
              refine q_val .none rfl (p_ld (k := 2) Try.underlying3 rfl rfl rfl (by first | exact of_decide_eq_true rfl | omega) (rfl : _ = Value.int _ _)) ?_
              refine q_val .none rfl (p_iaddr (k := 1) Try.underlying26 sz3 rfl rfl (by first | exact of_decide_eq_true rfl | omega)) ?_
              refine q_val .none rfl (p_ld (k := 1) Try.underlying3 rfl rfl rfl (by first | exact of_decide_eq_true rfl | omega) (rfl : _ = Value.int _ _)) ?_
              refine q_val .none rfl (p_field Try.underlying63 rfl sz3 rfl) ?_
              refine q_val .none rfl (p_ld (k := 2) Try.underlying3 rfl rfl rfl (by first | exact of_decide_eq_true rfl | omega) (rfl : _ = Value.int _ _)) ?_
              refine q_val .none rfl (p_iaddr (k := 0) Try.underlying26 sz3 rfl rfl (by first | exact of_decide_eq_true rfl | omega)) ?_
              refine q_val .none rfl (p_ld (k := 0) Try.underlying3 rfl rfl rfl (by first | exact of_decide_eq_true rfl | omega) (rfl : _ = Value.int _ _)) ?_
              refine q_val .none rfl (p_eq rfl rfl) ?_
              refine q_val .none rfl (p_assign rfl) ?_
              refine q_nil ?_
              refine e_next ?_
              refine c_ret ?_
              refine e_ret1 Try.results69 (.tmp rfl .nil) (fun w hm => ⟨?_, hm.since⟩)
              first
              | (rw [holds_out (by omega)]; done)
              | (rw [holds_back (by omega)]; rfl)
              | (rw [holds_own (by omega)]; rfl)
              )
        · skip
          first
            | (exfalso; omega)
            | (
              refine c_cond_f rfl ?_
              refine c_skip ?_
              refine e_next ?_
              refine c_seq ?_
              refine c_region_q mixed (by kernel_rfl) ?_
              refine q_val .none rfl (p_field Try.underlying63 rfl sz3 rfl) ?_
              refine q_val .none rfl (p_ld (k := 2) Try.underlying3 rfl rfl rfl (by first | exact of_decide_eq_true rfl | omega) (rfl : _ = Value.int _ _)) ?_
              refine q_val .none rfl (p_iaddr (k := 1) Try.underlying26 sz3 rfl rfl (by first | exact of_decide_eq_true rfl | omega)) ?_
              refine q_val .none rfl (p_ld (k := 1) Try.underlying3 rfl rfl rfl (by first | exact of_decide_eq_true rfl | omega) (rfl : _ = Value.int _ _)) ?_
              refine q_val .none rfl (p_field Try.underlying63 rfl sz3 rfl) ?_
              refine q_val .none rfl (p_ld (k := 2) Try.underlying3 rfl rfl rfl (by first | exact of_decide_eq_true rfl | omega) (rfl : _ = Value.int _ _)) ?_
              refine q_val .none rfl (p_iaddr (k := 0) Try.underlying26 sz3 rfl rfl (by first | exact of_decide_eq_true rfl | omega)) ?_
              refine q_val .none rfl (p_ld (k := 0) Try.underlying3 rfl rfl rfl (by first | exact of_decide_eq_true rfl | omega) (rfl : _ = Value.int _ _)) ?_
              refine q_val .none rfl (p_eq rfl rfl) ?_
              refine q_val .none rfl (p_assign rfl) ?_
              refine q_nil ?_
              refine e_next ?_
              refine c_ret ?_
              refine e_ret1 Try.results69 (.tmp rfl .nil) (fun w hm => ⟨?_, hm.since⟩)
              first
              | (rw [holds_out (by omega)]; done)
              | (rw [holds_back (by omega)]; rfl)
              | (rw [holds_own (by omega)]; rfl)
              )
        )
theorem c_holds11 (b : Int) (vb : Value) (bs : List Tri) (t : Tri) {G : Ghost} (hb : SlL G vb 3 triL z3 bs) (w : World) (hG : Has G w) :
    Calls Try.prog 69 #[Value.agg #[Value.int .i64 1, Value.int .i64 b, Value.int .i64 1], vb, kT t] w (Ret fun r w' => r = Value.bool (holdsT (1, b, 1) bs t) ∧ Since nX w w') := by
  refine enter (args := [_, _, _]) (X := nX) (G := G) (l := [(0, Value.agg #[Value.int .i64 1, Value.int .i64 b, Value.int .i64 1]), (1, vb), (2, kT t)]) Try.func69 rfl Try.ntmps69 hG ⟨rfl, rfl, rfl, trivial⟩ (Nat.le_of_ble_eq_true rfl) ?_
  refine c_seq ?_
  refine c_region ?_
  refine r_box .none rfl rfl (IsRow.lit _) (fun b_1 => ?_)
  refine r_box .none rfl rfl (IsRow.lit _) (fun b_2 => ?_)
  refine r_val .none rfl (p_assign rfl) ?_
  refine r_nil ?_
  refine e_next ?_
  refine c_seq ?_
  refine c_region ?_
  refine r_val .none rfl (p_ldw (k := 0) Try.underlying26 rfl sz26 rfl rfl (rfl : _ = Value.agg #[_, _, _])) ?_
  refine r_alloc .none rfl zr26 (IsRow.lit _) (fun b_3 => ?_)
  refine r_stw (k := 0) .none sz26 rfl rfl (IsRow.lit _) (one_lit rfl rfl) rfl ?_
  refine r_nil ?_
  refine e_next ?_
  refine c_seq ?_
  refine c_seq ?_
  refine c_region ?_
  refine r_val .none rfl (p_field Try.underlying63 rfl sz3 rfl) ?_
  refine r_val .none rfl (p_ld (k := 2) Try.underlying3 rfl rfl rfl (by first | exact of_decide_eq_true rfl | omega) (rfl : _ = Value.int _ _)) ?_
  refine r_val .none rfl (p_move rfl) ?_
  refine r_val .none rfl (p_leng Try.underlying22 rfl hb) ?_
  have bd_1 := (hb).bound
  refine r_val .none rfl (p_ge rfl rfl) ?_
  refine r_nil ?_
  refine e_next ?_
  refine c_splitd (d := 13) rfl (fun h_2 => ?_) (fun h_2 => ?_)
  · skip
    first
      | (exfalso; omega)
      | (
        refine c_cond_t rfl ?_
        refine c_seq ?_
        refine c_region ?_
        refine r_val .none rfl (p_assign rfl) ?_
        refine r_nil ?_
        refine e_next ?_
        refine c_ret ?_
        refine e_ret_then ?_
        refine e_ret1 Try.results69 (.tmp rfl .nil) (fun w hm => ⟨?_, hm.since⟩)
        first
        | (rw [holds_out (by omega)]; done)
        | (rw [holds_back (by omega)]; rfl)
        | (rw [holds_own (by omega)]; rfl)
        )
  · skip
    first
      | (exfalso; omega)
      | (
        refine c_cond_f rfl ?_
        refine c_skip ?_
        refine e_next ?_
        refine c_seq ?_
        refine c_seq ?_
        refine c_region ?_
        refine r_val .none rfl (p_field Try.underlying63 rfl sz3 rfl) ?_
        refine r_val .none rfl (p_ld (k := 2) Try.underlying3 rfl rfl rfl (by first | exact of_decide_eq_true rfl | omega) (rfl : _ = Value.int _ _)) ?_
        refine r_val .none rfl (p_ge rfl rfl) ?_
        refine r_nil ?_
        refine e_next ?_
        refine c_splitd (d := 16) rfl (fun h_3 => ?_) (fun h_3 => ?_)
        · skip
          first
            | (exfalso; omega)
            | (
              refine c_cond_t rfl ?_
              refine c_region ?_
              refine r_val .none rfl (p_move rfl) ?_
              refine r_val .none rfl (p_field Try.underlying63 rfl sz3 rfl) ?_
              refine r_val .none rfl (p_ld (k := 2) Try.underlying3 rfl rfl rfl (by first | exact of_decide_eq_true rfl | omega) (rfl : _ = Value.int _ _)) ?_
              obtain ⟨bn, rfl⟩ : ∃ bn : Nat, b = (bn : Int) := ⟨b.toNat, by omega⟩
              refine r_iaddr_g .none rfl Try.underlying22 sz26 rfl hb rfl (by first | exact of_decide_eq_true rfl | omega) (fun p_5 o_6 R_4 => ?_)
              refine r_val .none rfl (p_ldga0 Try.underlying26 rfl sz26 rfl R_4 (by first | exact of_decide_eq_true rfl | omega) (rfl : _ = Value.agg #[_, _, _])) ?_
              refine r_stw (k := 0) .none sz26 rfl rfl (IsRow.lit _) (one_lit rfl rfl) rfl ?_
              refine r_nil ?_
              refine e_next ?_
              refine c_seq ?_
              refine c_region_q mixed (by kernel_rfl) ?_
              refine q_val .none rfl (p_field Try.underlying63 rfl sz3 rfl) ?_
              refine q_val .none rfl (p_ld (k := 2) Try.underlying3 rfl rfl rfl (by first | exact of_decide_eq_true rfl | omega) (rfl : _ = Value.int _ _)) ?_
              refine q_val .none rfl (p_iaddr (k := 1) Try.underlying26 sz3 rfl rfl (by first | exact of_decide_eq_true rfl | omega)) ?_
              refine q_val .none rfl (p_ld (k := 1) Try.underlying3 rfl rfl rfl (by first | exact of_decide_eq_true rfl | omega) (rfl : _ = Value.int _ _)) ?_
              refine q_val .none rfl (p_field Try.underlying63 rfl sz3 rfl) ?_
              refine q_val .none rfl (p_ld (k := 2) Try.underlying3 rfl rfl rfl (by first | exact of_decide_eq_true rfl | omega) (rfl : _ = Value.int _ _)) ?_
              refine q_val .none rfl (p_iaddr (k := 1) Try.underlying26 sz3 rfl rfl (by first | exact of_decide_eq_true rfl | omega)) ?_
              refine q_val .none rfl (p_ld (k := 0) Try.underlying3 rfl rfl rfl (by first | exact of_decide_eq_true rfl | omega) (rfl : _ = Value.int _ _)) ?_
              refine q_val .none rfl (p_eq rfl rfl) ?_
              refine q_val .none rfl (p_assign rfl) ?_
              refine q_nil ?_
              refine e_next ?_
              refine c_ret ?_
              refine e_ret1 Try.results69 (.tmp rfl .nil) (fun w hm => ⟨?_, hm.since⟩)
              first
              | (rw [holds_out (by omega)]; done)
              | (rw [holds_back (by omega)]; rfl)
              | (rw [holds_own (by omega)]; rfl)
              )
        · skip
          first
            | (exfalso; omega)
            | (
              refine c_cond_f rfl ?_
              refine c_skip ?_
              refine e_next ?_
              refine c_seq ?_
              refine c_region_q mixed (by kernel_rfl) ?_
              refine q_val .none rfl (p_field Try.underlying63 rfl sz3 rfl) ?_
              refine q_val .none rfl (p_ld (k := 2) Try.underlying3 rfl rfl rfl (by first | exact of_decide_eq_true rfl | omega) (rfl : _ = Value.int _ _)) ?_
              refine q_val .none rfl (p_iaddr (k := 1) Try.underlying26 sz3 rfl rfl (by first | exact of_decide_eq_true rfl | omega)) ?_
              refine q_val .none rfl (p_ld (k := 1) Try.underlying3 rfl rfl rfl (by first | exact of_decide_eq_true rfl | omega) (rfl : _ = Value.int _ _)) ?_
              refine q_val .none rfl (p_field Try.underlying63 rfl sz3 rfl) ?_
              refine q_val .none rfl (p_ld (k := 2) Try.underlying3 rfl rfl rfl (by first | exact of_decide_eq_true rfl | omega) (rfl : _ = Value.int _ _)) ?_
              refine q_val .none rfl (p_iaddr (k := 1) Try.underlying26 sz3 rfl rfl (by first | exact of_decide_eq_true rfl | omega)) ?_
              refine q_val .none rfl (p_ld (k := 0) Try.underlying3 rfl rfl rfl (by first | exact of_decide_eq_true rfl | omega) (rfl : _ = Value.int _ _)) ?_
              refine q_val .none rfl (p_eq rfl rfl) ?_
              refine q_val .none rfl (p_assign rfl) ?_
              refine q_nil ?_
              refine e_next ?_
              refine c_ret ?_
              refine e_ret1 Try.results69 (.tmp rfl .nil) (fun w hm => ⟨?_, hm.since⟩)
              first
              | (rw [holds_out (by omega)]; done)
              | (rw [holds_back (by omega)]; rfl)
              | (rw [holds_own (by omega)]; rfl)
              )
        )
theorem c_holds12 (b : Int) (vb : Value) (bs : List Tri) (t : Tri) {G : Ghost} (hb : SlL G vb 3 triL z3 bs) (w : World) (hG : Has G w) :
    Calls Try.prog 69 #[Value.agg #[Value.int .i64 1, Value.int .i64 b, Value.int .i64 2], vb, kT t] w (Ret fun r w' => r = Value.bool (holdsT (1, b, 2) bs t) ∧ Since nX w w') := by
  refine enter (args := [_, _, _]) (X := nX) (G := G) (l := [(0, Value.agg #[Value.int .i64 1, Value.int .i64 b, Value.int .i64 2]), (1, vb), (2, kT t)]) Try.func69 rfl Try.ntmps69 hG ⟨rfl, rfl, rfl, trivial⟩ (Nat.le_of_ble_eq_true rfl) ?_
  refine c_seq ?_
  refine c_region ?_
  refine r_box .none rfl rfl (IsRow.lit _) (fun b_1 => ?_)
  refine r_box .none rfl rfl (IsRow.lit _) (fun b_2 => ?_)
  refine r_val .none rfl (p_assign rfl) ?_
  refine r_nil ?_
  refine e_next ?_
  refine c_seq ?_
  refine c_region ?_
  refine r_val .none rfl (p_ldw (k := 0) Try.underlying26 rfl sz26 rfl rfl (rfl : _ = Value.agg #[_, _, _])) ?_
  refine r_alloc .none rfl zr26 (IsRow.lit _) (fun b_3 => ?_)
  refine r_stw (k := 0) .none sz26 rfl rfl (IsRow.lit _) (one_lit rfl rfl) rfl ?_
  refine r_nil ?_
  refine e_next ?_
  refine c_seq ?_
  refine c_seq ?_
  refine c_region ?_
  refine r_val .none rfl (p_field Try.underlying63 rfl sz3 rfl) ?_
  refine r_val .none rfl (p_ld (k := 2) Try.underlying3 rfl rfl rfl (by first | exact of_decide_eq_true rfl | omega) (rfl : _ = Value.int _ _)) ?_
  refine r_val .none rfl (p_move rfl) ?_
  refine r_val .none rfl (p_leng Try.underlying22 rfl hb) ?_
  have bd_1 := (hb).bound
  refine r_val .none rfl (p_ge rfl rfl) ?_
  refine r_nil ?_
  refine e_next ?_
  refine c_splitd (d := 13) rfl (fun h_2 => ?_) (fun h_2 => ?_)
  · skip
    first
      | (exfalso; omega)
      | (
        refine c_cond_t rfl ?_
        refine c_seq ?_
        refine c_region ?_
        refine r_val .none rfl (p_assign rfl) ?_
        refine r_nil ?_
        refine e_next ?_
        refine c_ret ?_
        refine e_ret_then ?_
        refine e_ret1 Try.results69 (.tmp rfl .nil) (fun w hm => ⟨?_, hm.since⟩)
        first
        | (rw [holds_out (by omega)]; done)
        | (rw [holds_back (by omega)]; rfl)
        | (rw [holds_own (by omega)]; rfl)
        )
  · skip
    first
      | (exfalso; omega)
      | (
        refine c_cond_f rfl ?_
        refine c_skip ?_
        refine e_next ?_
        refine c_seq ?_
        refine c_seq ?_
        refine c_region ?_
        refine r_val .none rfl (p_field Try.underlying63 rfl sz3 rfl) ?_
        refine r_val .none rfl (p_ld (k := 2) Try.underlying3 rfl rfl rfl (by first | exact of_decide_eq_true rfl | omega) (rfl : _ = Value.int _ _)) ?_
        refine r_val .none rfl (p_ge rfl rfl) ?_
        refine r_nil ?_
        refine e_next ?_
        refine c_splitd (d := 16) rfl (fun h_3 => ?_) (fun h_3 => ?_)
        · skip
          first
            | (exfalso; omega)
            | (
              refine c_cond_t rfl ?_
              refine c_region ?_
              refine r_val .none rfl (p_move rfl) ?_
              refine r_val .none rfl (p_field Try.underlying63 rfl sz3 rfl) ?_
              refine r_val .none rfl (p_ld (k := 2) Try.underlying3 rfl rfl rfl (by first | exact of_decide_eq_true rfl | omega) (rfl : _ = Value.int _ _)) ?_
              obtain ⟨bn, rfl⟩ : ∃ bn : Nat, b = (bn : Int) := ⟨b.toNat, by omega⟩
              refine r_iaddr_g .none rfl Try.underlying22 sz26 rfl hb rfl (by first | exact of_decide_eq_true rfl | omega) (fun p_5 o_6 R_4 => ?_)
              refine r_val .none rfl (p_ldga0 Try.underlying26 rfl sz26 rfl R_4 (by first | exact of_decide_eq_true rfl | omega) (rfl : _ = Value.agg #[_, _, _])) ?_
              refine r_stw (k := 0) .none sz26 rfl rfl (IsRow.lit _) (one_lit rfl rfl) rfl ?_
              refine r_nil ?_
              refine e_next ?_
              refine c_seq ?_
              refine c_region_q mixed (by kernel_rfl) ?_
              refine q_val .none rfl (p_field Try.underlying63 rfl sz3 rfl) ?_
              refine q_val .none rfl (p_ld (k := 2) Try.underlying3 rfl rfl rfl (by first | exact of_decide_eq_true rfl | omega) (rfl : _ = Value.int _ _)) ?_
              refine q_val .none rfl (p_iaddr (k := 1) Try.underlying26 sz3 rfl rfl (by first | exact of_decide_eq_true rfl | omega)) ?_
              refine q_val .none rfl (p_ld (k := 1) Try.underlying3 rfl rfl rfl (by first | exact of_decide_eq_true rfl | omega) (rfl : _ = Value.int _ _)) ?_
              refine q_val .none rfl (p_field Try.underlying63 rfl sz3 rfl) ?_
              refine q_val .none rfl (p_ld (k := 2) Try.underlying3 rfl rfl rfl (by first | exact of_decide_eq_true rfl | omega) (rfl : _ = Value.int _ _)) ?_
              refine q_val .none rfl (p_iaddr (k := 2) Try.underlying26 sz3 rfl rfl (by first | exact of_decide_eq_true rfl | omega)) ?_
              refine q_val .none rfl (p_ld (k := 0) Try.underlying3 rfl rfl rfl (by first | exact of_decide_eq_true rfl | omega) (rfl : _ = Value.int _ _)) ?_
              refine q_val .none rfl (p_eq rfl rfl) ?_
              refine q_val .none rfl (p_assign rfl) ?_
              refine q_nil ?_
              refine e_next ?_
              refine c_ret ?_
              refine e_ret1 Try.results69 (.tmp rfl .nil) (fun w hm => ⟨?_, hm.since⟩)
              first
              | (rw [holds_out (by omega)]; done)
              | (rw [holds_back (by omega)]; rfl)
              | (rw [holds_own (by omega)]; rfl)
              )
        · skip
          first
            | (exfalso; omega)
            | (
              refine c_cond_f rfl ?_
              refine c_skip ?_
              refine e_next ?_
              refine c_seq ?_
              refine c_region_q mixed (by kernel_rfl) ?_
              refine q_val .none rfl (p_field Try.underlying63 rfl sz3 rfl) ?_
              refine q_val .none rfl (p_ld (k := 2) Try.underlying3 rfl rfl rfl (by first | exact of_decide_eq_true rfl | omega) (rfl : _ = Value.int _ _)) ?_
              refine q_val .none rfl (p_iaddr (k := 1) Try.underlying26 sz3 rfl rfl (by first | exact of_decide_eq_true rfl | omega)) ?_
              refine q_val .none rfl (p_ld (k := 1) Try.underlying3 rfl rfl rfl (by first | exact of_decide_eq_true rfl | omega) (rfl : _ = Value.int _ _)) ?_
              refine q_val .none rfl (p_field Try.underlying63 rfl sz3 rfl) ?_
              refine q_val .none rfl (p_ld (k := 2) Try.underlying3 rfl rfl rfl (by first | exact of_decide_eq_true rfl | omega) (rfl : _ = Value.int _ _)) ?_
              refine q_val .none rfl (p_iaddr (k := 2) Try.underlying26 sz3 rfl rfl (by first | exact of_decide_eq_true rfl | omega)) ?_
              refine q_val .none rfl (p_ld (k := 0) Try.underlying3 rfl rfl rfl (by first | exact of_decide_eq_true rfl | omega) (rfl : _ = Value.int _ _)) ?_
              refine q_val .none rfl (p_eq rfl rfl) ?_
              refine q_val .none rfl (p_assign rfl) ?_
              refine q_nil ?_
              refine e_next ?_
              refine c_ret ?_
              refine e_ret1 Try.results69 (.tmp rfl .nil) (fun w hm => ⟨?_, hm.since⟩)
              first
              | (rw [holds_out (by omega)]; done)
              | (rw [holds_back (by omega)]; rfl)
              | (rw [holds_own (by omega)]; rfl)
              )
        )
theorem c_holds20 (b : Int) (vb : Value) (bs : List Tri) (t : Tri) {G : Ghost} (hb : SlL G vb 3 triL z3 bs) (w : World) (hG : Has G w) :
    Calls Try.prog 69 #[Value.agg #[Value.int .i64 2, Value.int .i64 b, Value.int .i64 0], vb, kT t] w (Ret fun r w' => r = Value.bool (holdsT (2, b, 0) bs t) ∧ Since nX w w') := by
  refine enter (args := [_, _, _]) (X := nX) (G := G) (l := [(0, Value.agg #[Value.int .i64 2, Value.int .i64 b, Value.int .i64 0]), (1, vb), (2, kT t)]) Try.func69 rfl Try.ntmps69 hG ⟨rfl, rfl, rfl, trivial⟩ (Nat.le_of_ble_eq_true rfl) ?_
  refine c_seq ?_
  refine c_region ?_
  refine r_box .none rfl rfl (IsRow.lit _) (fun b_1 => ?_)
  refine r_box .none rfl rfl (IsRow.lit _) (fun b_2 => ?_)
  refine r_val .none rfl (p_assign rfl) ?_
  refine r_nil ?_
  refine e_next ?_
  refine c_seq ?_
  refine c_region ?_
  refine r_val .none rfl (p_ldw (k := 0) Try.underlying26 rfl sz26 rfl rfl (rfl : _ = Value.agg #[_, _, _])) ?_
  refine r_alloc .none rfl zr26 (IsRow.lit _) (fun b_3 => ?_)
  refine r_stw (k := 0) .none sz26 rfl rfl (IsRow.lit _) (one_lit rfl rfl) rfl ?_
  refine r_nil ?_
  refine e_next ?_
  refine c_seq ?_
  refine c_seq ?_
  refine c_region ?_
  refine r_val .none rfl (p_field Try.underlying63 rfl sz3 rfl) ?_
  refine r_val .none rfl (p_ld (k := 2) Try.underlying3 rfl rfl rfl (by first | exact of_decide_eq_true rfl | omega) (rfl : _ = Value.int _ _)) ?_
  refine r_val .none rfl (p_move rfl) ?_
  refine r_val .none rfl (p_leng Try.underlying22 rfl hb) ?_
  have bd_1 := (hb).bound
  refine r_val .none rfl (p_ge rfl rfl) ?_
  refine r_nil ?_
  refine e_next ?_
  refine c_splitd (d := 13) rfl (fun h_2 => ?_) (fun h_2 => ?_)
  · skip
    first
      | (exfalso; omega)
      | (
        refine c_cond_t rfl ?_
        refine c_seq ?_
        refine c_region ?_
        refine r_val .none rfl (p_assign rfl) ?_
        refine r_nil ?_
        refine e_next ?_
        refine c_ret ?_
        refine e_ret_then ?_
        refine e_ret1 Try.results69 (.tmp rfl .nil) (fun w hm => ⟨?_, hm.since⟩)
        first
        | (rw [holds_out (by omega)]; done)
        | (rw [holds_back (by omega)]; rfl)
        | (rw [holds_own (by omega)]; rfl)
        )
  · skip
    first
      | (exfalso; omega)
      | (
        refine c_cond_f rfl ?_
        refine c_skip ?_
        refine e_next ?_
        refine c_seq ?_
        refine c_seq ?_
        refine c_region ?_
        refine r_val .none rfl (p_field Try.underlying63 rfl sz3 rfl) ?_
        refine r_val .none rfl (p_ld (k := 2) Try.underlying3 rfl rfl rfl (by first | exact of_decide_eq_true rfl | omega) (rfl : _ = Value.int _ _)) ?_
        refine r_val .none rfl (p_ge rfl rfl) ?_
        refine r_nil ?_
        refine e_next ?_
        refine c_splitd (d := 16) rfl (fun h_3 => ?_) (fun h_3 => ?_)
        · skip
          first
            | (exfalso; omega)
            | (
              refine c_cond_t rfl ?_
              refine c_region ?_
              refine r_val .none rfl (p_move rfl) ?_
              refine r_val .none rfl (p_field Try.underlying63 rfl sz3 rfl) ?_
              refine r_val .none rfl (p_ld (k := 2) Try.underlying3 rfl rfl rfl (by first | exact of_decide_eq_true rfl | omega) (rfl : _ = Value.int _ _)) ?_
              obtain ⟨bn, rfl⟩ : ∃ bn : Nat, b = (bn : Int) := ⟨b.toNat, by omega⟩
              refine r_iaddr_g .none rfl Try.underlying22 sz26 rfl hb rfl (by first | exact of_decide_eq_true rfl | omega) (fun p_5 o_6 R_4 => ?_)
              refine r_val .none rfl (p_ldga0 Try.underlying26 rfl sz26 rfl R_4 (by first | exact of_decide_eq_true rfl | omega) (rfl : _ = Value.agg #[_, _, _])) ?_
              refine r_stw (k := 0) .none sz26 rfl rfl (IsRow.lit _) (one_lit rfl rfl) rfl ?_
              refine r_nil ?_
              refine e_next ?_
              refine c_seq ?_
              refine c_region_q mixed (by kernel_rfl) ?_
              refine q_val .none rfl (p_field Try.underlying63 rfl sz3 rfl) ?_
              refine q_val .none rfl (p_ld (k := 2) Try.underlying3 rfl rfl rfl (by first | exact of_decide_eq_true rfl | omega) (rfl : _ = Value.int _ _)) ?_
              refine q_val .none rfl (p_iaddr (k := 2) Try.underlying26 sz3 rfl rfl (by first | exact of_decide_eq_true rfl | omega)) ?_
              refine q_val .none rfl (p_ld (k := 1) Try.underlying3 rfl rfl rfl (by first | exact of_decide_eq_true rfl | omega) (rfl : _ = Value.int _ _)) ?_
              refine q_val .none rfl (p_field Try.underlying63 rfl sz3 rfl) ?_
              refine q_val .none rfl (p_ld (k := 2) Try.underlying3 rfl rfl rfl (by first | exact of_decide_eq_true rfl | omega) (rfl : _ = Value.int _ _)) ?_
              refine q_val .none rfl (p_iaddr (k := 0) Try.underlying26 sz3 rfl rfl (by first | exact of_decide_eq_true rfl | omega)) ?_
              refine q_val .none rfl (p_ld (k := 0) Try.underlying3 rfl rfl rfl (by first | exact of_decide_eq_true rfl | omega) (rfl : _ = Value.int _ _)) ?_
              refine q_val .none rfl (p_eq rfl rfl) ?_
              refine q_val .none rfl (p_assign rfl) ?_
              refine q_nil ?_
              refine e_next ?_
              refine c_ret ?_
              refine e_ret1 Try.results69 (.tmp rfl .nil) (fun w hm => ⟨?_, hm.since⟩)
              first
              | (rw [holds_out (by omega)]; done)
              | (rw [holds_back (by omega)]; rfl)
              | (rw [holds_own (by omega)]; rfl)
              )
        · skip
          first
            | (exfalso; omega)
            | (
              refine c_cond_f rfl ?_
              refine c_skip ?_
              refine e_next ?_
              refine c_seq ?_
              refine c_region_q mixed (by kernel_rfl) ?_
              refine q_val .none rfl (p_field Try.underlying63 rfl sz3 rfl) ?_
              refine q_val .none rfl (p_ld (k := 2) Try.underlying3 rfl rfl rfl (by first | exact of_decide_eq_true rfl | omega) (rfl : _ = Value.int _ _)) ?_
              refine q_val .none rfl (p_iaddr (k := 2) Try.underlying26 sz3 rfl rfl (by first | exact of_decide_eq_true rfl | omega)) ?_
              refine q_val .none rfl (p_ld (k := 1) Try.underlying3 rfl rfl rfl (by first | exact of_decide_eq_true rfl | omega) (rfl : _ = Value.int _ _)) ?_
              refine q_val .none rfl (p_field Try.underlying63 rfl sz3 rfl) ?_
              refine q_val .none rfl (p_ld (k := 2) Try.underlying3 rfl rfl rfl (by first | exact of_decide_eq_true rfl | omega) (rfl : _ = Value.int _ _)) ?_
              refine q_val .none rfl (p_iaddr (k := 0) Try.underlying26 sz3 rfl rfl (by first | exact of_decide_eq_true rfl | omega)) ?_
              refine q_val .none rfl (p_ld (k := 0) Try.underlying3 rfl rfl rfl (by first | exact of_decide_eq_true rfl | omega) (rfl : _ = Value.int _ _)) ?_
              refine q_val .none rfl (p_eq rfl rfl) ?_
              refine q_val .none rfl (p_assign rfl) ?_
              refine q_nil ?_
              refine e_next ?_
              refine c_ret ?_
              refine e_ret1 Try.results69 (.tmp rfl .nil) (fun w hm => ⟨?_, hm.since⟩)
              first
              | (rw [holds_out (by omega)]; done)
              | (rw [holds_back (by omega)]; rfl)
              | (rw [holds_own (by omega)]; rfl)
              )
        )
theorem c_holds21 (b : Int) (vb : Value) (bs : List Tri) (t : Tri) {G : Ghost} (hb : SlL G vb 3 triL z3 bs) (w : World) (hG : Has G w) :
    Calls Try.prog 69 #[Value.agg #[Value.int .i64 2, Value.int .i64 b, Value.int .i64 1], vb, kT t] w (Ret fun r w' => r = Value.bool (holdsT (2, b, 1) bs t) ∧ Since nX w w') := by
  refine enter (args := [_, _, _]) (X := nX) (G := G) (l := [(0, Value.agg #[Value.int .i64 2, Value.int .i64 b, Value.int .i64 1]), (1, vb), (2, kT t)]) Try.func69 rfl Try.ntmps69 hG ⟨rfl, rfl, rfl, trivial⟩ (Nat.le_of_ble_eq_true rfl) ?_
  refine c_seq ?_
  refine c_region ?_
  refine r_box .none rfl rfl (IsRow.lit _) (fun b_1 => ?_)
  refine r_box .none rfl rfl (IsRow.lit _) (fun b_2 => ?_)
  refine r_val .none rfl (p_assign rfl) ?_
  refine r_nil ?_
  refine e_next ?_
  refine c_seq ?_
  refine c_region ?_
  refine r_val .none rfl (p_ldw (k := 0) Try.underlying26 rfl sz26 rfl rfl (rfl : _ = Value.agg #[_, _, _])) ?_
  refine r_alloc .none rfl zr26 (IsRow.lit _) (fun b_3 => ?_)
  refine r_stw (k := 0) .none sz26 rfl rfl (IsRow.lit _) (one_lit rfl rfl) rfl ?_
  refine r_nil ?_
  refine e_next ?_
  refine c_seq ?_
  refine c_seq ?_
  refine c_region ?_
  refine r_val .none rfl (p_field Try.underlying63 rfl sz3 rfl) ?_
  refine r_val .none rfl (p_ld (k := 2) Try.underlying3 rfl rfl rfl (by first | exact of_decide_eq_true rfl | omega) (rfl : _ = Value.int _ _)) ?_
  refine r_val .none rfl (p_move rfl) ?_
  refine r_val .none rfl (p_leng Try.underlying22 rfl hb) ?_
  have bd_1 := (hb).bound
  refine r_val .none rfl (p_ge rfl rfl) ?_
  refine r_nil ?_
  refine e_next ?_
  refine c_splitd (d := 13) rfl (fun h_2 => ?_) (fun h_2 => ?_)
  · skip
    first
      | (exfalso; omega)
      | (
        refine c_cond_t rfl ?_
        refine c_seq ?_
        refine c_region ?_
        refine r_val .none rfl (p_assign rfl) ?_
        refine r_nil ?_
        refine e_next ?_
        refine c_ret ?_
        refine e_ret_then ?_
        refine e_ret1 Try.results69 (.tmp rfl .nil) (fun w hm => ⟨?_, hm.since⟩)
        first
        | (rw [holds_out (by omega)]; done)
        | (rw [holds_back (by omega)]; rfl)
        | (rw [holds_own (by omega)]; rfl)
        )
  · skip
    first
      | (exfalso; omega)
      | (
        refine c_cond_f rfl ?_
        refine c_skip ?_
        refine e_next ?_
        refine c_seq ?_
        refine c_seq ?_
        refine c_region ?_
        refine r_val .none rfl (p_field Try.underlying63 rfl sz3 rfl) ?_
        refine r_val .none rfl (p_ld (k := 2) Try.underlying3 rfl rfl rfl (by first | exact of_decide_eq_true rfl | omega) (rfl : _ = Value.int _ _)) ?_
        refine r_val .none rfl (p_ge rfl rfl) ?_
        refine r_nil ?_
        refine e_next ?_
        refine c_splitd (d := 16) rfl (fun h_3 => ?_) (fun h_3 => ?_)
        · skip
          first
            | (exfalso; omega)
            | (
              refine c_cond_t rfl ?_
              refine c_region ?_
              refine r_val .none rfl (p_move rfl) ?_
              refine r_val .none rfl (p_field Try.underlying63 rfl sz3 rfl) ?_
              refine r_val .none rfl (p_ld (k := 2) Try.underlying3 rfl rfl rfl (by first | exact of_decide_eq_true rfl | omega) (rfl : _ = Value.int _ _)) ?_
              obtain ⟨bn, rfl⟩ : ∃ bn : Nat, b = (bn : Int) := ⟨b.toNat, by omega⟩
              refine r_iaddr_g .none rfl Try.underlying22 sz26 rfl hb rfl (by first | exact of_decide_eq_true rfl | omega) (fun p_5 o_6 R_4 => ?_)
              refine r_val .none rfl (p_ldga0 Try.underlying26 rfl sz26 rfl R_4 (by first | exact of_decide_eq_true rfl | omega) (rfl : _ = Value.agg #[_, _, _])) ?_
              refine r_stw (k := 0) .none sz26 rfl rfl (IsRow.lit _) (one_lit rfl rfl) rfl ?_
              refine r_nil ?_
              refine e_next ?_
              refine c_seq ?_
              refine c_region_q mixed (by kernel_rfl) ?_
              refine q_val .none rfl (p_field Try.underlying63 rfl sz3 rfl) ?_
              refine q_val .none rfl (p_ld (k := 2) Try.underlying3 rfl rfl rfl (by first | exact of_decide_eq_true rfl | omega) (rfl : _ = Value.int _ _)) ?_
              refine q_val .none rfl (p_iaddr (k := 2) Try.underlying26 sz3 rfl rfl (by first | exact of_decide_eq_true rfl | omega)) ?_
              refine q_val .none rfl (p_ld (k := 1) Try.underlying3 rfl rfl rfl (by first | exact of_decide_eq_true rfl | omega) (rfl : _ = Value.int _ _)) ?_
              refine q_val .none rfl (p_field Try.underlying63 rfl sz3 rfl) ?_
              refine q_val .none rfl (p_ld (k := 2) Try.underlying3 rfl rfl rfl (by first | exact of_decide_eq_true rfl | omega) (rfl : _ = Value.int _ _)) ?_
              refine q_val .none rfl (p_iaddr (k := 1) Try.underlying26 sz3 rfl rfl (by first | exact of_decide_eq_true rfl | omega)) ?_
              refine q_val .none rfl (p_ld (k := 0) Try.underlying3 rfl rfl rfl (by first | exact of_decide_eq_true rfl | omega) (rfl : _ = Value.int _ _)) ?_
              refine q_val .none rfl (p_eq rfl rfl) ?_
              refine q_val .none rfl (p_assign rfl) ?_
              refine q_nil ?_
              refine e_next ?_
              refine c_ret ?_
              refine e_ret1 Try.results69 (.tmp rfl .nil) (fun w hm => ⟨?_, hm.since⟩)
              first
              | (rw [holds_out (by omega)]; done)
              | (rw [holds_back (by omega)]; rfl)
              | (rw [holds_own (by omega)]; rfl)
              )
        · skip
          first
            | (exfalso; omega)
            | (
              refine c_cond_f rfl ?_
              refine c_skip ?_
              refine e_next ?_
              refine c_seq ?_
              refine c_region_q mixed (by kernel_rfl) ?_
              refine q_val .none rfl (p_field Try.underlying63 rfl sz3 rfl) ?_
              refine q_val .none rfl (p_ld (k := 2) Try.underlying3 rfl rfl rfl (by first | exact of_decide_eq_true rfl | omega) (rfl : _ = Value.int _ _)) ?_
              refine q_val .none rfl (p_iaddr (k := 2) Try.underlying26 sz3 rfl rfl (by first | exact of_decide_eq_true rfl | omega)) ?_
              refine q_val .none rfl (p_ld (k := 1) Try.underlying3 rfl rfl rfl (by first | exact of_decide_eq_true rfl | omega) (rfl : _ = Value.int _ _)) ?_
              refine q_val .none rfl (p_field Try.underlying63 rfl sz3 rfl) ?_
              refine q_val .none rfl (p_ld (k := 2) Try.underlying3 rfl rfl rfl (by first | exact of_decide_eq_true rfl | omega) (rfl : _ = Value.int _ _)) ?_
              refine q_val .none rfl (p_iaddr (k := 1) Try.underlying26 sz3 rfl rfl (by first | exact of_decide_eq_true rfl | omega)) ?_
              refine q_val .none rfl (p_ld (k := 0) Try.underlying3 rfl rfl rfl (by first | exact of_decide_eq_true rfl | omega) (rfl : _ = Value.int _ _)) ?_
              refine q_val .none rfl (p_eq rfl rfl) ?_
              refine q_val .none rfl (p_assign rfl) ?_
              refine q_nil ?_
              refine e_next ?_
              refine c_ret ?_
              refine e_ret1 Try.results69 (.tmp rfl .nil) (fun w hm => ⟨?_, hm.since⟩)
              first
              | (rw [holds_out (by omega)]; done)
              | (rw [holds_back (by omega)]; rfl)
              | (rw [holds_own (by omega)]; rfl)
              )
        )
theorem c_holds22 (b : Int) (vb : Value) (bs : List Tri) (t : Tri) {G : Ghost} (hb : SlL G vb 3 triL z3 bs) (w : World) (hG : Has G w) :
    Calls Try.prog 69 #[Value.agg #[Value.int .i64 2, Value.int .i64 b, Value.int .i64 2], vb, kT t] w (Ret fun r w' => r = Value.bool (holdsT (2, b, 2) bs t) ∧ Since nX w w') := by
  refine enter (args := [_, _, _]) (X := nX) (G := G) (l := [(0, Value.agg #[Value.int .i64 2, Value.int .i64 b, Value.int .i64 2]), (1, vb), (2, kT t)]) Try.func69 rfl Try.ntmps69 hG ⟨rfl, rfl, rfl, trivial⟩ (Nat.le_of_ble_eq_true rfl) ?_
  refine c_seq ?_
  refine c_region ?_
  refine r_box .none rfl rfl (IsRow.lit _) (fun b_1 => ?_)
  refine r_box .none rfl rfl (IsRow.lit _) (fun b_2 => ?_)
  refine r_val .none rfl (p_assign rfl) ?_
  refine r_nil ?_
  refine e_next ?_
  refine c_seq ?_
  refine c_region ?_
  refine r_val .none rfl (p_ldw (k := 0) Try.underlying26 rfl sz26 rfl rfl (rfl : _ = Value.agg #[_, _, _])) ?_
  refine r_alloc .none rfl zr26 (IsRow.lit _) (fun b_3 => ?_)
  refine r_stw (k := 0) .none sz26 rfl rfl (IsRow.lit _) (one_lit rfl rfl) rfl ?_
  refine r_nil ?_
  refine e_next ?_
  refine c_seq ?_
  refine c_seq ?_
  refine c_region ?_
  refine r_val .none rfl (p_field Try.underlying63 rfl sz3 rfl) ?_
  refine r_val .none rfl (p_ld (k := 2) Try.underlying3 rfl rfl rfl (by first | exact of_decide_eq_true rfl | omega) (rfl : _ = Value.int _ _)) ?_
  refine r_val .none rfl (p_move rfl) ?_
  refine r_val .none rfl (p_leng Try.underlying22 rfl hb) ?_
  have bd_1 := (hb).bound
  refine r_val .none rfl (p_ge rfl rfl) ?_
  refine r_nil ?_
  refine e_next ?_
  refine c_splitd (d := 13) rfl (fun h_2 => ?_) (fun h_2 => ?_)
  · skip
    first
      | (exfalso; omega)
      | (
        refine c_cond_t rfl ?_
        refine c_seq ?_
        refine c_region ?_
        refine r_val .none rfl (p_assign rfl) ?_
        refine r_nil ?_
        refine e_next ?_
        refine c_ret ?_
        refine e_ret_then ?_
        refine e_ret1 Try.results69 (.tmp rfl .nil) (fun w hm => ⟨?_, hm.since⟩)
        first
        | (rw [holds_out (by omega)]; done)
        | (rw [holds_back (by omega)]; rfl)
        | (rw [holds_own (by omega)]; rfl)
        )
  · skip
    first
      | (exfalso; omega)
      | (
        refine c_cond_f rfl ?_
        refine c_skip ?_
        refine e_next ?_
        refine c_seq ?_
        refine c_seq ?_
        refine c_region ?_
        refine r_val .none rfl (p_field Try.underlying63 rfl sz3 rfl) ?_
        refine r_val .none rfl (p_ld (k := 2) Try.underlying3 rfl rfl rfl (by first | exact of_decide_eq_true rfl | omega) (rfl : _ = Value.int _ _)) ?_
        refine r_val .none rfl (p_ge rfl rfl) ?_
        refine r_nil ?_
        refine e_next ?_
        refine c_splitd (d := 16) rfl (fun h_3 => ?_) (fun h_3 => ?_)
        · skip
          first
            | (exfalso; omega)
            | (
              refine c_cond_t rfl ?_
              refine c_region ?_
              refine r_val .none rfl (p_move rfl) ?_
              refine r_val .none rfl (p_field Try.underlying63 rfl sz3 rfl) ?_
              refine r_val .none rfl (p_ld (k := 2) Try.underlying3 rfl rfl rfl (by first | exact of_decide_eq_true rfl | omega) (rfl : _ = Value.int _ _)) ?_
              obtain ⟨bn, rfl⟩ : ∃ bn : Nat, b = (bn : Int) := ⟨b.toNat, by omega⟩
              refine r_iaddr_g .none rfl Try.underlying22 sz26 rfl hb rfl (by first | exact of_decide_eq_true rfl | omega) (fun p_5 o_6 R_4 => ?_)
              refine r_val .none rfl (p_ldga0 Try.underlying26 rfl sz26 rfl R_4 (by first | exact of_decide_eq_true rfl | omega) (rfl : _ = Value.agg #[_, _, _])) ?_
              refine r_stw (k := 0) .none sz26 rfl rfl (IsRow.lit _) (one_lit rfl rfl) rfl ?_
              refine r_nil ?_
              refine e_next ?_
              refine c_seq ?_
              refine c_region_q mixed (by kernel_rfl) ?_
              refine q_val .none rfl (p_field Try.underlying63 rfl sz3 rfl) ?_
              refine q_val .none rfl (p_ld (k := 2) Try.underlying3 rfl rfl rfl (by first | exact of_decide_eq_true rfl | omega) (rfl : _ = Value.int _ _)) ?_
              refine q_val .none rfl (p_iaddr (k := 2) Try.underlying26 sz3 rfl rfl (by first | exact of_decide_eq_true rfl | omega)) ?_
              refine q_val .none rfl (p_ld (k := 1) Try.underlying3 rfl rfl rfl (by first | exact of_decide_eq_true rfl | omega) (rfl : _ = Value.int _ _)) ?_
              refine q_val .none rfl (p_field Try.underlying63 rfl sz3 rfl) ?_
              refine q_val .none rfl (p_ld (k := 2) Try.underlying3 rfl rfl rfl (by first | exact of_decide_eq_true rfl | omega) (rfl : _ = Value.int _ _)) ?_
              refine q_val .none rfl (p_iaddr (k := 2) Try.underlying26 sz3 rfl rfl (by first | exact of_decide_eq_true rfl | omega)) ?_
              refine q_val .none rfl (p_ld (k := 0) Try.underlying3 rfl rfl rfl (by first | exact of_decide_eq_true rfl | omega) (rfl : _ = Value.int _ _)) ?_
              refine q_val .none rfl (p_eq rfl rfl) ?_
              refine q_val .none rfl (p_assign rfl) ?_
              refine q_nil ?_
              refine e_next ?_
              refine c_ret ?_
              refine e_ret1 Try.results69 (.tmp rfl .nil) (fun w hm => ⟨?_, hm.since⟩)
              first
              | (rw [holds_out (by omega)]; done)
              | (rw [holds_back (by omega)]; rfl)
              | (rw [holds_own (by omega)]; rfl)
              )
        · skip
          first
            | (exfalso; omega)
            | (
              refine c_cond_f rfl ?_
              refine c_skip ?_
              refine e_next ?_
              refine c_seq ?_
              refine c_region_q mixed (by kernel_rfl) ?_
              refine q_val .none rfl (p_field Try.underlying63 rfl sz3 rfl) ?_
              refine q_val .none rfl (p_ld (k := 2) Try.underlying3 rfl rfl rfl (by first | exact of_decide_eq_true rfl | omega) (rfl : _ = Value.int _ _)) ?_
              refine q_val .none rfl (p_iaddr (k := 2) Try.underlying26 sz3 rfl rfl (by first | exact of_decide_eq_true rfl | omega)) ?_
              refine q_val .none rfl (p_ld (k := 1) Try.underlying3 rfl rfl rfl (by first | exact of_decide_eq_true rfl | omega) (rfl : _ = Value.int _ _)) ?_
              refine q_val .none rfl (p_field Try.underlying63 rfl sz3 rfl) ?_
              refine q_val .none rfl (p_ld (k := 2) Try.underlying3 rfl rfl rfl (by first | exact of_decide_eq_true rfl | omega) (rfl : _ = Value.int _ _)) ?_
              refine q_val .none rfl (p_iaddr (k := 2) Try.underlying26 sz3 rfl rfl (by first | exact of_decide_eq_true rfl | omega)) ?_
              refine q_val .none rfl (p_ld (k := 0) Try.underlying3 rfl rfl rfl (by first | exact of_decide_eq_true rfl | omega) (rfl : _ = Value.int _ _)) ?_
              refine q_val .none rfl (p_eq rfl rfl) ?_
              refine q_val .none rfl (p_assign rfl) ?_
              refine q_nil ?_
              refine e_next ?_
              refine c_ret ?_
              refine e_ret1 Try.results69 (.tmp rfl .nil) (fun w hm => ⟨?_, hm.since⟩)
              first
              | (rw [holds_out (by omega)]; done)
              | (rw [holds_back (by omega)]; rfl)
              | (rw [holds_own (by omega)]; rfl)
              )
        )
theorem c_holds (x : TD) (vb : Value) (bs : List Tri) (t : Tri) {G : Ghost} (hx : OkT x) (hb : SlL G vb 3 triL z3 bs) (w : World) (hG : Has G w) : Calls Try.prog 69 #[Value.agg #[Value.int .i64 x.1, Value.int .i64 x.2.1, Value.int .i64 x.2.2], vb, kT t] w (Ret fun r w' => r = Value.bool (holdsT x bs t) ∧ Since nX w w') := by
  obtain ⟨f, b, o⟩ := x
  obtain ⟨hf, _, ho⟩ := hx
  dsimp only at hf ho ⊢
  rcases hf with rfl | rfl | rfl <;> rcases ho with rfl | rfl | rfl
  · exact c_holds00 b vb bs t hb w hG
  · exact c_holds01 b vb bs t hb w hG
  · exact c_holds02 b vb bs t hb w hG
  · exact c_holds10 b vb bs t hb w hG
  · exact c_holds11 b vb bs t hb w hG
  · exact c_holds12 b vb bs t hb w hG
  · exact c_holds20 b vb bs t hb w hG
  · exact c_holds21 b vb bs t hb w hG
  · exact c_holds22 b vb bs t hb w hG
theorem c_meets (k : Int) (key : Tri) (ts : List TD) (tv uv : Value) (vb : Value) (bs : List Tri) (t : Tri) {G : Ghost} (hok : ∀ x ∈ ts, OkT x) (ht : SlL G tv 3 tC t0 ts) (hb : SlL G vb 3 triL z3 bs) (w : World) (hG : Has G w) :
    Calls Try.prog 27 #[Value.agg #[Value.int .i64 k, Value.int .i64 key.1, Value.int .i64 key.2.1, Value.int .i64 key.2.2, tv, uv], vb, kT t] w (Ret fun r w' => r = Value.bool (meets k key ts bs t) ∧ Since nX w w') := by
  refine enter (args := [_, _, _]) (X := nX) (G := G) (l := [(0, Value.agg #[Value.int .i64 k, Value.int .i64 key.1, Value.int .i64 key.2.1, Value.int .i64 key.2.2, tv, uv]), (1, vb), (2, kT t)]) Try.func27 rfl Try.ntmps27 hG ⟨rfl, rfl, rfl, trivial⟩ (Nat.le_of_ble_eq_true rfl) ?_
  refine c_seq ?_
  refine c_region ?_
  refine r_box .none rfl rfl (IsRow.lit _) (fun b_1 => ?_)
  refine r_box .none rfl rfl (IsRow.lit _) (fun b_2 => ?_)
  refine r_val .none rfl (p_assign rfl) ?_
  refine r_nil ?_
  refine e_next ?_
  refine c_seq ?_
  refine c_seq ?_
  refine c_region ?_
  refine r_val .none rfl (p_field Try.underlying59 rfl sz3 rfl) ?_
  refine r_val .none rfl (p_ld (k := 1) Try.underlying3 rfl rfl rfl (by first | exact of_decide_eq_true rfl | omega) (rfl : _ = Value.int _ _)) ?_
  refine r_val .none rfl (p_eq rfl rfl) ?_
  refine r_val .none rfl (p_move rfl) ?_
  refine' r_or (c := 12) (d := 18) [_, _, _, _, _, _] rfl (fun h_1 Q_2 hQ_3 => ?_) (fun h_1 Q_2 hQ_3 => ?_) ?_
  rotate_left 1
  · skip
    replace h_1 := of_decide_eq_false h_1
    refine r_val (.some rfl rfl) rfl (p_ldw (k := 0) Try.underlying26 rfl sz26 rfl rfl (rfl : _ = Value.agg #[_, _, _])) ?_
    refine r_val (.some rfl rfl) rfl (p_field Try.underlying59 rfl sz26 rfl) ?_
    refine r_val (.some rfl rfl) rfl (p_lda (k := 1) Try.underlying26 rfl sz26 rfl rfl (by first | exact of_decide_eq_true rfl | omega) (rfl : _ = Value.agg #[_, _, _])) ?_
    refine r_call (vs := [_, _]) (.some rfl rfl) rfl cl68 rfl (fun w hw => c_khas t key w) ?_
    refine r_val (.some rfl rfl) rfl (p_not rfl) ?_
    refine r_val .none rfl (p_pick_f rfl rfl) ?_
    refine r_nil (e_fin (d := 18) hQ_3 rfl (by repeat (first | exact .refl | refine .put rfl ?_ | refine .say rfl ?_ | refine .say2 rfl (by first | assumption | simp_all) ?_)))
  · skip
    repeat (first | refine r_skip rfl (.no rfl rfl) ?_ | refine r_skip rfl (.un rfl rfl) ?_)
    refine r_val (by first | exact .none | exact .some rfl rfl) rfl (p_pick_t rfl rfl) ?_
    refine r_nil (e_fin (d := 18) hQ_3 rfl (by repeat (first | exact .refl | refine .put rfl ?_ | refine .say rfl ?_ | refine .say2 rfl (by first | assumption | simp_all) ?_)))
  refine r_nil ?_
  refine e_next ?_
  refine c_split (d := 18) rfl (fun h_5 => ?_) (fun h_5 => ?_)
  · skip
    try simp only [norms] at h_5
    have hC := h_5
    first
      | (exfalso; omega)
      | (
        refine c_cond_t rfl ?_
        refine c_seq ?_
        refine c_region ?_
        refine r_val .none rfl (p_assign rfl) ?_
        refine r_nil ?_
        refine e_next ?_
        refine c_ret ?_
        refine e_ret_then ?_
        refine e_ret1 Try.results27 (.tmp rfl .nil) (fun w hm => ⟨?_, hm.since⟩)
        unfold meets
        first
        | (rw [if_pos hC]; done)
        | (rw [if_neg (by rintro (h | h); exact hC.1 h; rw [hC.2] at h; cases h), ← hphi.2, all_drop (k := j) (by omega), hE]; rfl)
        | (rw [if_neg (by rintro (h | h); exact hC.1 h; rw [hC.2] at h; cases h), ← hphi.2, List.drop_eq_nil_of_le (by omega)]; rfl)
        )
  · skip
    try simp only [norms] at h_5
    have hC := h_5
    first
      | (exfalso; omega)
      | (
        refine c_cond_f rfl ?_
        refine c_skip ?_
        refine e_next ?_
        refine c_seq ?_
        refine c_seq ?_
        refine c_region ?_
        refine r_val .none rfl (p_field Try.underlying59 rfl sz57 rfl) ?_
        refine r_val .none rfl (p_ld (k := 1) Try.underlying57 rfl rfl rfl (by first | exact of_decide_eq_true rfl | omega) rfl) ?_
        refine r_val .none rfl (p_leng Try.underlying57 rfl ht) ?_
        have bd_6 := (ht).bound
        refine r_val .none rfl (p_move rfl) ?_
        refine r_nil ?_
        refine e_next ?_
        refine c_block ?_
        refine c_name (d := 1) rfl (fun u_7 hu_7 => ?_)
        refine c_name (d := 5) rfl (fun u_8 hu_8 => ?_)
        refine c_name (d := 20) rfl (fun u_9 hu_9 => ?_)
        refine c_name (d := 21) rfl (fun u_10 hu_10 => ?_)
        refine c_nameL (k := 0) rfl (fun A_11 hA_11 => ?_)
        refine c_nameL (k := 1) rfl (fun A_12 hA_12 => ?_)
        refine c_loop (σ := Nat) (fun j => [(22, Value.int .i64 (j : Nat)), (1, u_7), (5, u_8), (20, u_9), (21, u_10)]) (fun j => [A_11, A_12]) (fun _ => _) (fun j => j ≤ ts.length ∧ (ts.drop j).all (fun x => holdsT x bs t) = ts.all fun x => holdsT x bs t) (fun j => ts.length - j) (0) ⟨Nat.zero_le _, rfl⟩ rfl ⟨rfl, rfl, rfl, rfl, rfl, trivial⟩ (.keep (fun _ _ h => h) (.keep (fun _ _ h => h) (.nil))) (fun j hphi => ?_)
        subst hu_7
        subst hu_8
        subst hu_9
        subst hu_10
        subst hA_11
        subst hA_12
        refine c_seq ?_
        refine c_region ?_
        refine r_val .none rfl (p_lt rfl rfl) ?_
        refine r_nil ?_
        refine e_next ?_
        refine c_seq ?_
        refine c_splitd (d := 23) rfl (fun h_13 => ?_) (fun h_13 => ?_)
        · skip
          first
            | (exfalso; omega)
            | (
              refine c_cond_t rfl ?_
              refine c_skip ?_
              refine e_next ?_
              refine c_seq ?_
              refine c_block ?_
              refine c_seq ?_
              refine c_region ?_
              refine r_iaddr_g .none rfl Try.underlying57 sz63 rfl ht rfl (by first | exact of_decide_eq_true rfl | omega) (fun p_15 o_16 R_14 => ?_)
              refine r_val .none rfl (p_ldga0 Try.underlying63 rfl sz63 rfl R_14 (by first | exact of_decide_eq_true rfl | omega) (rfl : _ = Value.agg #[_, _, _])) ?_
              refine r_alloc .none rfl zr63 (IsRow.lit _) (fun b_3 => ?_)
              refine r_stw (k := 0) .none sz63 rfl rfl (IsRow.lit _) (one_lit rfl rfl) rfl ?_
              refine r_nil ?_
              refine e_next ?_
              refine c_seq ?_
              refine c_region ?_
              refine r_val .none rfl (p_ldw (k := 0) Try.underlying63 rfl sz63 rfl rfl (rfl : _ = Value.agg #[_, _, _])) ?_
              refine r_val .none rfl (p_move rfl) ?_
              refine r_val .none rfl (p_ldw (k := 1) Try.underlying26 rfl sz26 rfl rfl (rfl : _ = Value.agg #[_, _, _])) ?_
              refine r_call (vs := [_, _, _]) .none rfl cl69 rfl (fun w hw => c_holds _ _ _ _ (hok _ (getD_mem (d := t0) (by omega))) hb w hw) ?_
              refine r_val .none rfl (p_not rfl) ?_
              refine r_nil ?_
              refine e_next ?_
              refine c_splitn (d := 30) rfl (fun h_17 => ?_) (fun h_17 => ?_)
              · skip
                have hE : holdsT (ts.getD j t0) bs t = false := h_17
                first
                  | (exfalso; omega)
                  | (
                    refine c_cond_t rfl ?_
                    refine c_seq ?_
                    refine c_region ?_
                    refine r_val .none rfl (p_assign rfl) ?_
                    refine r_nil ?_
                    refine e_next ?_
                    refine c_ret ?_
                    refine e_ret_block ?_
                    refine e_ret_then ?_
                    refine e_ret_then ?_
                    refine e_ret_block ?_
                    refine e_ret_then ?_
                    refine e_ret1 Try.results27 (.tmp rfl .nil) (fun w hm => ⟨?_, hm.since⟩)
                    unfold meets
                    first
                    | (rw [if_pos hC]; done)
                    | (rw [if_neg (by rintro (h | h); exact hC.1 h; rw [hC.2] at h; cases h), ← hphi.2, all_drop (k := j) (by omega), hE]; rfl)
                    | (rw [if_neg (by rintro (h | h); exact hC.1 h; rw [hC.2] at h; cases h), ← hphi.2, List.drop_eq_nil_of_le (by omega)]; rfl)
                    )
              · skip
                have hE : holdsT (ts.getD j t0) bs t = true := h_17
                first
                  | (exfalso; omega)
                  | (
                    refine c_cond_f rfl ?_
                    refine c_skip ?_
                    refine e_norm_block ?_
                    refine e_next ?_
                    refine c_region ?_
                    refine r_val .none rfl (p_add rfl rfl (by omega)) ?_
                    refine r_val .none rfl (p_move rfl) ?_
                    refine r_nil ?_
                    refine e_round (j + 1) ⟨⟨by omega, by rw [← hphi.2, all_drop (k := j) (by omega), hE, Bool.true_and]⟩, by omega⟩ rfl ⟨rfl, rfl, rfl, rfl, rfl, trivial⟩ (.drop (.keep (fun _ _ h => h) (.keep (fun _ _ h => h) (.nil))))
                    )
              )
        · skip
          first
            | (exfalso; omega)
            | (
              refine c_cond_f rfl ?_
              refine c_exit ?_
              refine e_exit_then ?_
              refine e_exit_then ?_
              refine e_exit_block ?_
              refine e_next ?_
              refine c_seq ?_
              refine c_region ?_
              refine r_val .none rfl (p_assign rfl) ?_
              refine r_nil ?_
              refine e_next ?_
              refine c_ret ?_
              refine e_ret1 Try.results27 (.tmp rfl .nil) (fun w hm => ⟨?_, hm.since⟩)
              unfold meets
              first
              | (rw [if_pos hC]; done)
              | (rw [if_neg (by rintro (h | h); exact hC.1 h; rw [hC.2] at h; cases h), ← hphi.2, all_drop (k := j) (by omega), hE]; rfl)
              | (rw [if_neg (by rintro (h | h); exact hC.1 h; rw [hC.2] at h; cases h), ← hphi.2, List.drop_eq_nil_of_le (by omega)]; rfl)
              )
        )
theorem c_right13 (vb : Value) (bs : List Tri) {G : Ghost} (hb : SlL G vb 3 triL z3 bs) (w : World) (hG : Has G w) :
    Calls Try.prog 20 #[vb] w (Ret fun r w' => r = Value.bool (bs.all fun t => tripleRight t.1 t.2.1 t.2.2) ∧ Since nX w w') := by
  refine enter (args := [_]) (X := nX) (G := G) (l := [(0, vb)]) Try.func20 rfl Try.ntmps20 hG ⟨rfl, trivial⟩ (Nat.le_of_ble_eq_true rfl) ?_
  refine c_seq ?_
  refine c_region ?_
  refine r_val .none rfl (p_assign rfl) ?_
  refine r_nil ?_
  refine e_next ?_
  refine c_seq ?_
  refine c_seq ?_
  refine c_region ?_
  refine r_val .none rfl (p_move rfl) ?_
  refine r_val .none rfl (p_leng Try.underlying22 rfl hb) ?_
  have bd_1 := (hb).bound
  refine r_val .none rfl (p_move rfl) ?_
  refine r_nil ?_
  refine e_next ?_
  refine c_block ?_
  refine c_name (d := 5) rfl (fun u_2 hu_2 => ?_)
  refine c_name (d := 6) rfl (fun u_3 hu_3 => ?_)
  refine c_loop (σ := Nat) (fun j => [(7, Value.int .i64 (j : Nat)), (5, u_2), (6, u_3)]) (fun j => []) (fun _ => _) (fun j => j ≤ bs.length ∧ (bs.drop j).all (fun t => tripleRight t.1 t.2.1 t.2.2) = bs.all fun t => tripleRight t.1 t.2.1 t.2.2) (fun j => bs.length - j) (0) ⟨Nat.zero_le _, rfl⟩ rfl ⟨rfl, rfl, rfl, trivial⟩ (.nil) (fun j hphi => ?_)
  subst hu_2
  subst hu_3
  refine c_seq ?_
  refine c_region ?_
  refine r_val .none rfl (p_lt rfl rfl) ?_
  refine r_nil ?_
  refine e_next ?_
  refine c_seq ?_
  refine c_splitd (d := 8) rfl (fun h_4 => ?_) (fun h_4 => ?_)
  · skip
    first
      | (exfalso; omega)
      | (
        refine c_cond_t rfl ?_
        refine c_skip ?_
        refine e_next ?_
        refine c_seq ?_
        refine c_block ?_
        refine c_seq ?_
        refine c_region ?_
        refine r_iaddr_g .none rfl Try.underlying22 sz26 rfl hb rfl (by first | exact of_decide_eq_true rfl | omega) (fun p_6 o_7 R_5 => ?_)
        refine r_val .none rfl (p_ldga0 Try.underlying26 rfl sz26 rfl R_5 (by first | exact of_decide_eq_true rfl | omega) (rfl : _ = Value.agg #[_, _, _])) ?_
        refine r_alloc .none rfl zr26 (IsRow.lit _) (fun b_1 => ?_)
        refine r_stw (k := 0) .none sz26 rfl rfl (IsRow.lit _) (one_lit rfl rfl) rfl ?_
        refine r_nil ?_
        refine e_next ?_
        refine c_seq ?_
        refine c_region ?_
        refine r_val .none rfl (p_ldw (k := 0) Try.underlying26 rfl sz26 rfl rfl (rfl : _ = Value.agg #[_, _, _])) ?_
        refine r_call (vs := [_]) .none rfl cl28 rfl (fun w hw => c_rtri13 (bs.getD j z3) w) ?_
        refine r_val .none rfl (p_not rfl) ?_
        refine r_nil ?_
        refine e_next ?_
        refine c_splitn (d := 13) rfl (fun h_8 => ?_) (fun h_8 => ?_)
        · skip
          have hE : tripleRight (bs.getD j z3).1 (bs.getD j z3).2.1 (bs.getD j z3).2.2 = false := h_8
          first
            | (exfalso; omega)
            | (
              refine c_cond_t rfl ?_
              refine c_seq ?_
              refine c_region ?_
              refine r_val .none rfl (p_assign rfl) ?_
              refine r_nil ?_
              refine e_next ?_
              refine c_ret ?_
              refine e_ret_block ?_
              refine e_ret_then ?_
              refine e_ret_then ?_
              refine e_ret_block ?_
              refine e_ret_then ?_
              refine e_ret1 Try.results20 (.tmp rfl .nil) (fun w hm => ⟨?_, hm.since⟩)
              first
              | (rw [← hphi.2, tri_drop (k := j) (by omega), hE]; rfl)
              | (rw [← hphi.2, List.drop_eq_nil_of_le (by omega)]; rfl)
              )
        · skip
          have hE : tripleRight (bs.getD j z3).1 (bs.getD j z3).2.1 (bs.getD j z3).2.2 = true := h_8
          first
            | (exfalso; omega)
            | (
              refine c_cond_f rfl ?_
              refine c_skip ?_
              refine e_norm_block ?_
              refine e_next ?_
              refine c_region ?_
              refine r_val .none rfl (p_add rfl rfl (by omega)) ?_
              refine r_val .none rfl (p_move rfl) ?_
              refine r_nil ?_
              refine e_round (j + 1) ⟨⟨by omega, by rw [← hphi.2, tri_drop (k := j) (by omega), hE, Bool.true_and]⟩, by omega⟩ rfl ⟨rfl, rfl, rfl, trivial⟩ (.drop (.nil))
              )
        )
  · skip
    first
      | (exfalso; omega)
      | (
        refine c_cond_f rfl ?_
        refine c_exit ?_
        refine e_exit_then ?_
        refine e_exit_then ?_
        refine e_exit_block ?_
        refine e_next ?_
        refine c_seq ?_
        refine c_region ?_
        refine r_val .none rfl (p_assign rfl) ?_
        refine r_nil ?_
        refine e_next ?_
        refine c_ret ?_
        refine e_ret1 Try.results20 (.tmp rfl .nil) (fun w hm => ⟨?_, hm.since⟩)
        first
        | (rw [← hphi.2, tri_drop (k := j) (by omega), hE]; rfl)
        | (rw [← hphi.2, List.drop_eq_nil_of_le (by omega)]; rfl)
        )
theorem c_awake13   (w : World)  :
    Calls Try.prog 21 #[] w (Ret fun r w' => r = Value.bool true ∧ Since nX w w') := by
  refine enter (args := []) (X := nX) (G := (fun _ => none)) (l := []) Try.func21 rfl Try.ntmps21 (fun _ _ h => by cases h) trivial (Nat.le_of_ble_eq_true rfl) ?_
  refine c_seq ?_
  refine c_region ?_
  refine r_val .none rfl (p_assign rfl) ?_
  refine r_nil ?_
  refine e_next ?_
  refine c_seq ?_
  refine c_region ?_
  refine r_val .none rfl (p_build (vs := [(0, Value.int _ _), (1, Value.int _ _), (2, Value.int _ _)]) rfl (bl63_0i1_1i1_2i1 _ _ _)) ?_
  refine r_bslice (vs := [(0, Value.agg #[_, _, _])]) (c := #[_, _, _]) .none rfl Try.underlying57 el63 rfl rfl rfl (bs63_10a3 _ _ _) (IsRow.lit _) (fun b_1 => ?_)
  refine r_freezeB (k := 0) 1 3 rfl rfl (by decide) (fun G_1 hn_2 hs_3 => ?_)
  have hta : SlL G_1 (Value.slice (some ⟨b_1, 0, none⟩) 1 1) 3 tC t0 [(0, 0, 2)] := SlG.single (0, 0, 2) hs_3 (fun j hj => by match j, hj with | 0, _ => rfl | 1, _ => rfl | 2, _ => rfl)
  refine r_val .none rfl (p_build (vs := [(0, Value.int _ _), (2, Value.slice _ _ _)]) rfl (bl59_0i1_2s3 _ _ _ _)) ?_
  refine r_alloc .none rfl zr59 (IsRow.lit _) (fun b_2 => ?_)
  refine r_stw (k := 0) .none sz59 rfl rfl (IsRow.lit _) (one_lit rfl (all_cons rfl (all_cons rfl (all_cons rfl (all_cons rfl (all_cons (hta).one (all_cons rfl rfl))))))) rfl ?_
  refine r_nil ?_
  refine e_next ?_
  refine c_seq ?_
  refine c_region ?_
  refine r_val .none rfl (p_build (vs := [(0, Value.int _ _), (1, Value.int _ _), (2, Value.int _ _)]) rfl (bl26_0i1_1i1_2i1 _ _ _)) ?_
  refine r_bslice (vs := [(0, Value.agg #[_, _, _])]) (c := #[_, _, _]) .none rfl Try.underlying22 el26 rfl rfl rfl (bs26_10a3 _ _ _) (IsRow.lit _) (fun b_3 => ?_)
  refine r_freezeB (k := 0) 1 3 rfl rfl (by decide) (fun G_4 hn_5 hs_6 => ?_)
  replace hta := hta.mono hn_5.le
  have hba : SlL G_4 (Value.slice (some ⟨b_3, 0, none⟩) 1 1) 3 triL z3 [(1, 2, 3)] := SlG.single (1, 2, 3) hs_6 (fun j hj => by match j, hj with | 0, _ => rfl | 1, _ => rfl | 2, _ => rfl)
  refine r_val .none rfl (p_assign rfl) ?_
  refine r_nil ?_
  refine e_next ?_
  refine c_seq ?_
  refine c_region ?_
  refine r_val .none rfl (p_ldw (k := 0) Try.underlying59 rfl sz59 rfl rfl (rfl : _ = Value.agg #[_, _, _, _, _, _])) ?_
  refine r_val .none rfl (p_move rfl) ?_
  refine r_val .none rfl (p_build (vs := [(0, Value.int _ _), (1, Value.int _ _), (2, Value.int _ _)]) rfl (bl26_0i1_1i1_2i1 _ _ _)) ?_
  refine r_call (vs := [_, _, _]) .none rfl cl27 rfl (fun w hw => c_meets 1 (0, 0, 0) [(0, 0, 2)] _ _ _ [(1, 2, 3)] (3, 9, 9) (by intro x hx; rw [List.mem_singleton.1 hx]; exact ⟨by decide, by decide, by decide⟩) hta hba w hw) ?_
  refine r_val .none rfl (p_move rfl) ?_
  refine' r_and (c := 12) (d := 18) [_, _, _, _, _, _] rfl (fun h_7 Q_8 hQ_9 => ?_) (fun h_7 Q_8 hQ_9 => ?_) ?_
  rotate_left 1
  · skip
    refine r_val (.some rfl rfl) rfl (p_ldw (k := 0) Try.underlying59 rfl sz59 rfl rfl (rfl : _ = Value.agg #[_, _, _, _, _, _])) ?_
    refine r_val (.some rfl rfl) rfl (p_move rfl) ?_
    refine r_val (.some rfl rfl) rfl (p_build (vs := [(0, Value.int _ _), (1, Value.int _ _), (2, Value.int _ _)]) rfl (bl26_0i1_1i1_2i1 _ _ _)) ?_
    refine r_call (vs := [_, _, _]) (.some rfl rfl) rfl cl27 rfl (fun w hw => c_meets 1 (0, 0, 0) [(0, 0, 2)] _ _ _ [(1, 2, 3)] (1, 9, 9) (by intro x hx; rw [List.mem_singleton.1 hx]; exact ⟨by decide, by decide, by decide⟩) hta hba w hw) ?_
    refine r_val (.some rfl rfl) rfl (p_not rfl) ?_
    refine r_val .none rfl (p_pick_t rfl rfl) ?_
    refine r_nil (e_fin (d := 18) hQ_9 rfl (by repeat (first | exact .refl | refine .put rfl ?_ | refine .say rfl ?_ | refine .say2 rfl (by first | assumption | simp_all) ?_)))
  · skip
    repeat (first | refine r_skip rfl (.no rfl rfl) ?_ | refine r_skip rfl (.un rfl rfl) ?_)
    refine r_val (by first | exact .none | exact .some rfl rfl) rfl (p_pick_f rfl rfl) ?_
    refine r_nil (e_fin (d := 18) hQ_9 rfl (by repeat (first | exact .refl | refine .put rfl ?_ | refine .say rfl ?_ | refine .say2 rfl (by first | assumption | simp_all) ?_)))
  refine r_val .none rfl (p_move rfl) ?_
  refine' r_and (c := 19) (d := 24) [_, _, _, _, _] rfl (fun h_11 Q_12 hQ_13 => ?_) (fun h_11 Q_12 hQ_13 => ?_) ?_
  rotate_left 1
  · skip
    try simp only [norms] at h_11
    refine r_val (.some rfl rfl) rfl (p_ldw (k := 0) Try.underlying59 rfl sz59 rfl rfl (rfl : _ = Value.agg #[_, _, _, _, _, _])) ?_
    refine r_val (.some rfl rfl) rfl (p_build (vs := [(0, Value.int _ _), (1, Value.int _ _), (2, Value.int _ _)]) rfl (bl26_0i1_1i1_2i1 _ _ _)) ?_
    refine r_call (vs := [_, _, _]) (.some rfl rfl) rfl cl27 rfl (fun w hw => c_meets 1 (0, 0, 0) [(0, 0, 2)] _ _ _ [] (3, 9, 9) (by intro x hx; rw [List.mem_singleton.1 hx]; exact ⟨by decide, by decide, by decide⟩) hta (SlG.nil _ _ _) w hw) ?_
    refine r_val (.some rfl rfl) rfl (p_not rfl) ?_
    refine r_val .none rfl (p_pick_t rfl rfl) ?_
    refine r_nil (e_fin (d := 24) hQ_13 rfl (by repeat (first | exact .refl | refine .put rfl ?_ | refine .say rfl ?_ | refine .say2 rfl (by first | assumption | simp_all) ?_)))
  · skip
    repeat (first | refine r_skip rfl (.no rfl rfl) ?_ | refine r_skip rfl (.un rfl rfl) ?_)
    refine r_val (by first | exact .none | exact .some rfl rfl) rfl (p_pick_f rfl rfl) ?_
    refine r_nil (e_fin (d := 24) hQ_13 rfl (by repeat (first | exact .refl | refine .put rfl ?_ | refine .say rfl ?_ | refine .say2 rfl (by first | assumption | simp_all) ?_)))
  refine r_val .none rfl (p_assign rfl) ?_
  refine r_nil ?_
  refine e_next ?_
  refine c_ret ?_
  refine e_ret1 Try.results21 (.tmp rfl .nil) (fun w hm => ⟨?_, hm.since⟩)
  exact congrArg Value.bool (by decide +kernel)
end Go.Proofs.Ytinbigokigkfaaa
