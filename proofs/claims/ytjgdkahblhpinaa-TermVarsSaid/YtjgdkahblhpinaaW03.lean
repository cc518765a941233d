/- Walks: what Go functions of this chapter come to, each as a function on plain data; no condition but those that each theorem names. Printed by a program of this work (gen.py). -/
import Derived.Test.YtjgdkahblhpinaaGxJoin
import Derived.Test.YtjgdkahblhpinaaPl03
import Derived.Test.YtjgdkahblhpinaaRows
namespace Go.Proofs.Ytjgdkahblhpinaa
open Go.Gx Go.Gx.T3
theorem mixed : Try.prog.follows .mixedOrders = true := by
  kernel_rfl
theorem sz3 : SzIs Try.prog 3 1 := by
  unfold SzIs
  kernel_rfl
theorem sz4 : SzIs Try.prog 4 1 := by
  unfold SzIs
  kernel_rfl
theorem sz23 : SzIs Try.prog 23 2 := by
  unfold SzIs
  kernel_rfl
theorem sz24 : SzIs Try.prog 24 6 := by
  unfold SzIs
  kernel_rfl
theorem sz26 : SzIs Try.prog 26 3 := by
  unfold SzIs
  kernel_rfl
theorem sz28 : SzIs Try.prog 28 33 := by
  unfold SzIs
  kernel_rfl
theorem sz40 : SzIs Try.prog 40 2 := by
  unfold SzIs
  kernel_rfl
theorem sz41 : SzIs Try.prog 41 6 := by
  unfold SzIs
  kernel_rfl
theorem zr23 : ZeroIs Try.prog 23 (Value.agg #[Value.bool false, Value.int .i64 0]) := by
  unfold ZeroIs
  kernel_rfl
theorem zr28 : ZeroIs Try.prog 28 (aggF 33 (fun _ => Value.int .i64 0)) := by
  unfold ZeroIs
  kernel_rfl
theorem zr41 : ZeroIs Try.prog 41 (Value.agg #[Value.int .i64 0, Value.int .i64 0, Value.int .i64 0, Value.int .i64 0, Value.int .i64 0, Value.int .i64 0]) := by
  unfold ZeroIs
  kernel_rfl
theorem eg28 : Try.prog.eqGuardType Try.prog.depth 28 = false := by
  kernel_rfl
theorem cl13 : Callable Try.prog 13 := callable Try.func13 (by kernel_rfl) rfl
theorem cl14 : Callable Try.prog 14 := callable Try.func14 (by kernel_rfl) rfl
theorem cl15 : Callable Try.prog 15 := callable Try.func15 (by kernel_rfl) rfl
theorem cl16 : Callable Try.prog 16 := callable Try.func16 (by kernel_rfl) rfl
theorem cl17 : Callable Try.prog 17 := callable Try.func17 (by kernel_rfl) rfl
theorem cl22 : Callable Try.prog 22 := callable Try.func22 (by kernel_rfl) rfl
theorem cl23 : Callable Try.prog 23 := callable Try.func23 (by kernel_rfl) rfl
theorem cl24 : Callable Try.prog 24 := callable Try.func24 (by kernel_rfl) rfl
theorem cl25 : Callable Try.prog 25 := callable Try.func25 (by kernel_rfl) rfl
theorem cl39 : Callable Try.prog 39 := callable Try.func39 (by kernel_rfl) rfl
theorem bl23_1i1 (x0 : Int) : Program.built Try.prog 23 [(1, Value.int .i64 x0)] = some #[Value.bool false, Value.int .i64 x0] := by
  kernel_rfl
theorem bl23_0b1_1i1 (x0 : Bool) (x1 : Int) : Program.built Try.prog 23 [(0, Value.bool x0), (1, Value.int .i64 x1)] = some #[Value.bool x0, Value.int .i64 x1] := by
  kernel_rfl
theorem bl24_0a2_1a2_2a2 (x0 : Value) (x1 : Value) (x2 : Value) (x3 : Value) (x4 : Value) (x5 : Value) : Program.built Try.prog 24 [(0, Value.agg #[x0, x1]), (1, Value.agg #[x2, x3]), (2, Value.agg #[x4, x5])] = some #[x0, x1, x2, x3, x4, x5] := by
  kernel_rfl
theorem bl26_0i1_1i1_2i1 (x0 : Int) (x1 : Int) (x2 : Int) : Program.built Try.prog 26 [(0, Value.int .i64 x0), (1, Value.int .i64 x1), (2, Value.int .i64 x2)] = some #[Value.int .i64 x0, Value.int .i64 x1, Value.int .i64 x2] := by
  kernel_rfl
theorem bl28_  : Program.built Try.prog 28 [] = some #[Value.int .i64 0, Value.int .i64 0, Value.int .i64 0, Value.int .i64 0, Value.int .i64 0, Value.int .i64 0, Value.int .i64 0, Value.int .i64 0, Value.int .i64 0, Value.int .i64 0, Value.int .i64 0, Value.int .i64 0, Value.int .i64 0, Value.int .i64 0, Value.int .i64 0, Value.int .i64 0, Value.int .i64 0, Value.int .i64 0, Value.int .i64 0, Value.int .i64 0, Value.int .i64 0, Value.int .i64 0, Value.int .i64 0, Value.int .i64 0, Value.int .i64 0, Value.int .i64 0, Value.int .i64 0, Value.int .i64 0, Value.int .i64 0, Value.int .i64 0, Value.int .i64 0, Value.int .i64 0, Value.int .i64 0] := by
  kernel_rfl
theorem bl28_0i1_1i1 (x0 : Int) (x1 : Int) : Program.built Try.prog 28 [(0, Value.int .i64 x0), (1, Value.int .i64 x1)] = some #[Value.int .i64 x0, Value.int .i64 x1, Value.int .i64 0, Value.int .i64 0, Value.int .i64 0, Value.int .i64 0, Value.int .i64 0, Value.int .i64 0, Value.int .i64 0, Value.int .i64 0, Value.int .i64 0, Value.int .i64 0, Value.int .i64 0, Value.int .i64 0, Value.int .i64 0, Value.int .i64 0, Value.int .i64 0, Value.int .i64 0, Value.int .i64 0, Value.int .i64 0, Value.int .i64 0, Value.int .i64 0, Value.int .i64 0, Value.int .i64 0, Value.int .i64 0, Value.int .i64 0, Value.int .i64 0, Value.int .i64 0, Value.int .i64 0, Value.int .i64 0, Value.int .i64 0, Value.int .i64 0, Value.int .i64 0] := by
  kernel_rfl
theorem c_at (b : Bool) (n : Int)  (w : World)  :
    Calls Try.prog 39 #[Value.agg #[Value.bool b, Value.int .i64 n]] w (Ret fun r w' => r = Value.int .i64 ((cl n : Nat) : Int) ∧ Since nX w w') := by
  refine enter (args := [_]) (X := nX) (G := (fun _ => none)) (l := [(0, Value.agg #[Value.bool b, Value.int .i64 n])]) Try.func39 rfl Try.ntmps39 (fun _ _ h => by cases h) ⟨rfl, trivial⟩ (Nat.le_of_ble_eq_true rfl) ?_
  refine c_seq ?_
  refine c_region ?_
  refine r_box .none rfl rfl (IsRow.lit _) (fun b_1 => ?_)
  refine r_val .none rfl (p_assign rfl) ?_
  refine r_nil ?_
  refine e_next ?_
  refine c_seq ?_
  refine c_region ?_
  refine r_val .none rfl (p_field Try.underlying23 rfl sz3 rfl) ?_
  refine r_val .none rfl (p_ld (k := 0) Try.underlying3 rfl rfl rfl (by first | exact of_decide_eq_true rfl | omega) (rfl : _ = Value.int _ _)) ?_
  refine r_val .none rfl (p_max rfl rfl) ?_
  refine r_val .none rfl (p_min rfl rfl) ?_
  refine r_val .none rfl (p_assign rfl) ?_
  refine r_nil ?_
  refine e_next ?_
  refine c_ret ?_
  refine e_ret1 Try.results39 (.tmp rfl .nil) (fun w hm => ⟨?_, hm.since⟩)
  simp only [cl_cast]
theorem c_right (b : Bool) (n : Int)  (w : World)  :
    Calls Try.prog 21 #[Value.agg #[Value.bool b, Value.int .i64 n]] w (Ret fun r w' => r = Value.bool (termRight b n) ∧ Since nX w w') := by
  refine enter (args := [_]) (X := nX) (G := (fun _ => none)) (l := [(0, Value.agg #[Value.bool b, Value.int .i64 n])]) Try.func21 rfl Try.ntmps21 (fun _ _ h => by cases h) ⟨rfl, trivial⟩ (Nat.le_of_ble_eq_true rfl) ?_
  refine c_seq ?_
  refine c_region ?_
  refine r_box .none rfl rfl (IsRow.lit _) (fun b_1 => ?_)
  refine r_val .none rfl (p_assign rfl) ?_
  refine r_nil ?_
  refine e_next ?_
  refine c_seq ?_
  refine c_region ?_
  refine r_val .none rfl (p_assign rfl) ?_
  refine r_nil ?_
  refine e_next ?_
  refine c_seq ?_
  refine c_seq ?_
  refine c_region ?_
  refine r_val .none rfl (p_field Try.underlying23 rfl sz4 rfl) ?_
  refine r_val .none rfl (p_ld (k := 0) Try.underlying4 rfl rfl rfl (by first | exact of_decide_eq_true rfl | omega) (rfl : _ = Value.bool _)) ?_
  refine r_nil ?_
  refine e_next ?_
  refine' c_join (c := 5) (D1 := [(3, .int .i64 _)]) (D2 := [(3, .int .i64 _)]) rfl (.cons .int (.nil)) (fun h_3 hQ_4 => ?_) (fun h_3 hQ_4 => ?_) ?_
  rotate_left 2
  · skip
    refine c_region ?_
    refine r_val .none rfl (p_assign rfl) ?_
    refine r_nil ?_
    refine e_finD hQ_4 ⟨rfl, trivial⟩ (by repeat (first | exact .refl | refine .put rfl ?_ | refine .say rfl (by first | assumption | simp_all) ?_))
  · skip
    refine c_skip ?_
    refine e_finD hQ_4 ⟨rfl, trivial⟩ (by repeat (first | exact .refl | refine .put rfl ?_ | refine .say rfl (by first | assumption | simp_all) ?_))
  refine e_next ?_
  refine c_seq ?_
  refine c_region ?_
  refine r_val .none rfl (p_field Try.underlying23 rfl sz3 rfl) ?_
  refine r_val .none rfl (p_ld (k := 0) Try.underlying3 rfl rfl rfl (by first | exact of_decide_eq_true rfl | omega) (rfl : _ = Value.int _ _)) ?_
  refine r_val .none rfl (p_ge rfl rfl) ?_
  refine r_val .none rfl (p_move rfl) ?_
  refine' r_and (c := 9) (d := 14) [_, _, _, _, _] rfl (fun h_5 Q_6 hQ_7 => ?_) (fun h_5 Q_6 hQ_7 => ?_) ?_
  rotate_left 1
  · skip
    replace h_5 := of_decide_eq_true h_5
    refine r_val (.some rfl rfl) rfl (p_field Try.underlying23 rfl sz3 rfl) ?_
    refine r_val (.some rfl rfl) rfl (p_ld (k := 0) Try.underlying3 rfl rfl rfl (by first | exact of_decide_eq_true rfl | omega) (rfl : _ = Value.int _ _)) ?_
    refine r_val (.some rfl rfl) rfl (p_move rfl) ?_
    refine r_val (.some rfl rfl) rfl (p_le rfl rfl) ?_
    refine r_val .none rfl (p_pick_t rfl rfl) ?_
    refine r_nil (e_fin (d := 14) hQ_7 rfl (by repeat (first | exact .refl | refine .put rfl ?_ | refine .say rfl ?_ | refine .say2 rfl (by first | assumption | simp_all) ?_)))
  · skip
    repeat (first | refine r_skip rfl (.no rfl rfl) ?_ | refine r_skip rfl (.un rfl rfl) ?_)
    refine r_val (by first | exact .none | exact .some rfl rfl) rfl (p_pick_f rfl rfl) ?_
    refine r_nil (e_fin (d := 14) hQ_7 rfl (by repeat (first | exact .refl | refine .put rfl ?_ | refine .say rfl ?_ | refine .say2 rfl (by first | assumption | simp_all) ?_)))
  refine r_val .none rfl (p_assign rfl) ?_
  refine r_nil ?_
  refine e_next ?_
  refine c_ret ?_
  refine e_ret1 Try.results21 (.tmp rfl .nil) (fun w hm => ⟨?_, hm.since⟩)
  simp_all [termRight]; try omega
theorem c_tright (t0 t1 t2 : Int)  (w : World)  :
    Calls Try.prog 14 #[Value.agg #[Value.int .i64 t0, Value.int .i64 t1, Value.int .i64 t2]] w (Ret fun r w' => r = Value.bool (tripleRight t0 t1 t2) ∧ Since nX w w') := by
  refine enter (args := [_]) (X := nX) (G := (fun _ => none)) (l := [(0, Value.agg #[Value.int .i64 t0, Value.int .i64 t1, Value.int .i64 t2])]) Try.func14 rfl Try.ntmps14 (fun _ _ h => by cases h) ⟨rfl, trivial⟩ (Nat.le_of_ble_eq_true rfl) ?_
  refine c_seq ?_
  refine c_region ?_
  refine r_box .none rfl rfl (IsRow.lit _) (fun b_1 => ?_)
  refine r_val .none rfl (p_assign rfl) ?_
  refine r_nil ?_
  refine e_next ?_
  refine c_seq ?_
  refine c_seq ?_
  refine c_region ?_
  refine r_val .none rfl (p_assign rfl) ?_
  refine r_nil ?_
  refine e_next ?_
  refine c_block ?_
  refine c_unroll 4 ?_
  refine l_round (n := 3) ?_
  refine c_seq ?_
  refine c_seq ?_
  refine c_region ?_
  refine r_val .none rfl (p_move rfl) ?_
  refine r_val .none rfl (p_lt rfl rfl) ?_
  refine r_say (d := 5) (v := Value.bool true) rfl ?_
  refine r_nil ?_
  refine e_next ?_
  refine c_cond_t rfl ?_
  refine c_skip ?_
  refine e_next ?_
  refine c_seq ?_
  refine c_block ?_
  refine c_seq ?_
  refine c_region ?_
  refine r_val .none rfl (p_move rfl) ?_
  refine r_val .none rfl (p_iaddr (k := 0) Try.underlying25 sz3 rfl rfl (by first | exact of_decide_eq_true rfl | omega)) ?_
  refine r_val .none rfl (p_ld (k := 0) Try.underlying3 rfl rfl rfl (by first | exact of_decide_eq_true rfl | omega) (rfl : _ = Value.int _ _)) ?_
  refine r_val .none rfl (p_lt rfl rfl) ?_
  refine r_val .none rfl (p_move rfl) ?_
  refine' r_or (c := 12) (d := 17) [_, _, _, _, _] rfl (fun h_1 Q_2 hQ_3 => ?_) (fun h_1 Q_2 hQ_3 => ?_) ?_
  rotate_left 1
  · skip
    replace h_1 := of_decide_eq_false h_1
    refine r_val (.some rfl rfl) rfl (p_move rfl) ?_
    refine r_val (.some rfl rfl) rfl (p_iaddr (k := 0) Try.underlying25 sz3 rfl rfl (by first | exact of_decide_eq_true rfl | omega)) ?_
    refine r_val (.some rfl rfl) rfl (p_ld (k := 0) Try.underlying3 rfl rfl rfl (by first | exact of_decide_eq_true rfl | omega) (rfl : _ = Value.int _ _)) ?_
    refine r_val (.some rfl rfl) rfl (p_gt rfl rfl) ?_
    refine r_val .none rfl (p_pick_f rfl rfl) ?_
    refine r_nil (e_fin (d := 17) hQ_3 rfl (by repeat (first | exact .refl | refine .put rfl ?_ | refine .say rfl ?_ | refine .say2 rfl (by first | assumption | simp_all) ?_)))
  · skip
    repeat (first | refine r_skip rfl (.no rfl rfl) ?_ | refine r_skip rfl (.un rfl rfl) ?_)
    refine r_val (by first | exact .none | exact .some rfl rfl) rfl (p_pick_t rfl rfl) ?_
    refine r_nil (e_fin (d := 17) hQ_3 rfl (by repeat (first | exact .refl | refine .put rfl ?_ | refine .say rfl ?_ | refine .say2 rfl (by first | assumption | simp_all) ?_)))
  refine r_nil ?_
  refine e_next ?_
  refine c_split (d := 17) rfl (fun h_5 => ?_) (fun h_5 => ?_)
  · skip
    try simp only [Bool.and_eq_true, Bool.or_eq_true, Bool.and_eq_false_iff, Bool.or_eq_false_iff, decide_eq_true_eq, decide_eq_false_iff_not, Bool.not_eq_true', Bool.not_eq_false', ne_eq, Decidable.not_not] at h_5
    first
      | (exfalso; omega)
      | (
        refine c_cond_t rfl ?_
        refine c_seq ?_
        refine c_region ?_
        refine r_val .none rfl (p_assign rfl) ?_
        refine r_nil ?_
        refine e_next ?_
        refine c_ret ?_
        refine e_ret_block ?_
        refine e_ret_then ?_
        refine e_ret_then ?_
        refine e_ret_block ?_
        refine e_ret_then ?_
        refine e_ret1 Try.results14 (.tmp rfl .nil) (fun w hm => ⟨?_, hm.since⟩)
        (simp [tripleRight]; try omega)
        )
  · skip
    try simp only [Bool.and_eq_true, Bool.or_eq_true, Bool.and_eq_false_iff, Bool.or_eq_false_iff, decide_eq_true_eq, decide_eq_false_iff_not, Bool.not_eq_true', Bool.not_eq_false', ne_eq, Decidable.not_not] at h_5
    first
      | (exfalso; omega)
      | (
        refine c_cond_f rfl ?_
        refine c_skip ?_
        refine e_norm_block ?_
        refine e_next ?_
        refine c_region ?_
        refine r_val .none rfl (p_move rfl) ?_
        refine r_val .none rfl (p_add rfl rfl (by omega)) ?_
        refine r_val .none rfl (p_assign rfl) ?_
        refine r_nil ?_
        refine e_again ?_
        refine l_round (n := 2) ?_
        refine c_seq ?_
        refine c_seq ?_
        refine c_region ?_
        refine r_val .none rfl (p_move rfl) ?_
        refine r_val .none rfl (p_lt rfl rfl) ?_
        refine r_say (d := 5) (v := Value.bool true) rfl ?_
        refine r_nil ?_
        refine e_next ?_
        refine c_cond_t rfl ?_
        refine c_skip ?_
        refine e_next ?_
        refine c_seq ?_
        refine c_block ?_
        refine c_seq ?_
        refine c_region ?_
        refine r_val .none rfl (p_move rfl) ?_
        refine r_val .none rfl (p_iaddr (k := 1) Try.underlying25 sz3 rfl rfl (by first | exact of_decide_eq_true rfl | omega)) ?_
        refine r_val .none rfl (p_ld (k := 0) Try.underlying3 rfl rfl rfl (by first | exact of_decide_eq_true rfl | omega) (rfl : _ = Value.int _ _)) ?_
        refine r_val .none rfl (p_lt rfl rfl) ?_
        refine r_val .none rfl (p_move rfl) ?_
        refine r_splitd (d := 12) rfl (fun h_6 => ?_) (fun h_6 => ?_)
        · skip
          first
            | (exfalso; omega)
            | (
              refine r_skip rfl (.no rfl rfl) ?_
              refine r_skip rfl (.no rfl rfl) ?_
              refine r_skip rfl (.no rfl rfl) ?_
              refine r_skip rfl (.no rfl rfl) ?_
              refine r_val .none rfl (p_pick_t rfl rfl) ?_
              refine r_nil ?_
              refine e_next ?_
              refine c_cond_t rfl ?_
              refine c_seq ?_
              refine c_region ?_
              refine r_val .none rfl (p_assign rfl) ?_
              refine r_nil ?_
              refine e_next ?_
              refine c_ret ?_
              refine e_ret_block ?_
              refine e_ret_then ?_
              refine e_ret_then ?_
              refine e_ret_block ?_
              refine e_ret_then ?_
              refine e_ret1 Try.results14 (.tmp rfl .nil) (fun w hm => ⟨?_, hm.since⟩)
              (simp [tripleRight]; try omega)
              )
        · skip
          first
            | (exfalso; omega)
            | (
              refine r_val (.some rfl rfl) rfl (p_move rfl) ?_
              refine r_val (.some rfl rfl) rfl (p_iaddr (k := 1) Try.underlying25 sz3 rfl rfl (by first | exact of_decide_eq_true rfl | omega)) ?_
              refine r_val (.some rfl rfl) rfl (p_ld (k := 0) Try.underlying3 rfl rfl rfl (by first | exact of_decide_eq_true rfl | omega) (rfl : _ = Value.int _ _)) ?_
              refine r_val (.some rfl rfl) rfl (p_gt rfl rfl) ?_
              refine r_val .none rfl (p_pick_f rfl rfl) ?_
              refine r_nil ?_
              refine e_next ?_
              refine c_splitd (d := 17) rfl (fun h_7 => ?_) (fun h_7 => ?_)
              · skip
                first
                  | (exfalso; omega)
                  | (
                    refine c_cond_t rfl ?_
                    refine c_seq ?_
                    refine c_region ?_
                    refine r_val .none rfl (p_assign rfl) ?_
                    refine r_nil ?_
                    refine e_next ?_
                    refine c_ret ?_
                    refine e_ret_block ?_
                    refine e_ret_then ?_
                    refine e_ret_then ?_
                    refine e_ret_block ?_
                    refine e_ret_then ?_
                    refine e_ret1 Try.results14 (.tmp rfl .nil) (fun w hm => ⟨?_, hm.since⟩)
                    (simp [tripleRight]; try omega)
                    )
              · skip
                first
                  | (exfalso; omega)
                  | (
                    refine c_cond_f rfl ?_
                    refine c_skip ?_
                    refine e_norm_block ?_
                    refine e_next ?_
                    refine c_region ?_
                    refine r_val .none rfl (p_move rfl) ?_
                    refine r_val .none rfl (p_add rfl rfl (by omega)) ?_
                    refine r_val .none rfl (p_assign rfl) ?_
                    refine r_nil ?_
                    refine e_again ?_
                    refine l_round (n := 1) ?_
                    refine c_seq ?_
                    refine c_seq ?_
                    refine c_region ?_
                    refine r_val .none rfl (p_move rfl) ?_
                    refine r_val .none rfl (p_lt rfl rfl) ?_
                    refine r_say (d := 5) (v := Value.bool true) rfl ?_
                    refine r_nil ?_
                    refine e_next ?_
                    refine c_cond_t rfl ?_
                    refine c_skip ?_
                    refine e_next ?_
                    refine c_seq ?_
                    refine c_block ?_
                    refine c_seq ?_
                    refine c_region ?_
                    refine r_val .none rfl (p_move rfl) ?_
                    refine r_val .none rfl (p_iaddr (k := 2) Try.underlying25 sz3 rfl rfl (by first | exact of_decide_eq_true rfl | omega)) ?_
                    refine r_val .none rfl (p_ld (k := 0) Try.underlying3 rfl rfl rfl (by first | exact of_decide_eq_true rfl | omega) (rfl : _ = Value.int _ _)) ?_
                    refine r_val .none rfl (p_lt rfl rfl) ?_
                    refine r_val .none rfl (p_move rfl) ?_
                    refine r_splitd (d := 12) rfl (fun h_8 => ?_) (fun h_8 => ?_)
                    · skip
                      first
                        | (exfalso; omega)
                        | (
                          refine r_skip rfl (.no rfl rfl) ?_
                          refine r_skip rfl (.no rfl rfl) ?_
                          refine r_skip rfl (.no rfl rfl) ?_
                          refine r_skip rfl (.no rfl rfl) ?_
                          refine r_val .none rfl (p_pick_t rfl rfl) ?_
                          refine r_nil ?_
                          refine e_next ?_
                          refine c_cond_t rfl ?_
                          refine c_seq ?_
                          refine c_region ?_
                          refine r_val .none rfl (p_assign rfl) ?_
                          refine r_nil ?_
                          refine e_next ?_
                          refine c_ret ?_
                          refine e_ret_block ?_
                          refine e_ret_then ?_
                          refine e_ret_then ?_
                          refine e_ret_block ?_
                          refine e_ret_then ?_
                          refine e_ret1 Try.results14 (.tmp rfl .nil) (fun w hm => ⟨?_, hm.since⟩)
                          (simp [tripleRight]; try omega)
                          )
                    · skip
                      first
                        | (exfalso; omega)
                        | (
                          refine r_val (.some rfl rfl) rfl (p_move rfl) ?_
                          refine r_val (.some rfl rfl) rfl (p_iaddr (k := 2) Try.underlying25 sz3 rfl rfl (by first | exact of_decide_eq_true rfl | omega)) ?_
                          refine r_val (.some rfl rfl) rfl (p_ld (k := 0) Try.underlying3 rfl rfl rfl (by first | exact of_decide_eq_true rfl | omega) (rfl : _ = Value.int _ _)) ?_
                          refine r_val (.some rfl rfl) rfl (p_gt rfl rfl) ?_
                          refine r_val .none rfl (p_pick_f rfl rfl) ?_
                          refine r_nil ?_
                          refine e_next ?_
                          refine c_splitd (d := 17) rfl (fun h_9 => ?_) (fun h_9 => ?_)
                          · skip
                            first
                              | (exfalso; omega)
                              | (
                                refine c_cond_t rfl ?_
                                refine c_seq ?_
                                refine c_region ?_
                                refine r_val .none rfl (p_assign rfl) ?_
                                refine r_nil ?_
                                refine e_next ?_
                                refine c_ret ?_
                                refine e_ret_block ?_
                                refine e_ret_then ?_
                                refine e_ret_then ?_
                                refine e_ret_block ?_
                                refine e_ret_then ?_
                                refine e_ret1 Try.results14 (.tmp rfl .nil) (fun w hm => ⟨?_, hm.since⟩)
                                (simp [tripleRight]; try omega)
                                )
                          · skip
                            first
                              | (exfalso; omega)
                              | (
                                refine c_cond_f rfl ?_
                                refine c_skip ?_
                                refine e_norm_block ?_
                                refine e_next ?_
                                refine c_region ?_
                                refine r_val .none rfl (p_move rfl) ?_
                                refine r_val .none rfl (p_add rfl rfl (by omega)) ?_
                                refine r_val .none rfl (p_assign rfl) ?_
                                refine r_nil ?_
                                refine e_again ?_
                                refine l_round (n := 0) ?_
                                refine c_seq ?_
                                refine c_seq ?_
                                refine c_region ?_
                                refine r_val .none rfl (p_move rfl) ?_
                                refine r_val .none rfl (p_lt rfl rfl) ?_
                                refine r_say (d := 5) (v := Value.bool false) rfl ?_
                                refine r_nil ?_
                                refine e_next ?_
                                refine c_cond_f rfl ?_
                                refine c_exit ?_
                                refine e_exit_then ?_
                                refine e_exit_then ?_
                                refine e_exit_block ?_
                                refine e_next ?_
                                refine c_seq ?_
                                refine c_region ?_
                                refine r_val .none rfl (p_assign rfl) ?_
                                refine r_nil ?_
                                refine e_next ?_
                                refine c_ret ?_
                                refine e_ret1 Try.results14 (.tmp rfl .nil) (fun w hm => ⟨?_, hm.since⟩)
                                (simp [tripleRight]; try omega)
                                )
                          )
                    )
              )
        )
theorem c_sym (n : Int)  (w : World)  :
    Calls Try.prog 24 #[Value.int .i64 n] w (Ret fun r w' => r = Value.agg #[Value.bool false, Value.int .i64 n] ∧ Since nX w w') := by
  refine enter (args := [_]) (X := nX) (G := (fun _ => none)) (l := [(0, Value.int .i64 n)]) Try.func24 rfl Try.ntmps24 (fun _ _ h => by cases h) ⟨rfl, trivial⟩ (Nat.le_of_ble_eq_true rfl) ?_
  refine c_seq ?_
  refine c_region ?_
  refine r_alloc .none rfl zr23 (IsRow.lit _) (fun b_1 => ?_)
  refine r_nil ?_
  refine e_next ?_
  refine c_seq ?_
  refine c_region ?_
  refine r_val .none rfl (p_move rfl) ?_
  refine r_val .none rfl (p_build (vs := [(1, Value.int _ _)]) rfl (bl23_1i1 _)) ?_
  refine r_stw (k := 0) .none sz23 rfl rfl (IsRow.lit _) (one_lit rfl rfl) rfl ?_
  refine r_nil ?_
  refine e_next ?_
  refine c_ret ?_
  refine e_ret1 Try.results24 (.cell (k := 0) rfl Try.underlying23 rfl sz23 rfl (rfl : _ = Value.agg #[_, _]) .nil) (fun w hm => ⟨?_, hm.since⟩)
  rfl
theorem c_var (n : Int)  (w : World)  :
    Calls Try.prog 25 #[Value.int .i64 n] w (Ret fun r w' => r = Value.agg #[Value.bool true, Value.int .i64 n] ∧ Since nX w w') := by
  refine enter (args := [_]) (X := nX) (G := (fun _ => none)) (l := [(0, Value.int .i64 n)]) Try.func25 rfl Try.ntmps25 (fun _ _ h => by cases h) ⟨rfl, trivial⟩ (Nat.le_of_ble_eq_true rfl) ?_
  refine c_seq ?_
  refine c_region ?_
  refine r_alloc .none rfl zr23 (IsRow.lit _) (fun b_1 => ?_)
  refine r_nil ?_
  refine e_next ?_
  refine c_seq ?_
  refine c_region ?_
  refine r_val .none rfl (p_move rfl) ?_
  refine r_val .none rfl (p_build (vs := [(0, Value.bool _), (1, Value.int _ _)]) rfl (bl23_0b1_1i1 _ _)) ?_
  refine r_stw (k := 0) .none sz23 rfl rfl (IsRow.lit _) (one_lit rfl rfl) rfl ?_
  refine r_nil ?_
  refine e_next ?_
  refine c_ret ?_
  refine e_ret1 Try.results25 (.cell (k := 0) rfl Try.underlying23 rfl sz23 rfl (rfl : _ = Value.agg #[_, _]) .nil) (fun w hm => ⟨?_, hm.since⟩)
  rfl
theorem c_rright (b : Bool) (n : Int)  (w : World)  :
    Calls Try.prog 22 #[Value.agg #[Value.int .i64 (vi b), Value.int .i64 n]] w (Ret fun r w' => r = Value.bool (termRight b n) ∧ Since nX w w') := by
  refine enter (args := [_]) (X := nX) (G := (fun _ => none)) (l := [(0, Value.agg #[Value.int .i64 (vi b), Value.int .i64 n])]) Try.func22 rfl Try.ntmps22 (fun _ _ h => by cases h) ⟨rfl, trivial⟩ (Nat.le_of_ble_eq_true rfl) ?_
  refine c_seq ?_
  refine c_region ?_
  refine r_box .none rfl rfl (IsRow.lit _) (fun b_1 => ?_)
  refine r_val .none rfl (p_assign rfl) ?_
  refine r_nil ?_
  refine e_next ?_
  refine c_seq ?_
  refine c_seq ?_
  refine c_region ?_
  refine r_val .none rfl (p_field Try.underlying40 rfl sz3 rfl) ?_
  refine r_val .none rfl (p_ld (k := 0) Try.underlying3 rfl rfl rfl (by first | exact of_decide_eq_true rfl | omega) (rfl : _ = Value.int _ _)) ?_
  refine r_val .none rfl (p_eq rfl rfl) ?_
  refine r_nil ?_
  refine e_next ?_
  refine c_splitd (d := 5) rfl (fun h_1 => ?_) (fun h_1 => ?_)
  · skip
    refine c_cond_t rfl ?_
    refine c_seq ?_
    refine c_region ?_
    refine r_val .none rfl (p_field Try.underlying40 rfl sz3 rfl) ?_
    refine r_val .none rfl (p_ld (k := 0) Try.underlying3 rfl rfl rfl (by first | exact of_decide_eq_true rfl | omega) (rfl : _ = Value.int _ _)) ?_
    refine r_val .none rfl (p_ge rfl rfl) ?_
    refine r_val .none rfl (p_move rfl) ?_
    refine' r_and (c := 9) (d := 13) [_, _, _, _] rfl (fun h_2 Q_3 hQ_4 => ?_) (fun h_2 Q_3 hQ_4 => ?_) ?_
    rotate_left 1
    · skip
      replace h_2 := of_decide_eq_true h_2
      refine r_val (.some rfl rfl) rfl (p_field Try.underlying40 rfl sz3 rfl) ?_
      refine r_val (.some rfl rfl) rfl (p_ld (k := 0) Try.underlying3 rfl rfl rfl (by first | exact of_decide_eq_true rfl | omega) (rfl : _ = Value.int _ _)) ?_
      refine r_val (.some rfl rfl) rfl (p_le rfl rfl) ?_
      refine r_val .none rfl (p_pick_t rfl rfl) ?_
      refine r_nil (e_fin (d := 13) hQ_4 rfl (by repeat (first | exact .refl | refine .put rfl ?_ | refine .say rfl ?_ | refine .say2 rfl (by first | assumption | simp_all) ?_)))
    · skip
      repeat (first | refine r_skip rfl (.no rfl rfl) ?_ | refine r_skip rfl (.un rfl rfl) ?_)
      refine r_val (by first | exact .none | exact .some rfl rfl) rfl (p_pick_f rfl rfl) ?_
      refine r_nil (e_fin (d := 13) hQ_4 rfl (by repeat (first | exact .refl | refine .put rfl ?_ | refine .say rfl ?_ | refine .say2 rfl (by first | assumption | simp_all) ?_)))
    refine r_val .none rfl (p_assign rfl) ?_
    refine r_nil ?_
    refine e_next ?_
    refine c_ret ?_
    refine e_ret_then ?_
    refine e_ret1 Try.results22 (.tmp rfl .nil) (fun w hm => ⟨?_, hm.since⟩)
    (cases b <;> simp_all [termRight, vi] <;> try omega)
  · skip
    refine c_cond_f rfl ?_
    refine c_skip ?_
    refine e_next ?_
    refine c_seq ?_
    refine c_region ?_
    refine r_val .none rfl (p_field Try.underlying40 rfl sz3 rfl) ?_
    refine r_val .none rfl (p_ld (k := 0) Try.underlying3 rfl rfl rfl (by first | exact of_decide_eq_true rfl | omega) (rfl : _ = Value.int _ _)) ?_
    refine r_val .none rfl (p_ge rfl rfl) ?_
    refine r_val .none rfl (p_move rfl) ?_
    refine' r_and (c := 17) (d := 21) [_, _, _, _] rfl (fun h_6 Q_7 hQ_8 => ?_) (fun h_6 Q_7 hQ_8 => ?_) ?_
    rotate_left 1
    · skip
      replace h_6 := of_decide_eq_true h_6
      refine r_val (.some rfl rfl) rfl (p_field Try.underlying40 rfl sz3 rfl) ?_
      refine r_val (.some rfl rfl) rfl (p_ld (k := 0) Try.underlying3 rfl rfl rfl (by first | exact of_decide_eq_true rfl | omega) (rfl : _ = Value.int _ _)) ?_
      refine r_val (.some rfl rfl) rfl (p_le rfl rfl) ?_
      refine r_val .none rfl (p_pick_t rfl rfl) ?_
      refine r_nil (e_fin (d := 21) hQ_8 rfl (by repeat (first | exact .refl | refine .put rfl ?_ | refine .say rfl ?_ | refine .say2 rfl (by first | assumption | simp_all) ?_)))
    · skip
      repeat (first | refine r_skip rfl (.no rfl rfl) ?_ | refine r_skip rfl (.un rfl rfl) ?_)
      refine r_val (by first | exact .none | exact .some rfl rfl) rfl (p_pick_f rfl rfl) ?_
      refine r_nil (e_fin (d := 21) hQ_8 rfl (by repeat (first | exact .refl | refine .put rfl ?_ | refine .say rfl ?_ | refine .say2 rfl (by first | assumption | simp_all) ?_)))
    refine r_val .none rfl (p_assign rfl) ?_
    refine r_nil ?_
    refine e_next ?_
    refine c_ret ?_
    refine e_ret1 Try.results22 (.tmp rfl .nil) (fun w hm => ⟨?_, hm.since⟩)
    (cases b <;> simp_all [termRight, vi] <;> try omega)
theorem c_ref (v0 : Bool) (n0 : Int) (v1 : Bool) (n1 : Int) (v2 : Bool) (n2 : Int)  (w : World)  :
    Calls Try.prog 23 #[Value.agg #[Value.bool v0, Value.int .i64 n0, Value.bool v1, Value.int .i64 n1, Value.bool v2, Value.int .i64 n2]] w (Ret fun r w' => r = Value.agg #[Value.int .i64 (vi v0), Value.int .i64 n0, Value.int .i64 (vi v1), Value.int .i64 n1, Value.int .i64 (vi v2), Value.int .i64 n2] ∧ Since nX w w') := by
  refine enter (args := [_]) (X := nX) (G := (fun _ => none)) (l := [(0, Value.agg #[Value.bool v0, Value.int .i64 n0, Value.bool v1, Value.int .i64 n1, Value.bool v2, Value.int .i64 n2])]) Try.func23 rfl Try.ntmps23 (fun _ _ h => by cases h) ⟨rfl, trivial⟩ (Nat.le_of_ble_eq_true rfl) ?_
  refine c_seq ?_
  refine c_region ?_
  refine r_box .none rfl rfl (IsRow.lit _) (fun b_1 => ?_)
  refine r_alloc .none rfl zr41 (IsRow.lit _) (fun b_2 => ?_)
  refine r_nil ?_
  refine e_next ?_
  refine c_seq ?_
  refine c_region ?_
  refine r_alloc .none rfl zr41 (IsRow.lit _) (fun b_3 => ?_)
  refine r_nil ?_
  refine e_next ?_
  refine c_seq ?_
  refine c_seq ?_
  refine c_region ?_
  refine r_val .none rfl (p_ldw (k := 2) Try.underlying24 rfl sz24 rfl rfl (rfl : _ = Value.agg #[_, _, _, _, _, _])) ?_
  refine r_val .none rfl (p_move rfl) ?_
  refine r_nil ?_
  refine e_next ?_
  refine c_block ?_
  refine c_unroll 4 ?_
  refine l_round (n := 3) ?_
  refine c_seq ?_
  refine c_region ?_
  refine r_val .none rfl (p_lt rfl rfl) ?_
  refine r_say (d := 8) (v := Value.bool true) rfl ?_
  refine r_nil ?_
  refine e_next ?_
  refine c_seq ?_
  refine c_cond_t rfl ?_
  refine c_skip ?_
  refine e_next ?_
  refine c_seq ?_
  refine c_block ?_
  refine c_seq ?_
  refine c_region ?_
  refine r_val .none rfl (p_move rfl) ?_
  refine r_val .none rfl (p_indexa (k := 0) Try.underlying24 Try.underlying23 rfl sz23 rfl (IsRow.lit _) rfl rfl (by first | exact of_decide_eq_true rfl | omega) (rfl : _ = Value.agg #[_, _])) ?_
  refine r_alloc .none rfl zr23 (IsRow.lit _) (fun b_4 => ?_)
  refine r_val .none rfl (p_assign rfl) ?_
  refine r_stw (k := 0) .none sz23 rfl rfl (IsRow.lit _) (one_lit rfl rfl) rfl ?_
  refine r_nil ?_
  refine e_next ?_
  refine c_seq ?_
  refine c_region ?_
  refine r_val .none rfl (p_move rfl) ?_
  refine r_val .none rfl (p_field Try.underlying23 rfl sz3 rfl) ?_
  refine r_val .none rfl (p_ld (k := 0) Try.underlying3 rfl rfl rfl (by first | exact of_decide_eq_true rfl | omega) (rfl : _ = Value.int _ _)) ?_
  refine r_val .none rfl (p_iaddr (k := 0) Try.underlying41 sz40 rfl rfl (by first | exact of_decide_eq_true rfl | omega)) ?_
  refine r_val .none rfl (p_field Try.underlying40 rfl sz3 rfl) ?_
  refine r_st (k := 1) .none sz3 rfl rfl rfl rfl (by first | exact of_decide_eq_true rfl | omega) ?_
  refine r_nil ?_
  refine e_next ?_
  refine c_seq ?_
  refine c_region ?_
  refine r_val .none rfl (p_field Try.underlying23 rfl sz4 rfl) ?_
  refine r_val .none rfl (p_ld (k := 0) Try.underlying4 rfl rfl rfl (by first | exact of_decide_eq_true rfl | omega) (rfl : _ = Value.bool _)) ?_
  refine r_nil ?_
  refine e_next ?_
  refine c_split (d := 17) rfl (fun h_1 => ?_) (fun h_1 => ?_)
  · skip
    first
      | (exfalso; omega)
      | (
        refine c_cond_t rfl ?_
        refine c_region ?_
        refine r_val .none rfl (p_move rfl) ?_
        refine r_val .none rfl (p_iaddr (k := 0) Try.underlying41 sz40 rfl rfl (by first | exact of_decide_eq_true rfl | omega)) ?_
        refine r_val .none rfl (p_field Try.underlying40 rfl sz3 rfl) ?_
        refine r_st (k := 1) .none sz3 rfl rfl rfl rfl (by first | exact of_decide_eq_true rfl | omega) ?_
        refine r_nil ?_
        refine e_norm_block ?_
        refine e_next ?_
        refine c_region ?_
        refine r_val .none rfl (p_add rfl rfl (by omega)) ?_
        refine r_val .none rfl (p_move rfl) ?_
        refine r_nil ?_
        refine e_again ?_
        refine l_round (n := 2) ?_
        refine c_seq ?_
        refine c_region ?_
        refine r_val .none rfl (p_lt rfl rfl) ?_
        refine r_say (d := 8) (v := Value.bool true) rfl ?_
        refine r_nil ?_
        refine e_next ?_
        refine c_seq ?_
        refine c_cond_t rfl ?_
        refine c_skip ?_
        refine e_next ?_
        refine c_seq ?_
        refine c_block ?_
        refine c_seq ?_
        refine c_region ?_
        refine r_val .none rfl (p_move rfl) ?_
        refine r_val .none rfl (p_indexa (k := 1) Try.underlying24 Try.underlying23 rfl sz23 rfl (IsRow.lit _) rfl rfl (by first | exact of_decide_eq_true rfl | omega) (rfl : _ = Value.agg #[_, _])) ?_
        refine r_alloc .none rfl zr23 (IsRow.lit _) (fun b_5 => ?_)
        refine r_val .none rfl (p_assign rfl) ?_
        refine r_stw (k := 0) .none sz23 rfl rfl (IsRow.lit _) (one_lit rfl rfl) rfl ?_
        refine r_nil ?_
        refine e_next ?_
        refine c_seq ?_
        refine c_region ?_
        refine r_val .none rfl (p_move rfl) ?_
        refine r_val .none rfl (p_field Try.underlying23 rfl sz3 rfl) ?_
        refine r_val .none rfl (p_ld (k := 0) Try.underlying3 rfl rfl rfl (by first | exact of_decide_eq_true rfl | omega) (rfl : _ = Value.int _ _)) ?_
        refine r_val .none rfl (p_iaddr (k := 1) Try.underlying41 sz40 rfl rfl (by first | exact of_decide_eq_true rfl | omega)) ?_
        refine r_val .none rfl (p_field Try.underlying40 rfl sz3 rfl) ?_
        refine r_st (k := 2) .none sz3 rfl rfl rfl rfl (by first | exact of_decide_eq_true rfl | omega) ?_
        refine r_nil ?_
        refine e_next ?_
        refine c_seq ?_
        refine c_region ?_
        refine r_val .none rfl (p_field Try.underlying23 rfl sz4 rfl) ?_
        refine r_val .none rfl (p_ld (k := 0) Try.underlying4 rfl rfl rfl (by first | exact of_decide_eq_true rfl | omega) (rfl : _ = Value.bool _)) ?_
        refine r_nil ?_
        refine e_next ?_
        refine c_split (d := 17) rfl (fun h_2 => ?_) (fun h_2 => ?_)
        · skip
          first
            | (exfalso; omega)
            | (
              refine c_cond_t rfl ?_
              refine c_region ?_
              refine r_val .none rfl (p_move rfl) ?_
              refine r_val .none rfl (p_iaddr (k := 1) Try.underlying41 sz40 rfl rfl (by first | exact of_decide_eq_true rfl | omega)) ?_
              refine r_val .none rfl (p_field Try.underlying40 rfl sz3 rfl) ?_
              refine r_st (k := 2) .none sz3 rfl rfl rfl rfl (by first | exact of_decide_eq_true rfl | omega) ?_
              refine r_nil ?_
              refine e_norm_block ?_
              refine e_next ?_
              refine c_region ?_
              refine r_val .none rfl (p_add rfl rfl (by omega)) ?_
              refine r_val .none rfl (p_move rfl) ?_
              refine r_nil ?_
              refine e_again ?_
              refine l_round (n := 1) ?_
              refine c_seq ?_
              refine c_region ?_
              refine r_val .none rfl (p_lt rfl rfl) ?_
              refine r_say (d := 8) (v := Value.bool true) rfl ?_
              refine r_nil ?_
              refine e_next ?_
              refine c_seq ?_
              refine c_cond_t rfl ?_
              refine c_skip ?_
              refine e_next ?_
              refine c_seq ?_
              refine c_block ?_
              refine c_seq ?_
              refine c_region ?_
              refine r_val .none rfl (p_move rfl) ?_
              refine r_val .none rfl (p_indexa (k := 2) Try.underlying24 Try.underlying23 rfl sz23 rfl (IsRow.lit _) rfl rfl (by first | exact of_decide_eq_true rfl | omega) (rfl : _ = Value.agg #[_, _])) ?_
              refine r_alloc .none rfl zr23 (IsRow.lit _) (fun b_6 => ?_)
              refine r_val .none rfl (p_assign rfl) ?_
              refine r_stw (k := 0) .none sz23 rfl rfl (IsRow.lit _) (one_lit rfl rfl) rfl ?_
              refine r_nil ?_
              refine e_next ?_
              refine c_seq ?_
              refine c_region ?_
              refine r_val .none rfl (p_move rfl) ?_
              refine r_val .none rfl (p_field Try.underlying23 rfl sz3 rfl) ?_
              refine r_val .none rfl (p_ld (k := 0) Try.underlying3 rfl rfl rfl (by first | exact of_decide_eq_true rfl | omega) (rfl : _ = Value.int _ _)) ?_
              refine r_val .none rfl (p_iaddr (k := 2) Try.underlying41 sz40 rfl rfl (by first | exact of_decide_eq_true rfl | omega)) ?_
              refine r_val .none rfl (p_field Try.underlying40 rfl sz3 rfl) ?_
              refine r_st (k := 3) .none sz3 rfl rfl rfl rfl (by first | exact of_decide_eq_true rfl | omega) ?_
              refine r_nil ?_
              refine e_next ?_
              refine c_seq ?_
              refine c_region ?_
              refine r_val .none rfl (p_field Try.underlying23 rfl sz4 rfl) ?_
              refine r_val .none rfl (p_ld (k := 0) Try.underlying4 rfl rfl rfl (by first | exact of_decide_eq_true rfl | omega) (rfl : _ = Value.bool _)) ?_
              refine r_nil ?_
              refine e_next ?_
              refine c_split (d := 17) rfl (fun h_3 => ?_) (fun h_3 => ?_)
              · skip
                first
                  | (exfalso; omega)
                  | (
                    refine c_cond_t rfl ?_
                    refine c_region ?_
                    refine r_val .none rfl (p_move rfl) ?_
                    refine r_val .none rfl (p_iaddr (k := 2) Try.underlying41 sz40 rfl rfl (by first | exact of_decide_eq_true rfl | omega)) ?_
                    refine r_val .none rfl (p_field Try.underlying40 rfl sz3 rfl) ?_
                    refine r_st (k := 3) .none sz3 rfl rfl rfl rfl (by first | exact of_decide_eq_true rfl | omega) ?_
                    refine r_nil ?_
                    refine e_norm_block ?_
                    refine e_next ?_
                    refine c_region ?_
                    refine r_val .none rfl (p_add rfl rfl (by omega)) ?_
                    refine r_val .none rfl (p_move rfl) ?_
                    refine r_nil ?_
                    refine e_again ?_
                    refine l_round (n := 0) ?_
                    refine c_seq ?_
                    refine c_region ?_
                    refine r_val .none rfl (p_lt rfl rfl) ?_
                    refine r_say (d := 8) (v := Value.bool false) rfl ?_
                    refine r_nil ?_
                    refine e_next ?_
                    refine c_seq ?_
                    refine c_cond_f rfl ?_
                    refine c_exit ?_
                    refine e_exit_then ?_
                    refine e_exit_then ?_
                    refine e_exit_block ?_
                    refine e_next ?_
                    refine c_seq ?_
                    refine c_region ?_
                    refine r_val .none rfl (p_ldw (k := 3) Try.underlying41 rfl sz41 rfl rfl (rfl : _ = Value.agg #[_, _, _, _, _, _])) ?_
                    refine r_stw (k := 4) .none sz41 rfl rfl (IsRow.lit _) (one_lit rfl rfl) rfl ?_
                    refine r_nil ?_
                    refine e_next ?_
                    refine c_ret ?_
                    refine e_ret1 Try.results23 (.cell (k := 4) rfl Try.underlying41 rfl sz41 rfl (rfl : _ = Value.agg #[_, _, _, _, _, _]) .nil) (fun w hm => ⟨?_, hm.since⟩)
                    subst_vars; rfl
                    )
              · skip
                first
                  | (exfalso; omega)
                  | (
                    refine c_cond_f rfl ?_
                    refine c_skip ?_
                    refine e_norm_block ?_
                    refine e_next ?_
                    refine c_region ?_
                    refine r_val .none rfl (p_add rfl rfl (by omega)) ?_
                    refine r_val .none rfl (p_move rfl) ?_
                    refine r_nil ?_
                    refine e_again ?_
                    refine l_round (n := 0) ?_
                    refine c_seq ?_
                    refine c_region ?_
                    refine r_val .none rfl (p_lt rfl rfl) ?_
                    refine r_say (d := 8) (v := Value.bool false) rfl ?_
                    refine r_nil ?_
                    refine e_next ?_
                    refine c_seq ?_
                    refine c_cond_f rfl ?_
                    refine c_exit ?_
                    refine e_exit_then ?_
                    refine e_exit_then ?_
                    refine e_exit_block ?_
                    refine e_next ?_
                    refine c_seq ?_
                    refine c_region ?_
                    refine r_val .none rfl (p_ldw (k := 3) Try.underlying41 rfl sz41 rfl rfl (rfl : _ = Value.agg #[_, _, _, _, _, _])) ?_
                    refine r_stw (k := 4) .none sz41 rfl rfl (IsRow.lit _) (one_lit rfl rfl) rfl ?_
                    refine r_nil ?_
                    refine e_next ?_
                    refine c_ret ?_
                    refine e_ret1 Try.results23 (.cell (k := 4) rfl Try.underlying41 rfl sz41 rfl (rfl : _ = Value.agg #[_, _, _, _, _, _]) .nil) (fun w hm => ⟨?_, hm.since⟩)
                    subst_vars; rfl
                    )
              )
        · skip
          first
            | (exfalso; omega)
            | (
              refine c_cond_f rfl ?_
              refine c_skip ?_
              refine e_norm_block ?_
              refine e_next ?_
              refine c_region ?_
              refine r_val .none rfl (p_add rfl rfl (by omega)) ?_
              refine r_val .none rfl (p_move rfl) ?_
              refine r_nil ?_
              refine e_again ?_
              refine l_round (n := 1) ?_
              refine c_seq ?_
              refine c_region ?_
              refine r_val .none rfl (p_lt rfl rfl) ?_
              refine r_say (d := 8) (v := Value.bool true) rfl ?_
              refine r_nil ?_
              refine e_next ?_
              refine c_seq ?_
              refine c_cond_t rfl ?_
              refine c_skip ?_
              refine e_next ?_
              refine c_seq ?_
              refine c_block ?_
              refine c_seq ?_
              refine c_region ?_
              refine r_val .none rfl (p_move rfl) ?_
              refine r_val .none rfl (p_indexa (k := 2) Try.underlying24 Try.underlying23 rfl sz23 rfl (IsRow.lit _) rfl rfl (by first | exact of_decide_eq_true rfl | omega) (rfl : _ = Value.agg #[_, _])) ?_
              refine r_alloc .none rfl zr23 (IsRow.lit _) (fun b_7 => ?_)
              refine r_val .none rfl (p_assign rfl) ?_
              refine r_stw (k := 0) .none sz23 rfl rfl (IsRow.lit _) (one_lit rfl rfl) rfl ?_
              refine r_nil ?_
              refine e_next ?_
              refine c_seq ?_
              refine c_region ?_
              refine r_val .none rfl (p_move rfl) ?_
              refine r_val .none rfl (p_field Try.underlying23 rfl sz3 rfl) ?_
              refine r_val .none rfl (p_ld (k := 0) Try.underlying3 rfl rfl rfl (by first | exact of_decide_eq_true rfl | omega) (rfl : _ = Value.int _ _)) ?_
              refine r_val .none rfl (p_iaddr (k := 2) Try.underlying41 sz40 rfl rfl (by first | exact of_decide_eq_true rfl | omega)) ?_
              refine r_val .none rfl (p_field Try.underlying40 rfl sz3 rfl) ?_
              refine r_st (k := 3) .none sz3 rfl rfl rfl rfl (by first | exact of_decide_eq_true rfl | omega) ?_
              refine r_nil ?_
              refine e_next ?_
              refine c_seq ?_
              refine c_region ?_
              refine r_val .none rfl (p_field Try.underlying23 rfl sz4 rfl) ?_
              refine r_val .none rfl (p_ld (k := 0) Try.underlying4 rfl rfl rfl (by first | exact of_decide_eq_true rfl | omega) (rfl : _ = Value.bool _)) ?_
              refine r_nil ?_
              refine e_next ?_
              refine c_split (d := 17) rfl (fun h_4 => ?_) (fun h_4 => ?_)
              · skip
                first
                  | (exfalso; omega)
                  | (
                    refine c_cond_t rfl ?_
                    refine c_region ?_
                    refine r_val .none rfl (p_move rfl) ?_
                    refine r_val .none rfl (p_iaddr (k := 2) Try.underlying41 sz40 rfl rfl (by first | exact of_decide_eq_true rfl | omega)) ?_
                    refine r_val .none rfl (p_field Try.underlying40 rfl sz3 rfl) ?_
                    refine r_st (k := 3) .none sz3 rfl rfl rfl rfl (by first | exact of_decide_eq_true rfl | omega) ?_
                    refine r_nil ?_
                    refine e_norm_block ?_
                    refine e_next ?_
                    refine c_region ?_
                    refine r_val .none rfl (p_add rfl rfl (by omega)) ?_
                    refine r_val .none rfl (p_move rfl) ?_
                    refine r_nil ?_
                    refine e_again ?_
                    refine l_round (n := 0) ?_
                    refine c_seq ?_
                    refine c_region ?_
                    refine r_val .none rfl (p_lt rfl rfl) ?_
                    refine r_say (d := 8) (v := Value.bool false) rfl ?_
                    refine r_nil ?_
                    refine e_next ?_
                    refine c_seq ?_
                    refine c_cond_f rfl ?_
                    refine c_exit ?_
                    refine e_exit_then ?_
                    refine e_exit_then ?_
                    refine e_exit_block ?_
                    refine e_next ?_
                    refine c_seq ?_
                    refine c_region ?_
                    refine r_val .none rfl (p_ldw (k := 3) Try.underlying41 rfl sz41 rfl rfl (rfl : _ = Value.agg #[_, _, _, _, _, _])) ?_
                    refine r_stw (k := 4) .none sz41 rfl rfl (IsRow.lit _) (one_lit rfl rfl) rfl ?_
                    refine r_nil ?_
                    refine e_next ?_
                    refine c_ret ?_
                    refine e_ret1 Try.results23 (.cell (k := 4) rfl Try.underlying41 rfl sz41 rfl (rfl : _ = Value.agg #[_, _, _, _, _, _]) .nil) (fun w hm => ⟨?_, hm.since⟩)
                    subst_vars; rfl
                    )
              · skip
                first
                  | (exfalso; omega)
                  | (
                    refine c_cond_f rfl ?_
                    refine c_skip ?_
                    refine e_norm_block ?_
                    refine e_next ?_
                    refine c_region ?_
                    refine r_val .none rfl (p_add rfl rfl (by omega)) ?_
                    refine r_val .none rfl (p_move rfl) ?_
                    refine r_nil ?_
                    refine e_again ?_
                    refine l_round (n := 0) ?_
                    refine c_seq ?_
                    refine c_region ?_
                    refine r_val .none rfl (p_lt rfl rfl) ?_
                    refine r_say (d := 8) (v := Value.bool false) rfl ?_
                    refine r_nil ?_
                    refine e_next ?_
                    refine c_seq ?_
                    refine c_cond_f rfl ?_
                    refine c_exit ?_
                    refine e_exit_then ?_
                    refine e_exit_then ?_
                    refine e_exit_block ?_
                    refine e_next ?_
                    refine c_seq ?_
                    refine c_region ?_
                    refine r_val .none rfl (p_ldw (k := 3) Try.underlying41 rfl sz41 rfl rfl (rfl : _ = Value.agg #[_, _, _, _, _, _])) ?_
                    refine r_stw (k := 4) .none sz41 rfl rfl (IsRow.lit _) (one_lit rfl rfl) rfl ?_
                    refine r_nil ?_
                    refine e_next ?_
                    refine c_ret ?_
                    refine e_ret1 Try.results23 (.cell (k := 4) rfl Try.underlying41 rfl sz41 rfl (rfl : _ = Value.agg #[_, _, _, _, _, _]) .nil) (fun w hm => ⟨?_, hm.since⟩)
                    subst_vars; rfl
                    )
              )
        )
  · skip
    first
      | (exfalso; omega)
      | (
        refine c_cond_f rfl ?_
        refine c_skip ?_
        refine e_norm_block ?_
        refine e_next ?_
        refine c_region ?_
        refine r_val .none rfl (p_add rfl rfl (by omega)) ?_
        refine r_val .none rfl (p_move rfl) ?_
        refine r_nil ?_
        refine e_again ?_
        refine l_round (n := 2) ?_
        refine c_seq ?_
        refine c_region ?_
        refine r_val .none rfl (p_lt rfl rfl) ?_
        refine r_say (d := 8) (v := Value.bool true) rfl ?_
        refine r_nil ?_
        refine e_next ?_
        refine c_seq ?_
        refine c_cond_t rfl ?_
        refine c_skip ?_
        refine e_next ?_
        refine c_seq ?_
        refine c_block ?_
        refine c_seq ?_
        refine c_region ?_
        refine r_val .none rfl (p_move rfl) ?_
        refine r_val .none rfl (p_indexa (k := 1) Try.underlying24 Try.underlying23 rfl sz23 rfl (IsRow.lit _) rfl rfl (by first | exact of_decide_eq_true rfl | omega) (rfl : _ = Value.agg #[_, _])) ?_
        refine r_alloc .none rfl zr23 (IsRow.lit _) (fun b_8 => ?_)
        refine r_val .none rfl (p_assign rfl) ?_
        refine r_stw (k := 0) .none sz23 rfl rfl (IsRow.lit _) (one_lit rfl rfl) rfl ?_
        refine r_nil ?_
        refine e_next ?_
        refine c_seq ?_
        refine c_region ?_
        refine r_val .none rfl (p_move rfl) ?_
        refine r_val .none rfl (p_field Try.underlying23 rfl sz3 rfl) ?_
        refine r_val .none rfl (p_ld (k := 0) Try.underlying3 rfl rfl rfl (by first | exact of_decide_eq_true rfl | omega) (rfl : _ = Value.int _ _)) ?_
        refine r_val .none rfl (p_iaddr (k := 1) Try.underlying41 sz40 rfl rfl (by first | exact of_decide_eq_true rfl | omega)) ?_
        refine r_val .none rfl (p_field Try.underlying40 rfl sz3 rfl) ?_
        refine r_st (k := 2) .none sz3 rfl rfl rfl rfl (by first | exact of_decide_eq_true rfl | omega) ?_
        refine r_nil ?_
        refine e_next ?_
        refine c_seq ?_
        refine c_region ?_
        refine r_val .none rfl (p_field Try.underlying23 rfl sz4 rfl) ?_
        refine r_val .none rfl (p_ld (k := 0) Try.underlying4 rfl rfl rfl (by first | exact of_decide_eq_true rfl | omega) (rfl : _ = Value.bool _)) ?_
        refine r_nil ?_
        refine e_next ?_
        refine c_split (d := 17) rfl (fun h_5 => ?_) (fun h_5 => ?_)
        · skip
          first
            | (exfalso; omega)
            | (
              refine c_cond_t rfl ?_
              refine c_region ?_
              refine r_val .none rfl (p_move rfl) ?_
              refine r_val .none rfl (p_iaddr (k := 1) Try.underlying41 sz40 rfl rfl (by first | exact of_decide_eq_true rfl | omega)) ?_
              refine r_val .none rfl (p_field Try.underlying40 rfl sz3 rfl) ?_
              refine r_st (k := 2) .none sz3 rfl rfl rfl rfl (by first | exact of_decide_eq_true rfl | omega) ?_
              refine r_nil ?_
              refine e_norm_block ?_
              refine e_next ?_
              refine c_region ?_
              refine r_val .none rfl (p_add rfl rfl (by omega)) ?_
              refine r_val .none rfl (p_move rfl) ?_
              refine r_nil ?_
              refine e_again ?_
              refine l_round (n := 1) ?_
              refine c_seq ?_
              refine c_region ?_
              refine r_val .none rfl (p_lt rfl rfl) ?_
              refine r_say (d := 8) (v := Value.bool true) rfl ?_
              refine r_nil ?_
              refine e_next ?_
              refine c_seq ?_
              refine c_cond_t rfl ?_
              refine c_skip ?_
              refine e_next ?_
              refine c_seq ?_
              refine c_block ?_
              refine c_seq ?_
              refine c_region ?_
              refine r_val .none rfl (p_move rfl) ?_
              refine r_val .none rfl (p_indexa (k := 2) Try.underlying24 Try.underlying23 rfl sz23 rfl (IsRow.lit _) rfl rfl (by first | exact of_decide_eq_true rfl | omega) (rfl : _ = Value.agg #[_, _])) ?_
              refine r_alloc .none rfl zr23 (IsRow.lit _) (fun b_9 => ?_)
              refine r_val .none rfl (p_assign rfl) ?_
              refine r_stw (k := 0) .none sz23 rfl rfl (IsRow.lit _) (one_lit rfl rfl) rfl ?_
              refine r_nil ?_
              refine e_next ?_
              refine c_seq ?_
              refine c_region ?_
              refine r_val .none rfl (p_move rfl) ?_
              refine r_val .none rfl (p_field Try.underlying23 rfl sz3 rfl) ?_
              refine r_val .none rfl (p_ld (k := 0) Try.underlying3 rfl rfl rfl (by first | exact of_decide_eq_true rfl | omega) (rfl : _ = Value.int _ _)) ?_
              refine r_val .none rfl (p_iaddr (k := 2) Try.underlying41 sz40 rfl rfl (by first | exact of_decide_eq_true rfl | omega)) ?_
              refine r_val .none rfl (p_field Try.underlying40 rfl sz3 rfl) ?_
              refine r_st (k := 3) .none sz3 rfl rfl rfl rfl (by first | exact of_decide_eq_true rfl | omega) ?_
              refine r_nil ?_
              refine e_next ?_
              refine c_seq ?_
              refine c_region ?_
              refine r_val .none rfl (p_field Try.underlying23 rfl sz4 rfl) ?_
              refine r_val .none rfl (p_ld (k := 0) Try.underlying4 rfl rfl rfl (by first | exact of_decide_eq_true rfl | omega) (rfl : _ = Value.bool _)) ?_
              refine r_nil ?_
              refine e_next ?_
              refine c_split (d := 17) rfl (fun h_6 => ?_) (fun h_6 => ?_)
              · skip
                first
                  | (exfalso; omega)
                  | (
                    refine c_cond_t rfl ?_
                    refine c_region ?_
                    refine r_val .none rfl (p_move rfl) ?_
                    refine r_val .none rfl (p_iaddr (k := 2) Try.underlying41 sz40 rfl rfl (by first | exact of_decide_eq_true rfl | omega)) ?_
                    refine r_val .none rfl (p_field Try.underlying40 rfl sz3 rfl) ?_
                    refine r_st (k := 3) .none sz3 rfl rfl rfl rfl (by first | exact of_decide_eq_true rfl | omega) ?_
                    refine r_nil ?_
                    refine e_norm_block ?_
                    refine e_next ?_
                    refine c_region ?_
                    refine r_val .none rfl (p_add rfl rfl (by omega)) ?_
                    refine r_val .none rfl (p_move rfl) ?_
                    refine r_nil ?_
                    refine e_again ?_
                    refine l_round (n := 0) ?_
                    refine c_seq ?_
                    refine c_region ?_
                    refine r_val .none rfl (p_lt rfl rfl) ?_
                    refine r_say (d := 8) (v := Value.bool false) rfl ?_
                    refine r_nil ?_
                    refine e_next ?_
                    refine c_seq ?_
                    refine c_cond_f rfl ?_
                    refine c_exit ?_
                    refine e_exit_then ?_
                    refine e_exit_then ?_
                    refine e_exit_block ?_
                    refine e_next ?_
                    refine c_seq ?_
                    refine c_region ?_
                    refine r_val .none rfl (p_ldw (k := 3) Try.underlying41 rfl sz41 rfl rfl (rfl : _ = Value.agg #[_, _, _, _, _, _])) ?_
                    refine r_stw (k := 4) .none sz41 rfl rfl (IsRow.lit _) (one_lit rfl rfl) rfl ?_
                    refine r_nil ?_
                    refine e_next ?_
                    refine c_ret ?_
                    refine e_ret1 Try.results23 (.cell (k := 4) rfl Try.underlying41 rfl sz41 rfl (rfl : _ = Value.agg #[_, _, _, _, _, _]) .nil) (fun w hm => ⟨?_, hm.since⟩)
                    subst_vars; rfl
                    )
              · skip
                first
                  | (exfalso; omega)
                  | (
                    refine c_cond_f rfl ?_
                    refine c_skip ?_
                    refine e_norm_block ?_
                    refine e_next ?_
                    refine c_region ?_
                    refine r_val .none rfl (p_add rfl rfl (by omega)) ?_
                    refine r_val .none rfl (p_move rfl) ?_
                    refine r_nil ?_
                    refine e_again ?_
                    refine l_round (n := 0) ?_
                    refine c_seq ?_
                    refine c_region ?_
                    refine r_val .none rfl (p_lt rfl rfl) ?_
                    refine r_say (d := 8) (v := Value.bool false) rfl ?_
                    refine r_nil ?_
                    refine e_next ?_
                    refine c_seq ?_
                    refine c_cond_f rfl ?_
                    refine c_exit ?_
                    refine e_exit_then ?_
                    refine e_exit_then ?_
                    refine e_exit_block ?_
                    refine e_next ?_
                    refine c_seq ?_
                    refine c_region ?_
                    refine r_val .none rfl (p_ldw (k := 3) Try.underlying41 rfl sz41 rfl rfl (rfl : _ = Value.agg #[_, _, _, _, _, _])) ?_
                    refine r_stw (k := 4) .none sz41 rfl rfl (IsRow.lit _) (one_lit rfl rfl) rfl ?_
                    refine r_nil ?_
                    refine e_next ?_
                    refine c_ret ?_
                    refine e_ret1 Try.results23 (.cell (k := 4) rfl Try.underlying41 rfl sz41 rfl (rfl : _ = Value.agg #[_, _, _, _, _, _]) .nil) (fun w hm => ⟨?_, hm.since⟩)
                    subst_vars; rfl
                    )
              )
        · skip
          first
            | (exfalso; omega)
            | (
              refine c_cond_f rfl ?_
              refine c_skip ?_
              refine e_norm_block ?_
              refine e_next ?_
              refine c_region ?_
              refine r_val .none rfl (p_add rfl rfl (by omega)) ?_
              refine r_val .none rfl (p_move rfl) ?_
              refine r_nil ?_
              refine e_again ?_
              refine l_round (n := 1) ?_
              refine c_seq ?_
              refine c_region ?_
              refine r_val .none rfl (p_lt rfl rfl) ?_
              refine r_say (d := 8) (v := Value.bool true) rfl ?_
              refine r_nil ?_
              refine e_next ?_
              refine c_seq ?_
              refine c_cond_t rfl ?_
              refine c_skip ?_
              refine e_next ?_
              refine c_seq ?_
              refine c_block ?_
              refine c_seq ?_
              refine c_region ?_
              refine r_val .none rfl (p_move rfl) ?_
              refine r_val .none rfl (p_indexa (k := 2) Try.underlying24 Try.underlying23 rfl sz23 rfl (IsRow.lit _) rfl rfl (by first | exact of_decide_eq_true rfl | omega) (rfl : _ = Value.agg #[_, _])) ?_
              refine r_alloc .none rfl zr23 (IsRow.lit _) (fun b_10 => ?_)
              refine r_val .none rfl (p_assign rfl) ?_
              refine r_stw (k := 0) .none sz23 rfl rfl (IsRow.lit _) (one_lit rfl rfl) rfl ?_
              refine r_nil ?_
              refine e_next ?_
              refine c_seq ?_
              refine c_region ?_
              refine r_val .none rfl (p_move rfl) ?_
              refine r_val .none rfl (p_field Try.underlying23 rfl sz3 rfl) ?_
              refine r_val .none rfl (p_ld (k := 0) Try.underlying3 rfl rfl rfl (by first | exact of_decide_eq_true rfl | omega) (rfl : _ = Value.int _ _)) ?_
              refine r_val .none rfl (p_iaddr (k := 2) Try.underlying41 sz40 rfl rfl (by first | exact of_decide_eq_true rfl | omega)) ?_
              refine r_val .none rfl (p_field Try.underlying40 rfl sz3 rfl) ?_
              refine r_st (k := 3) .none sz3 rfl rfl rfl rfl (by first | exact of_decide_eq_true rfl | omega) ?_
              refine r_nil ?_
              refine e_next ?_
              refine c_seq ?_
              refine c_region ?_
              refine r_val .none rfl (p_field Try.underlying23 rfl sz4 rfl) ?_
              refine r_val .none rfl (p_ld (k := 0) Try.underlying4 rfl rfl rfl (by first | exact of_decide_eq_true rfl | omega) (rfl : _ = Value.bool _)) ?_
              refine r_nil ?_
              refine e_next ?_
              refine c_split (d := 17) rfl (fun h_7 => ?_) (fun h_7 => ?_)
              · skip
                first
                  | (exfalso; omega)
                  | (
                    refine c_cond_t rfl ?_
                    refine c_region ?_
                    refine r_val .none rfl (p_move rfl) ?_
                    refine r_val .none rfl (p_iaddr (k := 2) Try.underlying41 sz40 rfl rfl (by first | exact of_decide_eq_true rfl | omega)) ?_
                    refine r_val .none rfl (p_field Try.underlying40 rfl sz3 rfl) ?_
                    refine r_st (k := 3) .none sz3 rfl rfl rfl rfl (by first | exact of_decide_eq_true rfl | omega) ?_
                    refine r_nil ?_
                    refine e_norm_block ?_
                    refine e_next ?_
                    refine c_region ?_
                    refine r_val .none rfl (p_add rfl rfl (by omega)) ?_
                    refine r_val .none rfl (p_move rfl) ?_
                    refine r_nil ?_
                    refine e_again ?_
                    refine l_round (n := 0) ?_
                    refine c_seq ?_
                    refine c_region ?_
                    refine r_val .none rfl (p_lt rfl rfl) ?_
                    refine r_say (d := 8) (v := Value.bool false) rfl ?_
                    refine r_nil ?_
                    refine e_next ?_
                    refine c_seq ?_
                    refine c_cond_f rfl ?_
                    refine c_exit ?_
                    refine e_exit_then ?_
                    refine e_exit_then ?_
                    refine e_exit_block ?_
                    refine e_next ?_
                    refine c_seq ?_
                    refine c_region ?_
                    refine r_val .none rfl (p_ldw (k := 3) Try.underlying41 rfl sz41 rfl rfl (rfl : _ = Value.agg #[_, _, _, _, _, _])) ?_
                    refine r_stw (k := 4) .none sz41 rfl rfl (IsRow.lit _) (one_lit rfl rfl) rfl ?_
                    refine r_nil ?_
                    refine e_next ?_
                    refine c_ret ?_
                    refine e_ret1 Try.results23 (.cell (k := 4) rfl Try.underlying41 rfl sz41 rfl (rfl : _ = Value.agg #[_, _, _, _, _, _]) .nil) (fun w hm => ⟨?_, hm.since⟩)
                    subst_vars; rfl
                    )
              · skip
                first
                  | (exfalso; omega)
                  | (
                    refine c_cond_f rfl ?_
                    refine c_skip ?_
                    refine e_norm_block ?_
                    refine e_next ?_
                    refine c_region ?_
                    refine r_val .none rfl (p_add rfl rfl (by omega)) ?_
                    refine r_val .none rfl (p_move rfl) ?_
                    refine r_nil ?_
                    refine e_again ?_
                    refine l_round (n := 0) ?_
                    refine c_seq ?_
                    refine c_region ?_
                    refine r_val .none rfl (p_lt rfl rfl) ?_
                    refine r_say (d := 8) (v := Value.bool false) rfl ?_
                    refine r_nil ?_
                    refine e_next ?_
                    refine c_seq ?_
                    refine c_cond_f rfl ?_
                    refine c_exit ?_
                    refine e_exit_then ?_
                    refine e_exit_then ?_
                    refine e_exit_block ?_
                    refine e_next ?_
                    refine c_seq ?_
                    refine c_region ?_
                    refine r_val .none rfl (p_ldw (k := 3) Try.underlying41 rfl sz41 rfl rfl (rfl : _ = Value.agg #[_, _, _, _, _, _])) ?_
                    refine r_stw (k := 4) .none sz41 rfl rfl (IsRow.lit _) (one_lit rfl rfl) rfl ?_
                    refine r_nil ?_
                    refine e_next ?_
                    refine c_ret ?_
                    refine e_ret1 Try.results23 (.cell (k := 4) rfl Try.underlying41 rfl sz41 rfl (rfl : _ = Value.agg #[_, _, _, _, _, _]) .nil) (fun w hm => ⟨?_, hm.since⟩)
                    subst_vars; rfl
                    )
              )
        )
theorem c_fine (v0 : Bool) (n0 : Int) (v1 : Bool) (n1 : Int) (v2 : Bool) (n2 : Int)  (w : World)  :
    Calls Try.prog 13 #[Value.agg #[Value.bool v0, Value.int .i64 n0, Value.bool v1, Value.int .i64 n1, Value.bool v2, Value.int .i64 n2]] w (Ret fun r w' => r = Value.bool (fine v0 n0 v1 n1 v2 n2) ∧ Since nX w w') := by
  refine enter (args := [_]) (X := nX) (G := (fun _ => none)) (l := [(0, Value.agg #[Value.bool v0, Value.int .i64 n0, Value.bool v1, Value.int .i64 n1, Value.bool v2, Value.int .i64 n2])]) Try.func13 rfl Try.ntmps13 (fun _ _ h => by cases h) ⟨rfl, trivial⟩ (Nat.le_of_ble_eq_true rfl) ?_
  refine c_seq ?_
  refine c_region ?_
  refine r_box .none rfl rfl (IsRow.lit _) (fun b_1 => ?_)
  refine r_val .none rfl (p_assign rfl) ?_
  refine r_nil ?_
  refine e_next ?_
  refine c_seq ?_
  refine c_region ?_
  refine r_val .none rfl (p_ldw (k := 0) Try.underlying24 rfl sz24 rfl rfl (rfl : _ = Value.agg #[_, _, _, _, _, _])) ?_
  refine r_call (vs := [_]) .none rfl cl23 rfl (fun w hw => c_ref _ _ _ _ _ _ w) ?_
  refine r_alloc .none rfl zr41 (IsRow.lit _) (fun b_2 => ?_)
  refine r_stw (k := 0) .none sz41 rfl rfl (IsRow.lit _) (one_lit rfl rfl) rfl ?_
  refine r_nil ?_
  refine e_next ?_
  refine c_seq ?_
  refine c_region ?_
  refine r_val .none rfl (p_iaddr (k := 0) Try.underlying41 sz40 rfl rfl (by first | exact of_decide_eq_true rfl | omega)) ?_
  refine r_val .none rfl (p_lda (k := 0) Try.underlying40 rfl sz40 rfl rfl (by first | exact of_decide_eq_true rfl | omega) (rfl : _ = Value.agg #[_, _])) ?_
  refine r_call (vs := [_]) .none rfl cl22 rfl (fun w hw => c_rright _ _ w) ?_
  refine r_val .none rfl (p_move rfl) ?_
  refine' r_and (c := 9) (d := 13) [_, _, _, _] rfl (fun h_1 Q_2 hQ_3 => ?_) (fun h_1 Q_2 hQ_3 => ?_) ?_
  rotate_left 1
  · skip
    refine r_val (.some rfl rfl) rfl (p_iaddr (k := 1) Try.underlying41 sz40 rfl rfl (by first | exact of_decide_eq_true rfl | omega)) ?_
    refine r_val (.some rfl rfl) rfl (p_lda (k := 0) Try.underlying40 rfl sz40 rfl rfl (by first | exact of_decide_eq_true rfl | omega) (rfl : _ = Value.agg #[_, _])) ?_
    refine r_call (vs := [_]) (.some rfl rfl) rfl cl22 rfl (fun w hw => c_rright _ _ w) ?_
    refine r_val .none rfl (p_pick_t rfl rfl) ?_
    refine r_nil (e_fin (d := 13) hQ_3 rfl (by repeat (first | exact .refl | refine .put rfl ?_ | refine .say rfl ?_ | refine .say2 rfl (by first | assumption | simp_all) ?_)))
  · skip
    repeat (first | refine r_skip rfl (.no rfl rfl) ?_ | refine r_skip rfl (.un rfl rfl) ?_)
    refine r_val (by first | exact .none | exact .some rfl rfl) rfl (p_pick_f rfl rfl) ?_
    refine r_nil (e_fin (d := 13) hQ_3 rfl (by repeat (first | exact .refl | refine .put rfl ?_ | refine .say rfl ?_ | refine .say2 rfl (by first | assumption | simp_all) ?_)))
  refine r_val .none rfl (p_move rfl) ?_
  refine' r_and (c := 14) (d := 18) [_, _, _, _] rfl (fun h_5 Q_6 hQ_7 => ?_) (fun h_5 Q_6 hQ_7 => ?_) ?_
  rotate_left 1
  · skip
    try simp only [Bool.and_eq_true, Bool.or_eq_true, Bool.and_eq_false_iff, Bool.or_eq_false_iff, decide_eq_true_eq, decide_eq_false_iff_not, Bool.not_eq_true', Bool.not_eq_false', ne_eq, Decidable.not_not] at h_5
    refine r_val (.some rfl rfl) rfl (p_iaddr (k := 2) Try.underlying41 sz40 rfl rfl (by first | exact of_decide_eq_true rfl | omega)) ?_
    refine r_val (.some rfl rfl) rfl (p_lda (k := 0) Try.underlying40 rfl sz40 rfl rfl (by first | exact of_decide_eq_true rfl | omega) (rfl : _ = Value.agg #[_, _])) ?_
    refine r_call (vs := [_]) (.some rfl rfl) rfl cl22 rfl (fun w hw => c_rright _ _ w) ?_
    refine r_val .none rfl (p_pick_t rfl rfl) ?_
    refine r_nil (e_fin (d := 18) hQ_7 rfl (by repeat (first | exact .refl | refine .put rfl ?_ | refine .say rfl ?_ | refine .say2 rfl (by first | assumption | simp_all) ?_)))
  · skip
    repeat (first | refine r_skip rfl (.no rfl rfl) ?_ | refine r_skip rfl (.un rfl rfl) ?_)
    refine r_val (by first | exact .none | exact .some rfl rfl) rfl (p_pick_f rfl rfl) ?_
    refine r_nil (e_fin (d := 18) hQ_7 rfl (by repeat (first | exact .refl | refine .put rfl ?_ | refine .say rfl ?_ | refine .say2 rfl (by first | assumption | simp_all) ?_)))
  refine r_val .none rfl (p_assign rfl) ?_
  refine r_nil ?_
  refine e_next ?_
  refine c_ret ?_
  refine e_ret1 Try.results13 (.tmp rfl .nil) (fun w hm => ⟨?_, hm.since⟩)
  simp_all [fine, Bool.and_assoc]
theorem c_held (B : Nat → Int)  (w : World)  :
    Calls Try.prog 16 #[aggF 33 (fun i => Value.int .i64 (B i))] w (Ret fun r w' => r = aggF 33 (fun i => Value.int .i64 (heldB B i)) ∧ Since nX w w') := by
  refine enter (args := [_]) (X := nX) (G := (fun _ => none)) (l := [(0, aggF 33 (fun i => Value.int .i64 (B i)))]) Try.func16 rfl Try.ntmps16 (fun _ _ h => by cases h) ⟨rfl, trivial⟩ (Nat.le_of_ble_eq_true rfl) ?_
  refine c_seq ?_
  refine c_region ?_
  refine r_box .none rfl rfl (IsRow.fn _ _) (fun b_1 => ?_)
  refine r_alloc .none rfl zr28 (IsRow.fn _ _) (fun b_2 => ?_)
  refine r_nil ?_
  refine e_next ?_
  refine c_seq ?_
  refine c_seq ?_
  refine c_region ?_
  refine r_val .none rfl (p_move rfl) ?_
  refine r_nil ?_
  refine e_next ?_
  refine c_block ?_
  refine c_name (d := 1) rfl (fun u_1 hu_1 => ?_)
  refine c_name (d := 2) rfl (fun u_2 hu_2 => ?_)
  refine c_nameL (k := 0) rfl (fun A_3 hA_3 => ?_)
  refine c_loop (σ := Nat) (fun k => [(4, Value.int .i64 (k : Int)), (1, u_1), (2, u_2)]) (fun k => [A_3, box b_1 33 28 (fun i => Value.int .i64 (heldTo B k i))]) (fun _ => _) (fun k => k ≤ 33) (fun k => 33 - k) (0) (by omega) rfl ⟨rfl, rfl, rfl, trivial⟩ (.keep (fun _ _ h => h) (.keep (fun _ _ h => box_congr (fun i _ => by simp [heldTo]) _ _ h) (.nil))) (fun k hphi => ?_)
  subst hu_1
  subst hu_2
  subst hA_3
  refine c_seq ?_
  refine c_region ?_
  refine r_val .none rfl (p_lt rfl rfl) ?_
  refine r_nil ?_
  refine e_next ?_
  refine c_seq ?_
  refine c_splitd (d := 5) rfl (fun h_4 => ?_) (fun h_4 => ?_)
  · skip
    first
      | (exfalso; omega)
      | (
        refine c_cond_t rfl ?_
        refine c_skip ?_
        refine e_next ?_
        refine c_seq ?_
        refine c_block ?_
        refine c_seq ?_
        refine c_region ?_
        refine r_val .none rfl (p_move rfl) ?_
        refine r_val .none rfl (p_assign rfl) ?_
        refine r_nil ?_
        refine e_next ?_
        refine c_region ?_
        refine r_val .none rfl (p_move rfl) ?_
        refine r_val .none rfl (p_move rfl) ?_
        refine r_val .none rfl (p_iaddr1 Try.underlying28 sz3 rfl rfl (by first | exact of_decide_eq_true rfl | omega)) ?_
        refine r_val .none rfl (p_ld (k := 1) Try.underlying3 rfl rfl rfl (by first | exact of_decide_eq_true rfl | omega) (rfl : _ = Value.int _ _)) ?_
        refine r_val .none rfl (p_max rfl rfl) ?_
        refine r_val .none rfl (p_min rfl rfl) ?_
        refine r_val .none rfl (p_iaddr1 Try.underlying28 sz3 rfl rfl (by first | exact of_decide_eq_true rfl | omega)) ?_
        refine r_st (k := 1) .none sz3 rfl rfl rfl rfl (by first | exact of_decide_eq_true rfl | omega) ?_
        refine r_nil ?_
        refine e_norm_block ?_
        refine e_next ?_
        refine c_region ?_
        refine r_val .none rfl (p_add rfl rfl (by omega)) ?_
        refine r_val .none rfl (p_move rfl) ?_
        refine r_nil ?_
        refine e_round (k + 1) ⟨by omega, by omega⟩ rfl ⟨rfl, rfl, rfl, trivial⟩ (.keep (fun _ _ h => h) (.keep (fun _ _ h => box_congr (fun i _ => held_next B k i) _ _ h) (.nil)))
        )
  · skip
    first
      | (exfalso; omega)
      | (
        refine c_cond_f rfl ?_
        refine c_exit ?_
        refine e_exit_then ?_
        refine e_exit_then ?_
        refine e_exit_block ?_
        refine e_next ?_
        refine c_seq ?_
        refine c_region ?_
        refine r_val .none rfl (p_iaddr (k := 0) Try.underlying28 sz3 rfl rfl (by first | exact of_decide_eq_true rfl | omega)) ?_
        refine r_st (k := 1) .none sz3 rfl rfl rfl rfl (by first | exact of_decide_eq_true rfl | omega) ?_
        refine r_nil ?_
        refine e_next ?_
        refine c_seq ?_
        refine c_region ?_
        refine r_val .none rfl (p_ldw (k := 1) Try.underlying28 rfl sz28 rfl rfl rfl) ?_
        refine r_stw (k := 0) .none sz28 rfl rfl (IsRow.fn _ _) (fun _ _ => by first | rfl | (rw [upd_eq]; split <;> rfl)) rfl ?_
        refine r_nil ?_
        refine e_next ?_
        refine c_ret ?_
        refine e_ret1 Try.results16 (.cell (k := 0) rfl Try.underlying28 rfl sz28 rfl rfl .nil) (fun w hm => ⟨?_, hm.since⟩)
        refine aggF_congr (fun i hi => ?_)
        show upd _ 0 _ i = _
        rw [upd_eq]
        unfold heldB heldTo
        split
        · rfl
        · rw [if_pos (by omega)]
        )
theorem c_fit (v0 : Bool) (n0 : Int) (v1 : Bool) (n1 : Int) (v2 : Bool) (n2 : Int) (t0 t1 t2 : Int) (B : Nat → Int)  (w : World)  :
    Calls Try.prog 17 #[Value.agg #[Value.bool v0, Value.int .i64 n0, Value.bool v1, Value.int .i64 n1, Value.bool v2, Value.int .i64 n2], Value.agg #[Value.int .i64 t0, Value.int .i64 t1, Value.int .i64 t2], aggF 33 (fun i => Value.int .i64 (B i))] w (Ret fun r w' => r = Value.tuple #[aggF 33 (fun i => Value.int .i64 (((fit v0 n0 v1 n1 v2 n2 t0 t1 t2 B).getD B) i)), Value.bool (fit v0 n0 v1 n1 v2 n2 t0 t1 t2 B).isSome] ∧ Since nX w w') := by
  refine enter (args := [_, _, _]) (X := nX) (G := (fun _ => none)) (l := [(0, Value.agg #[Value.bool v0, Value.int .i64 n0, Value.bool v1, Value.int .i64 n1, Value.bool v2, Value.int .i64 n2]), (1, Value.agg #[Value.int .i64 t0, Value.int .i64 t1, Value.int .i64 t2]), (2, aggF 33 (fun i => Value.int .i64 (B i)))]) Try.func17 rfl Try.ntmps17 (fun _ _ h => by cases h) ⟨rfl, rfl, rfl, trivial⟩ (Nat.le_of_ble_eq_true rfl) ?_
  refine c_seq ?_
  refine c_region ?_
  refine r_box .none rfl rfl (IsRow.lit _) (fun b_1 => ?_)
  refine r_box .none rfl rfl (IsRow.lit _) (fun b_2 => ?_)
  refine r_box .none rfl rfl (IsRow.fn _ _) (fun b_3 => ?_)
  refine r_alloc .none rfl zr28 (IsRow.fn _ _) (fun b_4 => ?_)
  refine r_val .none rfl (p_assign rfl) ?_
  refine r_nil ?_
  refine e_next ?_
  refine c_seq ?_
  refine c_region ?_
  refine r_val .none rfl (p_ldw (k := 1) Try.underlying28 rfl sz28 rfl rfl rfl) ?_
  refine r_alloc .none rfl zr28 (IsRow.fn _ _) (fun b_5 => ?_)
  refine r_stw (k := 0) .none sz28 rfl rfl (IsRow.fn _ _) (fun _ _ => by first | rfl | (rw [upd_eq]; split <;> rfl)) rfl ?_
  refine r_nil ?_
  refine e_next ?_
  refine c_seq ?_
  refine c_seq ?_
  refine c_region ?_
  refine r_val .none rfl (p_ldw (k := 4) Try.underlying24 rfl sz24 rfl rfl (rfl : _ = Value.agg #[_, _, _, _, _, _])) ?_
  refine r_val .none rfl (p_move rfl) ?_
  refine r_nil ?_
  refine e_next ?_
  refine c_block ?_
  refine c_name (d := 4) rfl (fun u_1 hu_1 => ?_)
  refine c_name (d := 5) rfl (fun u_2 hu_2 => ?_)
  refine c_name (d := 6) rfl (fun u_3 hu_3 => ?_)
  refine c_name (d := 8) rfl (fun u_4 hu_4 => ?_)
  refine c_name (d := 13) rfl (fun u_5 hu_5 => ?_)
  refine c_nameL (k := 1) rfl (fun A_6 hA_6 => ?_)
  refine c_nameL (k := 2) rfl (fun A_7 hA_7 => ?_)
  refine c_nameL (k := 3) rfl (fun A_8 hA_8 => ?_)
  refine c_nameL (k := 4) rfl (fun A_9 hA_9 => ?_)
  refine c_loop (σ := Nat × (Nat → Int)) (fun s => [(14, Value.int .i64 (s.1 : Int)), (4, u_1), (5, u_2), (6, u_3), (8, u_4), (13, u_5)]) (fun s => [box b_5 33 28 (fun i => Value.int .i64 (s.2 i)), A_6, A_7, A_8, A_9]) (fun _ => _) (fun s => s.1 ≤ 3 ∧ fitTo v0 n0 v1 n1 v2 n2 t0 t1 t2 B s.1 = some s.2) (fun s => 3 - s.1) ((0, B)) ⟨by omega, rfl⟩ rfl ⟨rfl, rfl, rfl, rfl, rfl, rfl, trivial⟩ (.keep (fun _ _ h => box_congr (fun i hi => rfl) _ _ h) (.keep (fun _ _ h => h) (.keep (fun _ _ h => h) (.keep (fun _ _ h => h) (.keep (fun _ _ h => h) (.nil)))))) (fun s hphi => ?_)
  subst hu_1
  subst hu_2
  subst hu_3
  subst hu_4
  subst hu_5
  subst hA_6
  subst hA_7
  subst hA_8
  subst hA_9
  obtain ⟨k, Bk⟩ := s
  obtain ⟨hk, hfit⟩ := hphi
  dsimp only at hk hfit ⊢
  obtain rfl | rfl | rfl | rfl : k = 0 ∨ k = 1 ∨ k = 2 ∨ k = 3 := by omega
  · skip
    refine c_seq ?_
    refine c_region ?_
    refine r_val .none rfl (p_lt rfl rfl) ?_
    refine r_say (d := 15) (v := Value.bool true) rfl ?_
    refine r_nil ?_
    refine e_next ?_
    refine c_seq ?_
    refine c_cond_t rfl ?_
    refine c_skip ?_
    refine e_next ?_
    refine c_seq ?_
    refine c_block ?_
    refine c_seq ?_
    refine c_region ?_
    refine r_val .none rfl (p_move rfl) ?_
    refine r_val .none rfl (p_indexa (k := 0) Try.underlying24 Try.underlying23 rfl sz23 rfl (IsRow.lit _) rfl rfl (by first | exact of_decide_eq_true rfl | omega | exact cl_lt _) (rfl : _ = Value.agg #[_, _])) ?_
    refine r_alloc .none rfl zr23 (IsRow.lit _) (fun b_6 => ?_)
    refine r_val .none rfl (p_assign rfl) ?_
    refine r_stw (k := 0) .none sz23 rfl rfl (IsRow.lit _) (one_lit rfl rfl) rfl ?_
    refine r_nil ?_
    refine e_next ?_
    refine c_seq ?_
    refine c_region ?_
    refine r_val .none rfl (p_field Try.underlying23 rfl sz3 rfl) ?_
    refine r_val .none rfl (p_ld (k := 0) Try.underlying3 rfl rfl rfl (by first | exact of_decide_eq_true rfl | omega | exact cl_lt _) (rfl : _ = Value.int _ _)) ?_
    refine r_val .none rfl (p_assign rfl) ?_
    refine r_nil ?_
    refine e_next ?_
    refine c_seq ?_
    refine c_seq ?_
    refine c_region ?_
    refine r_val .none rfl (p_field Try.underlying23 rfl sz4 rfl) ?_
    refine r_val .none rfl (p_ld (k := 0) Try.underlying4 rfl rfl rfl (by first | exact of_decide_eq_true rfl | omega | exact cl_lt _) (rfl : _ = Value.bool _)) ?_
    refine r_nil ?_
    refine e_next ?_
    refine c_split (d := 21) rfl (fun h_10 => ?_) (fun h_10 => ?_)
    · skip
      first
        | (exfalso; omega)
        | (
          refine c_cond_t rfl ?_
          refine c_seq ?_
          refine c_region ?_
          refine r_val .none rfl (p_ldw (k := 0) Try.underlying23 rfl sz23 rfl rfl (rfl : _ = Value.agg #[_, _])) ?_
          refine r_call (vs := [_]) .none rfl cl39 rfl (fun w hw => c_at _ _ w) ?_
          refine r_val .none rfl (p_iaddr1 Try.underlying28 sz3 rfl rfl (by first | exact of_decide_eq_true rfl | omega | exact cl_lt _)) ?_
          refine r_val .none rfl (p_ld (k := 1) Try.underlying3 rfl rfl rfl (by first | exact of_decide_eq_true rfl | omega | exact cl_lt _) (rfl : _ = Value.int _ _)) ?_
          refine r_val .none rfl (p_assign rfl) ?_
          refine r_nil ?_
          refine e_next ?_
          refine c_seq ?_
          refine c_region ?_
          refine r_val .none rfl (p_move rfl) ?_
          refine r_val .none rfl (p_eq rfl rfl) ?_
          refine r_nil ?_
          refine e_next ?_
          refine c_splitd (d := 27) rfl (fun h_11 => ?_) (fun h_11 => ?_)
          · skip
            first
              | (exfalso; omega)
              | (
                refine c_cond_t rfl ?_
                refine c_seq ?_
                refine c_region ?_
                refine r_val .none rfl (p_move rfl) ?_
                refine r_val .none rfl (p_iaddr (k := 0) Try.underlying26 sz3 rfl rfl (by first | exact of_decide_eq_true rfl | omega | exact cl_lt _)) ?_
                refine r_val .none rfl (p_ld (k := 4) Try.underlying3 rfl rfl rfl (by first | exact of_decide_eq_true rfl | omega | exact cl_lt _) (rfl : _ = Value.int _ _)) ?_
                refine r_val .none rfl (p_assign rfl) ?_
                refine r_nil ?_
                refine e_next ?_
                refine c_region ?_
                refine r_val .none rfl (p_ldw (k := 0) Try.underlying23 rfl sz23 rfl rfl (rfl : _ = Value.agg #[_, _])) ?_
                refine r_call (vs := [_]) .none rfl cl39 rfl (fun w hw => c_at _ _ w) ?_
                refine r_val .none rfl (p_move rfl) ?_
                refine r_val .none rfl (p_iaddr1 Try.underlying28 sz3 rfl rfl (by first | exact of_decide_eq_true rfl | omega | exact cl_lt _)) ?_
                refine r_st (k := 1) .none sz3 rfl rfl rfl rfl (by first | exact of_decide_eq_true rfl | omega | exact cl_lt _) ?_
                refine r_nil ?_
                refine e_next ?_
                refine c_seq ?_
                refine c_region ?_
                refine r_val .none rfl (p_move rfl) ?_
                refine r_val .none rfl (p_move rfl) ?_
                refine r_val .none rfl (p_iaddr (k := 0) Try.underlying26 sz3 rfl rfl (by first | exact of_decide_eq_true rfl | omega | exact cl_lt _)) ?_
                refine r_val .none rfl (p_ld (k := 4) Try.underlying3 rfl rfl rfl (by first | exact of_decide_eq_true rfl | omega | exact cl_lt _) (rfl : _ = Value.int _ _)) ?_
                refine r_val .none rfl (p_ne rfl rfl) ?_
                refine r_nil ?_
                refine e_next ?_
                refine c_splitd (d := 39) rfl (fun h_12 => ?_) (fun h_12 => ?_)
                · skip
                  first
                    | (exfalso; omega)
                    | (
                      refine c_cond_t rfl ?_
                      refine c_seq ?_
                      refine c_region ?_
                      refine r_val .none rfl (p_ldw (k := 3) Try.underlying28 rfl sz28 rfl rfl rfl) ?_
                      refine r_stw (k := 2) .none sz28 rfl rfl (IsRow.fn _ _) (fun _ _ => by first | rfl | (rw [upd_eq]; split <;> rfl)) rfl ?_
                      refine r_val .none rfl (p_assign rfl) ?_
                      refine r_nil ?_
                      refine e_next ?_
                      refine c_ret ?_
                      refine e_ret_block ?_
                      refine e_ret_then ?_
                      refine e_ret_then ?_
                      refine e_ret_block ?_
                      refine e_ret_then ?_
                      refine e_retn Try.results17 (.cell (k := 2) rfl Try.underlying28 rfl sz28 rfl rfl (.tmp rfl .nil)) rfl (fun w hm => ⟨?_, hm.since⟩)
                      have hend : fit v0 n0 v1 n1 v2 n2 t0 t1 t2 B = none := fitNo_0 hfit (by simp_all [fit1])
                      rw [hend]
                      rfl
                      )
                · skip
                  first
                    | (exfalso; omega)
                    | (
                      refine c_cond_f rfl ?_
                      refine c_skip ?_
                      refine e_norm_block ?_
                      refine e_next ?_
                      refine c_region ?_
                      refine r_val .none rfl (p_add rfl rfl (by omega)) ?_
                      refine r_val .none rfl (p_move rfl) ?_
                      refine r_nil ?_
                      refine e_round ((1, updI Bk (cl n0) t0)) ⟨⟨Nat.le_of_ble_eq_true rfl, ?_⟩, Nat.le_of_ble_eq_true rfl⟩ rfl ⟨rfl, rfl, rfl, rfl, rfl, rfl, trivial⟩ (.drop (.keep (fun _ _ h => box_congr (fun i _ => upd_int _ _ _ i) _ _ h) (.keep (fun _ _ h => h) (.keep (fun _ _ h => h) (.keep (fun _ _ h => h) (.keep (fun _ _ h => h) (.nil)))))))
                      show fitTo v0 n0 v1 n1 v2 n2 t0 t1 t2 B 1 = some _
                      rw [fitTo_1 hfit]
                      simp_all [fit1]
                      )
                )
          · skip
            first
              | (exfalso; omega)
              | (
                refine c_cond_f rfl ?_
                refine c_skip ?_
                refine e_next ?_
                refine c_seq ?_
                refine c_region ?_
                refine r_val .none rfl (p_move rfl) ?_
                refine r_val .none rfl (p_move rfl) ?_
                refine r_val .none rfl (p_iaddr (k := 0) Try.underlying26 sz3 rfl rfl (by first | exact of_decide_eq_true rfl | omega | exact cl_lt _)) ?_
                refine r_val .none rfl (p_ld (k := 4) Try.underlying3 rfl rfl rfl (by first | exact of_decide_eq_true rfl | omega | exact cl_lt _) (rfl : _ = Value.int _ _)) ?_
                refine r_val .none rfl (p_ne rfl rfl) ?_
                refine r_nil ?_
                refine e_next ?_
                refine c_splitd (d := 39) rfl (fun h_13 => ?_) (fun h_13 => ?_)
                · skip
                  first
                    | (exfalso; omega)
                    | (
                      refine c_cond_t rfl ?_
                      refine c_seq ?_
                      refine c_region ?_
                      refine r_val .none rfl (p_ldw (k := 3) Try.underlying28 rfl sz28 rfl rfl rfl) ?_
                      refine r_stw (k := 2) .none sz28 rfl rfl (IsRow.fn _ _) (fun _ _ => by first | rfl | (rw [upd_eq]; split <;> rfl)) rfl ?_
                      refine r_val .none rfl (p_assign rfl) ?_
                      refine r_nil ?_
                      refine e_next ?_
                      refine c_ret ?_
                      refine e_ret_block ?_
                      refine e_ret_then ?_
                      refine e_ret_then ?_
                      refine e_ret_block ?_
                      refine e_ret_then ?_
                      refine e_retn Try.results17 (.cell (k := 2) rfl Try.underlying28 rfl sz28 rfl rfl (.tmp rfl .nil)) rfl (fun w hm => ⟨?_, hm.since⟩)
                      have hend : fit v0 n0 v1 n1 v2 n2 t0 t1 t2 B = none := fitNo_0 hfit (by simp_all [fit1])
                      rw [hend]
                      rfl
                      )
                · skip
                  first
                    | (exfalso; omega)
                    | (
                      refine c_cond_f rfl ?_
                      refine c_skip ?_
                      refine e_norm_block ?_
                      refine e_next ?_
                      refine c_region ?_
                      refine r_val .none rfl (p_add rfl rfl (by omega)) ?_
                      refine r_val .none rfl (p_move rfl) ?_
                      refine r_nil ?_
                      refine e_round ((1, Bk)) ⟨⟨Nat.le_of_ble_eq_true rfl, ?_⟩, Nat.le_of_ble_eq_true rfl⟩ rfl ⟨rfl, rfl, rfl, rfl, rfl, rfl, trivial⟩ (.drop (.keep (fun _ _ h => h) (.keep (fun _ _ h => h) (.keep (fun _ _ h => h) (.keep (fun _ _ h => h) (.keep (fun _ _ h => h) (.nil)))))))
                      show fitTo v0 n0 v1 n1 v2 n2 t0 t1 t2 B 1 = some _
                      rw [fitTo_1 hfit]
                      simp_all [fit1]
                      )
                )
          )
    · skip
      first
        | (exfalso; omega)
        | (
          refine c_cond_f rfl ?_
          refine c_skip ?_
          refine e_next ?_
          refine c_seq ?_
          refine c_region ?_
          refine r_val .none rfl (p_move rfl) ?_
          refine r_val .none rfl (p_move rfl) ?_
          refine r_val .none rfl (p_iaddr (k := 0) Try.underlying26 sz3 rfl rfl (by first | exact of_decide_eq_true rfl | omega | exact cl_lt _)) ?_
          refine r_val .none rfl (p_ld (k := 4) Try.underlying3 rfl rfl rfl (by first | exact of_decide_eq_true rfl | omega | exact cl_lt _) (rfl : _ = Value.int _ _)) ?_
          refine r_val .none rfl (p_ne rfl rfl) ?_
          refine r_nil ?_
          refine e_next ?_
          refine c_splitd (d := 39) rfl (fun h_14 => ?_) (fun h_14 => ?_)
          · skip
            first
              | (exfalso; omega)
              | (
                refine c_cond_t rfl ?_
                refine c_seq ?_
                refine c_region ?_
                refine r_val .none rfl (p_ldw (k := 3) Try.underlying28 rfl sz28 rfl rfl rfl) ?_
                refine r_stw (k := 2) .none sz28 rfl rfl (IsRow.fn _ _) (fun _ _ => by first | rfl | (rw [upd_eq]; split <;> rfl)) rfl ?_
                refine r_val .none rfl (p_assign rfl) ?_
                refine r_nil ?_
                refine e_next ?_
                refine c_ret ?_
                refine e_ret_block ?_
                refine e_ret_then ?_
                refine e_ret_then ?_
                refine e_ret_block ?_
                refine e_ret_then ?_
                refine e_retn Try.results17 (.cell (k := 2) rfl Try.underlying28 rfl sz28 rfl rfl (.tmp rfl .nil)) rfl (fun w hm => ⟨?_, hm.since⟩)
                have hend : fit v0 n0 v1 n1 v2 n2 t0 t1 t2 B = none := fitNo_0 hfit (by simp_all [fit1])
                rw [hend]
                rfl
                )
          · skip
            first
              | (exfalso; omega)
              | (
                refine c_cond_f rfl ?_
                refine c_skip ?_
                refine e_norm_block ?_
                refine e_next ?_
                refine c_region ?_
                refine r_val .none rfl (p_add rfl rfl (by omega)) ?_
                refine r_val .none rfl (p_move rfl) ?_
                refine r_nil ?_
                refine e_round ((1, Bk)) ⟨⟨Nat.le_of_ble_eq_true rfl, ?_⟩, Nat.le_of_ble_eq_true rfl⟩ rfl ⟨rfl, rfl, rfl, rfl, rfl, rfl, trivial⟩ (.drop (.keep (fun _ _ h => h) (.keep (fun _ _ h => h) (.keep (fun _ _ h => h) (.keep (fun _ _ h => h) (.keep (fun _ _ h => h) (.nil)))))))
                show fitTo v0 n0 v1 n1 v2 n2 t0 t1 t2 B 1 = some _
                rw [fitTo_1 hfit]
                simp_all [fit1]
                )
          )
  · skip
    refine c_seq ?_
    refine c_region ?_
    refine r_val .none rfl (p_lt rfl rfl) ?_
    refine r_say (d := 15) (v := Value.bool true) rfl ?_
    refine r_nil ?_
    refine e_next ?_
    refine c_seq ?_
    refine c_cond_t rfl ?_
    refine c_skip ?_
    refine e_next ?_
    refine c_seq ?_
    refine c_block ?_
    refine c_seq ?_
    refine c_region ?_
    refine r_val .none rfl (p_move rfl) ?_
    refine r_val .none rfl (p_indexa (k := 1) Try.underlying24 Try.underlying23 rfl sz23 rfl (IsRow.lit _) rfl rfl (by first | exact of_decide_eq_true rfl | omega | exact cl_lt _) (rfl : _ = Value.agg #[_, _])) ?_
    refine r_alloc .none rfl zr23 (IsRow.lit _) (fun b_7 => ?_)
    refine r_val .none rfl (p_assign rfl) ?_
    refine r_stw (k := 0) .none sz23 rfl rfl (IsRow.lit _) (one_lit rfl rfl) rfl ?_
    refine r_nil ?_
    refine e_next ?_
    refine c_seq ?_
    refine c_region ?_
    refine r_val .none rfl (p_field Try.underlying23 rfl sz3 rfl) ?_
    refine r_val .none rfl (p_ld (k := 0) Try.underlying3 rfl rfl rfl (by first | exact of_decide_eq_true rfl | omega | exact cl_lt _) (rfl : _ = Value.int _ _)) ?_
    refine r_val .none rfl (p_assign rfl) ?_
    refine r_nil ?_
    refine e_next ?_
    refine c_seq ?_
    refine c_seq ?_
    refine c_region ?_
    refine r_val .none rfl (p_field Try.underlying23 rfl sz4 rfl) ?_
    refine r_val .none rfl (p_ld (k := 0) Try.underlying4 rfl rfl rfl (by first | exact of_decide_eq_true rfl | omega | exact cl_lt _) (rfl : _ = Value.bool _)) ?_
    refine r_nil ?_
    refine e_next ?_
    refine c_split (d := 21) rfl (fun h_15 => ?_) (fun h_15 => ?_)
    · skip
      first
        | (exfalso; omega)
        | (
          refine c_cond_t rfl ?_
          refine c_seq ?_
          refine c_region ?_
          refine r_val .none rfl (p_ldw (k := 0) Try.underlying23 rfl sz23 rfl rfl (rfl : _ = Value.agg #[_, _])) ?_
          refine r_call (vs := [_]) .none rfl cl39 rfl (fun w hw => c_at _ _ w) ?_
          refine r_val .none rfl (p_iaddr1 Try.underlying28 sz3 rfl rfl (by first | exact of_decide_eq_true rfl | omega | exact cl_lt _)) ?_
          refine r_val .none rfl (p_ld (k := 1) Try.underlying3 rfl rfl rfl (by first | exact of_decide_eq_true rfl | omega | exact cl_lt _) (rfl : _ = Value.int _ _)) ?_
          refine r_val .none rfl (p_assign rfl) ?_
          refine r_nil ?_
          refine e_next ?_
          refine c_seq ?_
          refine c_region ?_
          refine r_val .none rfl (p_move rfl) ?_
          refine r_val .none rfl (p_eq rfl rfl) ?_
          refine r_nil ?_
          refine e_next ?_
          refine c_splitd (d := 27) rfl (fun h_16 => ?_) (fun h_16 => ?_)
          · skip
            first
              | (exfalso; omega)
              | (
                refine c_cond_t rfl ?_
                refine c_seq ?_
                refine c_region ?_
                refine r_val .none rfl (p_move rfl) ?_
                refine r_val .none rfl (p_iaddr (k := 1) Try.underlying26 sz3 rfl rfl (by first | exact of_decide_eq_true rfl | omega | exact cl_lt _)) ?_
                refine r_val .none rfl (p_ld (k := 4) Try.underlying3 rfl rfl rfl (by first | exact of_decide_eq_true rfl | omega | exact cl_lt _) (rfl : _ = Value.int _ _)) ?_
                refine r_val .none rfl (p_assign rfl) ?_
                refine r_nil ?_
                refine e_next ?_
                refine c_region ?_
                refine r_val .none rfl (p_ldw (k := 0) Try.underlying23 rfl sz23 rfl rfl (rfl : _ = Value.agg #[_, _])) ?_
                refine r_call (vs := [_]) .none rfl cl39 rfl (fun w hw => c_at _ _ w) ?_
                refine r_val .none rfl (p_move rfl) ?_
                refine r_val .none rfl (p_iaddr1 Try.underlying28 sz3 rfl rfl (by first | exact of_decide_eq_true rfl | omega | exact cl_lt _)) ?_
                refine r_st (k := 1) .none sz3 rfl rfl rfl rfl (by first | exact of_decide_eq_true rfl | omega | exact cl_lt _) ?_
                refine r_nil ?_
                refine e_next ?_
                refine c_seq ?_
                refine c_region ?_
                refine r_val .none rfl (p_move rfl) ?_
                refine r_val .none rfl (p_move rfl) ?_
                refine r_val .none rfl (p_iaddr (k := 1) Try.underlying26 sz3 rfl rfl (by first | exact of_decide_eq_true rfl | omega | exact cl_lt _)) ?_
                refine r_val .none rfl (p_ld (k := 4) Try.underlying3 rfl rfl rfl (by first | exact of_decide_eq_true rfl | omega | exact cl_lt _) (rfl : _ = Value.int _ _)) ?_
                refine r_val .none rfl (p_ne rfl rfl) ?_
                refine r_nil ?_
                refine e_next ?_
                refine c_splitd (d := 39) rfl (fun h_17 => ?_) (fun h_17 => ?_)
                · skip
                  first
                    | (exfalso; omega)
                    | (
                      refine c_cond_t rfl ?_
                      refine c_seq ?_
                      refine c_region ?_
                      refine r_val .none rfl (p_ldw (k := 3) Try.underlying28 rfl sz28 rfl rfl rfl) ?_
                      refine r_stw (k := 2) .none sz28 rfl rfl (IsRow.fn _ _) (fun _ _ => by first | rfl | (rw [upd_eq]; split <;> rfl)) rfl ?_
                      refine r_val .none rfl (p_assign rfl) ?_
                      refine r_nil ?_
                      refine e_next ?_
                      refine c_ret ?_
                      refine e_ret_block ?_
                      refine e_ret_then ?_
                      refine e_ret_then ?_
                      refine e_ret_block ?_
                      refine e_ret_then ?_
                      refine e_retn Try.results17 (.cell (k := 2) rfl Try.underlying28 rfl sz28 rfl rfl (.tmp rfl .nil)) rfl (fun w hm => ⟨?_, hm.since⟩)
                      have hend : fit v0 n0 v1 n1 v2 n2 t0 t1 t2 B = none := fitNo_1 hfit (by simp_all [fit1])
                      rw [hend]
                      rfl
                      )
                · skip
                  first
                    | (exfalso; omega)
                    | (
                      refine c_cond_f rfl ?_
                      refine c_skip ?_
                      refine e_norm_block ?_
                      refine e_next ?_
                      refine c_region ?_
                      refine r_val .none rfl (p_add rfl rfl (by omega)) ?_
                      refine r_val .none rfl (p_move rfl) ?_
                      refine r_nil ?_
                      refine e_round ((2, updI Bk (cl n1) t1)) ⟨⟨Nat.le_of_ble_eq_true rfl, ?_⟩, Nat.le_of_ble_eq_true rfl⟩ rfl ⟨rfl, rfl, rfl, rfl, rfl, rfl, trivial⟩ (.drop (.keep (fun _ _ h => box_congr (fun i _ => upd_int _ _ _ i) _ _ h) (.keep (fun _ _ h => h) (.keep (fun _ _ h => h) (.keep (fun _ _ h => h) (.keep (fun _ _ h => h) (.nil)))))))
                      show fitTo v0 n0 v1 n1 v2 n2 t0 t1 t2 B 2 = some _
                      rw [fitTo_2 hfit]
                      simp_all [fit1]
                      )
                )
          · skip
            first
              | (exfalso; omega)
              | (
                refine c_cond_f rfl ?_
                refine c_skip ?_
                refine e_next ?_
                refine c_seq ?_
                refine c_region ?_
                refine r_val .none rfl (p_move rfl) ?_
                refine r_val .none rfl (p_move rfl) ?_
                refine r_val .none rfl (p_iaddr (k := 1) Try.underlying26 sz3 rfl rfl (by first | exact of_decide_eq_true rfl | omega | exact cl_lt _)) ?_
                refine r_val .none rfl (p_ld (k := 4) Try.underlying3 rfl rfl rfl (by first | exact of_decide_eq_true rfl | omega | exact cl_lt _) (rfl : _ = Value.int _ _)) ?_
                refine r_val .none rfl (p_ne rfl rfl) ?_
                refine r_nil ?_
                refine e_next ?_
                refine c_splitd (d := 39) rfl (fun h_18 => ?_) (fun h_18 => ?_)
                · skip
                  first
                    | (exfalso; omega)
                    | (
                      refine c_cond_t rfl ?_
                      refine c_seq ?_
                      refine c_region ?_
                      refine r_val .none rfl (p_ldw (k := 3) Try.underlying28 rfl sz28 rfl rfl rfl) ?_
                      refine r_stw (k := 2) .none sz28 rfl rfl (IsRow.fn _ _) (fun _ _ => by first | rfl | (rw [upd_eq]; split <;> rfl)) rfl ?_
                      refine r_val .none rfl (p_assign rfl) ?_
                      refine r_nil ?_
                      refine e_next ?_
                      refine c_ret ?_
                      refine e_ret_block ?_
                      refine e_ret_then ?_
                      refine e_ret_then ?_
                      refine e_ret_block ?_
                      refine e_ret_then ?_
                      refine e_retn Try.results17 (.cell (k := 2) rfl Try.underlying28 rfl sz28 rfl rfl (.tmp rfl .nil)) rfl (fun w hm => ⟨?_, hm.since⟩)
                      have hend : fit v0 n0 v1 n1 v2 n2 t0 t1 t2 B = none := fitNo_1 hfit (by simp_all [fit1])
                      rw [hend]
                      rfl
                      )
                · skip
                  first
                    | (exfalso; omega)
                    | (
                      refine c_cond_f rfl ?_
                      refine c_skip ?_
                      refine e_norm_block ?_
                      refine e_next ?_
                      refine c_region ?_
                      refine r_val .none rfl (p_add rfl rfl (by omega)) ?_
                      refine r_val .none rfl (p_move rfl) ?_
                      refine r_nil ?_
                      refine e_round ((2, Bk)) ⟨⟨Nat.le_of_ble_eq_true rfl, ?_⟩, Nat.le_of_ble_eq_true rfl⟩ rfl ⟨rfl, rfl, rfl, rfl, rfl, rfl, trivial⟩ (.drop (.keep (fun _ _ h => h) (.keep (fun _ _ h => h) (.keep (fun _ _ h => h) (.keep (fun _ _ h => h) (.keep (fun _ _ h => h) (.nil)))))))
                      show fitTo v0 n0 v1 n1 v2 n2 t0 t1 t2 B 2 = some _
                      rw [fitTo_2 hfit]
                      simp_all [fit1]
                      )
                )
          )
    · skip
      first
        | (exfalso; omega)
        | (
          refine c_cond_f rfl ?_
          refine c_skip ?_
          refine e_next ?_
          refine c_seq ?_
          refine c_region ?_
          refine r_val .none rfl (p_move rfl) ?_
          refine r_val .none rfl (p_move rfl) ?_
          refine r_val .none rfl (p_iaddr (k := 1) Try.underlying26 sz3 rfl rfl (by first | exact of_decide_eq_true rfl | omega | exact cl_lt _)) ?_
          refine r_val .none rfl (p_ld (k := 4) Try.underlying3 rfl rfl rfl (by first | exact of_decide_eq_true rfl | omega | exact cl_lt _) (rfl : _ = Value.int _ _)) ?_
          refine r_val .none rfl (p_ne rfl rfl) ?_
          refine r_nil ?_
          refine e_next ?_
          refine c_splitd (d := 39) rfl (fun h_19 => ?_) (fun h_19 => ?_)
          · skip
            first
              | (exfalso; omega)
              | (
                refine c_cond_t rfl ?_
                refine c_seq ?_
                refine c_region ?_
                refine r_val .none rfl (p_ldw (k := 3) Try.underlying28 rfl sz28 rfl rfl rfl) ?_
                refine r_stw (k := 2) .none sz28 rfl rfl (IsRow.fn _ _) (fun _ _ => by first | rfl | (rw [upd_eq]; split <;> rfl)) rfl ?_
                refine r_val .none rfl (p_assign rfl) ?_
                refine r_nil ?_
                refine e_next ?_
                refine c_ret ?_
                refine e_ret_block ?_
                refine e_ret_then ?_
                refine e_ret_then ?_
                refine e_ret_block ?_
                refine e_ret_then ?_
                refine e_retn Try.results17 (.cell (k := 2) rfl Try.underlying28 rfl sz28 rfl rfl (.tmp rfl .nil)) rfl (fun w hm => ⟨?_, hm.since⟩)
                have hend : fit v0 n0 v1 n1 v2 n2 t0 t1 t2 B = none := fitNo_1 hfit (by simp_all [fit1])
                rw [hend]
                rfl
                )
          · skip
            first
              | (exfalso; omega)
              | (
                refine c_cond_f rfl ?_
                refine c_skip ?_
                refine e_norm_block ?_
                refine e_next ?_
                refine c_region ?_
                refine r_val .none rfl (p_add rfl rfl (by omega)) ?_
                refine r_val .none rfl (p_move rfl) ?_
                refine r_nil ?_
                refine e_round ((2, Bk)) ⟨⟨Nat.le_of_ble_eq_true rfl, ?_⟩, Nat.le_of_ble_eq_true rfl⟩ rfl ⟨rfl, rfl, rfl, rfl, rfl, rfl, trivial⟩ (.drop (.keep (fun _ _ h => h) (.keep (fun _ _ h => h) (.keep (fun _ _ h => h) (.keep (fun _ _ h => h) (.keep (fun _ _ h => h) (.nil)))))))
                show fitTo v0 n0 v1 n1 v2 n2 t0 t1 t2 B 2 = some _
                rw [fitTo_2 hfit]
                simp_all [fit1]
                )
          )
  · skip
    refine c_seq ?_
    refine c_region ?_
    refine r_val .none rfl (p_lt rfl rfl) ?_
    refine r_say (d := 15) (v := Value.bool true) rfl ?_
    refine r_nil ?_
    refine e_next ?_
    refine c_seq ?_
    refine c_cond_t rfl ?_
    refine c_skip ?_
    refine e_next ?_
    refine c_seq ?_
    refine c_block ?_
    refine c_seq ?_
    refine c_region ?_
    refine r_val .none rfl (p_move rfl) ?_
    refine r_val .none rfl (p_indexa (k := 2) Try.underlying24 Try.underlying23 rfl sz23 rfl (IsRow.lit _) rfl rfl (by first | exact of_decide_eq_true rfl | omega | exact cl_lt _) (rfl : _ = Value.agg #[_, _])) ?_
    refine r_alloc .none rfl zr23 (IsRow.lit _) (fun b_8 => ?_)
    refine r_val .none rfl (p_assign rfl) ?_
    refine r_stw (k := 0) .none sz23 rfl rfl (IsRow.lit _) (one_lit rfl rfl) rfl ?_
    refine r_nil ?_
    refine e_next ?_
    refine c_seq ?_
    refine c_region ?_
    refine r_val .none rfl (p_field Try.underlying23 rfl sz3 rfl) ?_
    refine r_val .none rfl (p_ld (k := 0) Try.underlying3 rfl rfl rfl (by first | exact of_decide_eq_true rfl | omega | exact cl_lt _) (rfl : _ = Value.int _ _)) ?_
    refine r_val .none rfl (p_assign rfl) ?_
    refine r_nil ?_
    refine e_next ?_
    refine c_seq ?_
    refine c_seq ?_
    refine c_region ?_
    refine r_val .none rfl (p_field Try.underlying23 rfl sz4 rfl) ?_
    refine r_val .none rfl (p_ld (k := 0) Try.underlying4 rfl rfl rfl (by first | exact of_decide_eq_true rfl | omega | exact cl_lt _) (rfl : _ = Value.bool _)) ?_
    refine r_nil ?_
    refine e_next ?_
    refine c_split (d := 21) rfl (fun h_20 => ?_) (fun h_20 => ?_)
    · skip
      first
        | (exfalso; omega)
        | (
          refine c_cond_t rfl ?_
          refine c_seq ?_
          refine c_region ?_
          refine r_val .none rfl (p_ldw (k := 0) Try.underlying23 rfl sz23 rfl rfl (rfl : _ = Value.agg #[_, _])) ?_
          refine r_call (vs := [_]) .none rfl cl39 rfl (fun w hw => c_at _ _ w) ?_
          refine r_val .none rfl (p_iaddr1 Try.underlying28 sz3 rfl rfl (by first | exact of_decide_eq_true rfl | omega | exact cl_lt _)) ?_
          refine r_val .none rfl (p_ld (k := 1) Try.underlying3 rfl rfl rfl (by first | exact of_decide_eq_true rfl | omega | exact cl_lt _) (rfl : _ = Value.int _ _)) ?_
          refine r_val .none rfl (p_assign rfl) ?_
          refine r_nil ?_
          refine e_next ?_
          refine c_seq ?_
          refine c_region ?_
          refine r_val .none rfl (p_move rfl) ?_
          refine r_val .none rfl (p_eq rfl rfl) ?_
          refine r_nil ?_
          refine e_next ?_
          refine c_splitd (d := 27) rfl (fun h_21 => ?_) (fun h_21 => ?_)
          · skip
            first
              | (exfalso; omega)
              | (
                refine c_cond_t rfl ?_
                refine c_seq ?_
                refine c_region ?_
                refine r_val .none rfl (p_move rfl) ?_
                refine r_val .none rfl (p_iaddr (k := 2) Try.underlying26 sz3 rfl rfl (by first | exact of_decide_eq_true rfl | omega | exact cl_lt _)) ?_
                refine r_val .none rfl (p_ld (k := 4) Try.underlying3 rfl rfl rfl (by first | exact of_decide_eq_true rfl | omega | exact cl_lt _) (rfl : _ = Value.int _ _)) ?_
                refine r_val .none rfl (p_assign rfl) ?_
                refine r_nil ?_
                refine e_next ?_
                refine c_region ?_
                refine r_val .none rfl (p_ldw (k := 0) Try.underlying23 rfl sz23 rfl rfl (rfl : _ = Value.agg #[_, _])) ?_
                refine r_call (vs := [_]) .none rfl cl39 rfl (fun w hw => c_at _ _ w) ?_
                refine r_val .none rfl (p_move rfl) ?_
                refine r_val .none rfl (p_iaddr1 Try.underlying28 sz3 rfl rfl (by first | exact of_decide_eq_true rfl | omega | exact cl_lt _)) ?_
                refine r_st (k := 1) .none sz3 rfl rfl rfl rfl (by first | exact of_decide_eq_true rfl | omega | exact cl_lt _) ?_
                refine r_nil ?_
                refine e_next ?_
                refine c_seq ?_
                refine c_region ?_
                refine r_val .none rfl (p_move rfl) ?_
                refine r_val .none rfl (p_move rfl) ?_
                refine r_val .none rfl (p_iaddr (k := 2) Try.underlying26 sz3 rfl rfl (by first | exact of_decide_eq_true rfl | omega | exact cl_lt _)) ?_
                refine r_val .none rfl (p_ld (k := 4) Try.underlying3 rfl rfl rfl (by first | exact of_decide_eq_true rfl | omega | exact cl_lt _) (rfl : _ = Value.int _ _)) ?_
                refine r_val .none rfl (p_ne rfl rfl) ?_
                refine r_nil ?_
                refine e_next ?_
                refine c_splitd (d := 39) rfl (fun h_22 => ?_) (fun h_22 => ?_)
                · skip
                  first
                    | (exfalso; omega)
                    | (
                      refine c_cond_t rfl ?_
                      refine c_seq ?_
                      refine c_region ?_
                      refine r_val .none rfl (p_ldw (k := 3) Try.underlying28 rfl sz28 rfl rfl rfl) ?_
                      refine r_stw (k := 2) .none sz28 rfl rfl (IsRow.fn _ _) (fun _ _ => by first | rfl | (rw [upd_eq]; split <;> rfl)) rfl ?_
                      refine r_val .none rfl (p_assign rfl) ?_
                      refine r_nil ?_
                      refine e_next ?_
                      refine c_ret ?_
                      refine e_ret_block ?_
                      refine e_ret_then ?_
                      refine e_ret_then ?_
                      refine e_ret_block ?_
                      refine e_ret_then ?_
                      refine e_retn Try.results17 (.cell (k := 2) rfl Try.underlying28 rfl sz28 rfl rfl (.tmp rfl .nil)) rfl (fun w hm => ⟨?_, hm.since⟩)
                      have hend : fit v0 n0 v1 n1 v2 n2 t0 t1 t2 B = none := fitNo_2 hfit (by simp_all [fit1])
                      rw [hend]
                      rfl
                      )
                · skip
                  first
                    | (exfalso; omega)
                    | (
                      refine c_cond_f rfl ?_
                      refine c_skip ?_
                      refine e_norm_block ?_
                      refine e_next ?_
                      refine c_region ?_
                      refine r_val .none rfl (p_add rfl rfl (by omega)) ?_
                      refine r_val .none rfl (p_move rfl) ?_
                      refine r_nil ?_
                      refine e_round ((3, updI Bk (cl n2) t2)) ⟨⟨Nat.le_of_ble_eq_true rfl, ?_⟩, Nat.le_of_ble_eq_true rfl⟩ rfl ⟨rfl, rfl, rfl, rfl, rfl, rfl, trivial⟩ (.drop (.keep (fun _ _ h => box_congr (fun i _ => upd_int _ _ _ i) _ _ h) (.keep (fun _ _ h => h) (.keep (fun _ _ h => h) (.keep (fun _ _ h => h) (.keep (fun _ _ h => h) (.nil)))))))
                      show fitTo v0 n0 v1 n1 v2 n2 t0 t1 t2 B 3 = some _
                      rw [fitTo_3 hfit]
                      simp_all [fit1]
                      )
                )
          · skip
            first
              | (exfalso; omega)
              | (
                refine c_cond_f rfl ?_
                refine c_skip ?_
                refine e_next ?_
                refine c_seq ?_
                refine c_region ?_
                refine r_val .none rfl (p_move rfl) ?_
                refine r_val .none rfl (p_move rfl) ?_
                refine r_val .none rfl (p_iaddr (k := 2) Try.underlying26 sz3 rfl rfl (by first | exact of_decide_eq_true rfl | omega | exact cl_lt _)) ?_
                refine r_val .none rfl (p_ld (k := 4) Try.underlying3 rfl rfl rfl (by first | exact of_decide_eq_true rfl | omega | exact cl_lt _) (rfl : _ = Value.int _ _)) ?_
                refine r_val .none rfl (p_ne rfl rfl) ?_
                refine r_nil ?_
                refine e_next ?_
                refine c_splitd (d := 39) rfl (fun h_23 => ?_) (fun h_23 => ?_)
                · skip
                  first
                    | (exfalso; omega)
                    | (
                      refine c_cond_t rfl ?_
                      refine c_seq ?_
                      refine c_region ?_
                      refine r_val .none rfl (p_ldw (k := 3) Try.underlying28 rfl sz28 rfl rfl rfl) ?_
                      refine r_stw (k := 2) .none sz28 rfl rfl (IsRow.fn _ _) (fun _ _ => by first | rfl | (rw [upd_eq]; split <;> rfl)) rfl ?_
                      refine r_val .none rfl (p_assign rfl) ?_
                      refine r_nil ?_
                      refine e_next ?_
                      refine c_ret ?_
                      refine e_ret_block ?_
                      refine e_ret_then ?_
                      refine e_ret_then ?_
                      refine e_ret_block ?_
                      refine e_ret_then ?_
                      refine e_retn Try.results17 (.cell (k := 2) rfl Try.underlying28 rfl sz28 rfl rfl (.tmp rfl .nil)) rfl (fun w hm => ⟨?_, hm.since⟩)
                      have hend : fit v0 n0 v1 n1 v2 n2 t0 t1 t2 B = none := fitNo_2 hfit (by simp_all [fit1])
                      rw [hend]
                      rfl
                      )
                · skip
                  first
                    | (exfalso; omega)
                    | (
                      refine c_cond_f rfl ?_
                      refine c_skip ?_
                      refine e_norm_block ?_
                      refine e_next ?_
                      refine c_region ?_
                      refine r_val .none rfl (p_add rfl rfl (by omega)) ?_
                      refine r_val .none rfl (p_move rfl) ?_
                      refine r_nil ?_
                      refine e_round ((3, Bk)) ⟨⟨Nat.le_of_ble_eq_true rfl, ?_⟩, Nat.le_of_ble_eq_true rfl⟩ rfl ⟨rfl, rfl, rfl, rfl, rfl, rfl, trivial⟩ (.drop (.keep (fun _ _ h => h) (.keep (fun _ _ h => h) (.keep (fun _ _ h => h) (.keep (fun _ _ h => h) (.keep (fun _ _ h => h) (.nil)))))))
                      show fitTo v0 n0 v1 n1 v2 n2 t0 t1 t2 B 3 = some _
                      rw [fitTo_3 hfit]
                      simp_all [fit1]
                      )
                )
          )
    · skip
      first
        | (exfalso; omega)
        | (
          refine c_cond_f rfl ?_
          refine c_skip ?_
          refine e_next ?_
          refine c_seq ?_
          refine c_region ?_
          refine r_val .none rfl (p_move rfl) ?_
          refine r_val .none rfl (p_move rfl) ?_
          refine r_val .none rfl (p_iaddr (k := 2) Try.underlying26 sz3 rfl rfl (by first | exact of_decide_eq_true rfl | omega | exact cl_lt _)) ?_
          refine r_val .none rfl (p_ld (k := 4) Try.underlying3 rfl rfl rfl (by first | exact of_decide_eq_true rfl | omega | exact cl_lt _) (rfl : _ = Value.int _ _)) ?_
          refine r_val .none rfl (p_ne rfl rfl) ?_
          refine r_nil ?_
          refine e_next ?_
          refine c_splitd (d := 39) rfl (fun h_24 => ?_) (fun h_24 => ?_)
          · skip
            first
              | (exfalso; omega)
              | (
                refine c_cond_t rfl ?_
                refine c_seq ?_
                refine c_region ?_
                refine r_val .none rfl (p_ldw (k := 3) Try.underlying28 rfl sz28 rfl rfl rfl) ?_
                refine r_stw (k := 2) .none sz28 rfl rfl (IsRow.fn _ _) (fun _ _ => by first | rfl | (rw [upd_eq]; split <;> rfl)) rfl ?_
                refine r_val .none rfl (p_assign rfl) ?_
                refine r_nil ?_
                refine e_next ?_
                refine c_ret ?_
                refine e_ret_block ?_
                refine e_ret_then ?_
                refine e_ret_then ?_
                refine e_ret_block ?_
                refine e_ret_then ?_
                refine e_retn Try.results17 (.cell (k := 2) rfl Try.underlying28 rfl sz28 rfl rfl (.tmp rfl .nil)) rfl (fun w hm => ⟨?_, hm.since⟩)
                have hend : fit v0 n0 v1 n1 v2 n2 t0 t1 t2 B = none := fitNo_2 hfit (by simp_all [fit1])
                rw [hend]
                rfl
                )
          · skip
            first
              | (exfalso; omega)
              | (
                refine c_cond_f rfl ?_
                refine c_skip ?_
                refine e_norm_block ?_
                refine e_next ?_
                refine c_region ?_
                refine r_val .none rfl (p_add rfl rfl (by omega)) ?_
                refine r_val .none rfl (p_move rfl) ?_
                refine r_nil ?_
                refine e_round ((3, Bk)) ⟨⟨Nat.le_of_ble_eq_true rfl, ?_⟩, Nat.le_of_ble_eq_true rfl⟩ rfl ⟨rfl, rfl, rfl, rfl, rfl, rfl, trivial⟩ (.drop (.keep (fun _ _ h => h) (.keep (fun _ _ h => h) (.keep (fun _ _ h => h) (.keep (fun _ _ h => h) (.keep (fun _ _ h => h) (.nil)))))))
                show fitTo v0 n0 v1 n1 v2 n2 t0 t1 t2 B 3 = some _
                rw [fitTo_3 hfit]
                simp_all [fit1]
                )
          )
  · skip
    refine c_seq ?_
    refine c_region ?_
    refine r_val .none rfl (p_lt rfl rfl) ?_
    refine r_say (d := 15) (v := Value.bool false) rfl ?_
    refine r_nil ?_
    refine e_next ?_
    refine c_seq ?_
    refine c_cond_f rfl ?_
    refine c_exit ?_
    refine e_exit_then ?_
    refine e_exit_then ?_
    refine e_exit_block ?_
    refine e_next ?_
    refine c_seq ?_
    refine c_region ?_
    refine r_val .none rfl (p_ldw (k := 0) Try.underlying28 rfl sz28 rfl rfl rfl) ?_
    refine r_stw (k := 1) .none sz28 rfl rfl (IsRow.fn _ _) (fun _ _ => by first | rfl | (rw [upd_eq]; split <;> rfl)) rfl ?_
    refine r_val .none rfl (p_assign rfl) ?_
    refine r_nil ?_
    refine e_next ?_
    refine c_ret ?_
    refine e_retn Try.results17 (.cell (k := 1) rfl Try.underlying28 rfl sz28 rfl rfl (.tmp rfl .nil)) rfl (fun w hm => ⟨?_, hm.since⟩)
    have hend : fit v0 n0 v1 n1 v2 n2 t0 t1 t2 B = some Bk := hfit
    rw [hend]
    rfl
theorem c_awake3   (w : World)  :
    Calls Try.prog 15 #[] w (Ret fun r w' => r = Value.bool true ∧ Since nX w w') := by
  refine enter (args := []) (X := nX) (G := (fun _ => none)) (l := []) Try.func15 rfl Try.ntmps15 (fun _ _ h => by cases h) trivial (Nat.le_of_ble_eq_true rfl) ?_
  refine c_seq ?_
  refine c_region ?_
  refine r_val .none rfl (p_assign rfl) ?_
  refine r_nil ?_
  refine e_next ?_
  refine c_seq ?_
  refine c_region ?_
  refine r_call (vs := [_]) .none rfl cl25 rfl (fun w hw => c_var _ w) ?_
  refine r_call (vs := [_]) .none rfl cl24 rfl (fun w hw => c_sym _ w) ?_
  refine r_call (vs := [_]) .none rfl cl25 rfl (fun w hw => c_var _ w) ?_
  refine r_val .none rfl (p_build (vs := [(0, Value.agg #[_, _]), (1, Value.agg #[_, _]), (2, Value.agg #[_, _])]) rfl (bl24_0a2_1a2_2a2 _ _ _ _ _ _)) ?_
  refine r_val .none rfl (p_build (vs := [(0, Value.int _ _), (1, Value.int _ _), (2, Value.int _ _)]) rfl (bl26_0i1_1i1_2i1 _ _ _)) ?_
  refine r_val .none rfl (p_build (vs := []) rfl (bl28_ )) ?_
  refine r_call (vs := [_, _, _]) .none rfl cl17 rfl (fun w hw => c_fit true 1 false 2 true 1 5 2 5 (fun _ => 0) w) ?_
  refine r_val .none rfl (p_move rfl) ?_
  refine r_val .none rfl (p_extract rfl rfl) ?_
  refine r_val .none rfl (p_extract rfl rfl) ?_
  refine r_alloc .none rfl zr28 (IsRow.fn _ _) (fun b_1 => ?_)
  refine r_stw (k := 0) .none sz28 rfl rfl (IsRow.fn _ _) (fun _ _ => by first | rfl | (rw [upd_eq]; split <;> rfl)) rfl ?_
  refine r_val .none rfl (p_assign rfl) ?_
  refine r_nil ?_
  refine e_next ?_
  refine c_seq ?_
  refine c_region ?_
  refine r_val .none rfl (p_move rfl) ?_
  refine r_val .none rfl (p_move rfl) ?_
  refine' r_and (c := 14) (d := 18) [_, _, _, _] rfl (fun h_1 Q_2 hQ_3 => ?_) (fun h_1 Q_2 hQ_3 => ?_) ?_
  rotate_left 1
  · skip
    refine r_val (.some rfl rfl) rfl (p_ldw (k := 0) Try.underlying28 rfl sz28 rfl rfl rfl) ?_
    refine r_val (.some rfl rfl) rfl (p_build (vs := [(0, Value.int _ _), (1, Value.int _ _)]) rfl (bl28_0i1_1i1 _ _)) ?_
    refine r_val (.some rfl rfl) rfl (p_eqa rfl rfl (EqIs.of (eqr_ints (d := 9998) Try.underlying28 sz3 Try.underlying3 (IsRow.fn _ _) (IsRow_ints .i64 [0, 5, 0, 0, 0, 0, 0, 0, 0, 0, 0, 0, 0, 0, 0, 0, 0, 0, 0, 0, 0, 0, 0, 0, 0, 0, 0, 0, 0, 0, 0, 0, 0])) _ _ rfl rfl eg28)) ?_
    refine r_val .none rfl (p_pick_t rfl rfl) ?_
    refine r_nil (e_fin (d := 18) hQ_3 rfl (by repeat (first | exact .refl | refine .put rfl ?_ | refine .say rfl ?_ | refine .say2 rfl (by first | assumption | simp_all) ?_)))
  · skip
    repeat (first | refine r_skip rfl (.no rfl rfl) ?_ | refine r_skip rfl (.un rfl rfl) ?_)
    refine r_val (by first | exact .none | exact .some rfl rfl) rfl (p_pick_f rfl rfl) ?_
    refine r_nil (e_fin (d := 18) hQ_3 rfl (by repeat (first | exact .refl | refine .put rfl ?_ | refine .say rfl ?_ | refine .say2 rfl (by first | assumption | simp_all) ?_)))
  refine r_val .none rfl (p_assign rfl) ?_
  refine r_nil ?_
  refine e_next ?_
  refine c_ret ?_
  refine e_ret1 Try.results15 (.tmp rfl .nil) (fun w hm => ⟨?_, hm.since⟩)
  rfl
theorem c_TermKeeps (v0 : Bool) (n0 : Int) (v1 : Bool) (n1 : Int) (v2 : Bool) (n2 : Int) (t0 t1 t2 : Int) (B : Nat → Int)  (w : World)  :
    Calls Try.prog 3 #[Value.agg #[Value.bool v0, Value.int .i64 n0, Value.bool v1, Value.int .i64 n1, Value.bool v2, Value.int .i64 n2], Value.agg #[Value.int .i64 t0, Value.int .i64 t1, Value.int .i64 t2], aggF 33 (fun i => Value.int .i64 (B i))] w (Ret fun r w' => r = Value.bool true ∧ Since nX w w') := by
  refine enter (args := [_, _, _]) (X := nX) (G := (fun _ => none)) (l := [(0, Value.agg #[Value.bool v0, Value.int .i64 n0, Value.bool v1, Value.int .i64 n1, Value.bool v2, Value.int .i64 n2]), (1, Value.agg #[Value.int .i64 t0, Value.int .i64 t1, Value.int .i64 t2]), (2, aggF 33 (fun i => Value.int .i64 (B i)))]) Try.func3 rfl Try.ntmps3 (fun _ _ h => by cases h) ⟨rfl, rfl, rfl, trivial⟩ (Nat.le_of_ble_eq_true rfl) ?_
  refine c_seq ?_
  refine c_region ?_
  refine r_box .none rfl rfl (IsRow.lit _) (fun b_1 => ?_)
  refine r_box .none rfl rfl (IsRow.lit _) (fun b_2 => ?_)
  refine r_box .none rfl rfl (IsRow.fn _ _) (fun b_3 => ?_)
  refine r_val .none rfl (p_assign rfl) ?_
  refine r_nil ?_
  refine e_next ?_
  refine c_seq ?_
  refine c_seq ?_
  refine c_region ?_
  refine r_val .none rfl (p_ldw (k := 2) Try.underlying24 rfl sz24 rfl rfl (rfl : _ = Value.agg #[_, _, _, _, _, _])) ?_
  refine r_call (vs := [_]) .none rfl cl13 rfl (fun w hw => c_fine _ _ _ _ _ _ w) ?_
  refine r_val .none rfl (p_not rfl) ?_
  refine r_val .none rfl (p_move rfl) ?_
  refine r_splitn (d := 19) rfl (fun h_1 => ?_) (fun h_1 => ?_)
  · skip
    first
      | (exfalso; omega)
      | (
        refine r_skip rfl (.no rfl rfl) ?_
        refine r_skip rfl (.no rfl rfl) ?_
        refine r_skip rfl (.no rfl rfl) ?_
        refine r_val .none rfl (p_pick_t rfl rfl) ?_
        refine r_nil ?_
        refine e_next ?_
        refine c_cond_t rfl ?_
        refine c_seq ?_
        refine c_region ?_
        refine r_call (vs := []) .none rfl cl15 rfl (fun w hw => c_awake3  w) ?_
        refine r_val .none rfl (p_assign rfl) ?_
        refine r_nil ?_
        refine e_next ?_
        refine c_ret ?_
        refine e_ret_then ?_
        refine e_ret1 Try.results3 (.tmp rfl .nil) (fun w hm => ⟨?_, hm.since⟩)
        first
        | rfl
        | (exfalso; have hk := keeps_of (by assumption) (by assumption) (heldB B) k; simp_all; done)
        | (exfalso; have hk := again_of (by assumption) (by assumption) (heldB B) (by assumption); simp_all; done)
        )
  · skip
    first
      | (exfalso; omega)
      | (
        refine r_val (.some rfl rfl) rfl (p_ldw (k := 1) Try.underlying26 rfl sz26 rfl rfl (rfl : _ = Value.agg #[_, _, _])) ?_
        refine r_call (vs := [_]) (.some rfl rfl) rfl cl14 rfl (fun w hw => c_tright _ _ _ w) ?_
        refine r_val (.some rfl rfl) rfl (p_not rfl) ?_
        refine r_val .none rfl (p_pick_f rfl rfl) ?_
        refine r_nil ?_
        refine e_next ?_
        refine c_splitn (d := 23) rfl (fun h_2 => ?_) (fun h_2 => ?_)
        · skip
          first
            | (exfalso; omega)
            | (
              refine c_cond_t rfl ?_
              refine c_seq ?_
              refine c_region ?_
              refine r_call (vs := []) .none rfl cl15 rfl (fun w hw => c_awake3  w) ?_
              refine r_val .none rfl (p_assign rfl) ?_
              refine r_nil ?_
              refine e_next ?_
              refine c_ret ?_
              refine e_ret_then ?_
              refine e_ret1 Try.results3 (.tmp rfl .nil) (fun w hm => ⟨?_, hm.since⟩)
              first
              | rfl
              | (exfalso; have hk := keeps_of (by assumption) (by assumption) (heldB B) k; simp_all; done)
              | (exfalso; have hk := again_of (by assumption) (by assumption) (heldB B) (by assumption); simp_all; done)
              )
        · skip
          first
            | (exfalso; omega)
            | (
              refine c_cond_f rfl ?_
              refine c_skip ?_
              refine e_next ?_
              refine c_seq ?_
              refine c_region ?_
              refine r_val .none rfl (p_ldw (k := 0) Try.underlying28 rfl sz28 rfl rfl rfl) ?_
              refine r_call (vs := [_]) .none rfl cl16 rfl (fun w hw => c_held _ w) ?_
              refine r_alloc .none rfl zr28 (IsRow.fn _ _) (fun b_4 => ?_)
              refine r_stw (k := 0) .none sz28 rfl rfl (IsRow.fn _ _) (fun _ _ => by first | rfl | (rw [upd_eq]; split <;> rfl)) rfl ?_
              refine r_nil ?_
              refine e_next ?_
              refine c_seq ?_
              refine c_region ?_
              refine r_val .none rfl (p_ldw (k := 3) Try.underlying24 rfl sz24 rfl rfl (rfl : _ = Value.agg #[_, _, _, _, _, _])) ?_
              refine r_val .none rfl (p_ldw (k := 2) Try.underlying26 rfl sz26 rfl rfl (rfl : _ = Value.agg #[_, _, _])) ?_
              refine r_val .none rfl (p_ldw (k := 0) Try.underlying28 rfl sz28 rfl rfl rfl) ?_
              refine r_call (vs := [_, _, _]) .none rfl cl17 rfl (fun w hw => c_fit _ _ _ _ _ _ _ _ _ _ w) ?_
              refine r_val .none rfl (p_move rfl) ?_
              refine r_val .none rfl (p_extract rfl rfl) ?_
              refine r_val .none rfl (p_extract rfl rfl) ?_
              refine r_alloc .none rfl zr28 (IsRow.fn _ _) (fun b_5 => ?_)
              refine r_stw (k := 0) .none sz28 rfl rfl (IsRow.fn _ _) (fun _ _ => by first | rfl | (rw [upd_eq]; split <;> rfl)) rfl ?_
              refine r_val .none rfl (p_assign rfl) ?_
              refine r_nil ?_
              refine e_next ?_
              refine c_seq ?_
              refine c_seq ?_
              refine c_region ?_
              refine r_val .none rfl (p_move rfl) ?_
              refine r_nil ?_
              refine e_next ?_
              refine c_block ?_
              refine c_name (d := 3) rfl (fun u_3 hu_3 => ?_)
              refine c_name (d := 4) rfl (fun u_4 hu_4 => ?_)
              refine c_name (d := 7) rfl (fun u_5 hu_5 => ?_)
              refine c_name (d := 8) rfl (fun u_6 hu_6 => ?_)
              refine c_name (d := 9) rfl (fun u_7 hu_7 => ?_)
              refine c_nameL (k := 0) rfl (fun A_8 hA_8 => ?_)
              refine c_nameL (k := 1) rfl (fun A_9 hA_9 => ?_)
              refine c_nameL (k := 2) rfl (fun A_10 hA_10 => ?_)
              refine c_nameL (k := 3) rfl (fun A_11 hA_11 => ?_)
              refine c_nameL (k := 4) rfl (fun A_12 hA_12 => ?_)
              refine c_loop (σ := Nat) (fun k => [(34, Value.int .i64 (k : Int)), (3, u_3), (4, u_4), (7, u_5), (8, u_6), (9, u_7)]) (fun k => [A_8, A_9, A_10, A_11, A_12]) (fun _ => _) (fun k => k ≤ 33) (fun k => 33 - k) (0) (by omega) rfl ⟨rfl, rfl, rfl, rfl, rfl, rfl, trivial⟩ (.keep (fun _ _ h => h) (.keep (fun _ _ h => h) (.keep (fun _ _ h => h) (.keep (fun _ _ h => h) (.keep (fun _ _ h => h) (.nil)))))) (fun k hphi => ?_)
              subst hu_3
              subst hu_4
              subst hu_5
              subst hu_6
              subst hu_7
              subst hA_8
              subst hA_9
              subst hA_10
              subst hA_11
              subst hA_12
              refine c_seq ?_
              refine c_region ?_
              refine r_val .none rfl (p_lt rfl rfl) ?_
              refine r_nil ?_
              refine e_next ?_
              refine c_seq ?_
              refine c_splitd (d := 35) rfl (fun h_13 => ?_) (fun h_13 => ?_)
              · skip
                first
                  | (exfalso; omega)
                  | (
                    refine c_cond_t rfl ?_
                    refine c_skip ?_
                    refine e_next ?_
                    refine c_seq ?_
                    refine c_block ?_
                    refine c_seq ?_
                    refine c_region ?_
                    refine r_val .none rfl (p_move rfl) ?_
                    refine r_val .none rfl (p_assign rfl) ?_
                    refine r_nil ?_
                    refine e_next ?_
                    refine c_seq ?_
                    refine c_region ?_
                    refine r_val .none rfl (p_assign rfl) ?_
                    refine r_nil ?_
                    refine e_next ?_
                    refine c_seq ?_
                    refine c_seq ?_
                    refine c_region ?_
                    refine r_val .none rfl (p_ldw (k := 4) Try.underlying24 rfl sz24 rfl rfl (rfl : _ = Value.agg #[_, _, _, _, _, _])) ?_
                    refine r_val .none rfl (p_move rfl) ?_
                    refine r_nil ?_
                    refine e_next ?_
                    refine c_block ?_
                    refine c_name (d := 3) rfl (fun u_14 hu_14 => ?_)
                    refine c_name (d := 4) rfl (fun u_15 hu_15 => ?_)
                    refine c_name (d := 7) rfl (fun u_16 hu_16 => ?_)
                    refine c_name (d := 8) rfl (fun u_17 hu_17 => ?_)
                    refine c_name (d := 9) rfl (fun u_18 hu_18 => ?_)
                    refine c_name (d := 10) rfl (fun u_19 hu_19 => ?_)
                    refine c_name (d := 34) rfl (fun u_20 hu_20 => ?_)
                    refine c_name (d := 35) rfl (fun u_21 hu_21 => ?_)
                    refine c_name (d := 36) rfl (fun u_22 hu_22 => ?_)
                    refine c_name (d := 37) rfl (fun u_23 hu_23 => ?_)
                    refine c_nameL (k := 0) rfl (fun A_24 hA_24 => ?_)
                    refine c_nameL (k := 1) rfl (fun A_25 hA_25 => ?_)
                    refine c_nameL (k := 2) rfl (fun A_26 hA_26 => ?_)
                    refine c_nameL (k := 3) rfl (fun A_27 hA_27 => ?_)
                    refine c_nameL (k := 4) rfl (fun A_28 hA_28 => ?_)
                    refine c_loop (σ := Nat) (fun j => [(38, Value.int .i64 (j : Int)), (11, Value.bool (ownTo v0 n0 v1 n1 v2 n2 k j)), (3, u_14), (4, u_15), (7, u_16), (8, u_17), (9, u_18), (10, u_19), (34, u_20), (35, u_21), (36, u_22), (37, u_23)]) (fun j => [A_24, A_25, A_26, A_27, A_28]) (fun _ => _) (fun j => j ≤ 3) (fun j => 3 - j) (0) (by omega) rfl ⟨rfl, rfl, rfl, rfl, rfl, rfl, rfl, rfl, rfl, rfl, rfl, rfl, trivial⟩ (.keep (fun _ _ h => h) (.keep (fun _ _ h => h) (.keep (fun _ _ h => h) (.keep (fun _ _ h => h) (.keep (fun _ _ h => h) (.nil)))))) (fun j hphi => ?_)
                    subst hu_14
                    subst hu_15
                    subst hu_16
                    subst hu_17
                    subst hu_18
                    subst hu_19
                    subst hu_20
                    subst hu_21
                    subst hu_22
                    subst hu_23
                    subst hA_24
                    subst hA_25
                    subst hA_26
                    subst hA_27
                    subst hA_28
                    obtain rfl | rfl | rfl | rfl : j = 0 ∨ j = 1 ∨ j = 2 ∨ j = 3 := by omega
                    · skip
                      refine c_seq ?_
                      refine c_region ?_
                      refine r_val .none rfl (p_lt rfl rfl) ?_
                      refine r_say (d := 39) (v := Value.bool true) rfl ?_
                      refine r_nil ?_
                      refine e_next ?_
                      refine c_seq ?_
                      refine c_cond_t rfl ?_
                      refine c_skip ?_
                      refine e_next ?_
                      refine c_seq ?_
                      refine c_block ?_
                      refine c_seq ?_
                      refine c_region ?_
                      refine r_val .none rfl (p_indexa (k := 0) Try.underlying24 Try.underlying23 rfl sz23 rfl (IsRow.lit _) rfl rfl (by first | exact of_decide_eq_true rfl | omega) (rfl : _ = Value.agg #[_, _])) ?_
                      refine r_alloc .none rfl zr23 (IsRow.lit _) (fun b_6 => ?_)
                      refine r_stw (k := 0) .none sz23 rfl rfl (IsRow.lit _) (one_lit rfl rfl) rfl ?_
                      refine r_nil ?_
                      refine e_next ?_
                      refine c_region ?_
                      refine r_val .none rfl (p_move rfl) ?_
                      refine r_val .none rfl (p_move rfl) ?_
                      refine r_split (d := 42) rfl (fun h_29 => ?_) (fun h_29 => ?_)
                      · skip
                        first
                          | (exfalso; omega)
                          | (
                            refine r_skip rfl (.no rfl rfl) ?_
                            refine r_skip rfl (.no rfl rfl) ?_
                            refine r_skip rfl (.no rfl rfl) ?_
                            refine r_skip rfl (.un rfl rfl) ?_
                            refine r_skip rfl (.un rfl rfl) ?_
                            refine r_skip rfl (.un rfl rfl) ?_
                            refine r_skip rfl (.un rfl rfl) ?_
                            refine r_skip rfl (.no rfl rfl) ?_
                            refine r_val .none rfl (p_pick_t rfl rfl) ?_
                            refine r_val .none rfl (p_assign rfl) ?_
                            refine r_nil ?_
                            refine e_norm_block ?_
                            refine e_next ?_
                            refine c_region ?_
                            refine r_val .none rfl (p_add rfl rfl (by omega)) ?_
                            refine r_val .none rfl (p_move rfl) ?_
                            refine r_nil ?_
                            refine e_round (1) ⟨Nat.le_of_ble_eq_true rfl, Nat.le_of_ble_eq_true rfl⟩ rfl ⟨rfl, (congrArg (fun b => some (Value.bool b)) (by rw [ownTo_1]; simp_all [owns])), rfl, rfl, rfl, rfl, rfl, rfl, rfl, rfl, rfl, rfl, trivial⟩ (.drop (.keep (fun _ _ h => h) (.keep (fun _ _ h => h) (.keep (fun _ _ h => h) (.keep (fun _ _ h => h) (.keep (fun _ _ h => h) (.nil)))))))
                            )
                      · skip
                        first
                          | (exfalso; omega)
                          | (
                            refine r_val (.some rfl rfl) rfl (p_field Try.underlying23 rfl sz4 rfl) ?_
                            refine r_val (.some rfl rfl) rfl (p_ld (k := 0) Try.underlying4 rfl rfl rfl (by first | exact of_decide_eq_true rfl | omega) (rfl : _ = Value.bool _)) ?_
                            refine r_val (.some rfl rfl) rfl (p_move rfl) ?_
                            refine r_split (d := 45) rfl (fun h_30 => ?_) (fun h_30 => ?_)
                            · skip
                              first
                                | (exfalso; omega)
                                | (
                                  refine r_val (.some rfl rfl) rfl (p_field Try.underlying23 rfl sz3 rfl) ?_
                                  refine r_val (.some rfl rfl) rfl (p_ld (k := 0) Try.underlying3 rfl rfl rfl (by first | exact of_decide_eq_true rfl | omega) (rfl : _ = Value.int _ _)) ?_
                                  refine r_val (.some rfl rfl) rfl (p_move rfl) ?_
                                  refine r_val (.some rfl rfl) rfl (p_eq rfl rfl) ?_
                                  refine r_val (.some rfl rfl) rfl (p_pick_t rfl rfl) ?_
                                  refine r_val .none rfl (p_pick_f rfl rfl) ?_
                                  refine r_val .none rfl (p_assign rfl) ?_
                                  refine r_nil ?_
                                  refine e_norm_block ?_
                                  refine e_next ?_
                                  refine c_region ?_
                                  refine r_val .none rfl (p_add rfl rfl (by omega)) ?_
                                  refine r_val .none rfl (p_move rfl) ?_
                                  refine r_nil ?_
                                  refine e_round (1) ⟨Nat.le_of_ble_eq_true rfl, Nat.le_of_ble_eq_true rfl⟩ rfl ⟨rfl, (congrArg (fun b => some (Value.bool b)) (by rw [ownTo_1]; simp_all [owns])), rfl, rfl, rfl, rfl, rfl, rfl, rfl, rfl, rfl, rfl, trivial⟩ (.drop (.keep (fun _ _ h => h) (.keep (fun _ _ h => h) (.keep (fun _ _ h => h) (.keep (fun _ _ h => h) (.keep (fun _ _ h => h) (.nil)))))))
                                  )
                            · skip
                              first
                                | (exfalso; omega)
                                | (
                                  refine r_skip rfl (.no rfl rfl) ?_
                                  refine r_skip rfl (.no rfl rfl) ?_
                                  refine r_skip rfl (.no rfl rfl) ?_
                                  refine r_skip rfl (.no rfl rfl) ?_
                                  refine r_val (.some rfl rfl) rfl (p_pick_f rfl rfl) ?_
                                  refine r_val .none rfl (p_pick_f rfl rfl) ?_
                                  refine r_val .none rfl (p_assign rfl) ?_
                                  refine r_nil ?_
                                  refine e_norm_block ?_
                                  refine e_next ?_
                                  refine c_region ?_
                                  refine r_val .none rfl (p_add rfl rfl (by omega)) ?_
                                  refine r_val .none rfl (p_move rfl) ?_
                                  refine r_nil ?_
                                  refine e_round (1) ⟨Nat.le_of_ble_eq_true rfl, Nat.le_of_ble_eq_true rfl⟩ rfl ⟨rfl, (congrArg (fun b => some (Value.bool b)) (by rw [ownTo_1]; simp_all [owns])), rfl, rfl, rfl, rfl, rfl, rfl, rfl, rfl, rfl, rfl, trivial⟩ (.drop (.keep (fun _ _ h => h) (.keep (fun _ _ h => h) (.keep (fun _ _ h => h) (.keep (fun _ _ h => h) (.keep (fun _ _ h => h) (.nil)))))))
                                  )
                            )
                    · skip
                      refine c_seq ?_
                      refine c_region ?_
                      refine r_val .none rfl (p_lt rfl rfl) ?_
                      refine r_say (d := 39) (v := Value.bool true) rfl ?_
                      refine r_nil ?_
                      refine e_next ?_
                      refine c_seq ?_
                      refine c_cond_t rfl ?_
                      refine c_skip ?_
                      refine e_next ?_
                      refine c_seq ?_
                      refine c_block ?_
                      refine c_seq ?_
                      refine c_region ?_
                      refine r_val .none rfl (p_indexa (k := 1) Try.underlying24 Try.underlying23 rfl sz23 rfl (IsRow.lit _) rfl rfl (by first | exact of_decide_eq_true rfl | omega) (rfl : _ = Value.agg #[_, _])) ?_
                      refine r_alloc .none rfl zr23 (IsRow.lit _) (fun b_7 => ?_)
                      refine r_stw (k := 0) .none sz23 rfl rfl (IsRow.lit _) (one_lit rfl rfl) rfl ?_
                      refine r_nil ?_
                      refine e_next ?_
                      refine c_region ?_
                      refine r_val .none rfl (p_move rfl) ?_
                      refine r_val .none rfl (p_move rfl) ?_
                      refine r_split (d := 42) rfl (fun h_31 => ?_) (fun h_31 => ?_)
                      · skip
                        first
                          | (exfalso; omega)
                          | (
                            refine r_skip rfl (.no rfl rfl) ?_
                            refine r_skip rfl (.no rfl rfl) ?_
                            refine r_skip rfl (.no rfl rfl) ?_
                            refine r_skip rfl (.un rfl rfl) ?_
                            refine r_skip rfl (.un rfl rfl) ?_
                            refine r_skip rfl (.un rfl rfl) ?_
                            refine r_skip rfl (.un rfl rfl) ?_
                            refine r_skip rfl (.no rfl rfl) ?_
                            refine r_val .none rfl (p_pick_t rfl rfl) ?_
                            refine r_val .none rfl (p_assign rfl) ?_
                            refine r_nil ?_
                            refine e_norm_block ?_
                            refine e_next ?_
                            refine c_region ?_
                            refine r_val .none rfl (p_add rfl rfl (by omega)) ?_
                            refine r_val .none rfl (p_move rfl) ?_
                            refine r_nil ?_
                            refine e_round (2) ⟨Nat.le_of_ble_eq_true rfl, Nat.le_of_ble_eq_true rfl⟩ rfl ⟨rfl, (congrArg (fun b => some (Value.bool b)) (by rw [ownTo_2]; simp_all [owns])), rfl, rfl, rfl, rfl, rfl, rfl, rfl, rfl, rfl, rfl, trivial⟩ (.drop (.keep (fun _ _ h => h) (.keep (fun _ _ h => h) (.keep (fun _ _ h => h) (.keep (fun _ _ h => h) (.keep (fun _ _ h => h) (.nil)))))))
                            )
                      · skip
                        first
                          | (exfalso; omega)
                          | (
                            refine r_val (.some rfl rfl) rfl (p_field Try.underlying23 rfl sz4 rfl) ?_
                            refine r_val (.some rfl rfl) rfl (p_ld (k := 0) Try.underlying4 rfl rfl rfl (by first | exact of_decide_eq_true rfl | omega) (rfl : _ = Value.bool _)) ?_
                            refine r_val (.some rfl rfl) rfl (p_move rfl) ?_
                            refine r_split (d := 45) rfl (fun h_32 => ?_) (fun h_32 => ?_)
                            · skip
                              first
                                | (exfalso; omega)
                                | (
                                  refine r_val (.some rfl rfl) rfl (p_field Try.underlying23 rfl sz3 rfl) ?_
                                  refine r_val (.some rfl rfl) rfl (p_ld (k := 0) Try.underlying3 rfl rfl rfl (by first | exact of_decide_eq_true rfl | omega) (rfl : _ = Value.int _ _)) ?_
                                  refine r_val (.some rfl rfl) rfl (p_move rfl) ?_
                                  refine r_val (.some rfl rfl) rfl (p_eq rfl rfl) ?_
                                  refine r_val (.some rfl rfl) rfl (p_pick_t rfl rfl) ?_
                                  refine r_val .none rfl (p_pick_f rfl rfl) ?_
                                  refine r_val .none rfl (p_assign rfl) ?_
                                  refine r_nil ?_
                                  refine e_norm_block ?_
                                  refine e_next ?_
                                  refine c_region ?_
                                  refine r_val .none rfl (p_add rfl rfl (by omega)) ?_
                                  refine r_val .none rfl (p_move rfl) ?_
                                  refine r_nil ?_
                                  refine e_round (2) ⟨Nat.le_of_ble_eq_true rfl, Nat.le_of_ble_eq_true rfl⟩ rfl ⟨rfl, (congrArg (fun b => some (Value.bool b)) (by rw [ownTo_2]; simp_all [owns])), rfl, rfl, rfl, rfl, rfl, rfl, rfl, rfl, rfl, rfl, trivial⟩ (.drop (.keep (fun _ _ h => h) (.keep (fun _ _ h => h) (.keep (fun _ _ h => h) (.keep (fun _ _ h => h) (.keep (fun _ _ h => h) (.nil)))))))
                                  )
                            · skip
                              first
                                | (exfalso; omega)
                                | (
                                  refine r_skip rfl (.no rfl rfl) ?_
                                  refine r_skip rfl (.no rfl rfl) ?_
                                  refine r_skip rfl (.no rfl rfl) ?_
                                  refine r_skip rfl (.no rfl rfl) ?_
                                  refine r_val (.some rfl rfl) rfl (p_pick_f rfl rfl) ?_
                                  refine r_val .none rfl (p_pick_f rfl rfl) ?_
                                  refine r_val .none rfl (p_assign rfl) ?_
                                  refine r_nil ?_
                                  refine e_norm_block ?_
                                  refine e_next ?_
                                  refine c_region ?_
                                  refine r_val .none rfl (p_add rfl rfl (by omega)) ?_
                                  refine r_val .none rfl (p_move rfl) ?_
                                  refine r_nil ?_
                                  refine e_round (2) ⟨Nat.le_of_ble_eq_true rfl, Nat.le_of_ble_eq_true rfl⟩ rfl ⟨rfl, (congrArg (fun b => some (Value.bool b)) (by rw [ownTo_2]; simp_all [owns])), rfl, rfl, rfl, rfl, rfl, rfl, rfl, rfl, rfl, rfl, trivial⟩ (.drop (.keep (fun _ _ h => h) (.keep (fun _ _ h => h) (.keep (fun _ _ h => h) (.keep (fun _ _ h => h) (.keep (fun _ _ h => h) (.nil)))))))
                                  )
                            )
                    · skip
                      refine c_seq ?_
                      refine c_region ?_
                      refine r_val .none rfl (p_lt rfl rfl) ?_
                      refine r_say (d := 39) (v := Value.bool true) rfl ?_
                      refine r_nil ?_
                      refine e_next ?_
                      refine c_seq ?_
                      refine c_cond_t rfl ?_
                      refine c_skip ?_
                      refine e_next ?_
                      refine c_seq ?_
                      refine c_block ?_
                      refine c_seq ?_
                      refine c_region ?_
                      refine r_val .none rfl (p_indexa (k := 2) Try.underlying24 Try.underlying23 rfl sz23 rfl (IsRow.lit _) rfl rfl (by first | exact of_decide_eq_true rfl | omega) (rfl : _ = Value.agg #[_, _])) ?_
                      refine r_alloc .none rfl zr23 (IsRow.lit _) (fun b_8 => ?_)
                      refine r_stw (k := 0) .none sz23 rfl rfl (IsRow.lit _) (one_lit rfl rfl) rfl ?_
                      refine r_nil ?_
                      refine e_next ?_
                      refine c_region ?_
                      refine r_val .none rfl (p_move rfl) ?_
                      refine r_val .none rfl (p_move rfl) ?_
                      refine r_split (d := 42) rfl (fun h_33 => ?_) (fun h_33 => ?_)
                      · skip
                        first
                          | (exfalso; omega)
                          | (
                            refine r_skip rfl (.no rfl rfl) ?_
                            refine r_skip rfl (.no rfl rfl) ?_
                            refine r_skip rfl (.no rfl rfl) ?_
                            refine r_skip rfl (.un rfl rfl) ?_
                            refine r_skip rfl (.un rfl rfl) ?_
                            refine r_skip rfl (.un rfl rfl) ?_
                            refine r_skip rfl (.un rfl rfl) ?_
                            refine r_skip rfl (.no rfl rfl) ?_
                            refine r_val .none rfl (p_pick_t rfl rfl) ?_
                            refine r_val .none rfl (p_assign rfl) ?_
                            refine r_nil ?_
                            refine e_norm_block ?_
                            refine e_next ?_
                            refine c_region ?_
                            refine r_val .none rfl (p_add rfl rfl (by omega)) ?_
                            refine r_val .none rfl (p_move rfl) ?_
                            refine r_nil ?_
                            refine e_round (3) ⟨Nat.le_of_ble_eq_true rfl, Nat.le_of_ble_eq_true rfl⟩ rfl ⟨rfl, (congrArg (fun b => some (Value.bool b)) (by rw [ownTo_3]; simp_all [owns])), rfl, rfl, rfl, rfl, rfl, rfl, rfl, rfl, rfl, rfl, trivial⟩ (.drop (.keep (fun _ _ h => h) (.keep (fun _ _ h => h) (.keep (fun _ _ h => h) (.keep (fun _ _ h => h) (.keep (fun _ _ h => h) (.nil)))))))
                            )
                      · skip
                        first
                          | (exfalso; omega)
                          | (
                            refine r_val (.some rfl rfl) rfl (p_field Try.underlying23 rfl sz4 rfl) ?_
                            refine r_val (.some rfl rfl) rfl (p_ld (k := 0) Try.underlying4 rfl rfl rfl (by first | exact of_decide_eq_true rfl | omega) (rfl : _ = Value.bool _)) ?_
                            refine r_val (.some rfl rfl) rfl (p_move rfl) ?_
                            refine r_split (d := 45) rfl (fun h_34 => ?_) (fun h_34 => ?_)
                            · skip
                              first
                                | (exfalso; omega)
                                | (
                                  refine r_val (.some rfl rfl) rfl (p_field Try.underlying23 rfl sz3 rfl) ?_
                                  refine r_val (.some rfl rfl) rfl (p_ld (k := 0) Try.underlying3 rfl rfl rfl (by first | exact of_decide_eq_true rfl | omega) (rfl : _ = Value.int _ _)) ?_
                                  refine r_val (.some rfl rfl) rfl (p_move rfl) ?_
                                  refine r_val (.some rfl rfl) rfl (p_eq rfl rfl) ?_
                                  refine r_val (.some rfl rfl) rfl (p_pick_t rfl rfl) ?_
                                  refine r_val .none rfl (p_pick_f rfl rfl) ?_
                                  refine r_val .none rfl (p_assign rfl) ?_
                                  refine r_nil ?_
                                  refine e_norm_block ?_
                                  refine e_next ?_
                                  refine c_region ?_
                                  refine r_val .none rfl (p_add rfl rfl (by omega)) ?_
                                  refine r_val .none rfl (p_move rfl) ?_
                                  refine r_nil ?_
                                  refine e_round (3) ⟨Nat.le_of_ble_eq_true rfl, Nat.le_of_ble_eq_true rfl⟩ rfl ⟨rfl, (congrArg (fun b => some (Value.bool b)) (by rw [ownTo_3]; simp_all [owns])), rfl, rfl, rfl, rfl, rfl, rfl, rfl, rfl, rfl, rfl, trivial⟩ (.drop (.keep (fun _ _ h => h) (.keep (fun _ _ h => h) (.keep (fun _ _ h => h) (.keep (fun _ _ h => h) (.keep (fun _ _ h => h) (.nil)))))))
                                  )
                            · skip
                              first
                                | (exfalso; omega)
                                | (
                                  refine r_skip rfl (.no rfl rfl) ?_
                                  refine r_skip rfl (.no rfl rfl) ?_
                                  refine r_skip rfl (.no rfl rfl) ?_
                                  refine r_skip rfl (.no rfl rfl) ?_
                                  refine r_val (.some rfl rfl) rfl (p_pick_f rfl rfl) ?_
                                  refine r_val .none rfl (p_pick_f rfl rfl) ?_
                                  refine r_val .none rfl (p_assign rfl) ?_
                                  refine r_nil ?_
                                  refine e_norm_block ?_
                                  refine e_next ?_
                                  refine c_region ?_
                                  refine r_val .none rfl (p_add rfl rfl (by omega)) ?_
                                  refine r_val .none rfl (p_move rfl) ?_
                                  refine r_nil ?_
                                  refine e_round (3) ⟨Nat.le_of_ble_eq_true rfl, Nat.le_of_ble_eq_true rfl⟩ rfl ⟨rfl, (congrArg (fun b => some (Value.bool b)) (by rw [ownTo_3]; simp_all [owns])), rfl, rfl, rfl, rfl, rfl, rfl, rfl, rfl, rfl, rfl, trivial⟩ (.drop (.keep (fun _ _ h => h) (.keep (fun _ _ h => h) (.keep (fun _ _ h => h) (.keep (fun _ _ h => h) (.keep (fun _ _ h => h) (.nil)))))))
                                  )
                            )
                    · skip
                      refine c_seq ?_
                      refine c_region ?_
                      refine r_val .none rfl (p_lt rfl rfl) ?_
                      refine r_say (d := 39) (v := Value.bool false) rfl ?_
                      refine r_nil ?_
                      refine e_next ?_
                      refine c_seq ?_
                      refine c_cond_f rfl ?_
                      refine c_exit ?_
                      refine e_exit_then ?_
                      refine e_exit_then ?_
                      refine e_exit_block ?_
                      refine e_next ?_
                      refine c_seq ?_
                      refine c_region_q mixed (by kernel_rfl) ?_
                      refine q_val .none rfl (p_move rfl) ?_
                      refine q_val .none rfl (p_iaddr1 Try.underlying28 sz3 rfl rfl (by first | exact of_decide_eq_true rfl | omega)) ?_
                      refine q_val .none rfl (p_ld (k := 1) Try.underlying3 rfl rfl rfl (by first | exact of_decide_eq_true rfl | omega) (rfl : _ = Value.int _ _)) ?_
                      refine q_val .none rfl (p_ne rfl rfl) ?_
                      refine q_val .none rfl (p_move rfl) ?_
                      refine q_splitd (d := 57) rfl (fun h_35 => ?_) (fun h_35 => ?_)
                      · skip
                        first
                          | (exfalso; omega)
                          | (
                            refine q_val (.some rfl rfl) rfl (p_move rfl) ?_
                            refine q_val (.some rfl rfl) rfl (p_iaddr1 Try.underlying28 sz3 rfl rfl (by first | exact of_decide_eq_true rfl | omega)) ?_
                            refine q_val (.some rfl rfl) rfl (p_ld (k := 0) Try.underlying3 rfl rfl rfl (by first | exact of_decide_eq_true rfl | omega) (rfl : _ = Value.int _ _)) ?_
                            refine q_val (.some rfl rfl) rfl (p_move rfl) ?_
                            refine q_val (.some rfl rfl) rfl (p_iaddr1 Try.underlying28 sz3 rfl rfl (by first | exact of_decide_eq_true rfl | omega)) ?_
                            refine q_val (.some rfl rfl) rfl (p_ld (k := 1) Try.underlying3 rfl rfl rfl (by first | exact of_decide_eq_true rfl | omega) (rfl : _ = Value.int _ _)) ?_
                            refine q_val (.some rfl rfl) rfl (p_ne rfl rfl) ?_
                            refine q_val .none rfl (p_pick_t rfl rfl) ?_
                            refine q_val .none rfl (p_move rfl) ?_
                            refine q_splitd (d := 66) rfl (fun h_36 => ?_) (fun h_36 => ?_)
                            · skip
                              first
                                | (exfalso; omega)
                                | (
                                  refine q_skip rfl (.no rfl rfl) ?_
                                  refine q_skip rfl (.no rfl rfl) ?_
                                  refine q_skip rfl (.no rfl rfl) ?_
                                  refine q_skip rfl (.no rfl rfl) ?_
                                  refine q_skip rfl (.no rfl rfl) ?_
                                  refine q_skip rfl (.no rfl rfl) ?_
                                  refine q_skip rfl (.no rfl rfl) ?_
                                  refine q_skip rfl (.no rfl rfl) ?_
                                  refine q_skip rfl (.un rfl rfl) ?_
                                  refine q_skip rfl (.un rfl rfl) ?_
                                  refine q_skip rfl (.no rfl rfl) ?_
                                  refine q_val .none rfl (p_pick_t rfl rfl) ?_
                                  refine q_val .none rfl (p_move rfl) ?_
                                  refine q_skip rfl (.no rfl rfl) ?_
                                  refine q_skip rfl (.no rfl rfl) ?_
                                  refine q_skip rfl (.un rfl rfl) ?_
                                  refine q_skip rfl (.no rfl rfl) ?_
                                  refine q_skip rfl (.no rfl rfl) ?_
                                  refine q_skip rfl (.un rfl rfl) ?_
                                  refine q_skip rfl (.un rfl rfl) ?_
                                  refine q_skip rfl (.un rfl rfl) ?_
                                  refine q_skip rfl (.un rfl rfl) ?_
                                  refine q_skip rfl (.no rfl rfl) ?_
                                  refine q_val .none rfl (p_pick_t rfl rfl) ?_
                                  refine q_nil ?_
                                  refine e_next ?_
                                  refine c_cond_t rfl ?_
                                  refine c_seq ?_
                                  refine c_region ?_
                                  refine r_val .none rfl (p_assign rfl) ?_
                                  refine r_nil ?_
                                  refine e_next ?_
                                  refine c_ret ?_
                                  refine e_ret_block ?_
                                  refine e_ret_then ?_
                                  refine e_ret_then ?_
                                  refine e_ret_block ?_
                                  refine e_ret_then ?_
                                  refine e_ret1 Try.results3 (.tmp rfl .nil) (fun w hm => ⟨?_, hm.since⟩)
                                  first
                                  | rfl
                                  | (exfalso; have hk := keeps_of (by assumption) (by assumption) (heldB B) k; simp_all; done)
                                  | (exfalso; have hk := again_of (by assumption) (by assumption) (heldB B) (by assumption); simp_all; done)
                                  )
                            · skip
                              first
                                | (exfalso; omega)
                                | (
                                  refine q_val (.some rfl rfl) rfl (p_move rfl) ?_
                                  refine q_val (.some rfl rfl) rfl (p_iaddr1 Try.underlying28 sz3 rfl rfl (by first | exact of_decide_eq_true rfl | omega)) ?_
                                  refine q_val (.some rfl rfl) rfl (p_ld (k := 0) Try.underlying3 rfl rfl rfl (by first | exact of_decide_eq_true rfl | omega) (rfl : _ = Value.int _ _)) ?_
                                  refine q_val (.some rfl rfl) rfl (p_move rfl) ?_
                                  refine q_val (.some rfl rfl) rfl (p_iaddr1 Try.underlying28 sz3 rfl rfl (by first | exact of_decide_eq_true rfl | omega)) ?_
                                  refine q_val (.some rfl rfl) rfl (p_ld (k := 1) Try.underlying3 rfl rfl rfl (by first | exact of_decide_eq_true rfl | omega) (rfl : _ = Value.int _ _)) ?_
                                  refine q_val (.some rfl rfl) rfl (p_ne rfl rfl) ?_
                                  refine q_val (.some rfl rfl) rfl (p_move rfl) ?_
                                  refine q_splitd (d := 74) rfl (fun h_37 => ?_) (fun h_37 => ?_)
                                  · skip
                                    first
                                      | (exfalso; omega)
                                      | (
                                        refine q_val (.some rfl rfl) rfl (p_move rfl) ?_
                                        refine q_val (.some rfl rfl) rfl (p_not rfl) ?_
                                        refine q_val (.some rfl rfl) rfl (p_pick_t rfl rfl) ?_
                                        refine q_val .none rfl (p_pick_f rfl rfl) ?_
                                        refine q_val .none rfl (p_move rfl) ?_
                                        refine q_splitn (d := 79) rfl (fun h_38 => ?_) (fun h_38 => ?_)
                                        · skip
                                          first
                                            | (exfalso; omega)
                                            | (
                                              refine q_skip rfl (.no rfl rfl) ?_
                                              refine q_skip rfl (.no rfl rfl) ?_
                                              refine q_skip rfl (.un rfl rfl) ?_
                                              refine q_skip rfl (.no rfl rfl) ?_
                                              refine q_skip rfl (.no rfl rfl) ?_
                                              refine q_skip rfl (.un rfl rfl) ?_
                                              refine q_skip rfl (.un rfl rfl) ?_
                                              refine q_skip rfl (.un rfl rfl) ?_
                                              refine q_skip rfl (.un rfl rfl) ?_
                                              refine q_skip rfl (.no rfl rfl) ?_
                                              refine q_val .none rfl (p_pick_t rfl rfl) ?_
                                              refine q_nil ?_
                                              refine e_next ?_
                                              refine c_cond_t rfl ?_
                                              refine c_seq ?_
                                              refine c_region ?_
                                              refine r_val .none rfl (p_assign rfl) ?_
                                              refine r_nil ?_
                                              refine e_next ?_
                                              refine c_ret ?_
                                              refine e_ret_block ?_
                                              refine e_ret_then ?_
                                              refine e_ret_then ?_
                                              refine e_ret_block ?_
                                              refine e_ret_then ?_
                                              refine e_ret1 Try.results3 (.tmp rfl .nil) (fun w hm => ⟨?_, hm.since⟩)
                                              first
                                              | rfl
                                              | (exfalso; have hk := keeps_of (by assumption) (by assumption) (heldB B) k; simp_all; done)
                                              | (exfalso; have hk := again_of (by assumption) (by assumption) (heldB B) (by assumption); simp_all; done)
                                              )
                                        · skip
                                          first
                                            | (exfalso; omega)
                                            | (
                                              refine q_val (.some rfl rfl) rfl (p_move rfl) ?_
                                              refine q_val (.some rfl rfl) rfl (p_move rfl) ?_
                                              refine q_split (d := 81) rfl (fun h_39 => ?_) (fun h_39 => ?_)
                                              · skip
                                                first
                                                  | (exfalso; omega)
                                                  | (
                                                    refine q_val (.some rfl rfl) rfl (p_move rfl) ?_
                                                    refine q_val (.some rfl rfl) rfl (p_pick_t rfl rfl) ?_
                                                    refine q_val (.some rfl rfl) rfl (p_move rfl) ?_
                                                    refine q_split (d := 84) rfl (fun h_40 => ?_) (fun h_40 => ?_)
                                                    · skip
                                                      first
                                                        | (exfalso; omega)
                                                        | (
                                                          refine q_val (.some rfl rfl) rfl (p_move rfl) ?_
                                                          refine q_val (.some rfl rfl) rfl (p_iaddr1 Try.underlying28 sz3 rfl rfl (by first | exact of_decide_eq_true rfl | omega)) ?_
                                                          refine q_val (.some rfl rfl) rfl (p_ld (k := 0) Try.underlying3 rfl rfl rfl (by first | exact of_decide_eq_true rfl | omega) (rfl : _ = Value.int _ _)) ?_
                                                          refine q_val (.some rfl rfl) rfl (p_eq rfl rfl) ?_
                                                          refine q_val (.some rfl rfl) rfl (p_pick_t rfl rfl) ?_
                                                          refine q_val .none rfl (p_pick_f rfl rfl) ?_
                                                          refine q_nil ?_
                                                          refine e_next ?_
                                                          refine c_splitd (d := 90) rfl (fun h_41 => ?_) (fun h_41 => ?_)
                                                          · skip
                                                            first
                                                              | (exfalso; omega)
                                                              | (
                                                                refine c_cond_t rfl ?_
                                                                refine c_seq ?_
                                                                refine c_region ?_
                                                                refine r_val .none rfl (p_assign rfl) ?_
                                                                refine r_nil ?_
                                                                refine e_next ?_
                                                                refine c_ret ?_
                                                                refine e_ret_block ?_
                                                                refine e_ret_then ?_
                                                                refine e_ret_then ?_
                                                                refine e_ret_block ?_
                                                                refine e_ret_then ?_
                                                                refine e_ret1 Try.results3 (.tmp rfl .nil) (fun w hm => ⟨?_, hm.since⟩)
                                                                first
                                                                | rfl
                                                                | (exfalso; have hk := keeps_of (by assumption) (by assumption) (heldB B) k; simp_all; done)
                                                                | (exfalso; have hk := again_of (by assumption) (by assumption) (heldB B) (by assumption); simp_all; done)
                                                                )
                                                          · skip
                                                            first
                                                              | (exfalso; omega)
                                                              | (
                                                                refine c_cond_f rfl ?_
                                                                refine c_skip ?_
                                                                refine e_norm_block ?_
                                                                refine e_next ?_
                                                                refine c_region ?_
                                                                refine r_val .none rfl (p_add rfl rfl (by omega)) ?_
                                                                refine r_val .none rfl (p_move rfl) ?_
                                                                refine r_nil ?_
                                                                refine e_round (k + 1) ⟨by omega, by omega⟩ rfl ⟨rfl, rfl, rfl, rfl, rfl, rfl, trivial⟩ (.keep (fun _ _ h => h) (.keep (fun _ _ h => h) (.keep (fun _ _ h => h) (.keep (fun _ _ h => h) (.keep (fun _ _ h => h) (.nil))))))
                                                                )
                                                          )
                                                    · skip
                                                      first
                                                        | (exfalso; omega)
                                                        | (
                                                          refine q_skip rfl (.no rfl rfl) ?_
                                                          refine q_skip rfl (.no rfl rfl) ?_
                                                          refine q_skip rfl (.no rfl rfl) ?_
                                                          refine q_skip rfl (.no rfl rfl) ?_
                                                          refine q_val (.some rfl rfl) rfl (p_pick_f rfl rfl) ?_
                                                          refine q_val .none rfl (p_pick_f rfl rfl) ?_
                                                          refine q_nil ?_
                                                          refine e_next ?_
                                                          refine c_cond_f rfl ?_
                                                          refine c_skip ?_
                                                          refine e_norm_block ?_
                                                          refine e_next ?_
                                                          refine c_region ?_
                                                          refine r_val .none rfl (p_add rfl rfl (by omega)) ?_
                                                          refine r_val .none rfl (p_move rfl) ?_
                                                          refine r_nil ?_
                                                          refine e_round (k + 1) ⟨by omega, by omega⟩ rfl ⟨rfl, rfl, rfl, rfl, rfl, rfl, trivial⟩ (.keep (fun _ _ h => h) (.keep (fun _ _ h => h) (.keep (fun _ _ h => h) (.keep (fun _ _ h => h) (.keep (fun _ _ h => h) (.nil))))))
                                                          )
                                                    )
                                              · skip
                                                first
                                                  | (exfalso; omega)
                                                  | (
                                                    refine q_skip rfl (.no rfl rfl) ?_
                                                    refine q_val (.some rfl rfl) rfl (p_pick_f rfl rfl) ?_
                                                    refine q_val (.some rfl rfl) rfl (p_move rfl) ?_
                                                    refine q_skip rfl (.no rfl rfl) ?_
                                                    refine q_skip rfl (.no rfl rfl) ?_
                                                    refine q_skip rfl (.no rfl rfl) ?_
                                                    refine q_skip rfl (.no rfl rfl) ?_
                                                    refine q_val (.some rfl rfl) rfl (p_pick_f rfl rfl) ?_
                                                    refine q_val .none rfl (p_pick_f rfl rfl) ?_
                                                    refine q_nil ?_
                                                    refine e_next ?_
                                                    refine c_cond_f rfl ?_
                                                    refine c_skip ?_
                                                    refine e_norm_block ?_
                                                    refine e_next ?_
                                                    refine c_region ?_
                                                    refine r_val .none rfl (p_add rfl rfl (by omega)) ?_
                                                    refine r_val .none rfl (p_move rfl) ?_
                                                    refine r_nil ?_
                                                    refine e_round (k + 1) ⟨by omega, by omega⟩ rfl ⟨rfl, rfl, rfl, rfl, rfl, rfl, trivial⟩ (.keep (fun _ _ h => h) (.keep (fun _ _ h => h) (.keep (fun _ _ h => h) (.keep (fun _ _ h => h) (.keep (fun _ _ h => h) (.nil))))))
                                                    )
                                              )
                                        )
                                  · skip
                                    first
                                      | (exfalso; omega)
                                      | (
                                        refine q_skip rfl (.no rfl rfl) ?_
                                        refine q_skip rfl (.no rfl rfl) ?_
                                        refine q_val (.some rfl rfl) rfl (p_pick_f rfl rfl) ?_
                                        refine q_val .none rfl (p_pick_f rfl rfl) ?_
                                        refine q_val .none rfl (p_move rfl) ?_
                                        refine q_val (.some rfl rfl) rfl (p_move rfl) ?_
                                        refine q_val (.some rfl rfl) rfl (p_move rfl) ?_
                                        refine q_split (d := 81) rfl (fun h_42 => ?_) (fun h_42 => ?_)
                                        · skip
                                          first
                                            | (exfalso; omega)
                                            | (
                                              refine q_val (.some rfl rfl) rfl (p_move rfl) ?_
                                              refine q_val (.some rfl rfl) rfl (p_pick_t rfl rfl) ?_
                                              refine q_val (.some rfl rfl) rfl (p_move rfl) ?_
                                              refine q_split (d := 84) rfl (fun h_43 => ?_) (fun h_43 => ?_)
                                              · skip
                                                first
                                                  | (exfalso; omega)
                                                  | (
                                                    refine q_val (.some rfl rfl) rfl (p_move rfl) ?_
                                                    refine q_val (.some rfl rfl) rfl (p_iaddr1 Try.underlying28 sz3 rfl rfl (by first | exact of_decide_eq_true rfl | omega)) ?_
                                                    refine q_val (.some rfl rfl) rfl (p_ld (k := 0) Try.underlying3 rfl rfl rfl (by first | exact of_decide_eq_true rfl | omega) (rfl : _ = Value.int _ _)) ?_
                                                    refine q_val (.some rfl rfl) rfl (p_eq rfl rfl) ?_
                                                    refine q_val (.some rfl rfl) rfl (p_pick_t rfl rfl) ?_
                                                    refine q_val .none rfl (p_pick_f rfl rfl) ?_
                                                    refine q_nil ?_
                                                    refine e_next ?_
                                                    refine c_splitd (d := 90) rfl (fun h_44 => ?_) (fun h_44 => ?_)
                                                    · skip
                                                      first
                                                        | (exfalso; omega)
                                                        | (
                                                          refine c_cond_t rfl ?_
                                                          refine c_seq ?_
                                                          refine c_region ?_
                                                          refine r_val .none rfl (p_assign rfl) ?_
                                                          refine r_nil ?_
                                                          refine e_next ?_
                                                          refine c_ret ?_
                                                          refine e_ret_block ?_
                                                          refine e_ret_then ?_
                                                          refine e_ret_then ?_
                                                          refine e_ret_block ?_
                                                          refine e_ret_then ?_
                                                          refine e_ret1 Try.results3 (.tmp rfl .nil) (fun w hm => ⟨?_, hm.since⟩)
                                                          first
                                                          | rfl
                                                          | (exfalso; have hk := keeps_of (by assumption) (by assumption) (heldB B) k; simp_all; done)
                                                          | (exfalso; have hk := again_of (by assumption) (by assumption) (heldB B) (by assumption); simp_all; done)
                                                          )
                                                    · skip
                                                      first
                                                        | (exfalso; omega)
                                                        | (
                                                          refine c_cond_f rfl ?_
                                                          refine c_skip ?_
                                                          refine e_norm_block ?_
                                                          refine e_next ?_
                                                          refine c_region ?_
                                                          refine r_val .none rfl (p_add rfl rfl (by omega)) ?_
                                                          refine r_val .none rfl (p_move rfl) ?_
                                                          refine r_nil ?_
                                                          refine e_round (k + 1) ⟨by omega, by omega⟩ rfl ⟨rfl, rfl, rfl, rfl, rfl, rfl, trivial⟩ (.keep (fun _ _ h => h) (.keep (fun _ _ h => h) (.keep (fun _ _ h => h) (.keep (fun _ _ h => h) (.keep (fun _ _ h => h) (.nil))))))
                                                          )
                                                    )
                                              · skip
                                                first
                                                  | (exfalso; omega)
                                                  | (
                                                    refine q_skip rfl (.no rfl rfl) ?_
                                                    refine q_skip rfl (.no rfl rfl) ?_
                                                    refine q_skip rfl (.no rfl rfl) ?_
                                                    refine q_skip rfl (.no rfl rfl) ?_
                                                    refine q_val (.some rfl rfl) rfl (p_pick_f rfl rfl) ?_
                                                    refine q_val .none rfl (p_pick_f rfl rfl) ?_
                                                    refine q_nil ?_
                                                    refine e_next ?_
                                                    refine c_cond_f rfl ?_
                                                    refine c_skip ?_
                                                    refine e_norm_block ?_
                                                    refine e_next ?_
                                                    refine c_region ?_
                                                    refine r_val .none rfl (p_add rfl rfl (by omega)) ?_
                                                    refine r_val .none rfl (p_move rfl) ?_
                                                    refine r_nil ?_
                                                    refine e_round (k + 1) ⟨by omega, by omega⟩ rfl ⟨rfl, rfl, rfl, rfl, rfl, rfl, trivial⟩ (.keep (fun _ _ h => h) (.keep (fun _ _ h => h) (.keep (fun _ _ h => h) (.keep (fun _ _ h => h) (.keep (fun _ _ h => h) (.nil))))))
                                                    )
                                              )
                                        · skip
                                          first
                                            | (exfalso; omega)
                                            | (
                                              refine q_skip rfl (.no rfl rfl) ?_
                                              refine q_val (.some rfl rfl) rfl (p_pick_f rfl rfl) ?_
                                              refine q_val (.some rfl rfl) rfl (p_move rfl) ?_
                                              refine q_skip rfl (.no rfl rfl) ?_
                                              refine q_skip rfl (.no rfl rfl) ?_
                                              refine q_skip rfl (.no rfl rfl) ?_
                                              refine q_skip rfl (.no rfl rfl) ?_
                                              refine q_val (.some rfl rfl) rfl (p_pick_f rfl rfl) ?_
                                              refine q_val .none rfl (p_pick_f rfl rfl) ?_
                                              refine q_nil ?_
                                              refine e_next ?_
                                              refine c_cond_f rfl ?_
                                              refine c_skip ?_
                                              refine e_norm_block ?_
                                              refine e_next ?_
                                              refine c_region ?_
                                              refine r_val .none rfl (p_add rfl rfl (by omega)) ?_
                                              refine r_val .none rfl (p_move rfl) ?_
                                              refine r_nil ?_
                                              refine e_round (k + 1) ⟨by omega, by omega⟩ rfl ⟨rfl, rfl, rfl, rfl, rfl, rfl, trivial⟩ (.keep (fun _ _ h => h) (.keep (fun _ _ h => h) (.keep (fun _ _ h => h) (.keep (fun _ _ h => h) (.keep (fun _ _ h => h) (.nil))))))
                                              )
                                        )
                                  )
                            )
                      · skip
                        first
                          | (exfalso; omega)
                          | (
                            refine q_skip rfl (.no rfl rfl) ?_
                            refine q_skip rfl (.no rfl rfl) ?_
                            refine q_skip rfl (.no rfl rfl) ?_
                            refine q_skip rfl (.no rfl rfl) ?_
                            refine q_skip rfl (.no rfl rfl) ?_
                            refine q_skip rfl (.no rfl rfl) ?_
                            refine q_skip rfl (.no rfl rfl) ?_
                            refine q_val .none rfl (p_pick_f rfl rfl) ?_
                            refine q_val .none rfl (p_move rfl) ?_
                            refine q_val (.some rfl rfl) rfl (p_move rfl) ?_
                            refine q_val (.some rfl rfl) rfl (p_iaddr1 Try.underlying28 sz3 rfl rfl (by first | exact of_decide_eq_true rfl | omega)) ?_
                            refine q_val (.some rfl rfl) rfl (p_ld (k := 0) Try.underlying3 rfl rfl rfl (by first | exact of_decide_eq_true rfl | omega) (rfl : _ = Value.int _ _)) ?_
                            refine q_val (.some rfl rfl) rfl (p_move rfl) ?_
                            refine q_val (.some rfl rfl) rfl (p_iaddr1 Try.underlying28 sz3 rfl rfl (by first | exact of_decide_eq_true rfl | omega)) ?_
                            refine q_val (.some rfl rfl) rfl (p_ld (k := 1) Try.underlying3 rfl rfl rfl (by first | exact of_decide_eq_true rfl | omega) (rfl : _ = Value.int _ _)) ?_
                            refine q_val (.some rfl rfl) rfl (p_ne rfl rfl) ?_
                            refine q_val (.some rfl rfl) rfl (p_move rfl) ?_
                            refine q_splitd (d := 74) rfl (fun h_45 => ?_) (fun h_45 => ?_)
                            · skip
                              first
                                | (exfalso; omega)
                                | (
                                  refine q_val (.some rfl rfl) rfl (p_move rfl) ?_
                                  refine q_val (.some rfl rfl) rfl (p_not rfl) ?_
                                  refine q_val (.some rfl rfl) rfl (p_pick_t rfl rfl) ?_
                                  refine q_val .none rfl (p_pick_f rfl rfl) ?_
                                  refine q_val .none rfl (p_move rfl) ?_
                                  refine q_splitn (d := 79) rfl (fun h_46 => ?_) (fun h_46 => ?_)
                                  · skip
                                    first
                                      | (exfalso; omega)
                                      | (
                                        refine q_skip rfl (.no rfl rfl) ?_
                                        refine q_skip rfl (.no rfl rfl) ?_
                                        refine q_skip rfl (.un rfl rfl) ?_
                                        refine q_skip rfl (.no rfl rfl) ?_
                                        refine q_skip rfl (.no rfl rfl) ?_
                                        refine q_skip rfl (.un rfl rfl) ?_
                                        refine q_skip rfl (.un rfl rfl) ?_
                                        refine q_skip rfl (.un rfl rfl) ?_
                                        refine q_skip rfl (.un rfl rfl) ?_
                                        refine q_skip rfl (.no rfl rfl) ?_
                                        refine q_val .none rfl (p_pick_t rfl rfl) ?_
                                        refine q_nil ?_
                                        refine e_next ?_
                                        refine c_cond_t rfl ?_
                                        refine c_seq ?_
                                        refine c_region ?_
                                        refine r_val .none rfl (p_assign rfl) ?_
                                        refine r_nil ?_
                                        refine e_next ?_
                                        refine c_ret ?_
                                        refine e_ret_block ?_
                                        refine e_ret_then ?_
                                        refine e_ret_then ?_
                                        refine e_ret_block ?_
                                        refine e_ret_then ?_
                                        refine e_ret1 Try.results3 (.tmp rfl .nil) (fun w hm => ⟨?_, hm.since⟩)
                                        first
                                        | rfl
                                        | (exfalso; have hk := keeps_of (by assumption) (by assumption) (heldB B) k; simp_all; done)
                                        | (exfalso; have hk := again_of (by assumption) (by assumption) (heldB B) (by assumption); simp_all; done)
                                        )
                                  · skip
                                    first
                                      | (exfalso; omega)
                                      | (
                                        refine q_val (.some rfl rfl) rfl (p_move rfl) ?_
                                        refine q_val (.some rfl rfl) rfl (p_move rfl) ?_
                                        refine q_split (d := 81) rfl (fun h_47 => ?_) (fun h_47 => ?_)
                                        · skip
                                          first
                                            | (exfalso; omega)
                                            | (
                                              refine q_val (.some rfl rfl) rfl (p_move rfl) ?_
                                              refine q_val (.some rfl rfl) rfl (p_pick_t rfl rfl) ?_
                                              refine q_val (.some rfl rfl) rfl (p_move rfl) ?_
                                              refine q_split (d := 84) rfl (fun h_48 => ?_) (fun h_48 => ?_)
                                              · skip
                                                first
                                                  | (exfalso; omega)
                                                  | (
                                                    refine q_val (.some rfl rfl) rfl (p_move rfl) ?_
                                                    refine q_val (.some rfl rfl) rfl (p_iaddr1 Try.underlying28 sz3 rfl rfl (by first | exact of_decide_eq_true rfl | omega)) ?_
                                                    refine q_val (.some rfl rfl) rfl (p_ld (k := 0) Try.underlying3 rfl rfl rfl (by first | exact of_decide_eq_true rfl | omega) (rfl : _ = Value.int _ _)) ?_
                                                    refine q_val (.some rfl rfl) rfl (p_eq rfl rfl) ?_
                                                    refine q_val (.some rfl rfl) rfl (p_pick_t rfl rfl) ?_
                                                    refine q_val .none rfl (p_pick_f rfl rfl) ?_
                                                    refine q_nil ?_
                                                    refine e_next ?_
                                                    refine c_splitd (d := 90) rfl (fun h_49 => ?_) (fun h_49 => ?_)
                                                    · skip
                                                      first
                                                        | (exfalso; omega)
                                                        | (
                                                          refine c_cond_t rfl ?_
                                                          refine c_seq ?_
                                                          refine c_region ?_
                                                          refine r_val .none rfl (p_assign rfl) ?_
                                                          refine r_nil ?_
                                                          refine e_next ?_
                                                          refine c_ret ?_
                                                          refine e_ret_block ?_
                                                          refine e_ret_then ?_
                                                          refine e_ret_then ?_
                                                          refine e_ret_block ?_
                                                          refine e_ret_then ?_
                                                          refine e_ret1 Try.results3 (.tmp rfl .nil) (fun w hm => ⟨?_, hm.since⟩)
                                                          first
                                                          | rfl
                                                          | (exfalso; have hk := keeps_of (by assumption) (by assumption) (heldB B) k; simp_all; done)
                                                          | (exfalso; have hk := again_of (by assumption) (by assumption) (heldB B) (by assumption); simp_all; done)
                                                          )
                                                    · skip
                                                      first
                                                        | (exfalso; omega)
                                                        | (
                                                          refine c_cond_f rfl ?_
                                                          refine c_skip ?_
                                                          refine e_norm_block ?_
                                                          refine e_next ?_
                                                          refine c_region ?_
                                                          refine r_val .none rfl (p_add rfl rfl (by omega)) ?_
                                                          refine r_val .none rfl (p_move rfl) ?_
                                                          refine r_nil ?_
                                                          refine e_round (k + 1) ⟨by omega, by omega⟩ rfl ⟨rfl, rfl, rfl, rfl, rfl, rfl, trivial⟩ (.keep (fun _ _ h => h) (.keep (fun _ _ h => h) (.keep (fun _ _ h => h) (.keep (fun _ _ h => h) (.keep (fun _ _ h => h) (.nil))))))
                                                          )
                                                    )
                                              · skip
                                                first
                                                  | (exfalso; omega)
                                                  | (
                                                    refine q_skip rfl (.no rfl rfl) ?_
                                                    refine q_skip rfl (.no rfl rfl) ?_
                                                    refine q_skip rfl (.no rfl rfl) ?_
                                                    refine q_skip rfl (.no rfl rfl) ?_
                                                    refine q_val (.some rfl rfl) rfl (p_pick_f rfl rfl) ?_
                                                    refine q_val .none rfl (p_pick_f rfl rfl) ?_
                                                    refine q_nil ?_
                                                    refine e_next ?_
                                                    refine c_cond_f rfl ?_
                                                    refine c_skip ?_
                                                    refine e_norm_block ?_
                                                    refine e_next ?_
                                                    refine c_region ?_
                                                    refine r_val .none rfl (p_add rfl rfl (by omega)) ?_
                                                    refine r_val .none rfl (p_move rfl) ?_
                                                    refine r_nil ?_
                                                    refine e_round (k + 1) ⟨by omega, by omega⟩ rfl ⟨rfl, rfl, rfl, rfl, rfl, rfl, trivial⟩ (.keep (fun _ _ h => h) (.keep (fun _ _ h => h) (.keep (fun _ _ h => h) (.keep (fun _ _ h => h) (.keep (fun _ _ h => h) (.nil))))))
                                                    )
                                              )
                                        · skip
                                          first
                                            | (exfalso; omega)
                                            | (
                                              refine q_skip rfl (.no rfl rfl) ?_
                                              refine q_val (.some rfl rfl) rfl (p_pick_f rfl rfl) ?_
                                              refine q_val (.some rfl rfl) rfl (p_move rfl) ?_
                                              refine q_skip rfl (.no rfl rfl) ?_
                                              refine q_skip rfl (.no rfl rfl) ?_
                                              refine q_skip rfl (.no rfl rfl) ?_
                                              refine q_skip rfl (.no rfl rfl) ?_
                                              refine q_val (.some rfl rfl) rfl (p_pick_f rfl rfl) ?_
                                              refine q_val .none rfl (p_pick_f rfl rfl) ?_
                                              refine q_nil ?_
                                              refine e_next ?_
                                              refine c_cond_f rfl ?_
                                              refine c_skip ?_
                                              refine e_norm_block ?_
                                              refine e_next ?_
                                              refine c_region ?_
                                              refine r_val .none rfl (p_add rfl rfl (by omega)) ?_
                                              refine r_val .none rfl (p_move rfl) ?_
                                              refine r_nil ?_
                                              refine e_round (k + 1) ⟨by omega, by omega⟩ rfl ⟨rfl, rfl, rfl, rfl, rfl, rfl, trivial⟩ (.keep (fun _ _ h => h) (.keep (fun _ _ h => h) (.keep (fun _ _ h => h) (.keep (fun _ _ h => h) (.keep (fun _ _ h => h) (.nil))))))
                                              )
                                        )
                                  )
                            · skip
                              first
                                | (exfalso; omega)
                                | (
                                  refine q_skip rfl (.no rfl rfl) ?_
                                  refine q_skip rfl (.no rfl rfl) ?_
                                  refine q_val (.some rfl rfl) rfl (p_pick_f rfl rfl) ?_
                                  refine q_val .none rfl (p_pick_f rfl rfl) ?_
                                  refine q_val .none rfl (p_move rfl) ?_
                                  refine q_val (.some rfl rfl) rfl (p_move rfl) ?_
                                  refine q_val (.some rfl rfl) rfl (p_move rfl) ?_
                                  refine q_split (d := 81) rfl (fun h_50 => ?_) (fun h_50 => ?_)
                                  · skip
                                    first
                                      | (exfalso; omega)
                                      | (
                                        refine q_val (.some rfl rfl) rfl (p_move rfl) ?_
                                        refine q_val (.some rfl rfl) rfl (p_pick_t rfl rfl) ?_
                                        refine q_val (.some rfl rfl) rfl (p_move rfl) ?_
                                        refine q_split (d := 84) rfl (fun h_51 => ?_) (fun h_51 => ?_)
                                        · skip
                                          first
                                            | (exfalso; omega)
                                            | (
                                              refine q_val (.some rfl rfl) rfl (p_move rfl) ?_
                                              refine q_val (.some rfl rfl) rfl (p_iaddr1 Try.underlying28 sz3 rfl rfl (by first | exact of_decide_eq_true rfl | omega)) ?_
                                              refine q_val (.some rfl rfl) rfl (p_ld (k := 0) Try.underlying3 rfl rfl rfl (by first | exact of_decide_eq_true rfl | omega) (rfl : _ = Value.int _ _)) ?_
                                              refine q_val (.some rfl rfl) rfl (p_eq rfl rfl) ?_
                                              refine q_val (.some rfl rfl) rfl (p_pick_t rfl rfl) ?_
                                              refine q_val .none rfl (p_pick_f rfl rfl) ?_
                                              refine q_nil ?_
                                              refine e_next ?_
                                              refine c_splitd (d := 90) rfl (fun h_52 => ?_) (fun h_52 => ?_)
                                              · skip
                                                first
                                                  | (exfalso; omega)
                                                  | (
                                                    refine c_cond_t rfl ?_
                                                    refine c_seq ?_
                                                    refine c_region ?_
                                                    refine r_val .none rfl (p_assign rfl) ?_
                                                    refine r_nil ?_
                                                    refine e_next ?_
                                                    refine c_ret ?_
                                                    refine e_ret_block ?_
                                                    refine e_ret_then ?_
                                                    refine e_ret_then ?_
                                                    refine e_ret_block ?_
                                                    refine e_ret_then ?_
                                                    refine e_ret1 Try.results3 (.tmp rfl .nil) (fun w hm => ⟨?_, hm.since⟩)
                                                    first
                                                    | rfl
                                                    | (exfalso; have hk := keeps_of (by assumption) (by assumption) (heldB B) k; simp_all; done)
                                                    | (exfalso; have hk := again_of (by assumption) (by assumption) (heldB B) (by assumption); simp_all; done)
                                                    )
                                              · skip
                                                first
                                                  | (exfalso; omega)
                                                  | (
                                                    refine c_cond_f rfl ?_
                                                    refine c_skip ?_
                                                    refine e_norm_block ?_
                                                    refine e_next ?_
                                                    refine c_region ?_
                                                    refine r_val .none rfl (p_add rfl rfl (by omega)) ?_
                                                    refine r_val .none rfl (p_move rfl) ?_
                                                    refine r_nil ?_
                                                    refine e_round (k + 1) ⟨by omega, by omega⟩ rfl ⟨rfl, rfl, rfl, rfl, rfl, rfl, trivial⟩ (.keep (fun _ _ h => h) (.keep (fun _ _ h => h) (.keep (fun _ _ h => h) (.keep (fun _ _ h => h) (.keep (fun _ _ h => h) (.nil))))))
                                                    )
                                              )
                                        · skip
                                          first
                                            | (exfalso; omega)
                                            | (
                                              refine q_skip rfl (.no rfl rfl) ?_
                                              refine q_skip rfl (.no rfl rfl) ?_
                                              refine q_skip rfl (.no rfl rfl) ?_
                                              refine q_skip rfl (.no rfl rfl) ?_
                                              refine q_val (.some rfl rfl) rfl (p_pick_f rfl rfl) ?_
                                              refine q_val .none rfl (p_pick_f rfl rfl) ?_
                                              refine q_nil ?_
                                              refine e_next ?_
                                              refine c_cond_f rfl ?_
                                              refine c_skip ?_
                                              refine e_norm_block ?_
                                              refine e_next ?_
                                              refine c_region ?_
                                              refine r_val .none rfl (p_add rfl rfl (by omega)) ?_
                                              refine r_val .none rfl (p_move rfl) ?_
                                              refine r_nil ?_
                                              refine e_round (k + 1) ⟨by omega, by omega⟩ rfl ⟨rfl, rfl, rfl, rfl, rfl, rfl, trivial⟩ (.keep (fun _ _ h => h) (.keep (fun _ _ h => h) (.keep (fun _ _ h => h) (.keep (fun _ _ h => h) (.keep (fun _ _ h => h) (.nil))))))
                                              )
                                        )
                                  · skip
                                    first
                                      | (exfalso; omega)
                                      | (
                                        refine q_skip rfl (.no rfl rfl) ?_
                                        refine q_val (.some rfl rfl) rfl (p_pick_f rfl rfl) ?_
                                        refine q_val (.some rfl rfl) rfl (p_move rfl) ?_
                                        refine q_skip rfl (.no rfl rfl) ?_
                                        refine q_skip rfl (.no rfl rfl) ?_
                                        refine q_skip rfl (.no rfl rfl) ?_
                                        refine q_skip rfl (.no rfl rfl) ?_
                                        refine q_val (.some rfl rfl) rfl (p_pick_f rfl rfl) ?_
                                        refine q_val .none rfl (p_pick_f rfl rfl) ?_
                                        refine q_nil ?_
                                        refine e_next ?_
                                        refine c_cond_f rfl ?_
                                        refine c_skip ?_
                                        refine e_norm_block ?_
                                        refine e_next ?_
                                        refine c_region ?_
                                        refine r_val .none rfl (p_add rfl rfl (by omega)) ?_
                                        refine r_val .none rfl (p_move rfl) ?_
                                        refine r_nil ?_
                                        refine e_round (k + 1) ⟨by omega, by omega⟩ rfl ⟨rfl, rfl, rfl, rfl, rfl, rfl, trivial⟩ (.keep (fun _ _ h => h) (.keep (fun _ _ h => h) (.keep (fun _ _ h => h) (.keep (fun _ _ h => h) (.keep (fun _ _ h => h) (.nil))))))
                                        )
                                  )
                            )
                    )
              · skip
                first
                  | (exfalso; omega)
                  | (
                    refine c_cond_f rfl ?_
                    refine c_exit ?_
                    refine e_exit_then ?_
                    refine e_exit_then ?_
                    refine e_exit_block ?_
                    refine e_next ?_
                    refine c_seq ?_
                    refine c_region ?_
                    refine r_val .none rfl (p_ldw (k := 4) Try.underlying24 rfl sz24 rfl rfl (rfl : _ = Value.agg #[_, _, _, _, _, _])) ?_
                    refine r_val .none rfl (p_ldw (k := 3) Try.underlying26 rfl sz26 rfl rfl (rfl : _ = Value.agg #[_, _, _])) ?_
                    refine r_val .none rfl (p_ldw (k := 0) Try.underlying28 rfl sz28 rfl rfl rfl) ?_
                    refine r_call (vs := [_, _, _]) .none rfl cl17 rfl (fun w hw => c_fit _ _ _ _ _ _ _ _ _ _ w) ?_
                    refine r_val .none rfl (p_move rfl) ?_
                    refine r_val .none rfl (p_extract rfl rfl) ?_
                    refine r_val .none rfl (p_extract rfl rfl) ?_
                    refine r_alloc .none rfl zr28 (IsRow.fn _ _) (fun b_9 => ?_)
                    refine r_stw (k := 0) .none sz28 rfl rfl (IsRow.fn _ _) (fun _ _ => by first | rfl | (rw [upd_eq]; split <;> rfl)) rfl ?_
                    refine r_val .none rfl (p_assign rfl) ?_
                    refine r_nil ?_
                    refine e_next ?_
                    refine c_seq ?_
                    refine c_region ?_
                    refine r_val .none rfl (p_move rfl) ?_
                    refine r_val .none rfl (p_not rfl) ?_
                    refine r_val .none rfl (p_move rfl) ?_
                    refine r_splitn (d := 101) rfl (fun h_53 => ?_) (fun h_53 => ?_)
                    · skip
                      first
                        | (exfalso; omega)
                        | (
                          refine r_skip rfl (.no rfl rfl) ?_
                          refine r_skip rfl (.no rfl rfl) ?_
                          refine r_skip rfl (.un rfl rfl) ?_
                          refine r_skip rfl (.un rfl rfl) ?_
                          refine r_skip rfl (.un rfl rfl) ?_
                          refine r_skip rfl (.no rfl rfl) ?_
                          refine r_val .none rfl (p_pick_t rfl rfl) ?_
                          refine r_val .none rfl (p_move rfl) ?_
                          refine r_call (vs := []) (.some rfl rfl) rfl cl15 rfl (fun w hw => c_awake3  w) ?_
                          refine r_val .none rfl (p_pick_t rfl rfl) ?_
                          refine r_val .none rfl (p_assign rfl) ?_
                          refine r_nil ?_
                          refine e_next ?_
                          refine c_ret ?_
                          refine e_ret1 Try.results3 (.tmp rfl .nil) (fun w hm => ⟨?_, hm.since⟩)
                          first
                          | rfl
                          | (exfalso; have hk := keeps_of (by assumption) (by assumption) (heldB B) k; simp_all; done)
                          | (exfalso; have hk := again_of (by assumption) (by assumption) (heldB B) (by assumption); simp_all; done)
                          )
                    · skip
                      first
                        | (exfalso; omega)
                        | (
                          refine r_val (.some rfl rfl) rfl (p_move rfl) ?_
                          refine r_val (.some rfl rfl) rfl (p_move rfl) ?_
                          refine r_split (d := 103) rfl (fun h_54 => ?_) (fun h_54 => ?_)
                          · skip
                            first
                              | (exfalso; omega)
                              | (
                                refine r_val (.some rfl rfl) rfl (p_ldw (k := 0) Try.underlying28 rfl sz28 rfl rfl rfl) ?_
                                refine r_val (.some rfl rfl) rfl (p_ldw (k := 1) Try.underlying28 rfl sz28 rfl rfl rfl) ?_
                                refine r_val (.some rfl rfl) rfl (p_eqa rfl rfl (EqIs.of (eqr_ints (d := 9998) Try.underlying28 sz3 Try.underlying3 (IsRow.fn _ _) (IsRow.fn _ _)) _ _ rfl rfl eg28)) ?_
                                refine r_val (.some rfl rfl) rfl (p_pick_t rfl rfl) ?_
                                refine r_val .none rfl (p_pick_f rfl rfl) ?_
                                refine r_val .none rfl (p_move rfl) ?_
                                refine r_splitd (d := 109) rfl (fun h_55 => ?_) (fun h_55 => ?_)
                                · skip
                                  first
                                    | (exfalso; omega)
                                    | (
                                      refine r_call (vs := []) (.some rfl rfl) rfl cl15 rfl (fun w hw => c_awake3  w) ?_
                                      refine r_val .none rfl (p_pick_t rfl rfl) ?_
                                      refine r_val .none rfl (p_assign rfl) ?_
                                      refine r_nil ?_
                                      refine e_next ?_
                                      refine c_ret ?_
                                      refine e_ret1 Try.results3 (.tmp rfl .nil) (fun w hm => ⟨?_, hm.since⟩)
                                      first
                                      | rfl
                                      | (exfalso; have hk := keeps_of (by assumption) (by assumption) (heldB B) k; simp_all; done)
                                      | (exfalso; have hk := again_of (by assumption) (by assumption) (heldB B) (by assumption); simp_all; done)
                                      )
                                · skip
                                  first
                                    | (exfalso; omega)
                                    | (
                                      refine r_skip rfl (.no rfl rfl) ?_
                                      refine r_val .none rfl (p_pick_f rfl rfl) ?_
                                      refine r_val .none rfl (p_assign rfl) ?_
                                      refine r_nil ?_
                                      refine e_next ?_
                                      refine c_ret ?_
                                      refine e_ret1 Try.results3 (.tmp rfl .nil) (fun w hm => ⟨?_, hm.since⟩)
                                      first
                                      | rfl
                                      | (exfalso; have hk := keeps_of (by assumption) (by assumption) (heldB B) k; simp_all; done)
                                      | (exfalso; have hk := again_of (by assumption) (by assumption) (heldB B) (by assumption); simp_all; done)
                                      )
                                )
                          · skip
                            first
                              | (exfalso; omega)
                              | (
                                refine r_skip rfl (.no rfl rfl) ?_
                                refine r_skip rfl (.no rfl rfl) ?_
                                refine r_skip rfl (.no rfl rfl) ?_
                                refine r_val (.some rfl rfl) rfl (p_pick_f rfl rfl) ?_
                                refine r_val .none rfl (p_pick_f rfl rfl) ?_
                                refine r_val .none rfl (p_move rfl) ?_
                                refine r_skip rfl (.no rfl rfl) ?_
                                refine r_val .none rfl (p_pick_f rfl rfl) ?_
                                refine r_val .none rfl (p_assign rfl) ?_
                                refine r_nil ?_
                                refine e_next ?_
                                refine c_ret ?_
                                refine e_ret1 Try.results3 (.tmp rfl .nil) (fun w hm => ⟨?_, hm.since⟩)
                                first
                                | rfl
                                | (exfalso; have hk := keeps_of (by assumption) (by assumption) (heldB B) k; simp_all; done)
                                | (exfalso; have hk := again_of (by assumption) (by assumption) (heldB B) (by assumption); simp_all; done)
                                )
                          )
                    )
              )
        )
end Go.Proofs.Ytjgdkahblhpinaa
