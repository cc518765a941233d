/- Texts of this work, laid together: a logic of steps, plain laws, and walks of Go functions, each without a condition but those that its theorems name. -/
import Derived.Test.YtoflaphnlfggkaaKCompRight2
import Derived.Test.YtoflaphnlfggkaaRows
import Derived.SizedLaws
/- Walks: what Go functions of this chapter come to, each as a function on plain data; no condition but those that each theorem names. Printed by a program of this work (gen.py). -/
namespace Go.Proofs.Ytoflaphnlfggkaa
open Go.Gx Go.Gx.T4 Go.Gx.T3 Go.Gx.T6 Go.Gx.T8 Go.Gx.T4 Go.Gx.T3 Go.Gx.T8 Go.Gx.T4 Go.Gx.T3 Go.Gx.T8 Go.Gx.T6 Go.Gx.T4 Go.Gx.T3
theorem cl54 : Callable Try.prog 54 := callable Try.func54 (by kernel_rfl) rfl
theorem cl69 : Callable Try.prog 69 := callable Try.func69 (by kernel_rfl) rfl
theorem cl70 : Callable Try.prog 70 := callable Try.func70 (by kernel_rfl) rfl
theorem bl61_  : Program.built Try.prog 61 [] = some #[Value.int .i64 0, Value.int .i64 0, Value.int .i64 0] := by
 kernel_rfl
def CrightIs (n : Nat) : Prop := ∀ (c : ST) (ta sb : Value) (d x : Int) (p : Nat) (G : Ghost) (F : Nat → Prop) (w : World), SizeOf.sizeOf c ≤ n → (0 ≤ x ∧ x ≤ 16) ∧ 0 ≤ d ∧ d ≤ 4 → SlL G ta 3 tC t0 c.h.ts → Ss G sb c.subs → Has G w → (cntA 3 p x).holds w F → (∀ b, F b → G b = none) → Calls Try.prog 54 #[Value.agg #[Value.int .i64 c.h.k, Value.int .i64 c.h.k0, Value.int .i64 c.h.k1, Value.int .i64 c.h.k2, ta, sb], Value.int .i64 d, Value.pointer (some ⟨p, 0, none⟩)] w (Ret fun r w' => r = Value.bool (cR c d x).1 ∧ Kept (cntA 3 p (cR c d x).2) F w w')
theorem c_keyright (a b c : Int)  (w : World)  :
  Calls Try.prog 69 #[Value.agg #[Value.int .i64 a, Value.int .i64 b, Value.int .i64 c]] w (Ret fun r w' => r = Value.bool (decide ((0 ≤ a ∧ a ≤ 4096) ∧ (0 ≤ b ∧ b ≤ 4096) ∧ 0 ≤ c ∧ c ≤ 4096)) ∧ Since nX w w') := by
 refine enter (args := [_]) (X := nX) (G := (fun _ => none)) (l := [(0, Value.agg #[Value.int .i64 a, Value.int .i64 b, Value.int .i64 c])]) Try.func69 rfl Try.ntmps69 (fun _ _ h => by cases h) ⟨rfl, trivial⟩ (Nat.le_of_ble_eq_true rfl) ?_
 refine c_seq ?_
 refine c_region ?_
 refine r_box .none rfl rfl (IsRow.lit _) (fun b_1 => ?_)
 refine r_val .none rfl (p_assign rfl) ?_
 refine r_nil ?_
 refine e_next ?_
 refine c_seq ?_
 refine c_seq ?_
 refine c_region ?_
 refine r_val .none rfl (p_ldw (k := 0) Try.underlying61 rfl sz61 rfl rfl (rfl : _ = Value.agg #[_, _, _])) ?_
 refine r_val .none rfl (p_move rfl) ?_
 refine r_nil ?_
 refine e_next ?_
 refine c_block ?_
 refine c_unroll 4 ?_
 refine l_round (n := 3) ?_
 refine c_seq ?_
 refine c_region ?_
 refine r_val .none rfl (p_lt rfl rfl) ?_
 refine r_say (d := 7) (v := Value.bool true) rfl ?_
 refine r_nil ?_
 refine e_next ?_
 refine c_seq ?_
 refine c_cond_t rfl ?_
 refine c_skip ?_
 refine e_next ?_
 refine c_seq ?_
 refine c_block ?_
 refine c_seq ?_
 refine c_region ?_
 refine r_val .none rfl (p_index (k := 0) Try.underlying61 Try.underlying3 rfl sz3 rfl (IsRow.lit _) rfl (by first | exact of_decide_eq_true rfl | omega) (rfl : _ = Value.int _ _)) ?_
 refine r_val .none rfl (p_assign rfl) ?_
 refine r_nil ?_
 refine e_next ?_
 refine c_seq ?_
 refine c_region ?_
 refine r_val .none rfl (p_move rfl) ?_
 refine r_val .none rfl (p_lt rfl rfl) ?_
 refine r_val .none rfl (p_move rfl) ?_
 refine' r_or (c := 11) (d := 14) [_, _, _] rfl (fun h_1 Q_2 hQ_3 => ?_) (fun h_1 Q_2 hQ_3 => ?_) ?_
 rotate_left 1
 ·
  replace h_1 := of_decide_eq_false h_1
  refine r_val (.some rfl rfl) rfl (p_move rfl) ?_
  refine r_val (.some rfl rfl) rfl (p_gt rfl rfl) ?_
  refine r_val .none rfl (p_pick_f rfl rfl) ?_
  refine r_nil (e_fin (d := 14) hQ_3 rfl (by repeat (first | exact .refl | refine .put rfl ?_ | refine .say rfl ?_ | refine .say2 rfl (by first | assumption | simp_all) ?_)))
 ·
  repeat (first | refine r_skip rfl (.no rfl rfl) ?_ | refine r_skip rfl (.un rfl rfl) ?_)
  refine r_val (by first | exact .none | exact .some rfl rfl) rfl (p_pick_t rfl rfl) ?_
  refine r_nil (e_fin (d := 14) hQ_3 rfl (by repeat (first | exact .refl | refine .put rfl ?_ | refine .say rfl ?_ | refine .say2 rfl (by first | assumption | simp_all) ?_)))
 refine r_nil ?_
 refine e_next ?_
 refine c_split (d := 14) rfl (fun h_5 => ?_) (fun h_5 => ?_)
 ·
  try simp only [norms] at h_5
  first
   | (exfalso; omega)
   | (
    refine c_cond_t rfl ?_
    refine c_seq ?_
    refine c_region ?_
    refine r_val .none rfl (p_assign rfl) ?_
    refine r_nil ?_
    refine e_next ?_
    refine c_ret ?_
    refine e_ret_block ?_
    refine e_ret_then ?_
    refine e_ret_then ?_
    refine e_ret_block ?_
    refine e_ret_then ?_
    refine e_ret1 Try.results69 (.tmp rfl .nil) (fun w hm => ⟨?_, hm.since⟩)
    first
    | exact congrArg Value.bool (decide_eq_false (by omega)).symm
    | exact congrArg Value.bool (decide_eq_true (by omega)).symm
    )
 ·
  try simp only [norms] at h_5
  first
   | (exfalso; omega)
   | (
    refine c_cond_f rfl ?_
    refine c_skip ?_
    refine e_norm_block ?_
    refine e_next ?_
    refine c_region ?_
    refine r_val .none rfl (p_add rfl rfl (by omega)) ?_
    refine r_val .none rfl (p_move rfl) ?_
    refine r_nil ?_
    refine e_again ?_
    refine l_round (n := 2) ?_
    refine c_seq ?_
    refine c_region ?_
    refine r_val .none rfl (p_lt rfl rfl) ?_
    refine r_say (d := 7) (v := Value.bool true) rfl ?_
    refine r_nil ?_
    refine e_next ?_
    refine c_seq ?_
    refine c_cond_t rfl ?_
    refine c_skip ?_
    refine e_next ?_
    refine c_seq ?_
    refine c_block ?_
    refine c_seq ?_
    refine c_region ?_
    refine r_val .none rfl (p_index (k := 1) Try.underlying61 Try.underlying3 rfl sz3 rfl (IsRow.lit _) rfl (by first | exact of_decide_eq_true rfl | omega) (rfl : _ = Value.int _ _)) ?_
    refine r_val .none rfl (p_assign rfl) ?_
    refine r_nil ?_
    refine e_next ?_
    refine c_seq ?_
    refine c_region ?_
    refine r_val .none rfl (p_move rfl) ?_
    refine r_val .none rfl (p_lt rfl rfl) ?_
    refine r_val .none rfl (p_move rfl) ?_
    refine r_splitd (d := 11) rfl (fun h_6 => ?_) (fun h_6 => ?_)
    ·
     first
      | (exfalso; omega)
      | (
       refine r_skip rfl (.no rfl rfl) ?_
       refine r_skip rfl (.no rfl rfl) ?_
       refine r_val .none rfl (p_pick_t rfl rfl) ?_
       refine r_nil ?_
       refine e_next ?_
       refine c_cond_t rfl ?_
       refine c_seq ?_
       refine c_region ?_
       refine r_val .none rfl (p_assign rfl) ?_
       refine r_nil ?_
       refine e_next ?_
       refine c_ret ?_
       refine e_ret_block ?_
       refine e_ret_then ?_
       refine e_ret_then ?_
       refine e_ret_block ?_
       refine e_ret_then ?_
       refine e_ret1 Try.results69 (.tmp rfl .nil) (fun w hm => ⟨?_, hm.since⟩)
       first
       | exact congrArg Value.bool (decide_eq_false (by omega)).symm
       | exact congrArg Value.bool (decide_eq_true (by omega)).symm
       )
    ·
     first
      | (exfalso; omega)
      | (
       refine r_val (.some rfl rfl) rfl (p_move rfl) ?_
       refine r_val (.some rfl rfl) rfl (p_gt rfl rfl) ?_
       refine r_val .none rfl (p_pick_f rfl rfl) ?_
       refine r_nil ?_
       refine e_next ?_
       refine c_splitd (d := 14) rfl (fun h_7 => ?_) (fun h_7 => ?_)
       ·
        first
         | (exfalso; omega)
         | (
          refine c_cond_t rfl ?_
          refine c_seq ?_
          refine c_region ?_
          refine r_val .none rfl (p_assign rfl) ?_
          refine r_nil ?_
          refine e_next ?_
          refine c_ret ?_
          refine e_ret_block ?_
          refine e_ret_then ?_
          refine e_ret_then ?_
          refine e_ret_block ?_
          refine e_ret_then ?_
          refine e_ret1 Try.results69 (.tmp rfl .nil) (fun w hm => ⟨?_, hm.since⟩)
          first
          | exact congrArg Value.bool (decide_eq_false (by omega)).symm
          | exact congrArg Value.bool (decide_eq_true (by omega)).symm
          )
       ·
        first
         | (exfalso; omega)
         | (
          refine c_cond_f rfl ?_
          refine c_skip ?_
          refine e_norm_block ?_
          refine e_next ?_
          refine c_region ?_
          refine r_val .none rfl (p_add rfl rfl (by omega)) ?_
          refine r_val .none rfl (p_move rfl) ?_
          refine r_nil ?_
          refine e_again ?_
          refine l_round (n := 1) ?_
          refine c_seq ?_
          refine c_region ?_
          refine r_val .none rfl (p_lt rfl rfl) ?_
          refine r_say (d := 7) (v := Value.bool true) rfl ?_
          refine r_nil ?_
          refine e_next ?_
          refine c_seq ?_
          refine c_cond_t rfl ?_
          refine c_skip ?_
          refine e_next ?_
          refine c_seq ?_
          refine c_block ?_
          refine c_seq ?_
          refine c_region ?_
          refine r_val .none rfl (p_index (k := 2) Try.underlying61 Try.underlying3 rfl sz3 rfl (IsRow.lit _) rfl (by first | exact of_decide_eq_true rfl | omega) (rfl : _ = Value.int _ _)) ?_
          refine r_val .none rfl (p_assign rfl) ?_
          refine r_nil ?_
          refine e_next ?_
          refine c_seq ?_
          refine c_region ?_
          refine r_val .none rfl (p_move rfl) ?_
          refine r_val .none rfl (p_lt rfl rfl) ?_
          refine r_val .none rfl (p_move rfl) ?_
          refine r_splitd (d := 11) rfl (fun h_8 => ?_) (fun h_8 => ?_)
          ·
           first
            | (exfalso; omega)
            | (
             refine r_skip rfl (.no rfl rfl) ?_
             refine r_skip rfl (.no rfl rfl) ?_
             refine r_val .none rfl (p_pick_t rfl rfl) ?_
             refine r_nil ?_
             refine e_next ?_
             refine c_cond_t rfl ?_
             refine c_seq ?_
             refine c_region ?_
             refine r_val .none rfl (p_assign rfl) ?_
             refine r_nil ?_
             refine e_next ?_
             refine c_ret ?_
             refine e_ret_block ?_
             refine e_ret_then ?_
             refine e_ret_then ?_
             refine e_ret_block ?_
             refine e_ret_then ?_
             refine e_ret1 Try.results69 (.tmp rfl .nil) (fun w hm => ⟨?_, hm.since⟩)
             first
             | exact congrArg Value.bool (decide_eq_false (by omega)).symm
             | exact congrArg Value.bool (decide_eq_true (by omega)).symm
             )
          ·
           first
            | (exfalso; omega)
            | (
             refine r_val (.some rfl rfl) rfl (p_move rfl) ?_
             refine r_val (.some rfl rfl) rfl (p_gt rfl rfl) ?_
             refine r_val .none rfl (p_pick_f rfl rfl) ?_
             refine r_nil ?_
             refine e_next ?_
             refine c_splitd (d := 14) rfl (fun h_9 => ?_) (fun h_9 => ?_)
             ·
              first
               | (exfalso; omega)
               | (
                refine c_cond_t rfl ?_
                refine c_seq ?_
                refine c_region ?_
                refine r_val .none rfl (p_assign rfl) ?_
                refine r_nil ?_
                refine e_next ?_
                refine c_ret ?_
                refine e_ret_block ?_
                refine e_ret_then ?_
                refine e_ret_then ?_
                refine e_ret_block ?_
                refine e_ret_then ?_
                refine e_ret1 Try.results69 (.tmp rfl .nil) (fun w hm => ⟨?_, hm.since⟩)
                first
                | exact congrArg Value.bool (decide_eq_false (by omega)).symm
                | exact congrArg Value.bool (decide_eq_true (by omega)).symm
                )
             ·
              first
               | (exfalso; omega)
               | (
                refine c_cond_f rfl ?_
                refine c_skip ?_
                refine e_norm_block ?_
                refine e_next ?_
                refine c_region ?_
                refine r_val .none rfl (p_add rfl rfl (by omega)) ?_
                refine r_val .none rfl (p_move rfl) ?_
                refine r_nil ?_
                refine e_again ?_
                refine l_round (n := 0) ?_
                refine c_seq ?_
                refine c_region ?_
                refine r_val .none rfl (p_lt rfl rfl) ?_
                refine r_say (d := 7) (v := Value.bool false) rfl ?_
                refine r_nil ?_
                refine e_next ?_
                refine c_seq ?_
                refine c_cond_f rfl ?_
                refine c_exit ?_
                refine e_exit_then ?_
                refine e_exit_then ?_
                refine e_exit_block ?_
                refine e_next ?_
                refine c_seq ?_
                refine c_region ?_
                refine r_val .none rfl (p_assign rfl) ?_
                refine r_nil ?_
                refine e_next ?_
                refine c_ret ?_
                refine e_ret1 Try.results69 (.tmp rfl .nil) (fun w hm => ⟨?_, hm.since⟩)
                first
                | exact congrArg Value.bool (decide_eq_false (by omega)).symm
                | exact congrArg Value.bool (decide_eq_true (by omega)).symm
                )
             )
          )
       )
    )
theorem c_rkeyright (a b c : Int)  (w : World)  :
  Calls Try.prog 57 #[Value.agg #[Value.int .i64 a, Value.int .i64 b, Value.int .i64 c]] w (Ret fun r w' => r = Value.bool (decide ((0 ≤ a ∧ a ≤ 4096) ∧ (0 ≤ b ∧ b ≤ 4096) ∧ 0 ≤ c ∧ c ≤ 4096)) ∧ Since nX w w') := by
 refine enter (args := [_]) (X := nX) (G := (fun _ => none)) (l := [(0, Value.agg #[Value.int .i64 a, Value.int .i64 b, Value.int .i64 c])]) Try.func57 rfl Try.ntmps57 (fun _ _ h => by cases h) ⟨rfl, trivial⟩ (Nat.le_of_ble_eq_true rfl) ?_
 refine c_seq ?_
 refine c_region ?_
 refine r_box .none rfl rfl (IsRow.lit _) (fun b_1 => ?_)
 refine r_val .none rfl (p_assign rfl) ?_
 refine r_nil ?_
 refine e_next ?_
 refine c_seq ?_
 refine c_seq ?_
 refine c_region ?_
 refine r_val .none rfl (p_assign rfl) ?_
 refine r_nil ?_
 refine e_next ?_
 refine c_block ?_
 refine c_unroll 4 ?_
 refine l_round (n := 3) ?_
 refine c_seq ?_
 refine c_seq ?_
 refine c_region ?_
 refine r_val .none rfl (p_move rfl) ?_
 refine r_val .none rfl (p_lt rfl rfl) ?_
 refine r_say (d := 5) (v := Value.bool true) rfl ?_
 refine r_nil ?_
 refine e_next ?_
 refine c_cond_t rfl ?_
 refine c_skip ?_
 refine e_next ?_
 refine c_seq ?_
 refine c_block ?_
 refine c_seq ?_
 refine c_region ?_
 refine r_val .none rfl (p_move rfl) ?_
 refine r_val .none rfl (p_iaddr (k := 0) Try.underlying60 sz3 rfl rfl (by first | exact of_decide_eq_true rfl | omega)) ?_
 refine r_val .none rfl (p_ld (k := 0) Try.underlying3 rfl rfl rfl (by first | exact of_decide_eq_true rfl | omega) (rfl : _ = Value.int _ _)) ?_
 refine r_val .none rfl (p_lt rfl rfl) ?_
 refine r_val .none rfl (p_move rfl) ?_
 refine' r_or (c := 12) (d := 17) [_, _, _, _, _] rfl (fun h_1 Q_2 hQ_3 => ?_) (fun h_1 Q_2 hQ_3 => ?_) ?_
 rotate_left 1
 ·
  replace h_1 := of_decide_eq_false h_1
  refine r_val (.some rfl rfl) rfl (p_move rfl) ?_
  refine r_val (.some rfl rfl) rfl (p_iaddr (k := 0) Try.underlying60 sz3 rfl rfl (by first | exact of_decide_eq_true rfl | omega)) ?_
  refine r_val (.some rfl rfl) rfl (p_ld (k := 0) Try.underlying3 rfl rfl rfl (by first | exact of_decide_eq_true rfl | omega) (rfl : _ = Value.int _ _)) ?_
  refine r_val (.some rfl rfl) rfl (p_gt rfl rfl) ?_
  refine r_val .none rfl (p_pick_f rfl rfl) ?_
  refine r_nil (e_fin (d := 17) hQ_3 rfl (by repeat (first | exact .refl | refine .put rfl ?_ | refine .say rfl ?_ | refine .say2 rfl (by first | assumption | simp_all) ?_)))
 ·
  repeat (first | refine r_skip rfl (.no rfl rfl) ?_ | refine r_skip rfl (.un rfl rfl) ?_)
  refine r_val (by first | exact .none | exact .some rfl rfl) rfl (p_pick_t rfl rfl) ?_
  refine r_nil (e_fin (d := 17) hQ_3 rfl (by repeat (first | exact .refl | refine .put rfl ?_ | refine .say rfl ?_ | refine .say2 rfl (by first | assumption | simp_all) ?_)))
 refine r_nil ?_
 refine e_next ?_
 refine c_split (d := 17) rfl (fun h_5 => ?_) (fun h_5 => ?_)
 ·
  try simp only [norms] at h_5
  first
   | (exfalso; omega)
   | (
    refine c_cond_t rfl ?_
    refine c_seq ?_
    refine c_region ?_
    refine r_val .none rfl (p_assign rfl) ?_
    refine r_nil ?_
    refine e_next ?_
    refine c_ret ?_
    refine e_ret_block ?_
    refine e_ret_then ?_
    refine e_ret_then ?_
    refine e_ret_block ?_
    refine e_ret_then ?_
    refine e_ret1 Try.results57 (.tmp rfl .nil) (fun w hm => ⟨?_, hm.since⟩)
    first
    | exact congrArg Value.bool (decide_eq_false (by omega)).symm
    | exact congrArg Value.bool (decide_eq_true (by omega)).symm
    )
 ·
  try simp only [norms] at h_5
  first
   | (exfalso; omega)
   | (
    refine c_cond_f rfl ?_
    refine c_skip ?_
    refine e_norm_block ?_
    refine e_next ?_
    refine c_region ?_
    refine r_val .none rfl (p_move rfl) ?_
    refine r_val .none rfl (p_add rfl rfl (by omega)) ?_
    refine r_val .none rfl (p_assign rfl) ?_
    refine r_nil ?_
    refine e_again ?_
    refine l_round (n := 2) ?_
    refine c_seq ?_
    refine c_seq ?_
    refine c_region ?_
    refine r_val .none rfl (p_move rfl) ?_
    refine r_val .none rfl (p_lt rfl rfl) ?_
    refine r_say (d := 5) (v := Value.bool true) rfl ?_
    refine r_nil ?_
    refine e_next ?_
    refine c_cond_t rfl ?_
    refine c_skip ?_
    refine e_next ?_
    refine c_seq ?_
    refine c_block ?_
    refine c_seq ?_
    refine c_region ?_
    refine r_val .none rfl (p_move rfl) ?_
    refine r_val .none rfl (p_iaddr (k := 1) Try.underlying60 sz3 rfl rfl (by first | exact of_decide_eq_true rfl | omega)) ?_
    refine r_val .none rfl (p_ld (k := 0) Try.underlying3 rfl rfl rfl (by first | exact of_decide_eq_true rfl | omega) (rfl : _ = Value.int _ _)) ?_
    refine r_val .none rfl (p_lt rfl rfl) ?_
    refine r_val .none rfl (p_move rfl) ?_
    refine r_splitd (d := 12) rfl (fun h_6 => ?_) (fun h_6 => ?_)
    ·
     first
      | (exfalso; omega)
      | (
       refine r_skip rfl (.no rfl rfl) ?_
       refine r_skip rfl (.no rfl rfl) ?_
       refine r_skip rfl (.no rfl rfl) ?_
       refine r_skip rfl (.no rfl rfl) ?_
       refine r_val .none rfl (p_pick_t rfl rfl) ?_
       refine r_nil ?_
       refine e_next ?_
       refine c_cond_t rfl ?_
       refine c_seq ?_
       refine c_region ?_
       refine r_val .none rfl (p_assign rfl) ?_
       refine r_nil ?_
       refine e_next ?_
       refine c_ret ?_
       refine e_ret_block ?_
       refine e_ret_then ?_
       refine e_ret_then ?_
       refine e_ret_block ?_
       refine e_ret_then ?_
       refine e_ret1 Try.results57 (.tmp rfl .nil) (fun w hm => ⟨?_, hm.since⟩)
       first
       | exact congrArg Value.bool (decide_eq_false (by omega)).symm
       | exact congrArg Value.bool (decide_eq_true (by omega)).symm
       )
    ·
     first
      | (exfalso; omega)
      | (
       refine r_val (.some rfl rfl) rfl (p_move rfl) ?_
       refine r_val (.some rfl rfl) rfl (p_iaddr (k := 1) Try.underlying60 sz3 rfl rfl (by first | exact of_decide_eq_true rfl | omega)) ?_
       refine r_val (.some rfl rfl) rfl (p_ld (k := 0) Try.underlying3 rfl rfl rfl (by first | exact of_decide_eq_true rfl | omega) (rfl : _ = Value.int _ _)) ?_
       refine r_val (.some rfl rfl) rfl (p_gt rfl rfl) ?_
       refine r_val .none rfl (p_pick_f rfl rfl) ?_
       refine r_nil ?_
       refine e_next ?_
       refine c_splitd (d := 17) rfl (fun h_7 => ?_) (fun h_7 => ?_)
       ·
        first
         | (exfalso; omega)
         | (
          refine c_cond_t rfl ?_
          refine c_seq ?_
          refine c_region ?_
          refine r_val .none rfl (p_assign rfl) ?_
          refine r_nil ?_
          refine e_next ?_
          refine c_ret ?_
          refine e_ret_block ?_
          refine e_ret_then ?_
          refine e_ret_then ?_
          refine e_ret_block ?_
          refine e_ret_then ?_
          refine e_ret1 Try.results57 (.tmp rfl .nil) (fun w hm => ⟨?_, hm.since⟩)
          first
          | exact congrArg Value.bool (decide_eq_false (by omega)).symm
          | exact congrArg Value.bool (decide_eq_true (by omega)).symm
          )
       ·
        first
         | (exfalso; omega)
         | (
          refine c_cond_f rfl ?_
          refine c_skip ?_
          refine e_norm_block ?_
          refine e_next ?_
          refine c_region ?_
          refine r_val .none rfl (p_move rfl) ?_
          refine r_val .none rfl (p_add rfl rfl (by omega)) ?_
          refine r_val .none rfl (p_assign rfl) ?_
          refine r_nil ?_
          refine e_again ?_
          refine l_round (n := 1) ?_
          refine c_seq ?_
          refine c_seq ?_
          refine c_region ?_
          refine r_val .none rfl (p_move rfl) ?_
          refine r_val .none rfl (p_lt rfl rfl) ?_
          refine r_say (d := 5) (v := Value.bool true) rfl ?_
          refine r_nil ?_
          refine e_next ?_
          refine c_cond_t rfl ?_
          refine c_skip ?_
          refine e_next ?_
          refine c_seq ?_
          refine c_block ?_
          refine c_seq ?_
          refine c_region ?_
          refine r_val .none rfl (p_move rfl) ?_
          refine r_val .none rfl (p_iaddr (k := 2) Try.underlying60 sz3 rfl rfl (by first | exact of_decide_eq_true rfl | omega)) ?_
          refine r_val .none rfl (p_ld (k := 0) Try.underlying3 rfl rfl rfl (by first | exact of_decide_eq_true rfl | omega) (rfl : _ = Value.int _ _)) ?_
          refine r_val .none rfl (p_lt rfl rfl) ?_
          refine r_val .none rfl (p_move rfl) ?_
          refine r_splitd (d := 12) rfl (fun h_8 => ?_) (fun h_8 => ?_)
          ·
           first
            | (exfalso; omega)
            | (
             refine r_skip rfl (.no rfl rfl) ?_
             refine r_skip rfl (.no rfl rfl) ?_
             refine r_skip rfl (.no rfl rfl) ?_
             refine r_skip rfl (.no rfl rfl) ?_
             refine r_val .none rfl (p_pick_t rfl rfl) ?_
             refine r_nil ?_
             refine e_next ?_
             refine c_cond_t rfl ?_
             refine c_seq ?_
             refine c_region ?_
             refine r_val .none rfl (p_assign rfl) ?_
             refine r_nil ?_
             refine e_next ?_
             refine c_ret ?_
             refine e_ret_block ?_
             refine e_ret_then ?_
             refine e_ret_then ?_
             refine e_ret_block ?_
             refine e_ret_then ?_
             refine e_ret1 Try.results57 (.tmp rfl .nil) (fun w hm => ⟨?_, hm.since⟩)
             first
             | exact congrArg Value.bool (decide_eq_false (by omega)).symm
             | exact congrArg Value.bool (decide_eq_true (by omega)).symm
             )
          ·
           first
            | (exfalso; omega)
            | (
             refine r_val (.some rfl rfl) rfl (p_move rfl) ?_
             refine r_val (.some rfl rfl) rfl (p_iaddr (k := 2) Try.underlying60 sz3 rfl rfl (by first | exact of_decide_eq_true rfl | omega)) ?_
             refine r_val (.some rfl rfl) rfl (p_ld (k := 0) Try.underlying3 rfl rfl rfl (by first | exact of_decide_eq_true rfl | omega) (rfl : _ = Value.int _ _)) ?_
             refine r_val (.some rfl rfl) rfl (p_gt rfl rfl) ?_
             refine r_val .none rfl (p_pick_f rfl rfl) ?_
             refine r_nil ?_
             refine e_next ?_
             refine c_splitd (d := 17) rfl (fun h_9 => ?_) (fun h_9 => ?_)
             ·
              first
               | (exfalso; omega)
               | (
                refine c_cond_t rfl ?_
                refine c_seq ?_
                refine c_region ?_
                refine r_val .none rfl (p_assign rfl) ?_
                refine r_nil ?_
                refine e_next ?_
                refine c_ret ?_
                refine e_ret_block ?_
                refine e_ret_then ?_
                refine e_ret_then ?_
                refine e_ret_block ?_
                refine e_ret_then ?_
                refine e_ret1 Try.results57 (.tmp rfl .nil) (fun w hm => ⟨?_, hm.since⟩)
                first
                | exact congrArg Value.bool (decide_eq_false (by omega)).symm
                | exact congrArg Value.bool (decide_eq_true (by omega)).symm
                )
             ·
              first
               | (exfalso; omega)
               | (
                refine c_cond_f rfl ?_
                refine c_skip ?_
                refine e_norm_block ?_
                refine e_next ?_
                refine c_region ?_
                refine r_val .none rfl (p_move rfl) ?_
                refine r_val .none rfl (p_add rfl rfl (by omega)) ?_
                refine r_val .none rfl (p_assign rfl) ?_
                refine r_nil ?_
                refine e_again ?_
                refine l_round (n := 0) ?_
                refine c_seq ?_
                refine c_seq ?_
                refine c_region ?_
                refine r_val .none rfl (p_move rfl) ?_
                refine r_val .none rfl (p_lt rfl rfl) ?_
                refine r_say (d := 5) (v := Value.bool false) rfl ?_
                refine r_nil ?_
                refine e_next ?_
                refine c_cond_f rfl ?_
                refine c_exit ?_
                refine e_exit_then ?_
                refine e_exit_then ?_
                refine e_exit_block ?_
                refine e_next ?_
                refine c_seq ?_
                refine c_region ?_
                refine r_val .none rfl (p_assign rfl) ?_
                refine r_nil ?_
                refine e_next ?_
                refine c_ret ?_
                refine e_ret1 Try.results57 (.tmp rfl .nil) (fun w hm => ⟨?_, hm.since⟩)
                first
                | exact congrArg Value.bool (decide_eq_false (by omega)).symm
                | exact congrArg Value.bool (decide_eq_true (by omega)).symm
                )
             )
          )
       )
    )
theorem c_rtests (v : Value) (zs : List TD) {G : Ghost} (hr : SlL G v 3 tC t0 zs) (w : World) (hG : Has G w) :
  Calls Try.prog 70 #[v] w (Ret fun r w' => r = Value.bool (tsRight zs (-1)) ∧ Since nX w w') := by
 refine enter (args := [_]) (X := nX) (G := G) (l := [(0, v)]) Try.func70 rfl Try.ntmps70 hG ⟨rfl, trivial⟩ (Nat.le_of_ble_eq_true rfl) ?_
 have hbd := hr.bound
 refine c_seq ?_
 refine c_region ?_
 refine r_val .none rfl (p_assign rfl) ?_
 refine r_nil ?_
 refine e_next ?_
 refine c_seq ?_
 refine c_region ?_
 refine r_val .none rfl (p_assign rfl) ?_
 refine r_nil ?_
 refine e_next ?_
 refine c_seq ?_
 refine c_seq ?_
 refine c_region ?_
 refine r_val .none rfl (p_move rfl) ?_
 refine r_val .none rfl (p_leng Try.underlying62 rfl hr) ?_
 have bd_1 := (hr).bound
 refine r_val .none rfl (p_move rfl) ?_
 refine r_nil ?_
 refine e_next ?_
 refine c_block ?_
 refine c_name (d := 6) rfl (fun u_2 hu_2 => ?_)
 refine c_name (d := 7) rfl (fun u_3 hu_3 => ?_)
 refine c_loop (σ := Nat) (fun k => [(8, Value.int .i64 (k : Nat)), (3, Value.int .i64 (lastF zs k)), (6, u_2), (7, u_3)]) (fun k => []) (fun _ => _) (fun k => k ≤ zs.length ∧ tsRight (zs.drop k) (lastF zs k) = tsRight zs (-1)) (fun k => zs.length - k) (0) ⟨Nat.zero_le _, rfl⟩ rfl ⟨rfl, rfl, rfl, rfl, trivial⟩ (.nil) (fun k hphi => ?_)
 subst hu_2
 subst hu_3
 refine c_seq ?_
 refine c_region ?_
 refine r_val .none rfl (p_lt rfl rfl) ?_
 refine r_nil ?_
 refine e_next ?_
 refine c_seq ?_
 refine c_splitd (d := 9) rfl (fun h_4 => ?_) (fun h_4 => ?_)
 ·
  first
   | (exfalso; omega)
   | (
    refine c_cond_t rfl ?_
    refine c_skip ?_
    refine e_next ?_
    refine c_seq ?_
    refine c_block ?_
    refine c_seq ?_
    refine c_region ?_
    refine r_iaddr_g .none rfl Try.underlying62 sz92 rfl hr rfl (by first | exact of_decide_eq_true rfl | omega) (fun p_6 o_7 R_5 => ?_)
    refine r_val .none rfl (p_ldga0 Try.underlying92 rfl sz92 rfl R_5 (by first | exact of_decide_eq_true rfl | omega) (rfl : _ = Value.agg #[_, _, _])) ?_
    refine r_alloc .none rfl zr92 (IsRow.lit _) (fun b_1 => ?_)
    refine r_stw (k := 0) .none sz92 rfl rfl (IsRow.lit _) (one_lit rfl rfl) rfl ?_
    refine r_nil ?_
    refine e_next ?_
    refine c_seq ?_
    refine c_seq ?_
    refine c_region ?_
    refine r_val .none rfl (p_field Try.underlying92 rfl sz3 rfl) ?_
    refine r_val .none rfl (p_ld (k := 0) Try.underlying3 rfl rfl rfl (by first | exact of_decide_eq_true rfl | omega) (rfl : _ = Value.int _ _)) ?_
    refine r_val .none rfl (p_move rfl) ?_
    refine r_val .none rfl (p_le rfl rfl) ?_
    refine r_val .none rfl (p_move rfl) ?_
    refine' r_or (c := 16) (d := 20) [_, _, _, _] rfl (fun h_8 Q_9 hQ_10 => ?_) (fun h_8 Q_9 hQ_10 => ?_) ?_
    rotate_left 1
    ·
     replace h_8 := of_decide_eq_false h_8
     refine r_val (.some rfl rfl) rfl (p_field Try.underlying92 rfl sz3 rfl) ?_
     refine r_val (.some rfl rfl) rfl (p_ld (k := 0) Try.underlying3 rfl rfl rfl (by first | exact of_decide_eq_true rfl | omega) (rfl : _ = Value.int _ _)) ?_
     refine r_val (.some rfl rfl) rfl (p_gt rfl rfl) ?_
     refine r_val .none rfl (p_pick_f rfl rfl) ?_
     refine r_nil (e_fin (d := 20) hQ_10 rfl (by repeat (first | exact .refl | refine .put rfl ?_ | refine .say rfl ?_ | refine .say2 rfl (by first | assumption | simp_all) ?_)))
    ·
     repeat (first | refine r_skip rfl (.no rfl rfl) ?_ | refine r_skip rfl (.un rfl rfl) ?_)
     refine r_val (by first | exact .none | exact .some rfl rfl) rfl (p_pick_t rfl rfl) ?_
     refine r_nil (e_fin (d := 20) hQ_10 rfl (by repeat (first | exact .refl | refine .put rfl ?_ | refine .say rfl ?_ | refine .say2 rfl (by first | assumption | simp_all) ?_)))
    refine r_val .none rfl (p_move rfl) ?_
    refine' r_or (c := 21) (d := 25) [_, _, _, _] rfl (fun h_12 Q_13 hQ_14 => ?_) (fun h_12 Q_13 hQ_14 => ?_) ?_
    rotate_left 1
    ·
     try simp only [norms] at h_12
     refine r_val (.some rfl rfl) rfl (p_field Try.underlying92 rfl sz3 rfl) ?_
     refine r_val (.some rfl rfl) rfl (p_ld (k := 0) Try.underlying3 rfl rfl rfl (by first | exact of_decide_eq_true rfl | omega) (rfl : _ = Value.int _ _)) ?_
     refine r_val (.some rfl rfl) rfl (p_lt rfl rfl) ?_
     refine r_val .none rfl (p_pick_f rfl rfl) ?_
     refine r_nil (e_fin (d := 25) hQ_14 rfl (by repeat (first | exact .refl | refine .put rfl ?_ | refine .say rfl ?_ | refine .say2 rfl (by first | assumption | simp_all) ?_)))
    ·
     repeat (first | refine r_skip rfl (.no rfl rfl) ?_ | refine r_skip rfl (.un rfl rfl) ?_)
     refine r_val (by first | exact .none | exact .some rfl rfl) rfl (p_pick_t rfl rfl) ?_
     refine r_nil (e_fin (d := 25) hQ_14 rfl (by repeat (first | exact .refl | refine .put rfl ?_ | refine .say rfl ?_ | refine .say2 rfl (by first | assumption | simp_all) ?_)))
    refine r_val .none rfl (p_move rfl) ?_
    refine' r_or (c := 26) (d := 30) [_, _, _, _] rfl (fun h_16 Q_17 hQ_18 => ?_) (fun h_16 Q_17 hQ_18 => ?_) ?_
    rotate_left 1
    ·
     try simp only [norms] at h_16
     refine r_val (.some rfl rfl) rfl (p_field Try.underlying92 rfl sz3 rfl) ?_
     refine r_val (.some rfl rfl) rfl (p_ld (k := 0) Try.underlying3 rfl rfl rfl (by first | exact of_decide_eq_true rfl | omega) (rfl : _ = Value.int _ _)) ?_
     refine r_val (.some rfl rfl) rfl (p_ge rfl rfl) ?_
     refine r_val .none rfl (p_pick_f rfl rfl) ?_
     refine r_nil (e_fin (d := 30) hQ_18 rfl (by repeat (first | exact .refl | refine .put rfl ?_ | refine .say rfl ?_ | refine .say2 rfl (by first | assumption | simp_all) ?_)))
    ·
     repeat (first | refine r_skip rfl (.no rfl rfl) ?_ | refine r_skip rfl (.un rfl rfl) ?_)
     refine r_val (by first | exact .none | exact .some rfl rfl) rfl (p_pick_t rfl rfl) ?_
     refine r_nil (e_fin (d := 30) hQ_18 rfl (by repeat (first | exact .refl | refine .put rfl ?_ | refine .say rfl ?_ | refine .say2 rfl (by first | assumption | simp_all) ?_)))
    refine r_val .none rfl (p_move rfl) ?_
    refine' r_or (c := 31) (d := 35) [_, _, _, _] rfl (fun h_20 Q_21 hQ_22 => ?_) (fun h_20 Q_21 hQ_22 => ?_) ?_
    rotate_left 1
    ·
     try simp only [norms] at h_20
     refine r_val (.some rfl rfl) rfl (p_field Try.underlying92 rfl sz3 rfl) ?_
     refine r_val (.some rfl rfl) rfl (p_ld (k := 0) Try.underlying3 rfl rfl rfl (by first | exact of_decide_eq_true rfl | omega) (rfl : _ = Value.int _ _)) ?_
     refine r_val (.some rfl rfl) rfl (p_lt rfl rfl) ?_
     refine r_val .none rfl (p_pick_f rfl rfl) ?_
     refine r_nil (e_fin (d := 35) hQ_22 rfl (by repeat (first | exact .refl | refine .put rfl ?_ | refine .say rfl ?_ | refine .say2 rfl (by first | assumption | simp_all) ?_)))
    ·
     repeat (first | refine r_skip rfl (.no rfl rfl) ?_ | refine r_skip rfl (.un rfl rfl) ?_)
     refine r_val (by first | exact .none | exact .some rfl rfl) rfl (p_pick_t rfl rfl) ?_
     refine r_nil (e_fin (d := 35) hQ_22 rfl (by repeat (first | exact .refl | refine .put rfl ?_ | refine .say rfl ?_ | refine .say2 rfl (by first | assumption | simp_all) ?_)))
    refine r_val .none rfl (p_move rfl) ?_
    refine' r_or (c := 36) (d := 40) [_, _, _, _] rfl (fun h_24 Q_25 hQ_26 => ?_) (fun h_24 Q_25 hQ_26 => ?_) ?_
    rotate_left 1
    ·
     try simp only [norms] at h_24
     refine r_val (.some rfl rfl) rfl (p_field Try.underlying92 rfl sz3 rfl) ?_
     refine r_val (.some rfl rfl) rfl (p_ld (k := 0) Try.underlying3 rfl rfl rfl (by first | exact of_decide_eq_true rfl | omega) (rfl : _ = Value.int _ _)) ?_
     refine r_val (.some rfl rfl) rfl (p_gt rfl rfl) ?_
     refine r_val .none rfl (p_pick_f rfl rfl) ?_
     refine r_nil (e_fin (d := 40) hQ_26 rfl (by repeat (first | exact .refl | refine .put rfl ?_ | refine .say rfl ?_ | refine .say2 rfl (by first | assumption | simp_all) ?_)))
    ·
     repeat (first | refine r_skip rfl (.no rfl rfl) ?_ | refine r_skip rfl (.un rfl rfl) ?_)
     refine r_val (by first | exact .none | exact .some rfl rfl) rfl (p_pick_t rfl rfl) ?_
     refine r_nil (e_fin (d := 40) hQ_26 rfl (by repeat (first | exact .refl | refine .put rfl ?_ | refine .say rfl ?_ | refine .say2 rfl (by first | assumption | simp_all) ?_)))
    refine r_val .none rfl (p_move rfl) ?_
    refine' r_or (c := 41) (d := 52) [_, _, _, _, _, _, _, _, _, _, _] rfl (fun h_28 Q_29 hQ_30 => ?_) (fun h_28 Q_29 hQ_30 => ?_) ?_
    rotate_left 1
    ·
     try simp only [norms] at h_28
     refine r_val (.some rfl rfl) rfl (p_field Try.underlying92 rfl sz3 rfl) ?_
     refine r_val (.some rfl rfl) rfl (p_ld (k := 0) Try.underlying3 rfl rfl rfl (by first | exact of_decide_eq_true rfl | omega) (rfl : _ = Value.int _ _)) ?_
     refine r_val (.some rfl rfl) rfl (p_lt rfl rfl) ?_
     refine r_val (.some rfl rfl) rfl (p_move rfl) ?_
     refine' r_and (c := 45) (d := 51) [_, _, _, _, _, _] rfl (fun h_32 Q_33 hQ_34 => ?_) (fun h_32 Q_33 hQ_34 => ?_) ?_
     rotate_left 1
     ·
      replace h_32 := of_decide_eq_true h_32
      refine r_val (.some rfl rfl) rfl (p_field Try.underlying92 rfl sz3 rfl) ?_
      refine r_val (.some rfl rfl) rfl (p_ld (k := 0) Try.underlying3 rfl rfl rfl (by first | exact of_decide_eq_true rfl | omega) (rfl : _ = Value.int _ _)) ?_
      refine r_val (.some rfl rfl) rfl (p_field Try.underlying92 rfl sz3 rfl) ?_
      refine r_val (.some rfl rfl) rfl (p_ld (k := 0) Try.underlying3 rfl rfl rfl (by first | exact of_decide_eq_true rfl | omega) (rfl : _ = Value.int _ _)) ?_
      refine r_val (.some rfl rfl) rfl (p_ge rfl rfl) ?_
      refine r_val (.some rfl rfl) rfl (p_pick_t rfl rfl) ?_
      refine r_nil (e_fin (d := 51) hQ_34 rfl (by repeat (first | exact .refl | refine .put rfl ?_ | refine .say rfl ?_ | refine .say2 rfl (by first | assumption | simp_all) ?_)))
     ·
      repeat (first | refine r_skip rfl (.no rfl rfl) ?_ | refine r_skip rfl (.un rfl rfl) ?_)
      refine r_val (by first | exact .none | exact .some rfl rfl) rfl (p_pick_f rfl rfl) ?_
      refine r_nil (e_fin (d := 51) hQ_34 rfl (by repeat (first | exact .refl | refine .put rfl ?_ | refine .say rfl ?_ | refine .say2 rfl (by first | assumption | simp_all) ?_)))
     refine r_val .none rfl (p_pick_f rfl rfl) ?_
     refine r_nil (e_fin (d := 52) hQ_30 rfl (by repeat (first | exact .refl | refine .put rfl ?_ | refine .say rfl ?_ | refine .say2 rfl (by first | assumption | simp_all) ?_)))
    ·
     repeat (first | refine r_skip rfl (.no rfl rfl) ?_ | refine r_skip rfl (.un rfl rfl) ?_)
     refine r_val (by first | exact .none | exact .some rfl rfl) rfl (p_pick_t rfl rfl) ?_
     refine r_nil (e_fin (d := 52) hQ_30 rfl (by repeat (first | exact .refl | refine .put rfl ?_ | refine .say rfl ?_ | refine .say2 rfl (by first | assumption | simp_all) ?_)))
    refine r_nil ?_
    refine e_next ?_
    refine c_split (d := 52) rfl (fun h_36 => ?_) (fun h_36 => ?_)
    ·
     try simp only [norms] at h_36
     have hN : tBad (zs.getD k t0) (lastF zs k) := by have hx := h_36; unfold tBad; omega
     first
      | (exfalso; omega)
      | (
       refine c_cond_t rfl ?_
       refine c_seq ?_
       refine c_region ?_
       refine r_val .none rfl (p_assign rfl) ?_
       refine r_nil ?_
       refine e_next ?_
       refine c_ret ?_
       refine e_ret_then ?_
       refine e_ret_block ?_
       refine e_ret_then ?_
       refine e_ret_then ?_
       refine e_ret_block ?_
       refine e_ret_then ?_
       refine e_ret1 Try.results70 (.tmp rfl .nil) (fun w hm => ⟨?_, hm.since⟩)
       first
       | (rw [← hphi.2, tsRight_bad (by omega) hN]; done)
       | (rw [← hphi.2, List.drop_eq_nil_of_le (by omega)]; rfl)
       )
    ·
     try simp only [norms] at h_36
     have hN : ¬ tBad (zs.getD k t0) (lastF zs k) := by have hx := h_36; unfold tBad; omega
     first
      | (exfalso; omega)
      | (
       refine c_cond_f rfl ?_
       refine c_skip ?_
       refine e_next ?_
       refine c_region ?_
       refine r_val .none rfl (p_field Try.underlying92 rfl sz3 rfl) ?_
       refine r_val .none rfl (p_ld (k := 0) Try.underlying3 rfl rfl rfl (by first | exact of_decide_eq_true rfl | omega) (rfl : _ = Value.int _ _)) ?_
       refine r_val .none rfl (p_assign rfl) ?_
       refine r_nil ?_
       refine e_norm_block ?_
       refine e_next ?_
       refine c_region ?_
       refine r_val .none rfl (p_add rfl rfl (by omega)) ?_
       refine r_val .none rfl (p_move rfl) ?_
       refine r_nil ?_
       refine e_round (k + 1) ⟨⟨by omega, by rw [← hphi.2, tsRight_next (by omega) hN]; rfl⟩, by omega⟩ rfl ⟨rfl, rfl, rfl, rfl, trivial⟩ (.drop (.nil))
       )
    )
 ·
  first
   | (exfalso; omega)
   | (
    refine c_cond_f rfl ?_
    refine c_exit ?_
    refine e_exit_then ?_
    refine e_exit_then ?_
    refine e_exit_block ?_
    refine e_next ?_
    refine c_seq ?_
    refine c_region ?_
    refine r_val .none rfl (p_assign rfl) ?_
    refine r_nil ?_
    refine e_next ?_
    refine c_ret ?_
    refine e_ret1 Try.results70 (.tmp rfl .nil) (fun w hm => ⟨?_, hm.since⟩)
    first
    | (rw [← hphi.2, tsRight_bad (by omega) hN]; done)
    | (rw [← hphi.2, List.drop_eq_nil_of_le (by omega)]; rfl)
    )
theorem c_cright_s (n : Nat) (ih : CrightIs n) (c : ST) (ta sb : Value) (d x : Int) (p : Nat) {G : Ghost} {F : Nat → Prop} (hz : SizeOf.sizeOf c ≤ n + 1) (hb : (0 ≤ x ∧ x ≤ 16) ∧ 0 ≤ d ∧ d ≤ 4) (ht : SlL G ta 3 tC t0 c.h.ts) (hs : Ss G sb c.subs) (w : World) (hG : Has G w) (hA : (cntA 3 p x).holds w F) (hFG : ∀ b, F b → G b = none) :
  Calls Try.prog 54 #[Value.agg #[Value.int .i64 c.h.k, Value.int .i64 c.h.k0, Value.int .i64 c.h.k1, Value.int .i64 c.h.k2, ta, sb], Value.int .i64 d, Value.pointer (some ⟨p, 0, none⟩)] w (Ret fun r w' => r = Value.bool (cR c d x).1 ∧ Kept (cntA 3 p (cR c d x).2) F w w') := by
 refine enterO (args := [_, _, _]) (G := G) (A := cntA 3 p x) (l := [(0, Value.agg #[Value.int .i64 c.h.k, Value.int .i64 c.h.k0, Value.int .i64 c.h.k1, Value.int .i64 c.h.k2, ta, sb]), (1, Value.int .i64 d), (2, Value.pointer (some ⟨p, 0, none⟩))]) Try.func54 rfl Try.ntmps54 hG hA hFG ⟨rfl, rfl, rfl, trivial⟩ (Nat.le_of_ble_eq_true rfl) ?_
 obtain ⟨rs, hr, hpt, hps, hl⟩ := hs.inv
 have hlen : c.subs.length = rs.length := by rw [hl]; simp
 have hbd := hr.bound
 have hbt := ht.bound
 refine c_seq ?_
 refine c_region ?_
 refine r_box .none rfl rfl (IsRow.lit _) (fun b_1 => ?_)
 refine r_val .none rfl (p_assign rfl) ?_
 refine r_nil ?_
 refine e_next ?_
 refine c_seq ?_
 refine c_seq ?_
 refine c_region ?_
 refine r_val .none rfl (p_move rfl) ?_
 refine r_val .none rfl (p_nilcheck rfl) ?_
 refine r_val .none rfl (p_ld (k := 1) Try.underlying3 rfl rfl rfl (by first | exact of_decide_eq_true rfl | omega) (rfl : _ = Value.int _ _)) ?_
 refine r_val .none rfl (p_add rfl rfl (by omega)) ?_
 refine r_val .none rfl (p_nilcheck rfl) ?_
 refine r_st (k := 1) .none sz3 rfl rfl rfl rfl (by first | exact of_decide_eq_true rfl | omega) ?_
 refine r_nil ?_
 refine e_next ?_
 refine c_seq ?_
 refine c_region ?_
 refine r_val .none rfl (p_move rfl) ?_
 refine r_val .none rfl (p_nilcheck rfl) ?_
 refine r_val .none rfl (p_ld (k := 1) Try.underlying3 rfl rfl rfl (by first | exact of_decide_eq_true rfl | omega) (rfl : _ = Value.int _ _)) ?_
 refine r_val .none rfl (p_gt rfl rfl) ?_
 refine r_val .none rfl (p_move rfl) ?_
 refine' r_or (c := 18) (d := 21) [_, _, _] rfl (fun h_1 Q_2 hQ_3 => ?_) (fun h_1 Q_2 hQ_3 => ?_) ?_
 rotate_left 1
 ·
  replace h_1 := of_decide_eq_false h_1
  refine r_val (.some rfl rfl) rfl (p_move rfl) ?_
  refine r_val (.some rfl rfl) rfl (p_gt rfl rfl) ?_
  refine r_val .none rfl (p_pick_f rfl rfl) ?_
  refine r_nil (e_fin (d := 21) hQ_3 rfl (by repeat (first | exact .refl | refine .put rfl ?_ | refine .say rfl ?_ | refine .say2 rfl (by first | assumption | simp_all) ?_)))
 ·
  repeat (first | refine r_skip rfl (.no rfl rfl) ?_ | refine r_skip rfl (.un rfl rfl) ?_)
  refine r_val (by first | exact .none | exact .some rfl rfl) rfl (p_pick_t rfl rfl) ?_
  refine r_nil (e_fin (d := 21) hQ_3 rfl (by repeat (first | exact .refl | refine .put rfl ?_ | refine .say rfl ?_ | refine .say2 rfl (by first | assumption | simp_all) ?_)))
 refine r_nil ?_
 refine e_next ?_
 refine c_split (d := 21) rfl (fun h_5 => ?_) (fun h_5 => ?_)
 ·
  try simp only [norms] at h_5
  first
   | (exfalso; omega)
   | (
    refine c_cond_t rfl ?_
    refine c_seq ?_
    refine c_region ?_
    refine r_val .none rfl (p_assign rfl) ?_
    refine r_nil ?_
    refine e_next ?_
    refine c_ret ?_
    refine e_ret_then ?_
    refine e_ret1 Try.results54 (.tmp rfl .nil) (fun w hm => ?_)
    first
    | (have he : cR c d x = (false, x + 1) := (by exact cR_big (by first | assumption | omega)); have he2 := congrArg Prod.snd he; refine ⟨?_, hm.kept [cntA 3 p ((cR c d x).2)] (.drop (.keep (fun _ _ h => by first | exact h | (have e : (cR c d x).2 = _ := he2; rw [e]; exact box_congr (fun i hi => by match i, hi with | 0, _ => rfl) _ _ h)) (.nil))) (cntA 3 p ((cR c d x).2)) (fun F' h => starL_one h)⟩; rw [he]; done)
    | (have he : cR c d x = (keyOk c.h && (decide (c.subs.length = 0) && tsRight c.h.ts (-1)), x + 1) := (by exact cR_posneg (by first | assumption | omega) (by first | assumption | omega)); have he2 := congrArg Prod.snd he; refine ⟨?_, hm.kept [cntA 3 p ((cR c d x).2)] (.drop (.keep (fun _ _ h => by first | exact h | (have e : (cR c d x).2 = _ := he2; rw [e]; exact box_congr (fun i hi => by match i, hi with | 0, _ => rfl) _ _ h)) (.nil))) (cntA 3 p ((cR c d x).2)) (fun F' h => starL_one h)⟩; rw [he]; exact congrArg Value.bool (by rw [Bool.and_assoc]; congr 2; exact decide_eq_decide.2 (by omega)))
    | (have he : cR c d x = (false, x + 1) := (by exact cR_bad (by first | assumption | omega) (by first | assumption | omega) (by rcases hB with ((h | h) | h) | h; exact .inl (.inl (.inl h)); exact .inl (.inl (.inr h)); exact .inl (.inr (by omega)); exact .inr (by omega))); have he2 := congrArg Prod.snd he; refine ⟨?_, hm.kept [cntA 3 p ((cR c d x).2)] (.drop (.keep (fun _ _ h => by first | exact h | (have e : (cR c d x).2 = _ := he2; rw [e]; exact box_congr (fun i hi => by match i, hi with | 0, _ => rfl) _ _ h)) (.nil))) (cntA 3 p ((cR c d x).2)) (fun F' h => starL_one h)⟩; rw [he]; done)
    | (have he : cR c d x = (false, (cR (rs.getD k s0).1 (d + 1) t).2) := (by rw [cR_in (by first | assumption | omega) (by first | assumption | omega) hB2, ← hs3, hl, sv_drop (by omega), cRL_no hE]); have he2 := congrArg Prod.snd he; refine ⟨?_, hm.kept [cntA 3 p ((cR c d x).2)] (.drop (.keep (fun _ _ h => by first | exact h | (have e : (cR c d x).2 = _ := he2; rw [e]; exact box_congr (fun i hi => by match i, hi with | 0, _ => rfl) _ _ h)) (.nil))) (cntA 3 p ((cR c d x).2)) (fun F' h => starL_one h)⟩; rw [he]; done)
    | (have he : cR c d x = (true, t) := (by rw [cR_in (by first | assumption | omega) (by first | assumption | omega) hB2, ← hs3, hl, List.drop_eq_nil_of_le (by simp; omega), cRL]); have he2 := congrArg Prod.snd he; refine ⟨?_, hm.kept [cntA 3 p ((cR c d x).2)] (.drop (.keep (fun _ _ h => by first | exact h | (have e : (cR c d x).2 = _ := he2; rw [e]; exact box_congr (fun i hi => by match i, hi with | 0, _ => rfl) _ _ h)) (.nil))) (cntA 3 p ((cR c d x).2)) (fun F' h => starL_one h)⟩; rw [he]; done)
    )
 ·
  try simp only [norms] at h_5
  first
   | (exfalso; omega)
   | (
    refine c_cond_f rfl ?_
    refine c_skip ?_
    refine e_next ?_
    refine c_seq ?_
    refine c_seq ?_
    refine c_region ?_
    refine r_val .none rfl (p_field Try.underlying64 rfl sz3 rfl) ?_
    refine r_val .none rfl (p_ld (k := 0) Try.underlying3 rfl rfl rfl (by first | exact of_decide_eq_true rfl | omega) (rfl : _ = Value.int _ _)) ?_
    refine r_val .none rfl (p_eq rfl rfl) ?_
    refine r_val .none rfl (p_move rfl) ?_
    refine' r_or (c := 25) (d := 29) [_, _, _, _] rfl (fun h_6 Q_7 hQ_8 => ?_) (fun h_6 Q_7 hQ_8 => ?_) ?_
    rotate_left 1
    ·
     replace h_6 := of_decide_eq_false h_6
     refine r_val (.some rfl rfl) rfl (p_field Try.underlying64 rfl sz3 rfl) ?_
     refine r_val (.some rfl rfl) rfl (p_ld (k := 0) Try.underlying3 rfl rfl rfl (by first | exact of_decide_eq_true rfl | omega) (rfl : _ = Value.int _ _)) ?_
     refine r_val (.some rfl rfl) rfl (p_eq rfl rfl) ?_
     refine r_val .none rfl (p_pick_f rfl rfl) ?_
     refine r_nil (e_fin (d := 29) hQ_8 rfl (by repeat (first | exact .refl | refine .put rfl ?_ | refine .say rfl ?_ | refine .say2 rfl (by first | assumption | simp_all) ?_)))
    ·
     repeat (first | refine r_skip rfl (.no rfl rfl) ?_ | refine r_skip rfl (.un rfl rfl) ?_)
     refine r_val (by first | exact .none | exact .some rfl rfl) rfl (p_pick_t rfl rfl) ?_
     refine r_nil (e_fin (d := 29) hQ_8 rfl (by repeat (first | exact .refl | refine .put rfl ?_ | refine .say rfl ?_ | refine .say2 rfl (by first | assumption | simp_all) ?_)))
    refine r_nil ?_
    refine e_next ?_
    refine c_split (d := 29) rfl (fun h_10 => ?_) (fun h_10 => ?_)
    ·
     try simp only [norms] at h_10
     first
      | (exfalso; omega)
      | (
       refine c_cond_t rfl ?_
       refine c_seq ?_
       refine c_region ?_
       refine r_val .none rfl (p_field Try.underlying64 rfl sz61 rfl) ?_
       refine r_val .none rfl (p_lda (k := 0) Try.underlying61 rfl sz61 rfl rfl (by first | exact of_decide_eq_true rfl | omega) (rfl : _ = Value.agg #[_, _, _])) ?_
       refine r_call (vs := [_]) .none rfl cl69 rfl (fun w hw => c_keyright _ _ _ w) ?_
       refine r_val .none rfl (p_move rfl) ?_
       refine' r_and (c := 33) (d := 38) [_, _, _, _, _] rfl (fun h_11 Q_12 hQ_13 => ?_) (fun h_11 Q_12 hQ_13 => ?_) ?_
       rotate_left 1
       ·
        refine r_val (.some rfl rfl) rfl (p_field Try.underlying64 rfl sz50 rfl) ?_
        refine r_val (.some rfl rfl) rfl (p_ld (k := 0) Try.underlying50 rfl rfl rfl (by first | exact of_decide_eq_true rfl | omega) rfl) ?_
        refine r_val (.some rfl rfl) rfl (p_leng Try.underlying50 rfl hr) ?_
        have bd_15 := (hr).bound
        refine r_val (.some rfl rfl) rfl (p_eq rfl rfl) ?_
        refine r_val .none rfl (p_pick_t rfl rfl) ?_
        refine r_nil (e_fin (d := 38) hQ_13 rfl (by repeat (first | exact .refl | refine .put rfl ?_ | refine .say rfl ?_ | refine .say2 rfl (by first | assumption | simp_all) ?_)))
       ·
        repeat (first | refine r_skip rfl (.no rfl rfl) ?_ | refine r_skip rfl (.un rfl rfl) ?_)
        refine r_val (by first | exact .none | exact .some rfl rfl) rfl (p_pick_f rfl rfl) ?_
        refine r_nil (e_fin (d := 38) hQ_13 rfl (by repeat (first | exact .refl | refine .put rfl ?_ | refine .say rfl ?_ | refine .say2 rfl (by first | assumption | simp_all) ?_)))
       refine r_val .none rfl (p_move rfl) ?_
       refine' r_and (c := 39) (d := 43) [_, _, _, _] rfl (fun h_16 Q_17 hQ_18 => ?_) (fun h_16 Q_17 hQ_18 => ?_) ?_
       rotate_left 1
       ·
        try simp only [norms] at h_16
        refine r_val (.some rfl rfl) rfl (p_field Try.underlying64 rfl sz62 rfl) ?_
        refine r_val (.some rfl rfl) rfl (p_ld (k := 0) Try.underlying62 rfl rfl rfl (by first | exact of_decide_eq_true rfl | omega) rfl) ?_
        refine r_call (vs := [_]) (.some rfl rfl) rfl cl70 rfl (fun w hw => c_rtests _ _ ht w hw) ?_
        refine r_val .none rfl (p_pick_t rfl rfl) ?_
        refine r_nil (e_fin (d := 43) hQ_18 rfl (by repeat (first | exact .refl | refine .put rfl ?_ | refine .say rfl ?_ | refine .say2 rfl (by first | assumption | simp_all) ?_)))
       ·
        repeat (first | refine r_skip rfl (.no rfl rfl) ?_ | refine r_skip rfl (.un rfl rfl) ?_)
        refine r_val (by first | exact .none | exact .some rfl rfl) rfl (p_pick_f rfl rfl) ?_
        refine r_nil (e_fin (d := 43) hQ_18 rfl (by repeat (first | exact .refl | refine .put rfl ?_ | refine .say rfl ?_ | refine .say2 rfl (by first | assumption | simp_all) ?_)))
       refine r_val .none rfl (p_assign rfl) ?_
       refine r_nil ?_
       refine e_next ?_
       refine c_ret ?_
       refine e_ret_then ?_
       refine e_ret1 Try.results54 (.tmp rfl .nil) (fun w hm => ?_)
       first
       | (have he : cR c d x = (false, x + 1) := (by exact cR_big (by first | assumption | omega)); have he2 := congrArg Prod.snd he; refine ⟨?_, hm.kept [cntA 3 p ((cR c d x).2)] (.drop (.keep (fun _ _ h => by first | exact h | (have e : (cR c d x).2 = _ := he2; rw [e]; exact box_congr (fun i hi => by match i, hi with | 0, _ => rfl) _ _ h)) (.nil))) (cntA 3 p ((cR c d x).2)) (fun F' h => starL_one h)⟩; rw [he]; done)
       | (have he : cR c d x = (keyOk c.h && (decide (c.subs.length = 0) && tsRight c.h.ts (-1)), x + 1) := (by exact cR_posneg (by first | assumption | omega) (by first | assumption | omega)); have he2 := congrArg Prod.snd he; refine ⟨?_, hm.kept [cntA 3 p ((cR c d x).2)] (.drop (.keep (fun _ _ h => by first | exact h | (have e : (cR c d x).2 = _ := he2; rw [e]; exact box_congr (fun i hi => by match i, hi with | 0, _ => rfl) _ _ h)) (.nil))) (cntA 3 p ((cR c d x).2)) (fun F' h => starL_one h)⟩; rw [he]; exact congrArg Value.bool (by rw [Bool.and_assoc]; congr 2; exact decide_eq_decide.2 (by omega)))
       | (have he : cR c d x = (false, x + 1) := (by exact cR_bad (by first | assumption | omega) (by first | assumption | omega) (by rcases hB with ((h | h) | h) | h; exact .inl (.inl (.inl h)); exact .inl (.inl (.inr h)); exact .inl (.inr (by omega)); exact .inr (by omega))); have he2 := congrArg Prod.snd he; refine ⟨?_, hm.kept [cntA 3 p ((cR c d x).2)] (.drop (.keep (fun _ _ h => by first | exact h | (have e : (cR c d x).2 = _ := he2; rw [e]; exact box_congr (fun i hi => by match i, hi with | 0, _ => rfl) _ _ h)) (.nil))) (cntA 3 p ((cR c d x).2)) (fun F' h => starL_one h)⟩; rw [he]; done)
       | (have he : cR c d x = (false, (cR (rs.getD k s0).1 (d + 1) t).2) := (by rw [cR_in (by first | assumption | omega) (by first | assumption | omega) hB2, ← hs3, hl, sv_drop (by omega), cRL_no hE]); have he2 := congrArg Prod.snd he; refine ⟨?_, hm.kept [cntA 3 p ((cR c d x).2)] (.drop (.keep (fun _ _ h => by first | exact h | (have e : (cR c d x).2 = _ := he2; rw [e]; exact box_congr (fun i hi => by match i, hi with | 0, _ => rfl) _ _ h)) (.nil))) (cntA 3 p ((cR c d x).2)) (fun F' h => starL_one h)⟩; rw [he]; done)
       | (have he : cR c d x = (true, t) := (by rw [cR_in (by first | assumption | omega) (by first | assumption | omega) hB2, ← hs3, hl, List.drop_eq_nil_of_le (by simp; omega), cRL]); have he2 := congrArg Prod.snd he; refine ⟨?_, hm.kept [cntA 3 p ((cR c d x).2)] (.drop (.keep (fun _ _ h => by first | exact h | (have e : (cR c d x).2 = _ := he2; rw [e]; exact box_congr (fun i hi => by match i, hi with | 0, _ => rfl) _ _ h)) (.nil))) (cntA 3 p ((cR c d x).2)) (fun F' h => starL_one h)⟩; rw [he]; done)
       )
    ·
     try simp only [norms] at h_10
     first
      | (exfalso; omega)
      | (
       refine c_cond_f rfl ?_
       refine c_skip ?_
       refine e_next ?_
       refine c_seq ?_
       refine c_seq ?_
       refine c_region ?_
       refine r_val .none rfl (p_field Try.underlying64 rfl sz3 rfl) ?_
       refine r_val .none rfl (p_ld (k := 0) Try.underlying3 rfl rfl rfl (by first | exact of_decide_eq_true rfl | omega) (rfl : _ = Value.int _ _)) ?_
       refine r_val .none rfl (p_ne rfl rfl) ?_
       refine r_val .none rfl (p_move rfl) ?_
       refine' r_or (c := 47) (d := 52) [_, _, _, _, _] rfl (fun h_20 Q_21 hQ_22 => ?_) (fun h_20 Q_21 hQ_22 => ?_) ?_
       rotate_left 1
       ·
        replace h_20 := of_decide_eq_false h_20
        refine r_val (.some rfl rfl) rfl (p_field Try.underlying64 rfl sz61 rfl) ?_
        refine r_val (.some rfl rfl) rfl (p_lda (k := 0) Try.underlying61 rfl sz61 rfl rfl (by first | exact of_decide_eq_true rfl | omega) (rfl : _ = Value.agg #[_, _, _])) ?_
        refine r_val (.some rfl rfl) rfl (p_build (vs := []) rfl (bl61_ )) ?_
        refine r_val (.some rfl rfl) rfl (p_nea rfl rfl (eq_flat Try.underlying61 rfl lf61 ef61 eg61 (.cons (.int Try.underlying3) (.cons (.int Try.underlying3) (.cons (.int Try.underlying3) (.nil)))) (.cons (.int Try.underlying3) (.cons (.int Try.underlying3) (.cons (.int Try.underlying3) (.nil)))))) ?_
        refine r_val .none rfl (p_pick_f rfl rfl) ?_
        refine r_nil (e_fin (d := 52) hQ_22 rfl (by repeat (first | exact .refl | refine .put rfl ?_ | refine .say rfl ?_ | refine .say2 rfl (by first | assumption | simp_all) ?_)))
       ·
        repeat (first | refine r_skip rfl (.no rfl rfl) ?_ | refine r_skip rfl (.un rfl rfl) ?_)
        refine r_val (by first | exact .none | exact .some rfl rfl) rfl (p_pick_t rfl rfl) ?_
        refine r_nil (e_fin (d := 52) hQ_22 rfl (by repeat (first | exact .refl | refine .put rfl ?_ | refine .say rfl ?_ | refine .say2 rfl (by first | assumption | simp_all) ?_)))
       refine r_val .none rfl (p_move rfl) ?_
       refine' r_or (c := 53) (d := 58) [_, _, _, _, _] rfl (fun h_24 Q_25 hQ_26 => ?_) (fun h_24 Q_25 hQ_26 => ?_) ?_
       rotate_left 1
       ·
        try simp only [norms] at h_24
        refine r_val (.some rfl rfl) rfl (p_field Try.underlying64 rfl sz62 rfl) ?_
        refine r_val (.some rfl rfl) rfl (p_ld (k := 0) Try.underlying62 rfl rfl rfl (by first | exact of_decide_eq_true rfl | omega) rfl) ?_
        refine r_val (.some rfl rfl) rfl (p_leng Try.underlying62 rfl ht) ?_
        have bd_28 := (ht).bound
        refine r_val (.some rfl rfl) rfl (p_gt rfl rfl) ?_
        refine r_val .none rfl (p_pick_f rfl rfl) ?_
        refine r_nil (e_fin (d := 58) hQ_26 rfl (by repeat (first | exact .refl | refine .put rfl ?_ | refine .say rfl ?_ | refine .say2 rfl (by first | assumption | simp_all) ?_)))
       ·
        repeat (first | refine r_skip rfl (.no rfl rfl) ?_ | refine r_skip rfl (.un rfl rfl) ?_)
        refine r_val (by first | exact .none | exact .some rfl rfl) rfl (p_pick_t rfl rfl) ?_
        refine r_nil (e_fin (d := 58) hQ_26 rfl (by repeat (first | exact .refl | refine .put rfl ?_ | refine .say rfl ?_ | refine .say2 rfl (by first | assumption | simp_all) ?_)))
       refine r_val .none rfl (p_move rfl) ?_
       refine' r_or (c := 59) (d := 64) [_, _, _, _, _] rfl (fun h_29 Q_30 hQ_31 => ?_) (fun h_29 Q_30 hQ_31 => ?_) ?_
       rotate_left 1
       ·
        try simp only [norms] at h_29
        refine r_val (.some rfl rfl) rfl (p_field Try.underlying64 rfl sz50 rfl) ?_
        refine r_val (.some rfl rfl) rfl (p_ld (k := 0) Try.underlying50 rfl rfl rfl (by first | exact of_decide_eq_true rfl | omega) rfl) ?_
        refine r_val (.some rfl rfl) rfl (p_leng Try.underlying50 rfl hr) ?_
        have bd_33 := (hr).bound
        refine r_val (.some rfl rfl) rfl (p_eq rfl rfl) ?_
        refine r_val .none rfl (p_pick_f rfl rfl) ?_
        refine r_nil (e_fin (d := 64) hQ_31 rfl (by repeat (first | exact .refl | refine .put rfl ?_ | refine .say rfl ?_ | refine .say2 rfl (by first | assumption | simp_all) ?_)))
       ·
        repeat (first | refine r_skip rfl (.no rfl rfl) ?_ | refine r_skip rfl (.un rfl rfl) ?_)
        refine r_val (by first | exact .none | exact .some rfl rfl) rfl (p_pick_t rfl rfl) ?_
        refine r_nil (e_fin (d := 64) hQ_31 rfl (by repeat (first | exact .refl | refine .put rfl ?_ | refine .say rfl ?_ | refine .say2 rfl (by first | assumption | simp_all) ?_)))
       refine r_nil ?_
       refine e_next ?_
       refine c_split (d := 64) rfl (fun h_34 => ?_) (fun h_34 => ?_)
       ·
        try simp only [norms] at h_34
        have hB : ((¬ c.h.k = 3 ∨ keyNone c.h = false) ∨ (0 : Int) < (c.h.ts.length : Int)) ∨ (rs.length : Int) = 0 := h_34
        first
         | (exfalso; omega)
         | (
          refine c_cond_t rfl ?_
          refine c_seq ?_
          refine c_region ?_
          refine r_val .none rfl (p_assign rfl) ?_
          refine r_nil ?_
          refine e_next ?_
          refine c_ret ?_
          refine e_ret_then ?_
          refine e_ret1 Try.results54 (.tmp rfl .nil) (fun w hm => ?_)
          first
          | (have he : cR c d x = (false, x + 1) := (by exact cR_big (by first | assumption | omega)); have he2 := congrArg Prod.snd he; refine ⟨?_, hm.kept [cntA 3 p ((cR c d x).2)] (.drop (.keep (fun _ _ h => by first | exact h | (have e : (cR c d x).2 = _ := he2; rw [e]; exact box_congr (fun i hi => by match i, hi with | 0, _ => rfl) _ _ h)) (.nil))) (cntA 3 p ((cR c d x).2)) (fun F' h => starL_one h)⟩; rw [he]; done)
          | (have he : cR c d x = (keyOk c.h && (decide (c.subs.length = 0) && tsRight c.h.ts (-1)), x + 1) := (by exact cR_posneg (by first | assumption | omega) (by first | assumption | omega)); have he2 := congrArg Prod.snd he; refine ⟨?_, hm.kept [cntA 3 p ((cR c d x).2)] (.drop (.keep (fun _ _ h => by first | exact h | (have e : (cR c d x).2 = _ := he2; rw [e]; exact box_congr (fun i hi => by match i, hi with | 0, _ => rfl) _ _ h)) (.nil))) (cntA 3 p ((cR c d x).2)) (fun F' h => starL_one h)⟩; rw [he]; exact congrArg Value.bool (by rw [Bool.and_assoc]; congr 2; exact decide_eq_decide.2 (by omega)))
          | (have he : cR c d x = (false, x + 1) := (by exact cR_bad (by first | assumption | omega) (by first | assumption | omega) (by rcases hB with ((h | h) | h) | h; exact .inl (.inl (.inl h)); exact .inl (.inl (.inr h)); exact .inl (.inr (by omega)); exact .inr (by omega))); have he2 := congrArg Prod.snd he; refine ⟨?_, hm.kept [cntA 3 p ((cR c d x).2)] (.drop (.keep (fun _ _ h => by first | exact h | (have e : (cR c d x).2 = _ := he2; rw [e]; exact box_congr (fun i hi => by match i, hi with | 0, _ => rfl) _ _ h)) (.nil))) (cntA 3 p ((cR c d x).2)) (fun F' h => starL_one h)⟩; rw [he]; done)
          | (have he : cR c d x = (false, (cR (rs.getD k s0).1 (d + 1) t).2) := (by rw [cR_in (by first | assumption | omega) (by first | assumption | omega) hB2, ← hs3, hl, sv_drop (by omega), cRL_no hE]); have he2 := congrArg Prod.snd he; refine ⟨?_, hm.kept [cntA 3 p ((cR c d x).2)] (.drop (.keep (fun _ _ h => by first | exact h | (have e : (cR c d x).2 = _ := he2; rw [e]; exact box_congr (fun i hi => by match i, hi with | 0, _ => rfl) _ _ h)) (.nil))) (cntA 3 p ((cR c d x).2)) (fun F' h => starL_one h)⟩; rw [he]; done)
          | (have he : cR c d x = (true, t) := (by rw [cR_in (by first | assumption | omega) (by first | assumption | omega) hB2, ← hs3, hl, List.drop_eq_nil_of_le (by simp; omega), cRL]); have he2 := congrArg Prod.snd he; refine ⟨?_, hm.kept [cntA 3 p ((cR c d x).2)] (.drop (.keep (fun _ _ h => by first | exact h | (have e : (cR c d x).2 = _ := he2; rw [e]; exact box_congr (fun i hi => by match i, hi with | 0, _ => rfl) _ _ h)) (.nil))) (cntA 3 p ((cR c d x).2)) (fun F' h => starL_one h)⟩; rw [he]; done)
          )
       ·
        try simp only [norms] at h_34
        have hB : ((c.h.k = 3 ∧ keyNone c.h = true) ∧ ¬ (0 : Int) < (c.h.ts.length : Int)) ∧ ¬ (rs.length : Int) = 0 := h_34
        have hB2 : ¬ (((c.h.k ≠ 3 ∨ keyNone c.h = false) ∨ 0 < c.h.ts.length) ∨ c.subs.length = 0) := by rintro (((h | h) | h) | h); exact h hB.1.1.1; rw [hB.1.1.2] at h; cases h; omega; omega
        first
         | (exfalso; omega)
         | (
          refine c_cond_f rfl ?_
          refine c_skip ?_
          refine e_next ?_
          refine c_seq ?_
          refine c_seq ?_
          refine c_region ?_
          refine r_val .none rfl (p_field Try.underlying64 rfl sz50 rfl) ?_
          refine r_val .none rfl (p_ld (k := 0) Try.underlying50 rfl rfl rfl (by first | exact of_decide_eq_true rfl | omega) rfl) ?_
          refine r_val .none rfl (p_leng Try.underlying50 rfl hr) ?_
          have bd_35 := (hr).bound
          refine r_val .none rfl (p_move rfl) ?_
          refine r_nil ?_
          refine e_next ?_
          refine c_block ?_
          refine c_name (d := 1) rfl (fun u_36 hu_36 => ?_)
          refine c_name (d := 2) rfl (fun u_37 hu_37 => ?_)
          refine c_name (d := 66) rfl (fun u_38 hu_38 => ?_)
          refine c_name (d := 67) rfl (fun u_39 hu_39 => ?_)
          refine c_nameL (k := 0) rfl (fun A_40 hA_40 => ?_)
          refine c_loop (σ := Nat × Int) (fun s => [(68, Value.int .i64 (s.1 : Nat)), (1, u_36), (2, u_37), (66, u_38), (67, u_39)]) (fun s => [A_40, box p 1 3 (at_ [.int .i64 s.2])]) (fun _ => _) (fun s => s.1 ≤ rs.length ∧ (0 ≤ s.2 ∧ s.2 ≤ 16) ∧ cRL (c.subs.drop s.1) (d + 1) s.2 = cRL c.subs (d + 1) (x + 1)) (fun s => rs.length - s.1) ((0, x + 1)) ⟨Nat.zero_le _, by dsimp only; omega, rfl⟩ rfl ⟨rfl, rfl, rfl, rfl, rfl, trivial⟩ (.keep (fun _ _ h => h) (.keep (fun _ _ h => box_congr (fun i hi => by match i, hi with | 0, _ => rfl) _ _ h) (.nil))) (fun s hphi => ?_)
          subst hu_36
          subst hu_37
          subst hu_38
          subst hu_39
          subst hA_40
          obtain ⟨k, t⟩ := s
          obtain ⟨hk, ht3, hs3⟩ := hphi
          dsimp only at hk ht3 hs3 ⊢
          refine c_seq ?_
          refine c_region ?_
          refine r_val .none rfl (p_lt rfl rfl) ?_
          refine r_nil ?_
          refine e_next ?_
          refine c_seq ?_
          refine c_splitd (d := 69) rfl (fun h_41 => ?_) (fun h_41 => ?_)
          ·
           first
            | (exfalso; omega)
            | (
             refine c_cond_t rfl ?_
             refine c_skip ?_
             refine e_next ?_
             refine c_seq ?_
             refine c_block ?_
             refine c_seq ?_
             refine c_region ?_
             refine r_iaddr_g .none rfl Try.underlying50 sz64 rfl hr rfl (by first | exact of_decide_eq_true rfl | omega) (fun p_43 o_44 R_42 => ?_)
             have ht_45 := hpt _ (getD_mem (i := k) (d := s0) (by omega))
             have hc_46 := hps _ (getD_mem (i := k) (d := s0) (by omega))
             refine r_val .none rfl (p_ldga0 Try.underlying64 rfl sz64 rfl R_42 (by first | exact of_decide_eq_true rfl | omega) (rfl : _ = Value.agg #[_, _, _, _, _, _])) ?_
             refine r_alloc .none rfl zr64 (IsRow.lit _) (fun b_2 => ?_)
             refine r_stw (k := 0) .none sz64 rfl rfl (IsRow.lit _) (one_lit rfl (all_cons rfl (all_cons rfl (all_cons rfl (all_cons rfl (all_cons (ht_45).one (all_cons (hc_46).one rfl))))))) rfl ?_
             refine r_nil ?_
             refine e_next ?_
             refine c_seq ?_
             refine c_region ?_
             refine r_val .none rfl (p_ldw (k := 0) Try.underlying64 rfl sz64 rfl rfl (rfl : _ = Value.agg #[_, _, _, _, _, _])) ?_
             refine r_val .none rfl (p_move rfl) ?_
             refine r_val .none rfl (p_add rfl rfl (by omega)) ?_
             refine r_val .none rfl (p_move rfl) ?_
             refine r_callo (k := 2) (vs := [_, _, _]) .none rfl cl54 rfl rfl (fun w F hw hA hFG => ih (rs.getD k s0).1 _ _ _ _ _ _ _ w (ssz_at hl (by omega) hz) (by omega) ht_45 hc_46 hw hA hFG) ?_
             refine r_val .none rfl (p_not rfl) ?_
             refine r_nil ?_
             refine e_next ?_
             refine c_splitn (d := 77) rfl (fun h_47 => ?_) (fun h_47 => ?_)
             ·
              have hE := h_47
              first
               | (exfalso; omega)
               | (
                refine c_cond_t rfl ?_
                refine c_seq ?_
                refine c_region ?_
                refine r_val .none rfl (p_assign rfl) ?_
                refine r_nil ?_
                refine e_next ?_
                refine c_ret ?_
                refine e_ret_block ?_
                refine e_ret_then ?_
                refine e_ret_then ?_
                refine e_ret_block ?_
                refine e_ret_then ?_
                refine e_ret1 Try.results54 (.tmp rfl .nil) (fun w hm => ?_)
                first
                | (have he : cR c d x = (false, x + 1) := (by exact cR_big (by first | assumption | omega)); have he2 := congrArg Prod.snd he; refine ⟨?_, hm.kept [cntA 3 p ((cR c d x).2)] (.drop (.drop (.keep (fun _ _ h => by first | exact h | (have e : (cR c d x).2 = _ := he2; rw [e]; exact box_congr (fun i hi => by match i, hi with | 0, _ => rfl) _ _ h)) (.nil)))) (cntA 3 p ((cR c d x).2)) (fun F' h => starL_one h)⟩; rw [he]; done)
                | (have he : cR c d x = (keyOk c.h && (decide (c.subs.length = 0) && tsRight c.h.ts (-1)), x + 1) := (by exact cR_posneg (by first | assumption | omega) (by first | assumption | omega)); have he2 := congrArg Prod.snd he; refine ⟨?_, hm.kept [cntA 3 p ((cR c d x).2)] (.drop (.drop (.keep (fun _ _ h => by first | exact h | (have e : (cR c d x).2 = _ := he2; rw [e]; exact box_congr (fun i hi => by match i, hi with | 0, _ => rfl) _ _ h)) (.nil)))) (cntA 3 p ((cR c d x).2)) (fun F' h => starL_one h)⟩; rw [he]; exact congrArg Value.bool (by rw [Bool.and_assoc]; congr 2; exact decide_eq_decide.2 (by omega)))
                | (have he : cR c d x = (false, x + 1) := (by exact cR_bad (by first | assumption | omega) (by first | assumption | omega) (by rcases hB with ((h | h) | h) | h; exact .inl (.inl (.inl h)); exact .inl (.inl (.inr h)); exact .inl (.inr (by omega)); exact .inr (by omega))); have he2 := congrArg Prod.snd he; refine ⟨?_, hm.kept [cntA 3 p ((cR c d x).2)] (.drop (.drop (.keep (fun _ _ h => by first | exact h | (have e : (cR c d x).2 = _ := he2; rw [e]; exact box_congr (fun i hi => by match i, hi with | 0, _ => rfl) _ _ h)) (.nil)))) (cntA 3 p ((cR c d x).2)) (fun F' h => starL_one h)⟩; rw [he]; done)
                | (have he : cR c d x = (false, (cR (rs.getD k s0).1 (d + 1) t).2) := (by rw [cR_in (by first | assumption | omega) (by first | assumption | omega) hB2, ← hs3, hl, sv_drop (by omega), cRL_no hE]); have he2 := congrArg Prod.snd he; refine ⟨?_, hm.kept [cntA 3 p ((cR c d x).2)] (.drop (.drop (.keep (fun _ _ h => by first | exact h | (have e : (cR c d x).2 = _ := he2; rw [e]; exact box_congr (fun i hi => by match i, hi with | 0, _ => rfl) _ _ h)) (.nil)))) (cntA 3 p ((cR c d x).2)) (fun F' h => starL_one h)⟩; rw [he]; done)
                | (have he : cR c d x = (true, t) := (by rw [cR_in (by first | assumption | omega) (by first | assumption | omega) hB2, ← hs3, hl, List.drop_eq_nil_of_le (by simp; omega), cRL]); have he2 := congrArg Prod.snd he; refine ⟨?_, hm.kept [cntA 3 p ((cR c d x).2)] (.drop (.drop (.keep (fun _ _ h => by first | exact h | (have e : (cR c d x).2 = _ := he2; rw [e]; exact box_congr (fun i hi => by match i, hi with | 0, _ => rfl) _ _ h)) (.nil)))) (cntA 3 p ((cR c d x).2)) (fun F' h => starL_one h)⟩; rw [he]; done)
                )
             ·
              have hE := h_47
              first
               | (exfalso; omega)
               | (
                refine c_cond_f rfl ?_
                refine c_skip ?_
                refine e_norm_block ?_
                refine e_next ?_
                refine c_region ?_
                refine r_val .none rfl (p_add rfl rfl (by omega)) ?_
                refine r_val .none rfl (p_move rfl) ?_
                refine r_nil ?_
                refine e_round ((k + 1, (cR (rs.getD k s0).1 (d + 1) t).2)) ⟨⟨by dsimp only; omega, by have := cR_bd (rs.getD k s0).1 (d + 1) t ht3.1 ht3.2; exact ⟨by dsimp only; omega, this.2.2 hE⟩, by rw [← hs3, hl, sv_drop (k := k) (by omega), cRL_yes hE]⟩, by dsimp only; omega⟩ rfl ⟨rfl, rfl, rfl, rfl, rfl, trivial⟩ (.drop (.keep (fun _ _ h => h) (.keep (fun _ _ h => h) (.nil))))
                )
             )
          ·
           first
            | (exfalso; omega)
            | (
             refine c_cond_f rfl ?_
             refine c_exit ?_
             refine e_exit_then ?_
             refine e_exit_then ?_
             refine e_exit_block ?_
             refine e_next ?_
             refine c_seq ?_
             refine c_region ?_
             refine r_val .none rfl (p_assign rfl) ?_
             refine r_nil ?_
             refine e_next ?_
             refine c_ret ?_
             refine e_ret1 Try.results54 (.tmp rfl .nil) (fun w hm => ?_)
             first
             | (have he : cR c d x = (false, x + 1) := (by exact cR_big (by first | assumption | omega)); have he2 := congrArg Prod.snd he; refine ⟨?_, hm.kept [cntA 3 p ((cR c d x).2)] (.drop (.keep (fun _ _ h => by first | exact h | (have e : (cR c d x).2 = _ := he2; rw [e]; exact box_congr (fun i hi => by match i, hi with | 0, _ => rfl) _ _ h)) (.nil))) (cntA 3 p ((cR c d x).2)) (fun F' h => starL_one h)⟩; rw [he]; done)
             | (have he : cR c d x = (keyOk c.h && (decide (c.subs.length = 0) && tsRight c.h.ts (-1)), x + 1) := (by exact cR_posneg (by first | assumption | omega) (by first | assumption | omega)); have he2 := congrArg Prod.snd he; refine ⟨?_, hm.kept [cntA 3 p ((cR c d x).2)] (.drop (.keep (fun _ _ h => by first | exact h | (have e : (cR c d x).2 = _ := he2; rw [e]; exact box_congr (fun i hi => by match i, hi with | 0, _ => rfl) _ _ h)) (.nil))) (cntA 3 p ((cR c d x).2)) (fun F' h => starL_one h)⟩; rw [he]; exact congrArg Value.bool (by rw [Bool.and_assoc]; congr 2; exact decide_eq_decide.2 (by omega)))
             | (have he : cR c d x = (false, x + 1) := (by exact cR_bad (by first | assumption | omega) (by first | assumption | omega) (by rcases hB with ((h | h) | h) | h; exact .inl (.inl (.inl h)); exact .inl (.inl (.inr h)); exact .inl (.inr (by omega)); exact .inr (by omega))); have he2 := congrArg Prod.snd he; refine ⟨?_, hm.kept [cntA 3 p ((cR c d x).2)] (.drop (.keep (fun _ _ h => by first | exact h | (have e : (cR c d x).2 = _ := he2; rw [e]; exact box_congr (fun i hi => by match i, hi with | 0, _ => rfl) _ _ h)) (.nil))) (cntA 3 p ((cR c d x).2)) (fun F' h => starL_one h)⟩; rw [he]; done)
             | (have he : cR c d x = (false, (cR (rs.getD k s0).1 (d + 1) t).2) := (by rw [cR_in (by first | assumption | omega) (by first | assumption | omega) hB2, ← hs3, hl, sv_drop (by omega), cRL_no hE]); have he2 := congrArg Prod.snd he; refine ⟨?_, hm.kept [cntA 3 p ((cR c d x).2)] (.drop (.keep (fun _ _ h => by first | exact h | (have e : (cR c d x).2 = _ := he2; rw [e]; exact box_congr (fun i hi => by match i, hi with | 0, _ => rfl) _ _ h)) (.nil))) (cntA 3 p ((cR c d x).2)) (fun F' h => starL_one h)⟩; rw [he]; done)
             | (have he : cR c d x = (true, t) := (by rw [cR_in (by first | assumption | omega) (by first | assumption | omega) hB2, ← hs3, hl, List.drop_eq_nil_of_le (by simp; omega), cRL]); have he2 := congrArg Prod.snd he; refine ⟨?_, hm.kept [cntA 3 p ((cR c d x).2)] (.drop (.keep (fun _ _ h => by first | exact h | (have e : (cR c d x).2 = _ := he2; rw [e]; exact box_congr (fun i hi => by match i, hi with | 0, _ => rfl) _ _ h)) (.nil))) (cntA 3 p ((cR c d x).2)) (fun F' h => starL_one h)⟩; rw [he]; done)
             )
          )
       )
    )
theorem c_cright_n : ∀ n, CrightIs n
 | 0 => fun c ta sb d x p G F w hz _ _ _ _ _ _ => absurd hz (by have := s_pos c; omega)
 | n + 1 => fun c ta sb d x p G F w hz hb ht hs hG hA hFG => c_cright_s n (c_cright_n n) c ta sb d x p hz hb ht hs w hG hA hFG
theorem c_cright (c : ST) (ta sb : Value) (d x : Int) (p : Nat) {G : Ghost} {F : Nat → Prop} (hb : (0 ≤ x ∧ x ≤ 16) ∧ 0 ≤ d ∧ d ≤ 4) (ht : SlL G ta 3 tC t0 c.h.ts) (hs : Ss G sb c.subs) (w : World) (hG : Has G w) (hA : (cntA 3 p x).holds w F) (hFG : ∀ b, F b → G b = none) : Calls Try.prog 54 #[Value.agg #[Value.int .i64 c.h.k, Value.int .i64 c.h.k0, Value.int .i64 c.h.k1, Value.int .i64 c.h.k2, ta, sb], Value.int .i64 d, Value.pointer (some ⟨p, 0, none⟩)] w (Ret fun r w' => r = Value.bool (cR c d x).1 ∧ Kept (cntA 3 p (cR c d x).2) F w w') := c_cright_n _ c ta sb d x p G F w (Nat.le_refl _) hb ht hs hG hA hFG
theorem c_cRight (c : ST) (ta sb : Value) {G : Ghost} (ht : SlL G ta 3 tC t0 c.h.ts) (hs : Ss G sb c.subs) (w : World) (hG : Has G w) :
  Calls Try.prog 31 #[Value.agg #[Value.int .i64 c.h.k, Value.int .i64 c.h.k0, Value.int .i64 c.h.k1, Value.int .i64 c.h.k2, ta, sb]] w (Ret fun r w' => r = Value.bool (cR c 1 0).1 ∧ Since nX w w') := by
 refine enter (args := [_]) (X := nX) (G := G) (l := [(0, Value.agg #[Value.int .i64 c.h.k, Value.int .i64 c.h.k0, Value.int .i64 c.h.k1, Value.int .i64 c.h.k2, ta, sb])]) Try.func31 rfl Try.ntmps31 hG ⟨rfl, trivial⟩ (Nat.le_of_ble_eq_true rfl) ?_
 refine c_seq ?_
 refine c_region ?_
 refine r_box .none rfl rfl (IsRow.lit _) (fun b_1 => ?_)
 refine r_val .none rfl (p_assign rfl) ?_
 refine r_nil ?_
 refine e_next ?_
 refine c_seq ?_
 refine c_region ?_
 refine r_alloc .none rfl zr3 (IsRow.lit [_]) (fun b_2 => ?_)
 refine r_st (k := 0) .none sz3 rfl rfl rfl rfl (by first | exact of_decide_eq_true rfl | omega) ?_
 refine r_nil ?_
 refine e_next ?_
 refine c_seq ?_
 refine c_region ?_
 refine r_val .none rfl (p_ldw (k := 1) Try.underlying64 rfl sz64 rfl rfl (rfl : _ = Value.agg #[_, _, _, _, _, _])) ?_
 refine r_callo (k := 0) (vs := [_, _, _]) .none rfl cl54 rfl rfl (fun w F hw hA hFG => c_cright c ta sb 1 0 _ (by omega) ht hs w hw (box_congr (fun i hi => by match i, hi with | 0, _ => rfl) _ _ hA) hFG) ?_
 refine r_val .none rfl (p_assign rfl) ?_
 refine r_nil ?_
 refine e_next ?_
 refine c_ret ?_
 refine e_ret1 Try.results31 (.tmp rfl .nil) (fun w hm => ⟨?_, hm.since⟩)
 rfl
end Go.Proofs.Ytoflaphnlfggkaa

/- Walks: what Go functions of this chapter come to, each as a function on plain data; no condition but those that each theorem names. Printed by a program of this work (gen.py). -/
namespace Go.Proofs.Ytoflaphnlfggkaa
open Go.Gx Go.Gx.T4 Go.Gx.T3 Go.Gx.T6 Go.Gx.T8 Go.Gx.T4 Go.Gx.T3 Go.Gx.T8 Go.Gx.T4 Go.Gx.T3 Go.Gx.T8 Go.Gx.T6 Go.Gx.T4 Go.Gx.T3
theorem lf60 : leafT Try.prog 9 60 = some [3, 3, 3] := by
 kernel_rfl
theorem ef60 : eqT Try.prog 9 60 = true := by
 kernel_rfl
theorem eg60 : Try.prog.eqGuardType Try.prog.depth 60 = false := by
 kernel_rfl
theorem cl36 : Callable Try.prog 36 := callable Try.func36 (by kernel_rfl) rfl
theorem cl37 : Callable Try.prog 37 := callable Try.func37 (by kernel_rfl) rfl
theorem cl56 : Callable Try.prog 56 := callable Try.func56 (by kernel_rfl) rfl
theorem cl57 : Callable Try.prog 57 := callable Try.func57 (by kernel_rfl) rfl
theorem bl60_  : Program.built Try.prog 60 [] = some #[Value.int .i64 0, Value.int .i64 0, Value.int .i64 0] := by
 kernel_rfl
def FewIs (n : Nat) : Prop := ∀ (c : ST) (ta sb : Value) (d x : Int) (p : Nat) (G : Ghost) (F : Nat → Prop) (w : World), SizeOf.sizeOf c ≤ n → ((0 ≤ x ∧ x ≤ 90) ∧ -1 ≤ d ∧ d ≤ 5) ∧ ltS c → SlL G ta 3 tC t0 c.h.ts → Ss G sb c.subs → Has G w → (cntA 3 p x).holds w F → (∀ b, F b → G b = none) → Calls Try.prog 36 #[Value.agg #[Value.int .i64 c.h.k, Value.int .i64 c.h.k0, Value.int .i64 c.h.k1, Value.int .i64 c.h.k2, ta, sb], Value.int .i64 d, Value.pointer (some ⟨p, 0, none⟩)] w (Ret fun r w' => r = Value.bool (fw c d x).1 ∧ Kept (cntA 3 p (fw c d x).2) F w w')
def SsizeIs (n : Nat) : Prop := ∀ (c : ST) (ta sb : Value) (G : Ghost) (w : World), SizeOf.sizeOf c ≤ n → ssize c ≤ 5000 → SlL G ta 3 tC t0 c.h.ts → Ss G sb c.subs → Has G w → Calls Try.prog 56 #[Value.agg #[Value.int .i64 c.h.k, Value.int .i64 c.h.k0, Value.int .i64 c.h.k1, Value.int .i64 c.h.k2, ta, sb]] w (Ret fun r w' => r = Value.int .i64 (ssize c : Nat) ∧ Since nX w w')
def RrightIs (n : Nat) : Prop := ∀ (c : ST) (ta sb : Value) (d : Int) (G : Ghost) (w : World), SizeOf.sizeOf c ≤ n → (0 ≤ d ∧ d ≤ 4) ∧ ssize c ≤ 5000 → SlL G ta 3 tC t0 c.h.ts → Ss G sb c.subs → Has G w → Calls Try.prog 37 #[Value.agg #[Value.int .i64 c.h.k, Value.int .i64 c.h.k0, Value.int .i64 c.h.k1, Value.int .i64 c.h.k2, ta, sb], Value.int .i64 d] w (Ret fun r w' => r = Value.bool (rR c d) ∧ Since nX w w')
theorem c_few_s (n : Nat) (ih : FewIs n) (c : ST) (ta sb : Value) (d x : Int) (p : Nat) {G : Ghost} {F : Nat → Prop} (hz : SizeOf.sizeOf c ≤ n + 1) (hb : ((0 ≤ x ∧ x ≤ 90) ∧ -1 ≤ d ∧ d ≤ 5) ∧ ltS c) (ht : SlL G ta 3 tC t0 c.h.ts) (hs : Ss G sb c.subs) (w : World) (hG : Has G w) (hA : (cntA 3 p x).holds w F) (hFG : ∀ b, F b → G b = none) :
  Calls Try.prog 36 #[Value.agg #[Value.int .i64 c.h.k, Value.int .i64 c.h.k0, Value.int .i64 c.h.k1, Value.int .i64 c.h.k2, ta, sb], Value.int .i64 d, Value.pointer (some ⟨p, 0, none⟩)] w (Ret fun r w' => r = Value.bool (fw c d x).1 ∧ Kept (cntA 3 p (fw c d x).2) F w w') := by
 refine enterO (args := [_, _, _]) (G := G) (A := cntA 3 p x) (l := [(0, Value.agg #[Value.int .i64 c.h.k, Value.int .i64 c.h.k0, Value.int .i64 c.h.k1, Value.int .i64 c.h.k2, ta, sb]), (1, Value.int .i64 d), (2, Value.pointer (some ⟨p, 0, none⟩))]) Try.func36 rfl Try.ntmps36 hG hA hFG ⟨rfl, rfl, rfl, trivial⟩ (Nat.le_of_ble_eq_true rfl) ?_
 obtain ⟨rs, hr, hpt, hps, hl⟩ := hs.inv
 have hlen : c.subs.length = rs.length := by rw [hl]; simp
 have hbd := hr.bound
 have hbt := ht.bound
 have hlt := ltS_len hb.2
 refine c_seq ?_
 refine c_region ?_
 refine r_box .none rfl rfl (IsRow.lit _) (fun b_1 => ?_)
 refine r_val .none rfl (p_assign rfl) ?_
 refine r_nil ?_
 refine e_next ?_
 refine c_seq ?_
 refine c_seq ?_
 refine c_region_d (fun j => [9].contains j) _ mixed (.keep (fun _ _ h => h) (.keep (fun _ _ h => h) (.nil))) ?_
 refine d_val1 0 rfl rfl (by kernel_rfl) (fun j hj => by have h : 9 < j := (Nat.lt_of_lt_of_le (by decide : 9 < 10) hj); simp; omega) .none rfl (p_move rfl) ?_
 refine d_val1 1 rfl rfl (by kernel_rfl) (fun j hj => by have h : 9 < j := (Nat.lt_of_lt_of_le (by decide : 9 < 10) hj); simp; omega) .none rfl (p_nilcheck rfl) ?_
 refine d_val1 2 rfl rfl (by kernel_rfl) (fun j hj => by have h : 9 < j := (Nat.lt_of_lt_of_le (by decide : 9 < 10) hj); simp; omega) .none rfl (p_ld (k := 1) Try.underlying3 rfl rfl rfl (by first | exact of_decide_eq_true rfl | omega) (rfl : _ = Value.int _ _)) ?_
 refine d_val1 3 rfl rfl (by kernel_rfl) (fun j hj => by have h : 9 < j := (Nat.lt_of_lt_of_le (by decide : 9 < 10) hj); simp; omega) .none rfl (p_field Try.underlying64 rfl sz62 rfl) ?_
 refine d_val1 4 rfl rfl (by kernel_rfl) (fun j hj => by have h : 9 < j := (Nat.lt_of_lt_of_le (by decide : 9 < 10) hj); simp; omega) .none rfl (p_ld (k := 0) Try.underlying62 rfl rfl rfl (by first | exact of_decide_eq_true rfl | omega) rfl) ?_
 refine d_val1 5 rfl rfl (by kernel_rfl) (fun j hj => by have h : 9 < j := (Nat.lt_of_lt_of_le (by decide : 9 < 10) hj); simp; omega) .none rfl (p_leng Try.underlying62 rfl ht) ?_
 have bd_1 := (ht).bound
 refine d_val1 6 rfl rfl (by kernel_rfl) (fun j hj => by have h : 9 < j := (Nat.lt_of_lt_of_le (by decide : 9 < 10) hj); simp; omega) .none rfl (p_add rfl rfl (by omega)) ?_
 refine d_val1 7 rfl rfl (by kernel_rfl) (fun j hj => by have h : 9 < j := (Nat.lt_of_lt_of_le (by decide : 9 < 10) hj); simp; omega) .none rfl (p_add rfl rfl (by omega)) ?_
 refine d_val1 8 rfl rfl (by kernel_rfl) (fun j hj => by have h : 9 < j := (Nat.lt_of_lt_of_le (by decide : 9 < 10) hj); simp; omega) .none rfl (p_nilcheck rfl) ?_
 refine d_eff 9 rfl (by kernel_rfl) (fun K_2 hKK_2 hcK_2 => ?_)
 refine r_st (k := 1) .none sz3 rfl rfl rfl rfl (by first | exact of_decide_eq_true rfl | omega) ?_
 refine r_nil (e_d (i := 9) (brk := (fun j => [9].contains j)) (ph' := false) hKK_2 hcK_2 rfl (fun h => by cases h) (fun h => by cases h) ?_)
 clear hKK_2 hcK_2 K_2
 refine d_nil (by kernel_rfl) ?_
 refine e_next ?_
 refine c_seq ?_
 refine c_region ?_
 refine r_val .none rfl (p_move rfl) ?_
 refine r_val .none rfl (p_nilcheck rfl) ?_
 refine r_val .none rfl (p_ld (k := 1) Try.underlying3 rfl rfl rfl (by first | exact of_decide_eq_true rfl | omega) (rfl : _ = Value.int _ _)) ?_
 refine r_val .none rfl (p_gt rfl rfl) ?_
 refine r_val .none rfl (p_move rfl) ?_
 refine' r_or (c := 22) (d := 25) [_, _, _] rfl (fun h_3 Q_4 hQ_5 => ?_) (fun h_3 Q_4 hQ_5 => ?_) ?_
 rotate_left 1
 ·
  replace h_3 := of_decide_eq_false h_3
  refine r_val (.some rfl rfl) rfl (p_move rfl) ?_
  refine r_val (.some rfl rfl) rfl (p_lt rfl rfl) ?_
  refine r_val .none rfl (p_pick_f rfl rfl) ?_
  refine r_nil (e_fin (d := 25) hQ_5 rfl (by repeat (first | exact .refl | refine .put rfl ?_ | refine .say rfl ?_ | refine .say2 rfl (by first | assumption | simp_all) ?_)))
 ·
  repeat (first | refine r_skip rfl (.no rfl rfl) ?_ | refine r_skip rfl (.un rfl rfl) ?_)
  refine r_val (by first | exact .none | exact .some rfl rfl) rfl (p_pick_t rfl rfl) ?_
  refine r_nil (e_fin (d := 25) hQ_5 rfl (by repeat (first | exact .refl | refine .put rfl ?_ | refine .say rfl ?_ | refine .say2 rfl (by first | assumption | simp_all) ?_)))
 refine r_nil ?_
 refine e_next ?_
 refine c_split (d := 25) rfl (fun h_7 => ?_) (fun h_7 => ?_)
 ·
  try simp only [norms] at h_7
  first
   | (exfalso; omega)
   | (
    refine c_cond_t rfl ?_
    refine c_seq ?_
    refine c_region ?_
    refine r_val .none rfl (p_assign rfl) ?_
    refine r_nil ?_
    refine e_next ?_
    refine c_ret ?_
    refine e_ret_then ?_
    refine e_ret1 Try.results36 (.tmp rfl .nil) (fun w hm => ?_)
    first
    | (have he : fw c d x = (false, x + (1 + c.h.ts.length)) := (by rw [fw_eq, if_pos (by omega)]); have he2 := congrArg Prod.snd he; refine ⟨?_, hm.kept [cntA 3 p ((fw c d x).2)] (.drop (.keep (fun _ _ h => by first | exact h | (have e : (fw c d x).2 = _ := he2; rw [e]; exact box_congr (fun i hi => by match i, hi with | 0, _ => rfl) _ _ h)) (.nil))) (cntA 3 p ((fw c d x).2)) (fun F' h => starL_one h)⟩; rw [he]; done)
    | (have he : fw c d x = (false, (fw (rs.getD k s0).1 (d - 1) t).2) := (by rw [fw_eq, if_neg (by omega), ← hs3, hl, sv_drop (by omega), fwL_no hE]); have he2 := congrArg Prod.snd he; refine ⟨?_, hm.kept [cntA 3 p ((fw c d x).2)] (.drop (.keep (fun _ _ h => by first | exact h | (have e : (fw c d x).2 = _ := he2; rw [e]; exact box_congr (fun i hi => by match i, hi with | 0, _ => rfl) _ _ h)) (.nil))) (cntA 3 p ((fw c d x).2)) (fun F' h => starL_one h)⟩; rw [he]; done)
    | (have he : fw c d x = (true, t) := (by rw [fw_eq, if_neg (by omega), ← hs3, hl, List.drop_eq_nil_of_le (by simp; omega), fwL]); have he2 := congrArg Prod.snd he; refine ⟨?_, hm.kept [cntA 3 p ((fw c d x).2)] (.drop (.keep (fun _ _ h => by first | exact h | (have e : (fw c d x).2 = _ := he2; rw [e]; exact box_congr (fun i hi => by match i, hi with | 0, _ => rfl) _ _ h)) (.nil))) (cntA 3 p ((fw c d x).2)) (fun F' h => starL_one h)⟩; rw [he]; done)
    )
 ·
  try simp only [norms] at h_7
  first
   | (exfalso; omega)
   | (
    refine c_cond_f rfl ?_
    refine c_skip ?_
    refine e_next ?_
    refine c_seq ?_
    refine c_seq ?_
    refine c_region ?_
    refine r_val .none rfl (p_field Try.underlying64 rfl sz50 rfl) ?_
    refine r_val .none rfl (p_ld (k := 0) Try.underlying50 rfl rfl rfl (by first | exact of_decide_eq_true rfl | omega) rfl) ?_
    refine r_val .none rfl (p_leng Try.underlying50 rfl hr) ?_
    have bd_8 := (hr).bound
    refine r_val .none rfl (p_move rfl) ?_
    refine r_nil ?_
    refine e_next ?_
    refine c_block ?_
    refine c_name (d := 1) rfl (fun u_9 hu_9 => ?_)
    refine c_name (d := 2) rfl (fun u_10 hu_10 => ?_)
    refine c_name (d := 27) rfl (fun u_11 hu_11 => ?_)
    refine c_name (d := 28) rfl (fun u_12 hu_12 => ?_)
    refine c_nameL (k := 0) rfl (fun A_13 hA_13 => ?_)
    refine c_loop (σ := Nat × Int) (fun s => [(29, Value.int .i64 (s.1 : Nat)), (1, u_9), (2, u_10), (27, u_11), (28, u_12)]) (fun s => [A_13, box p 1 3 (at_ [.int .i64 s.2])]) (fun _ => _) (fun s => s.1 ≤ rs.length ∧ (0 ≤ s.2 ∧ s.2 ≤ 90) ∧ fwL (c.subs.drop s.1) (d - 1) s.2 = fwL c.subs (d - 1) (x + (1 + c.h.ts.length))) (fun s => rs.length - s.1) ((0, x + (1 + c.h.ts.length))) ⟨Nat.zero_le _, by dsimp only; omega, rfl⟩ rfl ⟨rfl, rfl, rfl, rfl, rfl, trivial⟩ (.keep (fun _ _ h => h) (.keep (fun _ _ h => box_congr (fun i hi => by match i, hi with | 0, _ => rfl) _ _ h) (.nil))) (fun s hphi => ?_)
    subst hu_9
    subst hu_10
    subst hu_11
    subst hu_12
    subst hA_13
    obtain ⟨k, t⟩ := s
    obtain ⟨hk, ht3, hs3⟩ := hphi
    dsimp only at hk ht3 hs3 ⊢
    refine c_seq ?_
    refine c_region ?_
    refine r_val .none rfl (p_lt rfl rfl) ?_
    refine r_nil ?_
    refine e_next ?_
    refine c_seq ?_
    refine c_splitd (d := 30) rfl (fun h_14 => ?_) (fun h_14 => ?_)
    ·
     first
      | (exfalso; omega)
      | (
       refine c_cond_t rfl ?_
       refine c_skip ?_
       refine e_next ?_
       refine c_seq ?_
       refine c_block ?_
       refine c_seq ?_
       refine c_region ?_
       refine r_iaddr_g .none rfl Try.underlying50 sz64 rfl hr rfl (by first | exact of_decide_eq_true rfl | omega) (fun p_16 o_17 R_15 => ?_)
       have ht_18 := hpt _ (getD_mem (i := k) (d := s0) (by omega))
       have hc_19 := hps _ (getD_mem (i := k) (d := s0) (by omega))
       refine r_val .none rfl (p_ldga0 Try.underlying64 rfl sz64 rfl R_15 (by first | exact of_decide_eq_true rfl | omega) (rfl : _ = Value.agg #[_, _, _, _, _, _])) ?_
       refine r_alloc .none rfl zr64 (IsRow.lit _) (fun b_2 => ?_)
       refine r_stw (k := 0) .none sz64 rfl rfl (IsRow.lit _) (one_lit rfl (all_cons rfl (all_cons rfl (all_cons rfl (all_cons rfl (all_cons (ht_18).one (all_cons (hc_19).one rfl))))))) rfl ?_
       refine r_nil ?_
       refine e_next ?_
       refine c_seq ?_
       refine c_region ?_
       refine r_val .none rfl (p_ldw (k := 0) Try.underlying64 rfl sz64 rfl rfl (rfl : _ = Value.agg #[_, _, _, _, _, _])) ?_
       refine r_val .none rfl (p_move rfl) ?_
       refine r_val .none rfl (p_sub rfl rfl (by omega)) ?_
       refine r_val .none rfl (p_move rfl) ?_
       refine r_callo (k := 2) (vs := [_, _, _]) .none rfl cl36 rfl rfl (fun w F hw hA hFG => ih (rs.getD k s0).1 _ _ _ _ _ _ _ w (ssz_at hl (by omega) hz) ⟨by omega, ltS_at hl hb.2 (by omega)⟩ ht_18 hc_19 hw hA hFG) ?_
       refine r_val .none rfl (p_not rfl) ?_
       refine r_nil ?_
       refine e_next ?_
       refine c_splitn (d := 38) rfl (fun h_20 => ?_) (fun h_20 => ?_)
       ·
        have hE := h_20
        first
         | (exfalso; omega)
         | (
          refine c_cond_t rfl ?_
          refine c_seq ?_
          refine c_region ?_
          refine r_val .none rfl (p_assign rfl) ?_
          refine r_nil ?_
          refine e_next ?_
          refine c_ret ?_
          refine e_ret_block ?_
          refine e_ret_then ?_
          refine e_ret_then ?_
          refine e_ret_block ?_
          refine e_ret_then ?_
          refine e_ret1 Try.results36 (.tmp rfl .nil) (fun w hm => ?_)
          first
          | (have he : fw c d x = (false, x + (1 + c.h.ts.length)) := (by rw [fw_eq, if_pos (by omega)]); have he2 := congrArg Prod.snd he; refine ⟨?_, hm.kept [cntA 3 p ((fw c d x).2)] (.drop (.drop (.keep (fun _ _ h => by first | exact h | (have e : (fw c d x).2 = _ := he2; rw [e]; exact box_congr (fun i hi => by match i, hi with | 0, _ => rfl) _ _ h)) (.nil)))) (cntA 3 p ((fw c d x).2)) (fun F' h => starL_one h)⟩; rw [he]; done)
          | (have he : fw c d x = (false, (fw (rs.getD k s0).1 (d - 1) t).2) := (by rw [fw_eq, if_neg (by omega), ← hs3, hl, sv_drop (by omega), fwL_no hE]); have he2 := congrArg Prod.snd he; refine ⟨?_, hm.kept [cntA 3 p ((fw c d x).2)] (.drop (.drop (.keep (fun _ _ h => by first | exact h | (have e : (fw c d x).2 = _ := he2; rw [e]; exact box_congr (fun i hi => by match i, hi with | 0, _ => rfl) _ _ h)) (.nil)))) (cntA 3 p ((fw c d x).2)) (fun F' h => starL_one h)⟩; rw [he]; done)
          | (have he : fw c d x = (true, t) := (by rw [fw_eq, if_neg (by omega), ← hs3, hl, List.drop_eq_nil_of_le (by simp; omega), fwL]); have he2 := congrArg Prod.snd he; refine ⟨?_, hm.kept [cntA 3 p ((fw c d x).2)] (.drop (.drop (.keep (fun _ _ h => by first | exact h | (have e : (fw c d x).2 = _ := he2; rw [e]; exact box_congr (fun i hi => by match i, hi with | 0, _ => rfl) _ _ h)) (.nil)))) (cntA 3 p ((fw c d x).2)) (fun F' h => starL_one h)⟩; rw [he]; done)
          )
       ·
        have hE := h_20
        first
         | (exfalso; omega)
         | (
          refine c_cond_f rfl ?_
          refine c_skip ?_
          refine e_norm_block ?_
          refine e_next ?_
          refine c_region ?_
          refine r_val .none rfl (p_add rfl rfl (by omega)) ?_
          refine r_val .none rfl (p_move rfl) ?_
          refine r_nil ?_
          refine e_round ((k + 1, (fw (rs.getD k s0).1 (d - 1) t).2)) ⟨⟨by dsimp only; omega, by have := fw_ssz (rs.getD k s0).1 (d - 1) t hE; have := fw_ge (rs.getD k s0).1 (d - 1) t; dsimp only; omega, by rw [← hs3, hl, sv_drop (k := k) (by omega), fwL_yes hE]⟩, by dsimp only; omega⟩ rfl ⟨rfl, rfl, rfl, rfl, rfl, trivial⟩ (.drop (.keep (fun _ _ h => h) (.keep (fun _ _ h => h) (.nil))))
          )
       )
    ·
     first
      | (exfalso; omega)
      | (
       refine c_cond_f rfl ?_
       refine c_exit ?_
       refine e_exit_then ?_
       refine e_exit_then ?_
       refine e_exit_block ?_
       refine e_next ?_
       refine c_seq ?_
       refine c_region ?_
       refine r_val .none rfl (p_assign rfl) ?_
       refine r_nil ?_
       refine e_next ?_
       refine c_ret ?_
       refine e_ret1 Try.results36 (.tmp rfl .nil) (fun w hm => ?_)
       first
       | (have he : fw c d x = (false, x + (1 + c.h.ts.length)) := (by rw [fw_eq, if_pos (by omega)]); have he2 := congrArg Prod.snd he; refine ⟨?_, hm.kept [cntA 3 p ((fw c d x).2)] (.drop (.keep (fun _ _ h => by first | exact h | (have e : (fw c d x).2 = _ := he2; rw [e]; exact box_congr (fun i hi => by match i, hi with | 0, _ => rfl) _ _ h)) (.nil))) (cntA 3 p ((fw c d x).2)) (fun F' h => starL_one h)⟩; rw [he]; done)
       | (have he : fw c d x = (false, (fw (rs.getD k s0).1 (d - 1) t).2) := (by rw [fw_eq, if_neg (by omega), ← hs3, hl, sv_drop (by omega), fwL_no hE]); have he2 := congrArg Prod.snd he; refine ⟨?_, hm.kept [cntA 3 p ((fw c d x).2)] (.drop (.keep (fun _ _ h => by first | exact h | (have e : (fw c d x).2 = _ := he2; rw [e]; exact box_congr (fun i hi => by match i, hi with | 0, _ => rfl) _ _ h)) (.nil))) (cntA 3 p ((fw c d x).2)) (fun F' h => starL_one h)⟩; rw [he]; done)
       | (have he : fw c d x = (true, t) := (by rw [fw_eq, if_neg (by omega), ← hs3, hl, List.drop_eq_nil_of_le (by simp; omega), fwL]); have he2 := congrArg Prod.snd he; refine ⟨?_, hm.kept [cntA 3 p ((fw c d x).2)] (.drop (.keep (fun _ _ h => by first | exact h | (have e : (fw c d x).2 = _ := he2; rw [e]; exact box_congr (fun i hi => by match i, hi with | 0, _ => rfl) _ _ h)) (.nil))) (cntA 3 p ((fw c d x).2)) (fun F' h => starL_one h)⟩; rw [he]; done)
       )
    )
theorem c_few_n : ∀ n, FewIs n
 | 0 => fun c ta sb d x p G F w hz _ _ _ _ _ _ => absurd hz (by have := s_pos c; omega)
 | n + 1 => fun c ta sb d x p G F w hz hb ht hs hG hA hFG => c_few_s n (c_few_n n) c ta sb d x p hz hb ht hs w hG hA hFG
theorem c_few (c : ST) (ta sb : Value) (d x : Int) (p : Nat) {G : Ghost} {F : Nat → Prop} (hb : ((0 ≤ x ∧ x ≤ 90) ∧ -1 ≤ d ∧ d ≤ 5) ∧ ltS c) (ht : SlL G ta 3 tC t0 c.h.ts) (hs : Ss G sb c.subs) (w : World) (hG : Has G w) (hA : (cntA 3 p x).holds w F) (hFG : ∀ b, F b → G b = none) : Calls Try.prog 36 #[Value.agg #[Value.int .i64 c.h.k, Value.int .i64 c.h.k0, Value.int .i64 c.h.k1, Value.int .i64 c.h.k2, ta, sb], Value.int .i64 d, Value.pointer (some ⟨p, 0, none⟩)] w (Ret fun r w' => r = Value.bool (fw c d x).1 ∧ Kept (cntA 3 p (fw c d x).2) F w w') := c_few_n _ c ta sb d x p G F w (Nat.le_refl _) hb ht hs hG hA hFG
theorem c_ssize_s (n : Nat) (ih : SsizeIs n) (c : ST) (ta sb : Value) {G : Ghost} (hz : SizeOf.sizeOf c ≤ n + 1) (hsz : ssize c ≤ 5000) (ht : SlL G ta 3 tC t0 c.h.ts) (hs : Ss G sb c.subs) (w : World) (hG : Has G w) :
  Calls Try.prog 56 #[Value.agg #[Value.int .i64 c.h.k, Value.int .i64 c.h.k0, Value.int .i64 c.h.k1, Value.int .i64 c.h.k2, ta, sb]] w (Ret fun r w' => r = Value.int .i64 (ssize c : Nat) ∧ Since nX w w') := by
 refine enter (args := [_]) (X := nX) (G := G) (l := [(0, Value.agg #[Value.int .i64 c.h.k, Value.int .i64 c.h.k0, Value.int .i64 c.h.k1, Value.int .i64 c.h.k2, ta, sb])]) Try.func56 rfl Try.ntmps56 hG ⟨rfl, trivial⟩ (Nat.le_of_ble_eq_true rfl) ?_
 obtain ⟨rs, hr, hpt, hps, hl⟩ := hs.inv
 have hlen : c.subs.length = rs.length := by rw [hl]; simp
 have hbd := hr.bound
 have hbt := ht.bound
 have hsq := ssize_eq c
 refine c_seq ?_
 refine c_region ?_
 refine r_box .none rfl rfl (IsRow.lit _) (fun b_1 => ?_)
 refine r_val .none rfl (p_assign rfl) ?_
 refine r_nil ?_
 refine e_next ?_
 refine c_seq ?_
 refine c_region ?_
 refine r_val .none rfl (p_assign rfl) ?_
 refine r_nil ?_
 refine e_next ?_
 refine c_seq ?_
 refine c_seq ?_
 refine c_region ?_
 refine r_val .none rfl (p_field Try.underlying70 rfl sz48 rfl) ?_
 refine r_val .none rfl (p_ld (k := 0) Try.underlying48 rfl rfl rfl (by first | exact of_decide_eq_true rfl | omega) rfl) ?_
 refine r_val .none rfl (p_leng Try.underlying48 rfl hr) ?_
 have bd_1 := (hr).bound
 refine r_val .none rfl (p_move rfl) ?_
 refine r_nil ?_
 refine e_next ?_
 refine c_block ?_
 refine c_name (d := 2) rfl (fun u_2 hu_2 => ?_)
 refine c_name (d := 7) rfl (fun u_3 hu_3 => ?_)
 refine c_name (d := 8) rfl (fun u_4 hu_4 => ?_)
 refine c_nameL (k := 0) rfl (fun A_5 hA_5 => ?_)
 refine c_loop (σ := Nat) (fun k => [(9, Value.int .i64 (k : Nat)), (3, Value.int .i64 ((1 + ssizeL ((rs.map Prod.fst).take k) : Nat))), (2, u_2), (7, u_3), (8, u_4)]) (fun k => [A_5]) (fun _ => _) (fun k => k ≤ rs.length) (fun k => rs.length - k) (0) (Nat.zero_le _) rfl ⟨rfl, rfl, rfl, rfl, rfl, trivial⟩ (.keep (fun _ _ h => h) (.nil)) (fun k hphi => ?_)
 subst hu_2
 subst hu_3
 subst hu_4
 subst hA_5
 refine c_seq ?_
 refine c_region ?_
 refine r_val .none rfl (p_lt rfl rfl) ?_
 refine r_nil ?_
 refine e_next ?_
 refine c_seq ?_
 refine c_splitd (d := 10) rfl (fun h_6 => ?_) (fun h_6 => ?_)
 ·
  first
   | (exfalso; omega)
   | (
    refine c_cond_t rfl ?_
    refine c_skip ?_
    refine e_next ?_
    refine c_seq ?_
    refine c_block ?_
    refine c_seq ?_
    refine c_region ?_
    refine r_iaddr_g .none rfl Try.underlying48 sz70 rfl hr rfl (by first | exact of_decide_eq_true rfl | omega) (fun p_8 o_9 R_7 => ?_)
    have ht_10 := hpt _ (getD_mem (i := k) (d := s0) (by omega))
    have hc_11 := hps _ (getD_mem (i := k) (d := s0) (by omega))
    have hz9 : ssize (rs.getD k s0).1 ≤ 5000 := by have q1 : ssize (rs.getD k s0).1 ≤ ssizeL c.subs := (by rw [hl]; exact ssizeL_mem (sv_mem (k := k) (by omega))); omega
    refine r_val .none rfl (p_ldga0 Try.underlying70 rfl sz70 rfl R_7 (by first | exact of_decide_eq_true rfl | omega) (rfl : _ = Value.agg #[_, _, _, _, _, _])) ?_
    have hst := ssizeL_take (rs := rs) (k := k) (by omega)
    have hst2 : ssizeL ((rs.map Prod.fst).take (k + 1)) ≤ ssizeL c.subs := by rw [hl]; exact ssizeL_take_le _ _
    refine r_alloc .none rfl zr70 (IsRow.lit _) (fun b_2 => ?_)
    refine r_stw (k := 0) .none sz70 rfl rfl (IsRow.lit _) (one_lit rfl (all_cons rfl (all_cons rfl (all_cons rfl (all_cons rfl (all_cons (ht_10).one (all_cons (hc_11).one rfl))))))) rfl ?_
    refine r_nil ?_
    refine e_next ?_
    refine c_region ?_
    refine r_val .none rfl (p_move rfl) ?_
    refine r_val .none rfl (p_ldw (k := 0) Try.underlying70 rfl sz70 rfl rfl (rfl : _ = Value.agg #[_, _, _, _, _, _])) ?_
    refine r_call (vs := [_]) .none rfl cl56 rfl (fun w hw => ih (rs.getD k s0).1 _ _ _ w (ssz_at hl (by omega) hz) hz9 ht_10 hc_11 hw) ?_
    refine r_val .none rfl (p_add rfl rfl (by omega)) ?_
    refine r_val .none rfl (p_assign rfl) ?_
    refine r_nil ?_
    refine e_norm_block ?_
    refine e_next ?_
    refine c_region ?_
    refine r_val .none rfl (p_add rfl rfl (by omega)) ?_
    refine r_val .none rfl (p_move rfl) ?_
    refine r_nil ?_
    refine e_round (k + 1) ⟨by omega, by omega⟩ rfl ⟨rfl, (congrArg (fun z => some (Value.int .i64 z)) (by rw [hst]; omega)), rfl, rfl, rfl, trivial⟩ (.drop (.keep (fun _ _ h => h) (.nil)))
    )
 ·
  first
   | (exfalso; omega)
   | (
    refine c_cond_f rfl ?_
    refine c_exit ?_
    refine e_exit_then ?_
    refine e_exit_then ?_
    refine e_exit_block ?_
    refine e_next ?_
    refine c_seq ?_
    refine c_region ?_
    refine r_val .none rfl (p_move rfl) ?_
    refine r_val .none rfl (p_assign rfl) ?_
    refine r_nil ?_
    refine e_next ?_
    refine c_ret ?_
    refine e_ret1 Try.results56 (.tmp rfl .nil) (fun w hm => ⟨?_, hm.since⟩)
    rw [hsq, hl, List.take_of_length_le (by simp; omega)]
    )
theorem c_ssize_n : ∀ n, SsizeIs n
 | 0 => fun c ta sb G w hz _ _ _ _ => absurd hz (by have := s_pos c; omega)
 | n + 1 => fun c ta sb G w hz hsz ht hs hG => c_ssize_s n (c_ssize_n n) c ta sb hz hsz ht hs w hG
theorem c_ssize (c : ST) (ta sb : Value) {G : Ghost} (hsz : ssize c ≤ 5000) (ht : SlL G ta 3 tC t0 c.h.ts) (hs : Ss G sb c.subs) (w : World) (hG : Has G w) : Calls Try.prog 56 #[Value.agg #[Value.int .i64 c.h.k, Value.int .i64 c.h.k0, Value.int .i64 c.h.k1, Value.int .i64 c.h.k2, ta, sb]] w (Ret fun r w' => r = Value.int .i64 (ssize c : Nat) ∧ Since nX w w') := c_ssize_n _ c ta sb G w (Nat.le_refl _) hsz ht hs hG
theorem c_rrightS_s (n : Nat) (ih : RrightIs n) (c : ST) (ta sb : Value) (d : Int) {G : Ghost} (hz : SizeOf.sizeOf c ≤ n + 1) (hsz : (0 ≤ d ∧ d ≤ 4) ∧ ssize c ≤ 5000) (ht : SlL G ta 3 tC t0 c.h.ts) (hs : Ss G sb c.subs) (w : World) (hG : Has G w) :
  Calls Try.prog 37 #[Value.agg #[Value.int .i64 c.h.k, Value.int .i64 c.h.k0, Value.int .i64 c.h.k1, Value.int .i64 c.h.k2, ta, sb], Value.int .i64 d] w (Ret fun r w' => r = Value.bool (rR c d) ∧ Since nX w w') := by
 refine enter (args := [_, _]) (X := nX) (G := G) (l := [(0, Value.agg #[Value.int .i64 c.h.k, Value.int .i64 c.h.k0, Value.int .i64 c.h.k1, Value.int .i64 c.h.k2, ta, sb]), (1, Value.int .i64 d)]) Try.func37 rfl Try.ntmps37 hG ⟨rfl, rfl, trivial⟩ (Nat.le_of_ble_eq_true rfl) ?_
 obtain ⟨rs, hr, hpt, hps, hl⟩ := hs.inv
 have hlen : c.subs.length = rs.length := by rw [hl]; simp
 have hbd := hr.bound
 have hbt := ht.bound
 have hsq := ssize_eq c
 refine c_seq ?_
 refine c_region ?_
 refine r_box .none rfl rfl (IsRow.lit _) (fun b_1 => ?_)
 refine r_val .none rfl (p_assign rfl) ?_
 refine r_nil ?_
 refine e_next ?_
 refine c_seq ?_
 refine c_seq ?_
 refine c_region ?_
 refine r_val .none rfl (p_move rfl) ?_
 refine r_val .none rfl (p_gt rfl rfl) ?_
 refine r_val .none rfl (p_move rfl) ?_
 refine' r_or (c := 11) (d := 15) [_, _, _, _] rfl (fun h_1 Q_2 hQ_3 => ?_) (fun h_1 Q_2 hQ_3 => ?_) ?_
 rotate_left 1
 ·
  replace h_1 := of_decide_eq_false h_1
  refine r_val (.some rfl rfl) rfl (p_field Try.underlying70 rfl sz3 rfl) ?_
  refine r_val (.some rfl rfl) rfl (p_ld (k := 0) Try.underlying3 rfl rfl rfl (by first | exact of_decide_eq_true rfl | omega) (rfl : _ = Value.int _ _)) ?_
  refine r_val (.some rfl rfl) rfl (p_lt rfl rfl) ?_
  refine r_val .none rfl (p_pick_f rfl rfl) ?_
  refine r_nil (e_fin (d := 15) hQ_3 rfl (by repeat (first | exact .refl | refine .put rfl ?_ | refine .say rfl ?_ | refine .say2 rfl (by first | assumption | simp_all) ?_)))
 ·
  repeat (first | refine r_skip rfl (.no rfl rfl) ?_ | refine r_skip rfl (.un rfl rfl) ?_)
  refine r_val (by first | exact .none | exact .some rfl rfl) rfl (p_pick_t rfl rfl) ?_
  refine r_nil (e_fin (d := 15) hQ_3 rfl (by repeat (first | exact .refl | refine .put rfl ?_ | refine .say rfl ?_ | refine .say2 rfl (by first | assumption | simp_all) ?_)))
 refine r_val .none rfl (p_move rfl) ?_
 refine' r_or (c := 16) (d := 20) [_, _, _, _] rfl (fun h_5 Q_6 hQ_7 => ?_) (fun h_5 Q_6 hQ_7 => ?_) ?_
 rotate_left 1
 ·
  try simp only [norms] at h_5
  refine r_val (.some rfl rfl) rfl (p_field Try.underlying70 rfl sz3 rfl) ?_
  refine r_val (.some rfl rfl) rfl (p_ld (k := 0) Try.underlying3 rfl rfl rfl (by first | exact of_decide_eq_true rfl | omega) (rfl : _ = Value.int _ _)) ?_
  refine r_val (.some rfl rfl) rfl (p_gt rfl rfl) ?_
  refine r_val .none rfl (p_pick_f rfl rfl) ?_
  refine r_nil (e_fin (d := 20) hQ_7 rfl (by repeat (first | exact .refl | refine .put rfl ?_ | refine .say rfl ?_ | refine .say2 rfl (by first | assumption | simp_all) ?_)))
 ·
  repeat (first | refine r_skip rfl (.no rfl rfl) ?_ | refine r_skip rfl (.un rfl rfl) ?_)
  refine r_val (by first | exact .none | exact .some rfl rfl) rfl (p_pick_t rfl rfl) ?_
  refine r_nil (e_fin (d := 20) hQ_7 rfl (by repeat (first | exact .refl | refine .put rfl ?_ | refine .say rfl ?_ | refine .say2 rfl (by first | assumption | simp_all) ?_)))
 refine r_val .none rfl (p_move rfl) ?_
 refine' r_or (c := 21) (d := 25) [_, _, _, _] rfl (fun h_9 Q_10 hQ_11 => ?_) (fun h_9 Q_10 hQ_11 => ?_) ?_
 rotate_left 1
 ·
  try simp only [norms] at h_9
  refine r_val (.some rfl rfl) rfl (p_ldw (k := 0) Try.underlying70 rfl sz70 rfl rfl (rfl : _ = Value.agg #[_, _, _, _, _, _])) ?_
  refine r_call (vs := [_]) (.some rfl rfl) rfl cl56 rfl (fun w hw => c_ssize c ta sb hsz.2 ht hs w hw) ?_
  refine r_val (.some rfl rfl) rfl (p_gt rfl rfl) ?_
  refine r_val .none rfl (p_pick_f rfl rfl) ?_
  refine r_nil (e_fin (d := 25) hQ_11 rfl (by repeat (first | exact .refl | refine .put rfl ?_ | refine .say rfl ?_ | refine .say2 rfl (by first | assumption | simp_all) ?_)))
 ·
  repeat (first | refine r_skip rfl (.no rfl rfl) ?_ | refine r_skip rfl (.un rfl rfl) ?_)
  refine r_val (by first | exact .none | exact .some rfl rfl) rfl (p_pick_t rfl rfl) ?_
  refine r_nil (e_fin (d := 25) hQ_11 rfl (by repeat (first | exact .refl | refine .put rfl ?_ | refine .say rfl ?_ | refine .say2 rfl (by first | assumption | simp_all) ?_)))
 refine r_nil ?_
 refine e_next ?_
 refine c_split (d := 25) rfl (fun h_13 => ?_) (fun h_13 => ?_)
 ·
  try simp only [norms] at h_13
  first
   | (exfalso; omega)
   | (
    refine c_cond_t rfl ?_
    refine c_seq ?_
    refine c_region ?_
    refine r_val .none rfl (p_assign rfl) ?_
    refine r_nil ?_
    refine e_next ?_
    refine c_ret ?_
    refine e_ret_then ?_
    refine e_ret1 Try.results37 (.tmp rfl .nil) (fun w hm => ⟨?_, hm.since⟩)
    rw [rR_eq c d]
    first
    | (rw [if_pos (by omega)]; done)
    | (rw [if_neg (by omega), if_pos (by omega), if_pos (by rcases hB with (h | h) | h; exact .inl (.inl h); exact .inl (.inr (by omega)); exact .inr (by omega))]; done)
    | (rw [if_neg (by omega), if_pos (by omega), if_neg (by rintro ((h | h) | h); rw [hB.1.1] at h; cases h; omega; omega), ← hphi.2, hl, rRL_no (by omega) hE]; done)
    | (rw [if_neg (by omega), if_pos (by omega), if_neg (by rintro ((h | h) | h); rw [hB.1.1] at h; cases h; omega; omega), ← hphi.2, hl, List.drop_eq_nil_of_le (by simp; omega), rRL]; done)
    | (rw [if_neg (by omega), if_neg (by omega), if_pos (hC.imp id (fun h => by omega))]; done)
    | (rw [if_neg (by omega), if_neg (by omega), if_neg (by rintro (h | h); rw [hC.1] at h; cases h; omega), ← hphi.2.1, tsRight_bad (by omega) hN]; done)
    | (rw [if_neg (by omega), if_neg (by omega), if_neg (by rintro (h | h); rw [hC.1] at h; cases h; omega), ← hphi.2.1, List.drop_eq_nil_of_le (by omega)]; rfl)
    )
 ·
  try simp only [norms] at h_13
  first
   | (exfalso; omega)
   | (
    refine c_cond_f rfl ?_
    refine c_skip ?_
    refine e_next ?_
    refine c_seq ?_
    refine c_seq ?_
    refine c_region ?_
    refine r_val .none rfl (p_field Try.underlying70 rfl sz3 rfl) ?_
    refine r_val .none rfl (p_ld (k := 0) Try.underlying3 rfl rfl rfl (by first | exact of_decide_eq_true rfl | omega) (rfl : _ = Value.int _ _)) ?_
    refine r_val .none rfl (p_eq rfl rfl) ?_
    refine r_nil ?_
    refine e_next ?_
    refine c_splitd (d := 28) rfl (fun h_14 => ?_) (fun h_14 => ?_)
    ·
     first
      | (exfalso; omega)
      | (
       refine c_cond_t rfl ?_
       refine c_seq ?_
       refine c_seq ?_
       refine c_region ?_
       refine r_val .none rfl (p_field Try.underlying70 rfl sz60 rfl) ?_
       refine r_val .none rfl (p_lda (k := 0) Try.underlying60 rfl sz60 rfl rfl (by first | exact of_decide_eq_true rfl | omega) (rfl : _ = Value.agg #[_, _, _])) ?_
       refine r_val .none rfl (p_build (vs := []) rfl (bl60_ )) ?_
       refine r_val .none rfl (p_nea rfl rfl (eq_flat Try.underlying60 rfl lf60 ef60 eg60 (.cons (.int Try.underlying3) (.cons (.int Try.underlying3) (.cons (.int Try.underlying3) (.nil)))) (.cons (.int Try.underlying3) (.cons (.int Try.underlying3) (.cons (.int Try.underlying3) (.nil)))))) ?_
       refine r_val .none rfl (p_move rfl) ?_
       refine' r_or (c := 33) (d := 38) [_, _, _, _, _] rfl (fun h_15 Q_16 hQ_17 => ?_) (fun h_15 Q_16 hQ_17 => ?_) ?_
       rotate_left 1
       ·
        try simp only [norms] at h_15
        refine r_val (.some rfl rfl) rfl (p_field Try.underlying70 rfl sz68 rfl) ?_
        refine r_val (.some rfl rfl) rfl (p_ld (k := 0) Try.underlying68 rfl rfl rfl (by first | exact of_decide_eq_true rfl | omega) rfl) ?_
        refine r_val (.some rfl rfl) rfl (p_leng Try.underlying68 rfl ht) ?_
        have bd_19 := (ht).bound
        refine r_val (.some rfl rfl) rfl (p_gt rfl rfl) ?_
        refine r_val .none rfl (p_pick_f rfl rfl) ?_
        refine r_nil (e_fin (d := 38) hQ_17 rfl (by repeat (first | exact .refl | refine .put rfl ?_ | refine .say rfl ?_ | refine .say2 rfl (by first | assumption | simp_all) ?_)))
       ·
        repeat (first | refine r_skip rfl (.no rfl rfl) ?_ | refine r_skip rfl (.un rfl rfl) ?_)
        refine r_val (by first | exact .none | exact .some rfl rfl) rfl (p_pick_t rfl rfl) ?_
        refine r_nil (e_fin (d := 38) hQ_17 rfl (by repeat (first | exact .refl | refine .put rfl ?_ | refine .say rfl ?_ | refine .say2 rfl (by first | assumption | simp_all) ?_)))
       refine r_val .none rfl (p_move rfl) ?_
       refine' r_or (c := 39) (d := 44) [_, _, _, _, _] rfl (fun h_20 Q_21 hQ_22 => ?_) (fun h_20 Q_21 hQ_22 => ?_) ?_
       rotate_left 1
       ·
        try simp only [norms] at h_20
        refine r_val (.some rfl rfl) rfl (p_field Try.underlying70 rfl sz48 rfl) ?_
        refine r_val (.some rfl rfl) rfl (p_ld (k := 0) Try.underlying48 rfl rfl rfl (by first | exact of_decide_eq_true rfl | omega) rfl) ?_
        refine r_val (.some rfl rfl) rfl (p_leng Try.underlying48 rfl hr) ?_
        have bd_24 := (hr).bound
        refine r_val (.some rfl rfl) rfl (p_eq rfl rfl) ?_
        refine r_val .none rfl (p_pick_f rfl rfl) ?_
        refine r_nil (e_fin (d := 44) hQ_22 rfl (by repeat (first | exact .refl | refine .put rfl ?_ | refine .say rfl ?_ | refine .say2 rfl (by first | assumption | simp_all) ?_)))
       ·
        repeat (first | refine r_skip rfl (.no rfl rfl) ?_ | refine r_skip rfl (.un rfl rfl) ?_)
        refine r_val (by first | exact .none | exact .some rfl rfl) rfl (p_pick_t rfl rfl) ?_
        refine r_nil (e_fin (d := 44) hQ_22 rfl (by repeat (first | exact .refl | refine .put rfl ?_ | refine .say rfl ?_ | refine .say2 rfl (by first | assumption | simp_all) ?_)))
       refine r_nil ?_
       refine e_next ?_
       refine c_split (d := 44) rfl (fun h_25 => ?_) (fun h_25 => ?_)
       ·
        try simp only [norms] at h_25
        have hB : (keyNone c.h = false ∨ (0 : Int) < (c.h.ts.length : Int)) ∨ (rs.length : Int) = 0 := h_25
        first
         | (exfalso; omega)
         | (
          refine c_cond_t rfl ?_
          refine c_seq ?_
          refine c_region ?_
          refine r_val .none rfl (p_assign rfl) ?_
          refine r_nil ?_
          refine e_next ?_
          refine c_ret ?_
          refine e_ret_then ?_
          refine e_ret_then ?_
          refine e_ret1 Try.results37 (.tmp rfl .nil) (fun w hm => ⟨?_, hm.since⟩)
          rw [rR_eq c d]
          first
          | (rw [if_pos (by omega)]; done)
          | (rw [if_neg (by omega), if_pos (by omega), if_pos (by rcases hB with (h | h) | h; exact .inl (.inl h); exact .inl (.inr (by omega)); exact .inr (by omega))]; done)
          | (rw [if_neg (by omega), if_pos (by omega), if_neg (by rintro ((h | h) | h); rw [hB.1.1] at h; cases h; omega; omega), ← hphi.2, hl, rRL_no (by omega) hE]; done)
          | (rw [if_neg (by omega), if_pos (by omega), if_neg (by rintro ((h | h) | h); rw [hB.1.1] at h; cases h; omega; omega), ← hphi.2, hl, List.drop_eq_nil_of_le (by simp; omega), rRL]; done)
          | (rw [if_neg (by omega), if_neg (by omega), if_pos (hC.imp id (fun h => by omega))]; done)
          | (rw [if_neg (by omega), if_neg (by omega), if_neg (by rintro (h | h); rw [hC.1] at h; cases h; omega), ← hphi.2.1, tsRight_bad (by omega) hN]; done)
          | (rw [if_neg (by omega), if_neg (by omega), if_neg (by rintro (h | h); rw [hC.1] at h; cases h; omega), ← hphi.2.1, List.drop_eq_nil_of_le (by omega)]; rfl)
          )
       ·
        try simp only [norms] at h_25
        have hB : (keyNone c.h = true ∧ ¬ (0 : Int) < (c.h.ts.length : Int)) ∧ ¬ (rs.length : Int) = 0 := h_25
        first
         | (exfalso; omega)
         | (
          refine c_cond_f rfl ?_
          refine c_skip ?_
          refine e_next ?_
          refine c_seq ?_
          refine c_seq ?_
          refine c_region ?_
          refine r_val .none rfl (p_field Try.underlying70 rfl sz48 rfl) ?_
          refine r_val .none rfl (p_ld (k := 0) Try.underlying48 rfl rfl rfl (by first | exact of_decide_eq_true rfl | omega) rfl) ?_
          refine r_val .none rfl (p_leng Try.underlying48 rfl hr) ?_
          have bd_26 := (hr).bound
          refine r_val .none rfl (p_move rfl) ?_
          refine r_nil ?_
          refine e_next ?_
          refine c_block ?_
          refine c_name (d := 1) rfl (fun u_27 hu_27 => ?_)
          refine c_name (d := 2) rfl (fun u_28 hu_28 => ?_)
          refine c_name (d := 46) rfl (fun u_29 hu_29 => ?_)
          refine c_name (d := 47) rfl (fun u_30 hu_30 => ?_)
          refine c_nameL (k := 0) rfl (fun A_31 hA_31 => ?_)
          refine c_loop (σ := Nat) (fun k => [(48, Value.int .i64 (k : Nat)), (1, u_27), (2, u_28), (46, u_29), (47, u_30)]) (fun k => [A_31]) (fun _ => _) (fun k => k ≤ rs.length ∧ rRL (c.subs.drop k) (d + 1) = rRL c.subs (d + 1)) (fun k => rs.length - k) (0) ⟨Nat.zero_le _, rfl⟩ rfl ⟨rfl, rfl, rfl, rfl, rfl, trivial⟩ (.keep (fun _ _ h => h) (.nil)) (fun k hphi => ?_)
          subst hu_27
          subst hu_28
          subst hu_29
          subst hu_30
          subst hA_31
          refine c_seq ?_
          refine c_region ?_
          refine r_val .none rfl (p_lt rfl rfl) ?_
          refine r_nil ?_
          refine e_next ?_
          refine c_seq ?_
          refine c_splitd (d := 49) rfl (fun h_32 => ?_) (fun h_32 => ?_)
          ·
           first
            | (exfalso; omega)
            | (
             refine c_cond_t rfl ?_
             refine c_skip ?_
             refine e_next ?_
             refine c_seq ?_
             refine c_block ?_
             refine c_seq ?_
             refine c_region ?_
             refine r_iaddr_g .none rfl Try.underlying48 sz70 rfl hr rfl (by first | exact of_decide_eq_true rfl | omega) (fun p_34 o_35 R_33 => ?_)
             have ht_36 := hpt _ (getD_mem (i := k) (d := s0) (by omega))
             have hc_37 := hps _ (getD_mem (i := k) (d := s0) (by omega))
             have hz9 : ssize (rs.getD k s0).1 ≤ 5000 := by have q1 : ssize (rs.getD k s0).1 ≤ ssizeL c.subs := (by rw [hl]; exact ssizeL_mem (sv_mem (k := k) (by omega))); omega
             refine r_val .none rfl (p_ldga0 Try.underlying70 rfl sz70 rfl R_33 (by first | exact of_decide_eq_true rfl | omega) (rfl : _ = Value.agg #[_, _, _, _, _, _])) ?_
             refine r_alloc .none rfl zr70 (IsRow.lit _) (fun b_2 => ?_)
             refine r_stw (k := 0) .none sz70 rfl rfl (IsRow.lit _) (one_lit rfl (all_cons rfl (all_cons rfl (all_cons rfl (all_cons rfl (all_cons (ht_36).one (all_cons (hc_37).one rfl))))))) rfl ?_
             refine r_nil ?_
             refine e_next ?_
             refine c_seq ?_
             refine c_region ?_
             refine r_val .none rfl (p_ldw (k := 0) Try.underlying70 rfl sz70 rfl rfl (rfl : _ = Value.agg #[_, _, _, _, _, _])) ?_
             refine r_val .none rfl (p_move rfl) ?_
             refine r_val .none rfl (p_add rfl rfl (by omega)) ?_
             refine r_call (vs := [_, _]) .none rfl cl37 rfl (fun w hw => ih (rs.getD k s0).1 _ _ _ _ w (ssz_at hl (by omega) hz) ⟨by omega, hz9⟩ ht_36 hc_37 hw) ?_
             refine r_val .none rfl (p_not rfl) ?_
             refine r_nil ?_
             refine e_next ?_
             refine c_splitn (d := 56) rfl (fun h_38 => ?_) (fun h_38 => ?_)
             ·
              have hE := h_38
              first
               | (exfalso; omega)
               | (
                refine c_cond_t rfl ?_
                refine c_seq ?_
                refine c_region ?_
                refine r_val .none rfl (p_assign rfl) ?_
                refine r_nil ?_
                refine e_next ?_
                refine c_ret ?_
                refine e_ret_block ?_
                refine e_ret_then ?_
                refine e_ret_then ?_
                refine e_ret_block ?_
                refine e_ret_then ?_
                refine e_ret_then ?_
                refine e_ret1 Try.results37 (.tmp rfl .nil) (fun w hm => ⟨?_, hm.since⟩)
                rw [rR_eq c d]
                first
                | (rw [if_pos (by omega)]; done)
                | (rw [if_neg (by omega), if_pos (by omega), if_pos (by rcases hB with (h | h) | h; exact .inl (.inl h); exact .inl (.inr (by omega)); exact .inr (by omega))]; done)
                | (rw [if_neg (by omega), if_pos (by omega), if_neg (by rintro ((h | h) | h); rw [hB.1.1] at h; cases h; omega; omega), ← hphi.2, hl, rRL_no (by omega) hE]; done)
                | (rw [if_neg (by omega), if_pos (by omega), if_neg (by rintro ((h | h) | h); rw [hB.1.1] at h; cases h; omega; omega), ← hphi.2, hl, List.drop_eq_nil_of_le (by simp; omega), rRL]; done)
                | (rw [if_neg (by omega), if_neg (by omega), if_pos (hC.imp id (fun h => by omega))]; done)
                | (rw [if_neg (by omega), if_neg (by omega), if_neg (by rintro (h | h); rw [hC.1] at h; cases h; omega), ← hphi.2.1, tsRight_bad (by omega) hN]; done)
                | (rw [if_neg (by omega), if_neg (by omega), if_neg (by rintro (h | h); rw [hC.1] at h; cases h; omega), ← hphi.2.1, List.drop_eq_nil_of_le (by omega)]; rfl)
                )
             ·
              have hE := h_38
              first
               | (exfalso; omega)
               | (
                refine c_cond_f rfl ?_
                refine c_skip ?_
                refine e_norm_block ?_
                refine e_next ?_
                refine c_region ?_
                refine r_val .none rfl (p_add rfl rfl (by omega)) ?_
                refine r_val .none rfl (p_move rfl) ?_
                refine r_nil ?_
                refine e_round (k + 1) ⟨⟨by omega, by rw [← hphi.2, hl, rRL_yes (k := k) (by omega) hE]⟩, by omega⟩ rfl ⟨rfl, rfl, rfl, rfl, rfl, trivial⟩ (.drop (.keep (fun _ _ h => h) (.nil)))
                )
             )
          ·
           first
            | (exfalso; omega)
            | (
             refine c_cond_f rfl ?_
             refine c_exit ?_
             refine e_exit_then ?_
             refine e_exit_then ?_
             refine e_exit_block ?_
             refine e_next ?_
             refine c_seq ?_
             refine c_region ?_
             refine r_val .none rfl (p_assign rfl) ?_
             refine r_nil ?_
             refine e_next ?_
             refine c_ret ?_
             refine e_ret_then ?_
             refine e_ret1 Try.results37 (.tmp rfl .nil) (fun w hm => ⟨?_, hm.since⟩)
             rw [rR_eq c d]
             first
             | (rw [if_pos (by omega)]; done)
             | (rw [if_neg (by omega), if_pos (by omega), if_pos (by rcases hB with (h | h) | h; exact .inl (.inl h); exact .inl (.inr (by omega)); exact .inr (by omega))]; done)
             | (rw [if_neg (by omega), if_pos (by omega), if_neg (by rintro ((h | h) | h); rw [hB.1.1] at h; cases h; omega; omega), ← hphi.2, hl, rRL_no (by omega) hE]; done)
             | (rw [if_neg (by omega), if_pos (by omega), if_neg (by rintro ((h | h) | h); rw [hB.1.1] at h; cases h; omega; omega), ← hphi.2, hl, List.drop_eq_nil_of_le (by simp; omega), rRL]; done)
             | (rw [if_neg (by omega), if_neg (by omega), if_pos (hC.imp id (fun h => by omega))]; done)
             | (rw [if_neg (by omega), if_neg (by omega), if_neg (by rintro (h | h); rw [hC.1] at h; cases h; omega), ← hphi.2.1, tsRight_bad (by omega) hN]; done)
             | (rw [if_neg (by omega), if_neg (by omega), if_neg (by rintro (h | h); rw [hC.1] at h; cases h; omega), ← hphi.2.1, List.drop_eq_nil_of_le (by omega)]; rfl)
             )
          )
       )
    ·
     first
      | (exfalso; omega)
      | (
       refine c_cond_f rfl ?_
       refine c_skip ?_
       refine e_next ?_
       refine c_seq ?_
       refine c_seq ?_
       refine c_region ?_
       refine r_val .none rfl (p_field Try.underlying70 rfl sz60 rfl) ?_
       refine r_val .none rfl (p_lda (k := 0) Try.underlying60 rfl sz60 rfl rfl (by first | exact of_decide_eq_true rfl | omega) (rfl : _ = Value.agg #[_, _, _])) ?_
       refine r_call (vs := [_]) .none rfl cl57 rfl (fun w hw => c_rkeyright _ _ _ w) ?_
       refine r_val .none rfl (p_not rfl) ?_
       refine r_val .none rfl (p_move rfl) ?_
       refine' r_or (c := 62) (d := 67) [_, _, _, _, _] rfl (fun h_39 Q_40 hQ_41 => ?_) (fun h_39 Q_40 hQ_41 => ?_) ?_
       rotate_left 1
       ·
        try simp only [norms] at h_39
        refine r_val (.some rfl rfl) rfl (p_field Try.underlying70 rfl sz48 rfl) ?_
        refine r_val (.some rfl rfl) rfl (p_ld (k := 0) Try.underlying48 rfl rfl rfl (by first | exact of_decide_eq_true rfl | omega) rfl) ?_
        refine r_val (.some rfl rfl) rfl (p_leng Try.underlying48 rfl hr) ?_
        have bd_43 := (hr).bound
        refine r_val (.some rfl rfl) rfl (p_gt rfl rfl) ?_
        refine r_val .none rfl (p_pick_f rfl rfl) ?_
        refine r_nil (e_fin (d := 67) hQ_41 rfl (by repeat (first | exact .refl | refine .put rfl ?_ | refine .say rfl ?_ | refine .say2 rfl (by first | assumption | simp_all) ?_)))
       ·
        repeat (first | refine r_skip rfl (.no rfl rfl) ?_ | refine r_skip rfl (.un rfl rfl) ?_)
        refine r_val (by first | exact .none | exact .some rfl rfl) rfl (p_pick_t rfl rfl) ?_
        refine r_nil (e_fin (d := 67) hQ_41 rfl (by repeat (first | exact .refl | refine .put rfl ?_ | refine .say rfl ?_ | refine .say2 rfl (by first | assumption | simp_all) ?_)))
       refine r_nil ?_
       refine e_next ?_
       refine c_split (d := 67) rfl (fun h_44 => ?_) (fun h_44 => ?_)
       ·
        try simp only [norms] at h_44
        have hC : keyOk c.h = false ∨ (0 : Int) < (rs.length : Int) := (h_44).imp (fun h => decide_eq_false h) id
        first
         | (exfalso; omega)
         | (
          refine c_cond_t rfl ?_
          refine c_seq ?_
          refine c_region ?_
          refine r_val .none rfl (p_assign rfl) ?_
          refine r_nil ?_
          refine e_next ?_
          refine c_ret ?_
          refine e_ret_then ?_
          refine e_ret1 Try.results37 (.tmp rfl .nil) (fun w hm => ⟨?_, hm.since⟩)
          rw [rR_eq c d]
          first
          | (rw [if_pos (by omega)]; done)
          | (rw [if_neg (by omega), if_pos (by omega), if_pos (by rcases hB with (h | h) | h; exact .inl (.inl h); exact .inl (.inr (by omega)); exact .inr (by omega))]; done)
          | (rw [if_neg (by omega), if_pos (by omega), if_neg (by rintro ((h | h) | h); rw [hB.1.1] at h; cases h; omega; omega), ← hphi.2, hl, rRL_no (by omega) hE]; done)
          | (rw [if_neg (by omega), if_pos (by omega), if_neg (by rintro ((h | h) | h); rw [hB.1.1] at h; cases h; omega; omega), ← hphi.2, hl, List.drop_eq_nil_of_le (by simp; omega), rRL]; done)
          | (rw [if_neg (by omega), if_neg (by omega), if_pos (hC.imp id (fun h => by omega))]; done)
          | (rw [if_neg (by omega), if_neg (by omega), if_neg (by rintro (h | h); rw [hC.1] at h; cases h; omega), ← hphi.2.1, tsRight_bad (by omega) hN]; done)
          | (rw [if_neg (by omega), if_neg (by omega), if_neg (by rintro (h | h); rw [hC.1] at h; cases h; omega), ← hphi.2.1, List.drop_eq_nil_of_le (by omega)]; rfl)
          )
       ·
        try simp only [norms] at h_44
        have hC : keyOk c.h = true ∧ ¬ (0 : Int) < (rs.length : Int) := ⟨decide_eq_true (h_44).1, (h_44).2⟩
        first
         | (exfalso; omega)
         | (
          refine c_cond_f rfl ?_
          refine c_skip ?_
          refine e_next ?_
          refine c_seq ?_
          refine c_seq ?_
          refine c_region ?_
          refine r_val .none rfl (p_field Try.underlying70 rfl sz68 rfl) ?_
          refine r_val .none rfl (p_ld (k := 0) Try.underlying68 rfl rfl rfl (by first | exact of_decide_eq_true rfl | omega) rfl) ?_
          refine r_val .none rfl (p_leng Try.underlying68 rfl ht) ?_
          have bd_45 := (ht).bound
          refine r_val .none rfl (p_move rfl) ?_
          refine r_nil ?_
          refine e_next ?_
          refine c_block ?_
          refine c_name (d := 2) rfl (fun u_46 hu_46 => ?_)
          refine c_name (d := 69) rfl (fun u_47 hu_47 => ?_)
          refine c_name (d := 70) rfl (fun u_48 hu_48 => ?_)
          refine c_nameL (k := 0) rfl (fun A_49 hA_49 => ?_)
          refine c_loop (σ := Nat) (fun j => [(71, Value.int .i64 (j : Nat)), (2, u_46), (69, u_47), (70, u_48)]) (fun j => [A_49]) (fun _ => _) (fun j => j ≤ c.h.ts.length ∧ tsRight (c.h.ts.drop j) (lastF c.h.ts j) = tsRight c.h.ts (-1) ∧ -1 ≤ lastF c.h.ts j) (fun j => c.h.ts.length - j) (0) ⟨Nat.zero_le _, rfl, Int.le_refl _⟩ rfl ⟨rfl, rfl, rfl, rfl, trivial⟩ (.keep (fun _ _ h => h) (.nil)) (fun j hphi => ?_)
          subst hu_46
          subst hu_47
          subst hu_48
          subst hA_49
          have hlf := lastF_or c.h.ts j
          refine c_seq ?_
          refine c_region ?_
          refine r_val .none rfl (p_lt rfl rfl) ?_
          refine r_nil ?_
          refine e_next ?_
          refine c_seq ?_
          refine c_splitd (d := 72) rfl (fun h_50 => ?_) (fun h_50 => ?_)
          ·
           first
            | (exfalso; omega)
            | (
             refine c_cond_t rfl ?_
             refine c_skip ?_
             refine e_next ?_
             refine c_seq ?_
             refine c_block ?_
             refine c_seq ?_
             refine c_region ?_
             refine r_val .none rfl (p_move rfl) ?_
             refine r_iaddr_g .none rfl Try.underlying68 sz96 rfl ht rfl (by first | exact of_decide_eq_true rfl | omega) (fun p_52 o_53 R_51 => ?_)
             refine r_val .none rfl (p_ldga0 Try.underlying96 rfl sz96 rfl R_51 (by first | exact of_decide_eq_true rfl | omega) (rfl : _ = Value.agg #[_, _, _])) ?_
             refine r_alloc .none rfl zr96 (IsRow.lit _) (fun b_3 => ?_)
             refine r_val .none rfl (p_assign rfl) ?_
             refine r_stw (k := 0) .none sz96 rfl rfl (IsRow.lit _) (one_lit rfl rfl) rfl ?_
             refine r_nil ?_
             refine e_next ?_
             refine c_seq ?_
             refine c_seq ?_
             refine c_region ?_
             refine r_val .none rfl (p_field Try.underlying96 rfl sz3 rfl) ?_
             refine r_val .none rfl (p_ld (k := 0) Try.underlying3 rfl rfl rfl (by first | exact of_decide_eq_true rfl | omega) (rfl : _ = Value.int _ _)) ?_
             refine r_val .none rfl (p_lt rfl rfl) ?_
             refine r_val .none rfl (p_move rfl) ?_
             refine' r_or (c := 79) (d := 83) [_, _, _, _] rfl (fun h_54 Q_55 hQ_56 => ?_) (fun h_54 Q_55 hQ_56 => ?_) ?_
             rotate_left 1
             ·
              replace h_54 := of_decide_eq_false h_54
              refine r_val (.some rfl rfl) rfl (p_field Try.underlying96 rfl sz3 rfl) ?_
              refine r_val (.some rfl rfl) rfl (p_ld (k := 0) Try.underlying3 rfl rfl rfl (by first | exact of_decide_eq_true rfl | omega) (rfl : _ = Value.int _ _)) ?_
              refine r_val (.some rfl rfl) rfl (p_gt rfl rfl) ?_
              refine r_val .none rfl (p_pick_f rfl rfl) ?_
              refine r_nil (e_fin (d := 83) hQ_56 rfl (by repeat (first | exact .refl | refine .put rfl ?_ | refine .say rfl ?_ | refine .say2 rfl (by first | assumption | simp_all) ?_)))
             ·
              repeat (first | refine r_skip rfl (.no rfl rfl) ?_ | refine r_skip rfl (.un rfl rfl) ?_)
              refine r_val (by first | exact .none | exact .some rfl rfl) rfl (p_pick_t rfl rfl) ?_
              refine r_nil (e_fin (d := 83) hQ_56 rfl (by repeat (first | exact .refl | refine .put rfl ?_ | refine .say rfl ?_ | refine .say2 rfl (by first | assumption | simp_all) ?_)))
             refine r_val .none rfl (p_move rfl) ?_
             refine' r_or (c := 84) (d := 88) [_, _, _, _] rfl (fun h_58 Q_59 hQ_60 => ?_) (fun h_58 Q_59 hQ_60 => ?_) ?_
             rotate_left 1
             ·
              try simp only [norms] at h_58
              refine r_val (.some rfl rfl) rfl (p_field Try.underlying96 rfl sz3 rfl) ?_
              refine r_val (.some rfl rfl) rfl (p_ld (k := 0) Try.underlying3 rfl rfl rfl (by first | exact of_decide_eq_true rfl | omega) (rfl : _ = Value.int _ _)) ?_
              refine r_val (.some rfl rfl) rfl (p_lt rfl rfl) ?_
              refine r_val .none rfl (p_pick_f rfl rfl) ?_
              refine r_nil (e_fin (d := 88) hQ_60 rfl (by repeat (first | exact .refl | refine .put rfl ?_ | refine .say rfl ?_ | refine .say2 rfl (by first | assumption | simp_all) ?_)))
             ·
              repeat (first | refine r_skip rfl (.no rfl rfl) ?_ | refine r_skip rfl (.un rfl rfl) ?_)
              refine r_val (by first | exact .none | exact .some rfl rfl) rfl (p_pick_t rfl rfl) ?_
              refine r_nil (e_fin (d := 88) hQ_60 rfl (by repeat (first | exact .refl | refine .put rfl ?_ | refine .say rfl ?_ | refine .say2 rfl (by first | assumption | simp_all) ?_)))
             refine r_val .none rfl (p_move rfl) ?_
             refine' r_or (c := 89) (d := 93) [_, _, _, _] rfl (fun h_62 Q_63 hQ_64 => ?_) (fun h_62 Q_63 hQ_64 => ?_) ?_
             rotate_left 1
             ·
              try simp only [norms] at h_62
              refine r_val (.some rfl rfl) rfl (p_field Try.underlying96 rfl sz3 rfl) ?_
              refine r_val (.some rfl rfl) rfl (p_ld (k := 0) Try.underlying3 rfl rfl rfl (by first | exact of_decide_eq_true rfl | omega) (rfl : _ = Value.int _ _)) ?_
              refine r_val (.some rfl rfl) rfl (p_gt rfl rfl) ?_
              refine r_val .none rfl (p_pick_f rfl rfl) ?_
              refine r_nil (e_fin (d := 93) hQ_64 rfl (by repeat (first | exact .refl | refine .put rfl ?_ | refine .say rfl ?_ | refine .say2 rfl (by first | assumption | simp_all) ?_)))
             ·
              repeat (first | refine r_skip rfl (.no rfl rfl) ?_ | refine r_skip rfl (.un rfl rfl) ?_)
              refine r_val (by first | exact .none | exact .some rfl rfl) rfl (p_pick_t rfl rfl) ?_
              refine r_nil (e_fin (d := 93) hQ_64 rfl (by repeat (first | exact .refl | refine .put rfl ?_ | refine .say rfl ?_ | refine .say2 rfl (by first | assumption | simp_all) ?_)))
             refine r_val .none rfl (p_move rfl) ?_
             refine' r_or (c := 94) (d := 98) [_, _, _, _] rfl (fun h_66 Q_67 hQ_68 => ?_) (fun h_66 Q_67 hQ_68 => ?_) ?_
             rotate_left 1
             ·
              try simp only [norms] at h_66
              refine r_val (.some rfl rfl) rfl (p_field Try.underlying96 rfl sz3 rfl) ?_
              refine r_val (.some rfl rfl) rfl (p_ld (k := 0) Try.underlying3 rfl rfl rfl (by first | exact of_decide_eq_true rfl | omega) (rfl : _ = Value.int _ _)) ?_
              refine r_val (.some rfl rfl) rfl (p_lt rfl rfl) ?_
              refine r_val .none rfl (p_pick_f rfl rfl) ?_
              refine r_nil (e_fin (d := 98) hQ_68 rfl (by repeat (first | exact .refl | refine .put rfl ?_ | refine .say rfl ?_ | refine .say2 rfl (by first | assumption | simp_all) ?_)))
             ·
              repeat (first | refine r_skip rfl (.no rfl rfl) ?_ | refine r_skip rfl (.un rfl rfl) ?_)
              refine r_val (by first | exact .none | exact .some rfl rfl) rfl (p_pick_t rfl rfl) ?_
              refine r_nil (e_fin (d := 98) hQ_68 rfl (by repeat (first | exact .refl | refine .put rfl ?_ | refine .say rfl ?_ | refine .say2 rfl (by first | assumption | simp_all) ?_)))
             refine r_val .none rfl (p_move rfl) ?_
             refine' r_or (c := 99) (d := 103) [_, _, _, _] rfl (fun h_70 Q_71 hQ_72 => ?_) (fun h_70 Q_71 hQ_72 => ?_) ?_
             rotate_left 1
             ·
              try simp only [norms] at h_70
              refine r_val (.some rfl rfl) rfl (p_field Try.underlying96 rfl sz3 rfl) ?_
              refine r_val (.some rfl rfl) rfl (p_ld (k := 0) Try.underlying3 rfl rfl rfl (by first | exact of_decide_eq_true rfl | omega) (rfl : _ = Value.int _ _)) ?_
              refine r_val (.some rfl rfl) rfl (p_gt rfl rfl) ?_
              refine r_val .none rfl (p_pick_f rfl rfl) ?_
              refine r_nil (e_fin (d := 103) hQ_72 rfl (by repeat (first | exact .refl | refine .put rfl ?_ | refine .say rfl ?_ | refine .say2 rfl (by first | assumption | simp_all) ?_)))
             ·
              repeat (first | refine r_skip rfl (.no rfl rfl) ?_ | refine r_skip rfl (.un rfl rfl) ?_)
              refine r_val (by first | exact .none | exact .some rfl rfl) rfl (p_pick_t rfl rfl) ?_
              refine r_nil (e_fin (d := 103) hQ_72 rfl (by repeat (first | exact .refl | refine .put rfl ?_ | refine .say rfl ?_ | refine .say2 rfl (by first | assumption | simp_all) ?_)))
             refine r_nil ?_
             refine e_next ?_
             refine c_split (d := 103) rfl (fun h_74 => ?_) (fun h_74 => ?_)
             ·
              try simp only [norms] at h_74
              have hN : tBad (c.h.ts.getD j t0) (lastF c.h.ts j) := by have hx := h_74; unfold tBad; omega
              first
               | (exfalso; omega)
               | (
                refine c_cond_t rfl ?_
                refine c_seq ?_
                refine c_region ?_
                refine r_val .none rfl (p_assign rfl) ?_
                refine r_nil ?_
                refine e_next ?_
                refine c_ret ?_
                refine e_ret_then ?_
                refine e_ret_block ?_
                refine e_ret_then ?_
                refine e_ret_then ?_
                refine e_ret_block ?_
                refine e_ret_then ?_
                refine e_ret1 Try.results37 (.tmp rfl .nil) (fun w hm => ⟨?_, hm.since⟩)
                rw [rR_eq c d]
                first
                | (rw [if_pos (by omega)]; done)
                | (rw [if_neg (by omega), if_pos (by omega), if_pos (by rcases hB with (h | h) | h; exact .inl (.inl h); exact .inl (.inr (by omega)); exact .inr (by omega))]; done)
                | (rw [if_neg (by omega), if_pos (by omega), if_neg (by rintro ((h | h) | h); rw [hB.1.1] at h; cases h; omega; omega), ← hphi.2, hl, rRL_no (by omega) hE]; done)
                | (rw [if_neg (by omega), if_pos (by omega), if_neg (by rintro ((h | h) | h); rw [hB.1.1] at h; cases h; omega; omega), ← hphi.2, hl, List.drop_eq_nil_of_le (by simp; omega), rRL]; done)
                | (rw [if_neg (by omega), if_neg (by omega), if_pos (hC.imp id (fun h => by omega))]; done)
                | (rw [if_neg (by omega), if_neg (by omega), if_neg (by rintro (h | h); rw [hC.1] at h; cases h; omega), ← hphi.2.1, tsRight_bad (by omega) hN]; done)
                | (rw [if_neg (by omega), if_neg (by omega), if_neg (by rintro (h | h); rw [hC.1] at h; cases h; omega), ← hphi.2.1, List.drop_eq_nil_of_le (by omega)]; rfl)
                )
             ·
              try simp only [norms] at h_74
              have hN1 := h_74
              first
               | (exfalso; omega)
               | (
                refine c_cond_f rfl ?_
                refine c_skip ?_
                refine e_next ?_
                refine c_seq ?_
                refine c_region_q mixed (by kernel_rfl) ?_
                refine q_val .none rfl (p_field Try.underlying96 rfl sz3 rfl) ?_
                refine q_val .none rfl (p_ld (k := 0) Try.underlying3 rfl rfl rfl (by first | exact of_decide_eq_true rfl | omega) (rfl : _ = Value.int _ _)) ?_
                refine q_val .none rfl (p_eq rfl rfl) ?_
                refine q_val .none rfl (p_move rfl) ?_
                refine' q_and (c := 107) (d := 113) [_, _, _, _, _, _] rfl (fun h_75 Q_76 hQ_77 => ?_) (fun h_75 Q_76 hQ_77 => ?_) ?_
                rotate_left 1
                ·
                 replace h_75 := of_decide_eq_true h_75
                 refine q_val (.some rfl rfl) rfl (p_field Try.underlying96 rfl sz3 rfl) ?_
                 refine q_val (.some rfl rfl) rfl (p_ld (k := 0) Try.underlying3 rfl rfl rfl (by first | exact of_decide_eq_true rfl | omega) (rfl : _ = Value.int _ _)) ?_
                 refine q_val (.some rfl rfl) rfl (p_field Try.underlying96 rfl sz3 rfl) ?_
                 refine q_val (.some rfl rfl) rfl (p_ld (k := 0) Try.underlying3 rfl rfl rfl (by first | exact of_decide_eq_true rfl | omega) (rfl : _ = Value.int _ _)) ?_
                 refine q_val (.some rfl rfl) rfl (p_ge rfl rfl) ?_
                 refine q_val .none rfl (p_pick_t rfl rfl) ?_
                 refine q_nil (e_fin (d := 113) hQ_77 rfl (by repeat (first | exact .refl | refine .put rfl ?_ | refine .say rfl ?_ | refine .say2 rfl (by first | assumption | simp_all) ?_)))
                ·
                 repeat (first | refine q_skip rfl (.no rfl rfl) ?_ | refine q_skip rfl (.un rfl rfl) ?_)
                 refine q_val (by first | exact .none | exact .some rfl rfl) rfl (p_pick_f rfl rfl) ?_
                 refine q_nil (e_fin (d := 113) hQ_77 rfl (by repeat (first | exact .refl | refine .put rfl ?_ | refine .say rfl ?_ | refine .say2 rfl (by first | assumption | simp_all) ?_)))
                refine q_val .none rfl (p_move rfl) ?_
                refine' q_or (c := 114) (d := 129) [_, _, _, _, _, _, _, _, _, _, _, _, _, _, _] rfl (fun h_79 Q_80 hQ_81 => ?_) (fun h_79 Q_80 hQ_81 => ?_) ?_
                rotate_left 1
                ·
                 try simp only [norms] at h_79
                 refine q_val (.some rfl rfl) rfl (p_move rfl) ?_
                 refine q_val (.some rfl rfl) rfl (p_gt rfl rfl) ?_
                 refine q_val (.some rfl rfl) rfl (p_move rfl) ?_
                 refine' q_and (c := 117) (d := 128) [_, _, _, _, _, _, _, _, _, _, _] rfl (fun h_83 Q_84 hQ_85 => ?_) (fun h_83 Q_84 hQ_85 => ?_) ?_
                 rotate_left 1
                 ·
                  replace h_83 := of_decide_eq_true h_83
                  refine q_val (.some rfl rfl) rfl (p_field Try.underlying96 rfl sz3 rfl) ?_
                  refine q_val (.some rfl rfl) rfl (p_ld (k := 0) Try.underlying3 rfl rfl rfl (by first | exact of_decide_eq_true rfl | omega) (rfl : _ = Value.int _ _)) ?_
                  refine q_val (.some rfl rfl) rfl (p_field Try.underlying70 rfl sz68 rfl) ?_
                  refine q_val (.some rfl rfl) rfl (p_ld (k := 1) Try.underlying68 rfl rfl rfl (by first | exact of_decide_eq_true rfl | omega) rfl) ?_
                  refine q_val (.some rfl rfl) rfl (p_move rfl) ?_
                  refine q_val (.some rfl rfl) rfl (p_sub rfl rfl (by omega)) ?_
                  refine q_say (d := 123) (v := Value.int .i64 (((j - 1 : Nat)) : Int)) (congrArg (fun x => some (Value.int .i64 x)) (by omega)) ?_
                  refine q_iaddr_g (.some rfl rfl) rfl Try.underlying68 sz96 rfl ht rfl (by first | exact of_decide_eq_true rfl | omega) (fun p_88 o_89 R_87 => ?_)
                  refine q_val (.some rfl rfl) rfl (p_field Try.underlying96 rfl sz3 rfl) ?_
                  refine q_val (.some rfl rfl) rfl (p_ldg (j := 0) Try.underlying3 rfl rfl R_87 (by first | exact of_decide_eq_true rfl | omega) (rfl : _ = Value.int _ _)) ?_
                  refine q_val (.some rfl rfl) rfl (p_le rfl rfl) ?_
                  refine q_val (.some rfl rfl) rfl (p_pick_t rfl rfl) ?_
                  refine q_nil (e_fin (d := 128) hQ_85 rfl (by repeat (first | exact .refl | refine .put rfl ?_ | refine .say rfl ?_ | refine .say2 rfl (by first | assumption | simp_all) ?_)))
                 ·
                  repeat (first | refine q_skip rfl (.no rfl rfl) ?_ | refine q_skip rfl (.un rfl rfl) ?_)
                  refine q_val (by first | exact .none | exact .some rfl rfl) rfl (p_pick_f rfl rfl) ?_
                  refine q_nil (e_fin (d := 128) hQ_85 rfl (by repeat (first | exact .refl | refine .put rfl ?_ | refine .say rfl ?_ | refine .say2 rfl (by first | assumption | simp_all) ?_)))
                 refine q_val .none rfl (p_pick_f rfl rfl) ?_
                 refine q_nil (e_fin (d := 129) hQ_81 rfl (by repeat (first | exact .refl | refine .put rfl ?_ | refine .say rfl ?_ | refine .say2 rfl (by first | assumption | simp_all) ?_)))
                ·
                 repeat (first | refine q_skip rfl (.no rfl rfl) ?_ | refine q_skip rfl (.un rfl rfl) ?_)
                 refine q_val (by first | exact .none | exact .some rfl rfl) rfl (p_pick_t rfl rfl) ?_
                 refine q_nil (e_fin (d := 129) hQ_81 rfl (by repeat (first | exact .refl | refine .put rfl ?_ | refine .say rfl ?_ | refine .say2 rfl (by first | assumption | simp_all) ?_)))
                refine q_nil ?_
                refine e_next ?_
                refine c_split (d := 129) rfl (fun h_90 => ?_) (fun h_90 => ?_)
                ·
                 try simp only [norms] at h_90
                 have hN : tBad (c.h.ts.getD j t0) (lastF c.h.ts j) := by have hx := h_90; unfold tBad; omega
                 first
                  | (exfalso; omega)
                  | (
                   refine c_cond_t rfl ?_
                   refine c_seq ?_
                   refine c_region ?_
                   refine r_val .none rfl (p_assign rfl) ?_
                   refine r_nil ?_
                   refine e_next ?_
                   refine c_ret ?_
                   refine e_ret_block ?_
                   refine e_ret_then ?_
                   refine e_ret_then ?_
                   refine e_ret_block ?_
                   refine e_ret_then ?_
                   refine e_ret1 Try.results37 (.tmp rfl .nil) (fun w hm => ⟨?_, hm.since⟩)
                   rw [rR_eq c d]
                   first
                   | (rw [if_pos (by omega)]; done)
                   | (rw [if_neg (by omega), if_pos (by omega), if_pos (by rcases hB with (h | h) | h; exact .inl (.inl h); exact .inl (.inr (by omega)); exact .inr (by omega))]; done)
                   | (rw [if_neg (by omega), if_pos (by omega), if_neg (by rintro ((h | h) | h); rw [hB.1.1] at h; cases h; omega; omega), ← hphi.2, hl, rRL_no (by omega) hE]; done)
                   | (rw [if_neg (by omega), if_pos (by omega), if_neg (by rintro ((h | h) | h); rw [hB.1.1] at h; cases h; omega; omega), ← hphi.2, hl, List.drop_eq_nil_of_le (by simp; omega), rRL]; done)
                   | (rw [if_neg (by omega), if_neg (by omega), if_pos (hC.imp id (fun h => by omega))]; done)
                   | (rw [if_neg (by omega), if_neg (by omega), if_neg (by rintro (h | h); rw [hC.1] at h; cases h; omega), ← hphi.2.1, tsRight_bad (by omega) hN]; done)
                   | (rw [if_neg (by omega), if_neg (by omega), if_neg (by rintro (h | h); rw [hC.1] at h; cases h; omega), ← hphi.2.1, List.drop_eq_nil_of_le (by omega)]; rfl)
                   )
                ·
                 try simp only [norms] at h_90
                 have hN : ¬ tBad (c.h.ts.getD j t0) (lastF c.h.ts j) := by have hx := h_90; unfold tBad; omega
                 first
                  | (exfalso; omega)
                  | (
                   refine c_cond_f rfl ?_
                   refine c_skip ?_
                   refine e_norm_block ?_
                   refine e_next ?_
                   refine c_region ?_
                   refine r_val .none rfl (p_add rfl rfl (by omega)) ?_
                   refine r_val .none rfl (p_move rfl) ?_
                   refine r_nil ?_
                   refine e_round (j + 1) ⟨⟨by omega, by rw [← hphi.2.1, tsRight_next (by omega) hN]; rfl, by show -1 ≤ (c.h.ts.getD j t0).1; omega⟩, by omega⟩ rfl ⟨rfl, rfl, rfl, rfl, trivial⟩ (.drop (.keep (fun _ _ h => h) (.nil)))
                   )
                )
             )
          ·
           first
            | (exfalso; omega)
            | (
             refine c_cond_f rfl ?_
             refine c_exit ?_
             refine e_exit_then ?_
             refine e_exit_then ?_
             refine e_exit_block ?_
             refine e_next ?_
             refine c_seq ?_
             refine c_region ?_
             refine r_val .none rfl (p_assign rfl) ?_
             refine r_nil ?_
             refine e_next ?_
             refine c_ret ?_
             refine e_ret1 Try.results37 (.tmp rfl .nil) (fun w hm => ⟨?_, hm.since⟩)
             rw [rR_eq c d]
             first
             | (rw [if_pos (by omega)]; done)
             | (rw [if_neg (by omega), if_pos (by omega), if_pos (by rcases hB with (h | h) | h; exact .inl (.inl h); exact .inl (.inr (by omega)); exact .inr (by omega))]; done)
             | (rw [if_neg (by omega), if_pos (by omega), if_neg (by rintro ((h | h) | h); rw [hB.1.1] at h; cases h; omega; omega), ← hphi.2, hl, rRL_no (by omega) hE]; done)
             | (rw [if_neg (by omega), if_pos (by omega), if_neg (by rintro ((h | h) | h); rw [hB.1.1] at h; cases h; omega; omega), ← hphi.2, hl, List.drop_eq_nil_of_le (by simp; omega), rRL]; done)
             | (rw [if_neg (by omega), if_neg (by omega), if_pos (hC.imp id (fun h => by omega))]; done)
             | (rw [if_neg (by omega), if_neg (by omega), if_neg (by rintro (h | h); rw [hC.1] at h; cases h; omega), ← hphi.2.1, tsRight_bad (by omega) hN]; done)
             | (rw [if_neg (by omega), if_neg (by omega), if_neg (by rintro (h | h); rw [hC.1] at h; cases h; omega), ← hphi.2.1, List.drop_eq_nil_of_le (by omega)]; rfl)
             )
          )
       )
    )
theorem c_rrightS_n : ∀ n, RrightIs n
 | 0 => fun c ta sb d G w hz _ _ _ _ => absurd hz (by have := s_pos c; omega)
 | n + 1 => fun c ta sb d G w hz hsz ht hs hG => c_rrightS_s n (c_rrightS_n n) c ta sb d hz hsz ht hs w hG
theorem c_rrightS (c : ST) (ta sb : Value) (d : Int) {G : Ghost} (hsz : (0 ≤ d ∧ d ≤ 4) ∧ ssize c ≤ 5000) (ht : SlL G ta 3 tC t0 c.h.ts) (hs : Ss G sb c.subs) (w : World) (hG : Has G w) : Calls Try.prog 37 #[Value.agg #[Value.int .i64 c.h.k, Value.int .i64 c.h.k0, Value.int .i64 c.h.k1, Value.int .i64 c.h.k2, ta, sb], Value.int .i64 d] w (Ret fun r w' => r = Value.bool (rR c d) ∧ Since nX w w') := c_rrightS_n _ c ta sb d G w (Nat.le_refl _) hsz ht hs hG
end Go.Proofs.Ytoflaphnlfggkaa

/- Walks: what Go functions of this chapter come to, each as a function on plain data; no condition but those that each theorem names. Printed by a program of this work (gen.py). -/
namespace Go.Proofs.Ytoflaphnlfggkaa
open Go.Gx Go.Gx.T4 Go.Gx.T3 Go.Gx.T6 Go.Gx.T8 Go.Gx.T4 Go.Gx.T3 Go.Gx.T8 Go.Gx.T4 Go.Gx.T3 Go.Gx.T8 Go.Gx.T6 Go.Gx.T4 Go.Gx.T3
theorem lf96 : leafT Try.prog 9 96 = some [3, 3, 3] := by
 kernel_rfl
theorem ef96 : eqT Try.prog 9 96 = true := by
 kernel_rfl
theorem eg96 : Try.prog.eqGuardType Try.prog.depth 96 = false := by
 kernel_rfl
theorem cl32 : Callable Try.prog 32 := callable Try.func32 (by kernel_rfl) rfl
theorem cl33 : Callable Try.prog 33 := callable Try.func33 (by kernel_rfl) rfl
theorem bl70_0i1_1a3 (x0 : Int) (x1 : Value) (x2 : Value) (x3 : Value) : Program.built Try.prog 70 [(0, Value.int .i64 x0), (1, Value.agg #[x1, x2, x3])] = some #[Value.int .i64 x0, x1, x2, x3, Value.slice none 0 0, Value.slice none 0 0] := by
 kernel_rfl
def RsameSIs (n : Nat) : Prop := ∀ (c c2 : ST) (ta sb ta2 sb2 : Value) (G : Ghost) (w : World), SizeOf.sizeOf c ≤ n → SlL G ta 3 tC t0 c.h.ts → Ss G sb c.subs → SlL G ta2 3 tC t0 c2.h.ts → Ss G sb2 c2.subs → Has G w → Calls Try.prog 32 #[Value.agg #[Value.int .i64 c.h.k, Value.int .i64 c.h.k0, Value.int .i64 c.h.k1, Value.int .i64 c.h.k2, ta, sb], Value.agg #[Value.int .i64 c2.h.k, Value.int .i64 c2.h.k0, Value.int .i64 c2.h.k1, Value.int .i64 c2.h.k2, ta2, sb2]] w (Ret fun r w' => r = Value.bool (seq c c2) ∧ Since nX w w')
def SrefIs (n : Nat) : Prop := ∀ (c : ST) (ta sb : Value) (G : Ghost) (w : World), SizeOf.sizeOf c ≤ n → ssz c ≤ 5000 → SlL G ta 3 tC t0 c.h.ts → Ss G sb c.subs → Has G w → Calls Try.prog 33 #[Value.agg #[Value.int .i64 c.h.k, Value.int .i64 c.h.k0, Value.int .i64 c.h.k1, Value.int .i64 c.h.k2, ta, sb]] w (Ret fun r w' => ∃ G', GNew w nX G G' ∧ Has G' w' ∧ (∃ ua ub, r = Value.agg #[Value.int .i64 (c).h.k, Value.int .i64 (c).h.k0, Value.int .i64 (c).h.k1, Value.int .i64 (c).h.k2, ua, ub] ∧ SlL G' ua 3 tC t0 (c).h.ts ∧ Ss G' ub (c).subs) ∧ Since nX w w')
theorem c_sref_s (n : Nat) (ih : SrefIs n) (c : ST) (ta sb : Value) {G : Ghost} (hz : SizeOf.sizeOf c ≤ n + 1) (hsz : ssz c ≤ 5000) (ht : SlL G ta 3 tC t0 c.h.ts) (hs : Ss G sb c.subs) (w : World) (hG : Has G w) :
  Calls Try.prog 33 #[Value.agg #[Value.int .i64 c.h.k, Value.int .i64 c.h.k0, Value.int .i64 c.h.k1, Value.int .i64 c.h.k2, ta, sb]] w (Ret fun r w' => ∃ G', GNew w nX G G' ∧ Has G' w' ∧ (∃ ua ub, r = Value.agg #[Value.int .i64 (c).h.k, Value.int .i64 (c).h.k0, Value.int .i64 (c).h.k1, Value.int .i64 (c).h.k2, ua, ub] ∧ SlL G' ua 3 tC t0 (c).h.ts ∧ Ss G' ub (c).subs) ∧ Since nX w w') := by
 refine enter (args := [_]) (X := nX) (G := G) (l := [(0, Value.agg #[Value.int .i64 c.h.k, Value.int .i64 c.h.k0, Value.int .i64 c.h.k1, Value.int .i64 c.h.k2, ta, sb])]) Try.func33 rfl Try.ntmps33 hG ⟨rfl, trivial⟩ (Nat.le_of_ble_eq_true rfl) ?_
 obtain ⟨rs, hr, hrt, hrs, hl⟩ := hs.inv
 have hbd := hr.bound
 have hbd2 := ht.bound
 have hsq := ssz_eq c
 have hll := sszL_len c.subs
 have hlr : c.subs.length = rs.length := by rw [hl]; simp
 refine c_seq ?_
 refine c_region ?_
 refine r_box .none rfl rfl (IsRow.lit _) (fun b_1 => ?_)
 refine r_alloc .none rfl zr70 (IsRow.lit _) (fun b_2 => ?_)
 refine r_nil ?_
 refine e_next ?_
 refine c_seq ?_
 refine c_region ?_
 refine r_val .none rfl (p_field Try.underlying64 rfl sz3 rfl) ?_
 refine r_val .none rfl (p_ld (k := 1) Try.underlying3 rfl rfl rfl (by first | exact of_decide_eq_true rfl | omega) (rfl : _ = Value.int _ _)) ?_
 refine r_val .none rfl (p_field Try.underlying64 rfl sz61 rfl) ?_
 refine r_val .none rfl (p_lda (k := 1) Try.underlying61 rfl sz61 rfl rfl (by first | exact of_decide_eq_true rfl | omega) (rfl : _ = Value.agg #[_, _, _])) ?_
 refine r_val .none rfl (p_build (vs := [(0, Value.int _ _), (1, Value.agg #[_, _, _])]) rfl (bl70_0i1_1a3 _ _ _ _)) ?_
 refine r_alloc .none rfl zr70 (IsRow.lit _) (fun b_3 => ?_)
 refine r_stw (k := 0) .none sz70 rfl rfl (IsRow.lit _) (one_lit rfl rfl) rfl ?_
 refine r_nil ?_
 refine e_next ?_
 refine c_seq ?_
 refine c_seq ?_
 refine c_region ?_
 refine r_val .none rfl (p_field Try.underlying64 rfl sz62 rfl) ?_
 refine r_val .none rfl (p_ld (k := 2) Try.underlying62 rfl rfl rfl (by first | exact of_decide_eq_true rfl | omega) rfl) ?_
 refine r_val .none rfl (p_leng Try.underlying62 rfl ht) ?_
 have bd_1 := (ht).bound
 refine r_val .none rfl (p_move rfl) ?_
 refine r_nil ?_
 refine e_next ?_
 refine c_block ?_
 refine c_nilrow 96 3 ?_
 refine c_name (d := 1) rfl (fun u_2 hu_2 => ?_)
 refine c_name (d := 2) rfl (fun u_3 hu_3 => ?_)
 refine c_name (d := 3) rfl (fun u_4 hu_4 => ?_)
 refine c_name (d := 14) rfl (fun u_5 hu_5 => ?_)
 refine c_name (d := 15) rfl (fun u_6 hu_6 => ?_)
 refine c_nameL (k := 2) rfl (fun A_7 hA_7 => ?_)
 refine c_nameL (k := 3) rfl (fun A_8 hA_8 => ?_)
 refine c_loop (σ := Nat × Value) (fun s => [(16, Value.int .i64 (s.1 : Nat)), (1, u_2), (2, u_3), (3, u_4), (14, u_5), (15, u_6)]) (fun s => [rowA (s.2) 96 3 ((c.h.ts.take s.1)).length (((c.h.ts.take s.1)).flatMap tC), box b_3 6 70 (at_ [.int .i64 c.h.k, .int .i64 c.h.k0, .int .i64 c.h.k1, .int .i64 c.h.k2, s.2, .slice none 0 0]), A_7, A_8]) (fun _ => _) (fun s => s.1 ≤ c.h.ts.length) (fun s => c.h.ts.length - s.1) ((0, _)) (Nat.zero_le _) rfl ⟨rfl, rfl, rfl, rfl, rfl, rfl, trivial⟩ (.keep (fun _ _ h => rowA_nil rfl _ _ h) (.keep (fun _ _ h => box_congr (fun i hi => by match i, hi with | 0, _ => rfl | 1, _ => rfl | 2, _ => rfl | 3, _ => rfl | 4, _ => rfl | 5, _ => rfl) _ _ h) (.keep (fun _ _ h => h) (.keep (fun _ _ h => h) (.nil))))) (fun s hphi => ?_)
 subst hu_2
 subst hu_3
 subst hu_4
 subst hu_5
 subst hu_6
 subst hA_7
 subst hA_8
 obtain ⟨j, tv⟩ := s
 dsimp only at hphi ⊢
 refine c_row1 (k := 0) rfl (fun ov => ?_)
 refine c_rowlen (k := 0) rfl (fun l63 => ?_)
 refine c_seq ?_
 refine c_region ?_
 refine r_val .none rfl (p_lt rfl rfl) ?_
 refine r_nil ?_
 refine e_next ?_
 refine c_seq ?_
 refine c_splitd (d := 17) rfl (fun h_9 => ?_) (fun h_9 => ?_)
 ·
  first
   | (exfalso; omega)
   | (
    refine c_cond_t rfl ?_
    refine c_skip ?_
    refine e_next ?_
    refine c_seq ?_
    refine c_block ?_
    refine c_seq ?_
    refine c_region ?_
    refine r_iaddr_g .none rfl Try.underlying62 sz92 rfl ht rfl (by first | exact of_decide_eq_true rfl | omega) (fun p_11 o_12 R_10 => ?_)
    refine r_val .none rfl (p_ldga0 Try.underlying92 rfl sz92 rfl R_10 (by first | exact of_decide_eq_true rfl | omega) (rfl : _ = Value.agg #[_, _, _])) ?_
    refine r_alloc .none rfl zr92 (IsRow.lit _) (fun b_4 => ?_)
    refine r_stw (k := 0) .none sz92 rfl rfl (IsRow.lit _) (one_lit rfl rfl) rfl ?_
    refine r_nil ?_
    refine e_next ?_
    refine c_region ?_
    refine r_val .none rfl (p_field Try.underlying70 rfl sz68 rfl) ?_
    refine r_val .none rfl (p_ld (k := 2) Try.underlying68 rfl rfl rfl (by first | exact of_decide_eq_true rfl | omega) rfl) ?_
    refine r_val .none rfl (p_field Try.underlying92 rfl sz3 rfl) ?_
    refine r_val .none rfl (p_ld (k := 0) Try.underlying3 rfl rfl rfl (by first | exact of_decide_eq_true rfl | omega) (rfl : _ = Value.int _ _)) ?_
    refine r_val .none rfl (p_field Try.underlying92 rfl sz3 rfl) ?_
    refine r_val .none rfl (p_ld (k := 0) Try.underlying3 rfl rfl rfl (by first | exact of_decide_eq_true rfl | omega) (rfl : _ = Value.int _ _)) ?_
    refine r_val .none rfl (p_field Try.underlying92 rfl sz3 rfl) ?_
    refine r_val .none rfl (p_ld (k := 0) Try.underlying3 rfl rfl rfl (by first | exact of_decide_eq_true rfl | omega) (rfl : _ = Value.int _ _)) ?_
    refine r_val .none rfl (p_build (vs := [(0, Value.int _ _), (1, Value.int _ _), (2, Value.int _ _)]) rfl (bl96_0i1_1i1_2i1 _ _ _)) ?_
    refine r_bslice (vs := [(0, Value.agg #[_, _, _])]) (c := #[_, _, _]) .none rfl Try.underlying68 el96 rfl rfl rfl (bs96_10a3 _ _ _) (IsRow.lit _) (fun b_5 => ?_)
    refine r_append (k := 2) (k2 := 0) .none rfl Try.underlying68 el96 rfl (by decide) rfl rfl rfl rfl rfl (one_lit rfl rfl) (by rw [List.length_take]; simp only [maxLen]; omega) (by rw [List.length_take]; omega) (fun v_13 => ?_)
    refine r_row1 (k := 2) rfl (fun o_14 => ?_)
    refine r_val .none rfl (p_field Try.underlying70 rfl sz68 rfl) ?_
    refine r_st (k := 3) .none sz68 rfl rfl o_14 rfl (by first | exact of_decide_eq_true rfl | omega) ?_
    refine r_nil ?_
    refine e_norm_block ?_
    refine e_next ?_
    refine c_region ?_
    refine r_val .none rfl (p_add rfl rfl (by omega)) ?_
    refine r_val .none rfl (p_move rfl) ?_
    refine r_nil ?_
    refine e_round ((j + 1, _)) ⟨by dsimp only; omega, by dsimp only; omega⟩ rfl ⟨rfl, rfl, rfl, rfl, rfl, rfl, trivial⟩ (.drop (.drop (.keep (fun _ _ h => rowA_snoc (ts_next (by omega)) rfl rfl rfl _ _ h) (.keep (fun _ _ h => box_congr (fun i hi => by match i, hi with | 0, _ => rfl | 1, _ => rfl | 2, _ => rfl | 3, _ => rfl | 4, _ => rfl | 5, _ => rfl) _ _ h) (.keep (fun _ _ h => h) (.keep (fun _ _ h => h) (.nil)))))))
    )
 ·
  first
   | (exfalso; omega)
   | (
    refine c_cond_f rfl ?_
    refine c_exit ?_
    refine e_exit_then ?_
    refine e_exit_then ?_
    refine e_exit_block ?_
    refine e_next ?_
    refine c_seq ?_
    refine c_seq ?_
    refine c_region ?_
    have hj2 : c.h.ts.take j = c.h.ts := List.take_of_length_le (by omega)
    refine r_freeze (k := 0) rfl (fun G_15 hn_16 hs_17 => ?_)
    replace ht := ht.mono hn_16.le
    replace hr := hr.mono hn_16.le
    replace hrt := fun p hm0 => (hrt p hm0).mono hn_16.le
    replace hrs := fun p hm0 => (hrs p hm0).mono hn_16.le
    have hts : SlL G_15 tv 3 tC t0 c.h.ts := SlL.of2 t0 (fun _ => rfl) (by rw [hj2]) (by rw [hj2]) hs_17
    refine r_val .none rfl (p_field Try.underlying64 rfl sz50 rfl) ?_
    refine r_val .none rfl (p_ld (k := 2) Try.underlying50 rfl rfl rfl (by first | exact of_decide_eq_true rfl | omega) rfl) ?_
    refine r_val .none rfl (p_leng Try.underlying50 rfl hr) ?_
    have bd_18 := (hr).bound
    refine r_val .none rfl (p_move rfl) ?_
    refine r_nil ?_
    refine e_next ?_
    refine c_block ?_
    refine c_nilrow 70 6 ?_
    refine c_name (d := 2) rfl (fun u_19 hu_19 => ?_)
    refine c_name (d := 3) rfl (fun u_20 hu_20 => ?_)
    refine c_name (d := 34) rfl (fun u_21 hu_21 => ?_)
    refine c_name (d := 35) rfl (fun u_22 hu_22 => ?_)
    refine c_nameL (k := 2) rfl (fun A_23 hA_23 => ?_)
    refine c_nameL (k := 3) rfl (fun A_24 hA_24 => ?_)
    refine c_loop (σ := Nat × Value × List SVal × Ghost) (fun s => [(36, Value.int .i64 (s.1 : Nat)), (2, u_19), (3, u_20), (34, u_21), (35, u_22)]) (fun s => [rowA (s.2.1) 70 6 (s.2.2.1).length ((s.2.2.1).flatMap sC), box b_3 6 70 (at_ [.int .i64 c.h.k, .int .i64 c.h.k0, .int .i64 c.h.k1, .int .i64 c.h.k2, tv, s.2.1]), A_23, A_24]) (fun s => s.2.2.2) (fun s => s.1 ≤ rs.length ∧ s.2.2.1.map Prod.fst = (rs.map Prod.fst).take s.1 ∧ (∀ p ∈ s.2.2.1, SlL s.2.2.2 p.2.1 3 tC t0 p.1.h.ts) ∧ (∀ p ∈ s.2.2.1, Ss s.2.2.2 p.2.2 p.1.subs) ∧ GNew w nX G_15 s.2.2.2) (fun s => rs.length - s.1) ((0, _, [], _)) ⟨Nat.zero_le _, rfl, by simp, by simp, GNew.refl _ _ _⟩ rfl ⟨rfl, rfl, rfl, rfl, rfl, trivial⟩ (.keep (fun _ _ h => rowA_nil rfl _ _ h) (.keep (fun _ _ h => box_congr (fun i hi => by match i, hi with | 0, _ => rfl | 1, _ => rfl | 2, _ => rfl | 3, _ => rfl | 4, _ => rfl | 5, _ => rfl) _ _ h) (.keep (fun _ _ h => h) (.keep (fun _ _ h => h) (.nil))))) (fun s hphi => ?_)
    subst hu_19
    subst hu_20
    subst hu_21
    subst hu_22
    subst hA_23
    subst hA_24
    obtain ⟨k, v, qs, H⟩ := s
    obtain ⟨hk, hq, hqt, hqs, hgn⟩ := hphi
    dsimp only at hk hq hqt hqs hgn ⊢
    have hql : qs.length ≤ k := (by have := congrArg List.length hq; simp at this; omega)
    refine c_row1 (k := 0) rfl (fun ov => ?_)
    refine c_rowlen (k := 0) rfl (fun l63 => ?_)
    replace ht := ht.mono hgn.le
    replace hr := hr.mono hgn.le
    replace hrt := fun p hm0 => (hrt p hm0).mono hgn.le
    replace hrs := fun p hm0 => (hrs p hm0).mono hgn.le
    replace hts := hts.mono hgn.le
    refine c_seq ?_
    refine c_region ?_
    refine r_val .none rfl (p_lt rfl rfl) ?_
    refine r_nil ?_
    refine e_next ?_
    refine c_seq ?_
    refine c_splitd (d := 37) rfl (fun h_25 => ?_) (fun h_25 => ?_)
    ·
     first
      | (exfalso; omega)
      | (
       refine c_cond_t rfl ?_
       refine c_skip ?_
       refine e_next ?_
       refine c_seq ?_
       refine c_block ?_
       refine c_seq ?_
       refine c_region ?_
       refine r_iaddr_g .none rfl Try.underlying50 sz64 rfl hr rfl (by first | exact of_decide_eq_true rfl | omega) (fun p_27 o_28 R_26 => ?_)
       have ht_29 := hrt _ (getD_mem (i := k) (d := s0) (by omega))
       have hc_30 := hrs _ (getD_mem (i := k) (d := s0) (by omega))
       have hz8 : ssz (rs.getD k s0).1 ≤ 5000 := Nat.le_trans (sszL_mem (l := c.subs) (by rw [hl]; exact sv_mem (k := k) (by omega))) (by omega)
       refine r_val .none rfl (p_ldga0 Try.underlying64 rfl sz64 rfl R_26 (by first | exact of_decide_eq_true rfl | omega) (rfl : _ = Value.agg #[_, _, _, _, _, _])) ?_
       refine r_alloc .none rfl zr64 (IsRow.lit _) (fun b_6 => ?_)
       refine r_stw (k := 0) .none sz64 rfl rfl (IsRow.lit _) (one_lit rfl (all_cons rfl (all_cons rfl (all_cons rfl (all_cons rfl (all_cons (ht_29).one (all_cons (hc_30).one rfl))))))) rfl ?_
       refine r_nil ?_
       refine e_next ?_
       refine c_region_d (fun j => [5, 6, 7].contains j) _ mixed (.keep (fun _ _ h => h) (.keep (fun _ _ h => h) (.keep (fun _ _ h => h) (.keep (fun _ _ h => h) (.keep (fun _ _ h => h) (.nil)))))) ?_
       refine d_val1 0 rfl rfl (by kernel_rfl) (fun j hj => by have h : 7 < j := (Nat.lt_of_lt_of_le (by decide : 7 < 8) hj); simp; omega) .none rfl (p_field Try.underlying70 rfl sz48 rfl) ?_
       refine d_val1 1 rfl rfl (by kernel_rfl) (fun j hj => by have h : 7 < j := (Nat.lt_of_lt_of_le (by decide : 7 < 8) hj); simp; omega) .none rfl (p_ld (k := 2) Try.underlying48 rfl rfl rfl (by first | exact of_decide_eq_true rfl | omega) rfl) ?_
       refine d_val1 2 rfl rfl (by kernel_rfl) (fun j hj => by have h : 7 < j := (Nat.lt_of_lt_of_le (by decide : 7 < 8) hj); simp; omega) .none rfl (p_ldw (k := 0) Try.underlying64 rfl sz64 rfl rfl (rfl : _ = Value.agg #[_, _, _, _, _, _])) ?_
       refine d_eff 3 rfl (by kernel_rfl) (fun K_31 hKK_31 hcK_31 => ?_)
       refine r_callm (vs := [_]) .none rfl cl33 rfl (fun w hw => ih (rs.getD k s0).1 _ _ _ w (ssz_at hl (by omega) hz) hz8 ht_29 hc_30 hw) (fun G_32 v_35 hn_33 hr_34 => ?_)
       replace ht := ht.mono hn_33.le
       replace hr := hr.mono hn_33.le
       replace hrt := fun p hm0 => (hrt p hm0).mono hn_33.le
       replace hrs := fun p hm0 => (hrs p hm0).mono hn_33.le
       replace hts := hts.mono hn_33.le
       replace hqt := fun p hm0 => (hqt p hm0).mono hn_33.le
       replace hqs := fun p hm0 => (hqs p hm0).mono hn_33.le
       replace R_26 := R_26.mono hn_33.le
       replace ht_29 := ht_29.mono hn_33.le
       replace hc_30 := hc_30.mono hn_33.le
       obtain ⟨u_36a, u_36b, rfl, u_36s, u_36t⟩ := hr_34
       refine r_nil (e_d (i := 3) (brk := (fun j => [5, 6, 7].contains j)) (ph' := true) hKK_31 hcK_31 rfl (fun _ => hn_33.le) (fun _ => .keep (fun _ _ h => h) (.keep (fun _ _ h => h) (.keep (fun _ _ h => h) (.keep (fun _ _ h => h) (.keep (fun _ _ h => h) (.nil)))))) ?_)
       clear hKK_31 hcK_31 K_31
       refine d_eff 4 rfl (by kernel_rfl) (fun K_37 hKK_37 hcK_37 => ?_)
       refine r_bslice (vs := [(0, Value.agg #[_, _, _, _, _, _])]) (c := #[_, _, _, _, _, _]) .none rfl Try.underlying48 el70 rfl rfl rfl (bs70_10a6 _ _ _ _ _ _) (IsRow.lit _) (fun b_7 => ?_)
       refine r_nil (e_d (i := 4) (brk := (fun j => [5, 6, 7].contains j)) (ph' := true) hKK_37 hcK_37 rfl (fun _ => hn_33.le) (fun _ => .drop (.keep (fun _ _ h => h) (.keep (fun _ _ h => h) (.keep (fun _ _ h => h) (.keep (fun _ _ h => h) (.keep (fun _ _ h => h) (.nil))))))) ?_)
       clear hKK_37 hcK_37 K_37
       refine d_eff 5 rfl (by kernel_rfl) (fun K_38 hKK_38 hcK_38 => ?_)
       refine r_append (k := 2) (k2 := 0) .none rfl Try.underlying48 el70 rfl (by decide) rfl rfl rfl rfl rfl (one_lit rfl (all_cons rfl (all_cons rfl (all_cons rfl (all_cons rfl (all_cons (u_36s).one (all_cons (u_36t).one rfl))))))) (by simp only [maxLen]; omega) (by omega) (fun v_39 => ?_)
       refine r_row1 (k := 2) rfl (fun o_40 => ?_)
       refine r_nil (e_d (i := 5) (brk := (fun j => [5, 6, 7].contains j)) (ph' := false) hKK_38 hcK_38 rfl (fun h => by cases h) (fun h => by cases h) ?_)
       clear hKK_38 hcK_38 K_38
       refine d_val2 6 rfl rfl (by kernel_rfl) .none rfl (fun _ => p_field Try.underlying70 rfl sz48 rfl) ?_
       refine d_eff 7 rfl (by kernel_rfl) (fun K_41 hKK_41 hcK_41 => ?_)
       refine r_st (k := 3) .none sz48 rfl rfl o_40 rfl (by first | exact of_decide_eq_true rfl | omega) ?_
       refine r_nil (e_d (i := 7) (brk := (fun j => [5, 6, 7].contains j)) (ph' := false) hKK_41 hcK_41 rfl (fun h => by cases h) (fun h => by cases h) ?_)
       clear hKK_41 hcK_41 K_41
       refine d_nil (by kernel_rfl) ?_
       refine e_norm_block ?_
       refine e_next ?_
       refine c_region ?_
       refine r_val .none rfl (p_add rfl rfl (by omega)) ?_
       refine r_val .none rfl (p_move rfl) ?_
       refine r_nil ?_
       refine e_round ((k + 1, _, qs ++ [((rs.getD k s0).1, u_36a, u_36b)], _)) ⟨⟨by dsimp only; omega, by rw [sv_take (by omega), List.map_append, hq]; rfl, (fun p hp' => by rcases List.mem_append.1 hp' with h | h; exact hqt p h; rw [List.mem_singleton.1 h]; exact u_36s), (fun p hp' => by rcases List.mem_append.1 hp' with h | h; exact hqs p h; rw [List.mem_singleton.1 h]; exact u_36t), (hgn.trans hn_33)⟩, by dsimp only; omega⟩ rfl ⟨rfl, rfl, rfl, rfl, rfl, trivial⟩ (.drop (.drop (.keep (fun _ _ h => rowA_snoc (l := qs) (x := ((rs.getD k s0).1, u_36a, u_36b)) rfl rfl rfl rfl _ _ h) (.keep (fun _ _ h => box_congr (fun i hi => by match i, hi with | 0, _ => rfl | 1, _ => rfl | 2, _ => rfl | 3, _ => rfl | 4, _ => rfl | 5, _ => rfl) _ _ h) (.keep (fun _ _ h => h) (.keep (fun _ _ h => h) (.nil)))))))
       )
    ·
     first
      | (exfalso; omega)
      | (
       refine c_cond_f rfl ?_
       refine c_exit ?_
       refine e_exit_then ?_
       refine e_exit_then ?_
       refine e_exit_block ?_
       refine e_next ?_
       refine c_seq ?_
       refine c_region ?_
       refine r_val .none rfl (p_ldw (k := 1) Try.underlying70 rfl sz70 rfl rfl (rfl : _ = Value.agg #[_, _, _, _, _, _])) ?_
       refine r_stw (k := 2) .none sz70 rfl rfl (IsRow.lit _) (one_lit rfl (all_cons rfl (all_cons rfl (all_cons rfl (all_cons rfl (all_cons (hts).one (all_cons ov rfl))))))) rfl ?_
       refine r_nil ?_
       refine e_next ?_
       refine c_ret ?_
       refine e_freeze (k := 0) rfl (fun G_42 hn_43 hs_44 => ?_)
       replace ht := ht.mono hn_43.le
       replace hr := hr.mono hn_43.le
       replace hrt := fun p hm0 => (hrt p hm0).mono hn_43.le
       replace hrs := fun p hm0 => (hrs p hm0).mono hn_43.le
       replace hts := hts.mono hn_43.le
       replace hqt := fun p hm0 => (hqt p hm0).mono hn_43.le
       replace hqs := fun p hm0 => (hqs p hm0).mono hn_43.le
       refine e_ret1 Try.results33 (.cell (k := 1) rfl Try.underlying70 rfl sz70 rfl (rfl : _ = Value.agg #[_, _, _, _, _, _]) .nil) (fun w hm => ⟨_, ((hn_16.trans hgn).trans hn_43), hm.has, ?_, hm.since⟩)
       exact ⟨_, _, rfl, hts, by rw [show c.subs = qs.map Prod.fst by rw [hq, hl, List.take_of_length_le (by simp; omega)]]; exact Ss.mk qs (SlL.of s0 (fun _ => rfl) rfl hs_44) hqt hqs⟩
       )
    )
theorem c_sref_n : ∀ n, SrefIs n
 | 0 => fun c ta sb G w hz _ _ _ _ => absurd hz (by have := s_pos c; omega)
 | n + 1 => fun c ta sb G w hz hsz ht hs hG => c_sref_s n (c_sref_n n) c ta sb hz hsz ht hs w hG
theorem c_sref (c : ST) (ta sb : Value) {G : Ghost} (hsz : ssz c ≤ 5000) (ht : SlL G ta 3 tC t0 c.h.ts) (hs : Ss G sb c.subs) (w : World) (hG : Has G w) : Calls Try.prog 33 #[Value.agg #[Value.int .i64 c.h.k, Value.int .i64 c.h.k0, Value.int .i64 c.h.k1, Value.int .i64 c.h.k2, ta, sb]] w (Ret fun r w' => ∃ G', GNew w nX G G' ∧ Has G' w' ∧ (∃ ua ub, r = Value.agg #[Value.int .i64 (c).h.k, Value.int .i64 (c).h.k0, Value.int .i64 (c).h.k1, Value.int .i64 (c).h.k2, ua, ub] ∧ SlL G' ua 3 tC t0 (c).h.ts ∧ Ss G' ub (c).subs) ∧ Since nX w w') := c_sref_n _ c ta sb G w (Nat.le_refl _) hsz ht hs hG
theorem c_rsameS_s (n : Nat) (ih : RsameSIs n) (c c2 : ST) (ta sb ta2 sb2 : Value) {G : Ghost} (hz : SizeOf.sizeOf c ≤ n + 1) (ht : SlL G ta 3 tC t0 c.h.ts) (hs : Ss G sb c.subs) (ht2 : SlL G ta2 3 tC t0 c2.h.ts) (hs2 : Ss G sb2 c2.subs) (w : World) (hG : Has G w) :
  Calls Try.prog 32 #[Value.agg #[Value.int .i64 c.h.k, Value.int .i64 c.h.k0, Value.int .i64 c.h.k1, Value.int .i64 c.h.k2, ta, sb], Value.agg #[Value.int .i64 c2.h.k, Value.int .i64 c2.h.k0, Value.int .i64 c2.h.k1, Value.int .i64 c2.h.k2, ta2, sb2]] w (Ret fun r w' => r = Value.bool (seq c c2) ∧ Since nX w w') := by
 refine enter (args := [_, _]) (X := nX) (G := G) (l := [(0, Value.agg #[Value.int .i64 c.h.k, Value.int .i64 c.h.k0, Value.int .i64 c.h.k1, Value.int .i64 c.h.k2, ta, sb]), (1, Value.agg #[Value.int .i64 c2.h.k, Value.int .i64 c2.h.k0, Value.int .i64 c2.h.k1, Value.int .i64 c2.h.k2, ta2, sb2])]) Try.func32 rfl Try.ntmps32 hG ⟨rfl, rfl, trivial⟩ (Nat.le_of_ble_eq_true rfl) ?_
 obtain ⟨rs, hr, hrt, hrs, hl⟩ := hs.inv
 obtain ⟨rs2, hr2, hrt2, hrs2, hl2⟩ := hs2.inv
 have hbd := hr.bound
 have hbd2 := hr2.bound
 have hbd3 := ht.bound
 have hbd4 := ht2.bound
 have hlr : c.subs.length = rs.length := by rw [hl]; simp
 have hlr2 : c2.subs.length = rs2.length := by rw [hl2]; simp
 refine c_seq ?_
 refine c_region ?_
 refine r_box .none rfl rfl (IsRow.lit _) (fun b_1 => ?_)
 refine r_box .none rfl rfl (IsRow.lit _) (fun b_2 => ?_)
 refine r_val .none rfl (p_assign rfl) ?_
 refine r_nil ?_
 refine e_next ?_
 refine c_seq ?_
 refine c_seq ?_
 refine c_region ?_
 refine r_val .none rfl (p_field Try.underlying70 rfl sz3 rfl) ?_
 refine r_val .none rfl (p_ld (k := 1) Try.underlying3 rfl rfl rfl (by first | exact of_decide_eq_true rfl | omega) (rfl : _ = Value.int _ _)) ?_
 refine r_val .none rfl (p_field Try.underlying70 rfl sz3 rfl) ?_
 refine r_val .none rfl (p_ld (k := 0) Try.underlying3 rfl rfl rfl (by first | exact of_decide_eq_true rfl | omega) (rfl : _ = Value.int _ _)) ?_
 refine r_val .none rfl (p_ne rfl rfl) ?_
 refine r_val .none rfl (p_move rfl) ?_
 refine' r_or (c := 12) (d := 18) [_, _, _, _, _, _] rfl (fun h_1 Q_2 hQ_3 => ?_) (fun h_1 Q_2 hQ_3 => ?_) ?_
 rotate_left 1
 ·
  replace h_1 := of_decide_eq_false h_1
  refine r_val (.some rfl rfl) rfl (p_field Try.underlying70 rfl sz60 rfl) ?_
  refine r_val (.some rfl rfl) rfl (p_lda (k := 1) Try.underlying60 rfl sz60 rfl rfl (by first | exact of_decide_eq_true rfl | omega) (rfl : _ = Value.agg #[_, _, _])) ?_
  refine r_val (.some rfl rfl) rfl (p_field Try.underlying70 rfl sz60 rfl) ?_
  refine r_val (.some rfl rfl) rfl (p_lda (k := 0) Try.underlying60 rfl sz60 rfl rfl (by first | exact of_decide_eq_true rfl | omega) (rfl : _ = Value.agg #[_, _, _])) ?_
  refine r_val (.some rfl rfl) rfl (p_nea rfl rfl (eq_flat Try.underlying60 rfl lf60 ef60 eg60 (.cons (.int Try.underlying3) (.cons (.int Try.underlying3) (.cons (.int Try.underlying3) (.nil)))) (.cons (.int Try.underlying3) (.cons (.int Try.underlying3) (.cons (.int Try.underlying3) (.nil)))))) ?_
  refine r_val .none rfl (p_pick_f rfl rfl) ?_
  refine r_nil (e_fin (d := 18) hQ_3 rfl (by repeat (first | exact .refl | refine .put rfl ?_ | refine .say rfl ?_ | refine .say2 rfl (by first | assumption | simp_all) ?_)))
 ·
  repeat (first | refine r_skip rfl (.no rfl rfl) ?_ | refine r_skip rfl (.un rfl rfl) ?_)
  refine r_val (by first | exact .none | exact .some rfl rfl) rfl (p_pick_t rfl rfl) ?_
  refine r_nil (e_fin (d := 18) hQ_3 rfl (by repeat (first | exact .refl | refine .put rfl ?_ | refine .say rfl ?_ | refine .say2 rfl (by first | assumption | simp_all) ?_)))
 refine r_val .none rfl (p_move rfl) ?_
 refine' r_or (c := 19) (d := 27) [_, _, _, _, _, _, _, _] rfl (fun h_5 Q_6 hQ_7 => ?_) (fun h_5 Q_6 hQ_7 => ?_) ?_
 rotate_left 1
 ·
  try simp only [norms] at h_5
  refine r_val (.some rfl rfl) rfl (p_field Try.underlying70 rfl sz68 rfl) ?_
  refine r_val (.some rfl rfl) rfl (p_ld (k := 1) Try.underlying68 rfl rfl rfl (by first | exact of_decide_eq_true rfl | omega) rfl) ?_
  refine r_val (.some rfl rfl) rfl (p_leng Try.underlying68 rfl ht) ?_
  have bd_9 := (ht).bound
  refine r_val (.some rfl rfl) rfl (p_field Try.underlying70 rfl sz68 rfl) ?_
  refine r_val (.some rfl rfl) rfl (p_ld (k := 0) Try.underlying68 rfl rfl rfl (by first | exact of_decide_eq_true rfl | omega) rfl) ?_
  refine r_val (.some rfl rfl) rfl (p_leng Try.underlying68 rfl ht2) ?_
  have bd_10 := (ht2).bound
  refine r_val (.some rfl rfl) rfl (p_ne rfl rfl) ?_
  refine r_val .none rfl (p_pick_f rfl rfl) ?_
  refine r_nil (e_fin (d := 27) hQ_7 rfl (by repeat (first | exact .refl | refine .put rfl ?_ | refine .say rfl ?_ | refine .say2 rfl (by first | assumption | simp_all) ?_)))
 ·
  repeat (first | refine r_skip rfl (.no rfl rfl) ?_ | refine r_skip rfl (.un rfl rfl) ?_)
  refine r_val (by first | exact .none | exact .some rfl rfl) rfl (p_pick_t rfl rfl) ?_
  refine r_nil (e_fin (d := 27) hQ_7 rfl (by repeat (first | exact .refl | refine .put rfl ?_ | refine .say rfl ?_ | refine .say2 rfl (by first | assumption | simp_all) ?_)))
 refine r_val .none rfl (p_move rfl) ?_
 refine' r_or (c := 28) (d := 36) [_, _, _, _, _, _, _, _] rfl (fun h_11 Q_12 hQ_13 => ?_) (fun h_11 Q_12 hQ_13 => ?_) ?_
 rotate_left 1
 ·
  try simp only [norms] at h_11
  refine r_val (.some rfl rfl) rfl (p_field Try.underlying70 rfl sz48 rfl) ?_
  refine r_val (.some rfl rfl) rfl (p_ld (k := 1) Try.underlying48 rfl rfl rfl (by first | exact of_decide_eq_true rfl | omega) rfl) ?_
  refine r_val (.some rfl rfl) rfl (p_leng Try.underlying48 rfl hr) ?_
  have bd_15 := (hr).bound
  refine r_val (.some rfl rfl) rfl (p_field Try.underlying70 rfl sz48 rfl) ?_
  refine r_val (.some rfl rfl) rfl (p_ld (k := 0) Try.underlying48 rfl rfl rfl (by first | exact of_decide_eq_true rfl | omega) rfl) ?_
  refine r_val (.some rfl rfl) rfl (p_leng Try.underlying48 rfl hr2) ?_
  have bd_16 := (hr2).bound
  refine r_val (.some rfl rfl) rfl (p_ne rfl rfl) ?_
  refine r_val .none rfl (p_pick_f rfl rfl) ?_
  refine r_nil (e_fin (d := 36) hQ_13 rfl (by repeat (first | exact .refl | refine .put rfl ?_ | refine .say rfl ?_ | refine .say2 rfl (by first | assumption | simp_all) ?_)))
 ·
  repeat (first | refine r_skip rfl (.no rfl rfl) ?_ | refine r_skip rfl (.un rfl rfl) ?_)
  refine r_val (by first | exact .none | exact .some rfl rfl) rfl (p_pick_t rfl rfl) ?_
  refine r_nil (e_fin (d := 36) hQ_13 rfl (by repeat (first | exact .refl | refine .put rfl ?_ | refine .say rfl ?_ | refine .say2 rfl (by first | assumption | simp_all) ?_)))
 refine r_nil ?_
 refine e_next ?_
 refine c_split (d := 36) rfl (fun h_17 => ?_) (fun h_17 => ?_)
 ·
  try simp only [norms] at h_17
  have hN : ((¬ c.h.k = c2.h.k ∨ kEq c.h c2.h = false) ∨ ¬ (c.h.ts.length : Int) = c2.h.ts.length) ∨ ¬ (rs.length : Int) = rs2.length := h_17
  first
   | (exfalso; omega)
   | (
    refine c_cond_t rfl ?_
    refine c_seq ?_
    refine c_region ?_
    refine r_val .none rfl (p_assign rfl) ?_
    refine r_nil ?_
    refine e_next ?_
    refine c_ret ?_
    refine e_ret_then ?_
    refine e_ret1 Try.results32 (.tmp rfl .nil) (fun w hm => ⟨?_, hm.since⟩)
    first
    | exact congrArg Value.bool (seq_no (hN.imp (Or.imp_right (fun hx => by omega)) (fun hx => by omega))).symm
    | exact congrArg Value.bool (seq_ts (ne_of_get hE)).symm
    | (rw [seq_sub hN.1.1.1 hN.1.1.2 hts, hl, hl2, ← hphi.2.2, seqL_no (by omega) (by omega) hF]; done)
    | (rw [seq_sub hN.1.1.1 hN.1.1.2 hts, hl, hl2, ← hphi.2.2, List.drop_eq_nil_of_le (by simp; omega), List.drop_eq_nil_of_le (by simp; omega)]; rfl)
    )
 ·
  try simp only [norms] at h_17
  have hN : ((c.h.k = c2.h.k ∧ kEq c.h c2.h = true) ∧ (c.h.ts.length : Int) = c2.h.ts.length) ∧ (rs.length : Int) = rs2.length := h_17
  first
   | (exfalso; omega)
   | (
    refine c_cond_f rfl ?_
    refine c_skip ?_
    refine e_next ?_
    refine c_seq ?_
    refine c_seq ?_
    refine c_region ?_
    refine r_val .none rfl (p_field Try.underlying70 rfl sz68 rfl) ?_
    refine r_val .none rfl (p_ld (k := 1) Try.underlying68 rfl rfl rfl (by first | exact of_decide_eq_true rfl | omega) rfl) ?_
    refine r_val .none rfl (p_leng Try.underlying68 rfl ht) ?_
    have bd_18 := (ht).bound
    refine r_val .none rfl (p_move rfl) ?_
    refine r_nil ?_
    refine e_next ?_
    refine c_block ?_
    refine c_name (d := 2) rfl (fun u_19 hu_19 => ?_)
    refine c_name (d := 3) rfl (fun u_20 hu_20 => ?_)
    refine c_name (d := 39) rfl (fun u_21 hu_21 => ?_)
    refine c_nameL (k := 0) rfl (fun A_22 hA_22 => ?_)
    refine c_nameL (k := 1) rfl (fun A_23 hA_23 => ?_)
    refine c_loop (σ := Nat) (fun j => [(40, Value.int .i64 (j : Nat)), (2, u_19), (3, u_20), (39, u_21)]) (fun j => [A_22, A_23]) (fun _ => _) (fun j => j ≤ c.h.ts.length ∧ c.h.ts.take j = c2.h.ts.take j) (fun j => c.h.ts.length - j) (0) ⟨Nat.zero_le _, rfl⟩ rfl ⟨rfl, rfl, rfl, rfl, trivial⟩ (.keep (fun _ _ h => h) (.keep (fun _ _ h => h) (.nil))) (fun j hphi => ?_)
    subst hu_19
    subst hu_20
    subst hu_21
    subst hA_22
    subst hA_23
    have hj := hphi
    refine c_seq ?_
    refine c_region ?_
    refine r_val .none rfl (p_lt rfl rfl) ?_
    refine r_nil ?_
    refine e_next ?_
    refine c_seq ?_
    refine c_splitd (d := 41) rfl (fun h_24 => ?_) (fun h_24 => ?_)
    ·
     first
      | (exfalso; omega)
      | (
       refine c_cond_t rfl ?_
       refine c_skip ?_
       refine e_next ?_
       refine c_seq ?_
       refine c_block ?_
       refine c_seq ?_
       refine c_region ?_
       refine r_val .none rfl (p_move rfl) ?_
       refine r_val .none rfl (p_assign rfl) ?_
       refine r_nil ?_
       refine e_next ?_
       refine c_seq ?_
       refine c_region_q mixed (by kernel_rfl) ?_
       refine q_val .none rfl (p_field Try.underlying70 rfl sz68 rfl) ?_
       refine q_val .none rfl (p_ld (k := 1) Try.underlying68 rfl rfl rfl (by first | exact of_decide_eq_true rfl | omega) rfl) ?_
       refine q_val .none rfl (p_move rfl) ?_
       refine q_iaddr_g .none rfl Try.underlying68 sz96 rfl ht rfl (by first | exact of_decide_eq_true rfl | omega) (fun p_26 o_27 R_25 => ?_)
       refine q_val .none rfl (p_ldga0 Try.underlying96 rfl sz96 rfl R_25 (by first | exact of_decide_eq_true rfl | omega) (rfl : _ = Value.agg #[_, _, _])) ?_
       refine q_val .none rfl (p_field Try.underlying70 rfl sz68 rfl) ?_
       refine q_val .none rfl (p_ld (k := 0) Try.underlying68 rfl rfl rfl (by first | exact of_decide_eq_true rfl | omega) rfl) ?_
       refine q_val .none rfl (p_move rfl) ?_
       refine q_iaddr_g .none rfl Try.underlying68 sz96 rfl ht2 rfl (by first | exact of_decide_eq_true rfl | omega) (fun p_29 o_30 R_28 => ?_)
       refine q_val .none rfl (p_ldga0 Try.underlying96 rfl sz96 rfl R_28 (by first | exact of_decide_eq_true rfl | omega) (rfl : _ = Value.agg #[_, _, _])) ?_
       refine q_val .none rfl (p_nea rfl rfl (eq_flat Try.underlying96 rfl lf96 ef96 eg96 (.cons (.int Try.underlying3) (.cons (.int Try.underlying3) (.cons (.int Try.underlying3) (.nil)))) (.cons (.int Try.underlying3) (.cons (.int Try.underlying3) (.cons (.int Try.underlying3) (.nil)))))) ?_
       refine q_nil ?_
       refine e_next ?_
       refine c_splitn (d := 53) rfl (fun h_31 => ?_) (fun h_31 => ?_)
       ·
        have hE : c.h.ts.getD j t0 ≠ c2.h.ts.getD j t0 := of_decide_eq_false ((tC_eq _ _).symm.trans h_31)
        first
         | (exfalso; omega)
         | (
          refine c_cond_t rfl ?_
          refine c_seq ?_
          refine c_region ?_
          refine r_val .none rfl (p_assign rfl) ?_
          refine r_nil ?_
          refine e_next ?_
          refine c_ret ?_
          refine e_ret_block ?_
          refine e_ret_then ?_
          refine e_ret_then ?_
          refine e_ret_block ?_
          refine e_ret_then ?_
          refine e_ret1 Try.results32 (.tmp rfl .nil) (fun w hm => ⟨?_, hm.since⟩)
          first
          | exact congrArg Value.bool (seq_no (hN.imp (Or.imp_right (fun hx => by omega)) (fun hx => by omega))).symm
          | exact congrArg Value.bool (seq_ts (ne_of_get hE)).symm
          | (rw [seq_sub hN.1.1.1 hN.1.1.2 hts, hl, hl2, ← hphi.2.2, seqL_no (by omega) (by omega) hF]; done)
          | (rw [seq_sub hN.1.1.1 hN.1.1.2 hts, hl, hl2, ← hphi.2.2, List.drop_eq_nil_of_le (by simp; omega), List.drop_eq_nil_of_le (by simp; omega)]; rfl)
          )
       ·
        have hE : c.h.ts.getD j t0 = c2.h.ts.getD j t0 := of_decide_eq_true ((tC_eq _ _).symm.trans h_31)
        first
         | (exfalso; omega)
         | (
          refine c_cond_f rfl ?_
          refine c_skip ?_
          refine e_norm_block ?_
          refine e_next ?_
          refine c_region ?_
          refine r_val .none rfl (p_add rfl rfl (by omega)) ?_
          refine r_val .none rfl (p_move rfl) ?_
          refine r_nil ?_
          refine e_round (j + 1) ⟨⟨by omega, take_eq_succ (d := t0) (by omega) (by omega) hphi.2 hE⟩, by omega⟩ rfl ⟨rfl, rfl, rfl, rfl, trivial⟩ (.keep (fun _ _ h => h) (.keep (fun _ _ h => h) (.nil)))
          )
       )
    ·
     first
      | (exfalso; omega)
      | (
       refine c_cond_f rfl ?_
       refine c_exit ?_
       refine e_exit_then ?_
       refine e_exit_then ?_
       refine e_exit_block ?_
       refine e_next ?_
       refine c_seq ?_
       refine c_seq ?_
       refine c_region ?_
       refine r_val .none rfl (p_field Try.underlying70 rfl sz48 rfl) ?_
       refine r_val .none rfl (p_ld (k := 1) Try.underlying48 rfl rfl rfl (by first | exact of_decide_eq_true rfl | omega) rfl) ?_
       refine r_val .none rfl (p_leng Try.underlying48 rfl hr) ?_
       have bd_32 := (hr).bound
       refine r_val .none rfl (p_move rfl) ?_
       refine r_nil ?_
       refine e_next ?_
       refine c_block ?_
       have hts : c.h.ts = c2.h.ts := by have hk := hj.2; rw [List.take_of_length_le (by omega), List.take_of_length_le (by omega)] at hk; exact hk
       refine c_name (d := 2) rfl (fun u_33 hu_33 => ?_)
       refine c_name (d := 3) rfl (fun u_34 hu_34 => ?_)
       refine c_name (d := 57) rfl (fun u_35 hu_35 => ?_)
       refine c_nameL (k := 0) rfl (fun A_36 hA_36 => ?_)
       refine c_nameL (k := 1) rfl (fun A_37 hA_37 => ?_)
       refine c_loop (σ := Nat) (fun k => [(58, Value.int .i64 (k : Nat)), (2, u_33), (3, u_34), (57, u_35)]) (fun k => [A_36, A_37]) (fun _ => _) (fun k => k ≤ rs.length ∧ rs.length = rs2.length ∧ seqL ((rs.map Prod.fst).drop k) ((rs2.map Prod.fst).drop k) = seqL (rs.map Prod.fst) (rs2.map Prod.fst)) (fun k => rs.length - k) (0) ⟨Nat.zero_le _, by omega, rfl⟩ rfl ⟨rfl, rfl, rfl, rfl, trivial⟩ (.keep (fun _ _ h => h) (.keep (fun _ _ h => h) (.nil))) (fun k hphi => ?_)
       subst hu_33
       subst hu_34
       subst hu_35
       subst hA_36
       subst hA_37
       refine c_seq ?_
       refine c_region ?_
       refine r_val .none rfl (p_lt rfl rfl) ?_
       refine r_nil ?_
       refine e_next ?_
       refine c_seq ?_
       refine c_splitd (d := 59) rfl (fun h_38 => ?_) (fun h_38 => ?_)
       ·
        first
         | (exfalso; omega)
         | (
          refine c_cond_t rfl ?_
          refine c_skip ?_
          refine e_next ?_
          refine c_seq ?_
          refine c_block ?_
          refine c_seq ?_
          refine c_region ?_
          refine r_val .none rfl (p_move rfl) ?_
          refine r_val .none rfl (p_assign rfl) ?_
          refine r_nil ?_
          refine e_next ?_
          refine c_seq ?_
          refine c_region_q mixed (by kernel_rfl) ?_
          refine q_val .none rfl (p_field Try.underlying70 rfl sz48 rfl) ?_
          refine q_val .none rfl (p_ld (k := 1) Try.underlying48 rfl rfl rfl (by first | exact of_decide_eq_true rfl | omega) rfl) ?_
          refine q_val .none rfl (p_move rfl) ?_
          refine q_iaddr_g .none rfl Try.underlying48 sz70 rfl hr rfl (by first | exact of_decide_eq_true rfl | omega) (fun p_40 o_41 R_39 => ?_)
          have ht_42 := hrt _ (getD_mem (i := k) (d := s0) (by omega))
          have hc_43 := hrs _ (getD_mem (i := k) (d := s0) (by omega))
          refine q_val .none rfl (p_ldga0 Try.underlying70 rfl sz70 rfl R_39 (by first | exact of_decide_eq_true rfl | omega) (rfl : _ = Value.agg #[_, _, _, _, _, _])) ?_
          refine q_val .none rfl (p_field Try.underlying70 rfl sz48 rfl) ?_
          refine q_val .none rfl (p_ld (k := 0) Try.underlying48 rfl rfl rfl (by first | exact of_decide_eq_true rfl | omega) rfl) ?_
          refine q_val .none rfl (p_move rfl) ?_
          refine q_iaddr_g .none rfl Try.underlying48 sz70 rfl hr2 rfl (by first | exact of_decide_eq_true rfl | omega) (fun p_45 o_46 R_44 => ?_)
          have ht_47 := hrt2 _ (getD_mem (i := k) (d := s0) (by omega))
          have hc_48 := hrs2 _ (getD_mem (i := k) (d := s0) (by omega))
          refine q_val .none rfl (p_ldga0 Try.underlying70 rfl sz70 rfl R_44 (by first | exact of_decide_eq_true rfl | omega) (rfl : _ = Value.agg #[_, _, _, _, _, _])) ?_
          refine q_call (vs := [_, _]) .none rfl cl32 rfl (fun w hw => ih (rs.getD k s0).1 _ _ _ _ _ _ w (ssz_at hl (by omega) hz) ht_42 hc_43 ht_47 hc_48 hw) ?_
          refine q_val .none rfl (p_not rfl) ?_
          refine q_nil ?_
          refine e_next ?_
          refine c_splitn (d := 72) rfl (fun h_49 => ?_) (fun h_49 => ?_)
          ·
           have hF := h_49
           first
            | (exfalso; omega)
            | (
             refine c_cond_t rfl ?_
             refine c_seq ?_
             refine c_region ?_
             refine r_val .none rfl (p_assign rfl) ?_
             refine r_nil ?_
             refine e_next ?_
             refine c_ret ?_
             refine e_ret_block ?_
             refine e_ret_then ?_
             refine e_ret_then ?_
             refine e_ret_block ?_
             refine e_ret_then ?_
             refine e_ret1 Try.results32 (.tmp rfl .nil) (fun w hm => ⟨?_, hm.since⟩)
             first
             | exact congrArg Value.bool (seq_no (hN.imp (Or.imp_right (fun hx => by omega)) (fun hx => by omega))).symm
             | exact congrArg Value.bool (seq_ts (ne_of_get hE)).symm
             | (rw [seq_sub hN.1.1.1 hN.1.1.2 hts, hl, hl2, ← hphi.2.2, seqL_no (by omega) (by omega) hF]; done)
             | (rw [seq_sub hN.1.1.1 hN.1.1.2 hts, hl, hl2, ← hphi.2.2, List.drop_eq_nil_of_le (by simp; omega), List.drop_eq_nil_of_le (by simp; omega)]; rfl)
             )
          ·
           have hF := h_49
           first
            | (exfalso; omega)
            | (
             refine c_cond_f rfl ?_
             refine c_skip ?_
             refine e_norm_block ?_
             refine e_next ?_
             refine c_region ?_
             refine r_val .none rfl (p_add rfl rfl (by omega)) ?_
             refine r_val .none rfl (p_move rfl) ?_
             refine r_nil ?_
             refine e_round (k + 1) ⟨⟨by omega, hphi.2.1, by rw [seqL_yes (by omega) (by omega) hF]; exact hphi.2.2⟩, by omega⟩ rfl ⟨rfl, rfl, rfl, rfl, trivial⟩ (.keep (fun _ _ h => h) (.keep (fun _ _ h => h) (.nil)))
             )
          )
       ·
        first
         | (exfalso; omega)
         | (
          refine c_cond_f rfl ?_
          refine c_exit ?_
          refine e_exit_then ?_
          refine e_exit_then ?_
          refine e_exit_block ?_
          refine e_next ?_
          refine c_seq ?_
          refine c_region ?_
          refine r_val .none rfl (p_assign rfl) ?_
          refine r_nil ?_
          refine e_next ?_
          refine c_ret ?_
          refine e_ret1 Try.results32 (.tmp rfl .nil) (fun w hm => ⟨?_, hm.since⟩)
          first
          | exact congrArg Value.bool (seq_no (hN.imp (Or.imp_right (fun hx => by omega)) (fun hx => by omega))).symm
          | exact congrArg Value.bool (seq_ts (ne_of_get hE)).symm
          | (rw [seq_sub hN.1.1.1 hN.1.1.2 hts, hl, hl2, ← hphi.2.2, seqL_no (by omega) (by omega) hF]; done)
          | (rw [seq_sub hN.1.1.1 hN.1.1.2 hts, hl, hl2, ← hphi.2.2, List.drop_eq_nil_of_le (by simp; omega), List.drop_eq_nil_of_le (by simp; omega)]; rfl)
          )
       )
    )
theorem c_rsameS_n : ∀ n, RsameSIs n
 | 0 => fun c c2 ta sb ta2 sb2 G w hz _ _ _ _ _ => absurd hz (by have := s_pos c; omega)
 | n + 1 => fun c c2 ta sb ta2 sb2 G w hz ht hs ht2 hs2 hG => c_rsameS_s n (c_rsameS_n n) c c2 ta sb ta2 sb2 hz ht hs ht2 hs2 w hG
theorem c_rsameS (c c2 : ST) (ta sb ta2 sb2 : Value) {G : Ghost} (ht : SlL G ta 3 tC t0 c.h.ts) (hs : Ss G sb c.subs) (ht2 : SlL G ta2 3 tC t0 c2.h.ts) (hs2 : Ss G sb2 c2.subs) (w : World) (hG : Has G w) : Calls Try.prog 32 #[Value.agg #[Value.int .i64 c.h.k, Value.int .i64 c.h.k0, Value.int .i64 c.h.k1, Value.int .i64 c.h.k2, ta, sb], Value.agg #[Value.int .i64 c2.h.k, Value.int .i64 c2.h.k0, Value.int .i64 c2.h.k1, Value.int .i64 c2.h.k2, ta2, sb2]] w (Ret fun r w' => r = Value.bool (seq c c2) ∧ Since nX w w') := c_rsameS_n _ c c2 ta sb ta2 sb2 G w (Nat.le_refl _) ht hs ht2 hs2 hG
end Go.Proofs.Ytoflaphnlfggkaa

/- Walks: what Go functions of this chapter come to, each as a function on plain data; no condition but those that each theorem names. Printed by a program of this work (gen.py). -/
namespace Go.Proofs.Ytoflaphnlfggkaa
open Go.Gx Go.Gx.T4 Go.Gx.T3 Go.Gx.T6 Go.Gx.T8 Go.Gx.T4 Go.Gx.T3 Go.Gx.T8 Go.Gx.T4 Go.Gx.T3 Go.Gx.T8 Go.Gx.T6 Go.Gx.T4 Go.Gx.T3
theorem cl20 : Callable Try.prog 20 := callable Try.func20 (by kernel_rfl) rfl
theorem cl31 : Callable Try.prog 31 := callable Try.func31 (by kernel_rfl) rfl
theorem c_CompRight (c : ST) (ta sb : Value) (c2 : ST) (ta2 sb2 : Value) {G : Ghost} (ht : SlL G ta 3 tC t0 c.h.ts) (hs : Ss G sb c.subs) (hlt : ltS c) (ht2 : SlL G ta2 3 tC t0 c2.h.ts) (hs2 : Ss G sb2 c2.subs) (hlt2 : ltS c2) (w : World) (hG : Has G w) :
  Calls Try.prog 10 #[Value.agg #[Value.int .i64 c.h.k, Value.int .i64 c.h.k0, Value.int .i64 c.h.k1, Value.int .i64 c.h.k2, ta, sb], Value.agg #[Value.int .i64 c2.h.k, Value.int .i64 c2.h.k0, Value.int .i64 c2.h.k1, Value.int .i64 c2.h.k2, ta2, sb2]] w (Ret fun r w' => r = Value.bool true ∧ Since nX w w') := by
 refine enter (args := [_, _]) (X := nX) (G := G) (l := [(0, Value.agg #[Value.int .i64 c.h.k, Value.int .i64 c.h.k0, Value.int .i64 c.h.k1, Value.int .i64 c.h.k2, ta, sb]), (1, Value.agg #[Value.int .i64 c2.h.k, Value.int .i64 c2.h.k0, Value.int .i64 c2.h.k1, Value.int .i64 c2.h.k2, ta2, sb2])]) Try.func10 rfl Try.ntmps10 hG ⟨rfl, rfl, trivial⟩ (Nat.le_of_ble_eq_true rfl) ?_
 refine c_seq ?_
 refine c_region ?_
 refine r_box .none rfl rfl (IsRow.lit _) (fun b_1 => ?_)
 refine r_box .none rfl rfl (IsRow.lit _) (fun b_2 => ?_)
 refine r_val .none rfl (p_assign rfl) ?_
 refine r_nil ?_
 refine e_next ?_
 refine c_seq ?_
 refine c_region ?_
 refine r_alloc .none rfl zr3 (IsRow.lit [_]) (fun b_3 => ?_)
 refine r_alloc .none rfl zr3 (IsRow.lit [_]) (fun b_4 => ?_)
 refine r_st (k := 1) .none sz3 rfl rfl rfl rfl (by first | exact of_decide_eq_true rfl | omega) ?_
 refine r_st (k := 0) .none sz3 rfl rfl rfl rfl (by first | exact of_decide_eq_true rfl | omega) ?_
 refine r_nil ?_
 refine e_next ?_
 refine c_seq ?_
 refine c_seq ?_
 refine c_region ?_
 refine r_val .none rfl (p_ldw (k := 3) Try.underlying64 rfl sz64 rfl rfl (rfl : _ = Value.agg #[_, _, _, _, _, _])) ?_
 refine r_callo (k := 1) (vs := [_, _, _]) .none rfl cl36 rfl rfl (fun w F hw hA hFG => c_few _ _ _ 5 0 _ ⟨by omega, hlt⟩ ht hs w hw (box_congr (fun i hi => by match i, hi with | 0, _ => rfl) _ _ hA) hFG) ?_
 refine r_val .none rfl (p_not rfl) ?_
 refine r_val .none rfl (p_move rfl) ?_
 refine r_splitn (d := 12) rfl (fun h_1 => ?_) (fun h_1 => ?_)
 ·
  first
   | (exfalso; first | omega | assumption)
   | (
    refine r_skip rfl (.no rfl rfl) ?_
    refine r_skip rfl (.no rfl rfl) ?_
    refine r_skip rfl (.no rfl rfl) ?_
    refine r_val .none rfl (p_pick_t rfl rfl) ?_
    refine r_nil ?_
    refine e_next ?_
    refine c_cond_t rfl ?_
    refine c_seq ?_
    refine c_region ?_
    refine r_call (vs := []) .none rfl cl20 rfl (fun w hw => c_awake8 w) ?_
    refine r_val .none rfl (p_assign rfl) ?_
    refine r_nil ?_
    refine e_next ?_
    refine c_ret ?_
    refine e_ret_then ?_
    refine e_ret1 Try.results10 (.tmp rfl .nil) (fun w hm => ⟨?_, hm.since⟩)
    first
    | rfl
    | (simp; done)
    )
 ·
  have hz1 : ssz c ≤ 90 := fw_few h_1
  first
   | (exfalso; first | omega | assumption)
   | (
    refine r_val (.some rfl rfl) rfl (p_ldw (k := 2) Try.underlying64 rfl sz64 rfl rfl (rfl : _ = Value.agg #[_, _, _, _, _, _])) ?_
    refine r_callo (k := 0) (vs := [_, _, _]) (.some rfl rfl) rfl cl36 rfl rfl (fun w F hw hA hFG => c_few _ _ _ 5 0 _ ⟨by omega, hlt2⟩ ht2 hs2 w hw (box_congr (fun i hi => by match i, hi with | 0, _ => rfl) _ _ hA) hFG) ?_
    refine r_val (.some rfl rfl) rfl (p_not rfl) ?_
    refine r_val .none rfl (p_pick_f rfl rfl) ?_
    refine r_nil ?_
    refine e_next ?_
    refine c_splitn (d := 16) rfl (fun h_2 => ?_) (fun h_2 => ?_)
    ·
     first
      | (exfalso; first | omega | assumption)
      | (
       refine c_cond_t rfl ?_
       refine c_seq ?_
       refine c_region ?_
       refine r_call (vs := []) .none rfl cl20 rfl (fun w hw => c_awake8 w) ?_
       refine r_val .none rfl (p_assign rfl) ?_
       refine r_nil ?_
       refine e_next ?_
       refine c_ret ?_
       refine e_ret_then ?_
       refine e_ret1 Try.results10 (.tmp rfl .nil) (fun w hm => ⟨?_, hm.since⟩)
       first
       | rfl
       | (simp; done)
       )
    ·
     have hz2 : ssz c2 ≤ 90 := fw_few h_2
     first
      | (exfalso; first | omega | assumption)
      | (
       refine c_cond_f rfl ?_
       refine c_skip ?_
       refine e_next ?_
       refine c_seq ?_
       refine c_region_d (fun _ => false) _ mixed (.keep (fun _ _ h => h) (.keep (fun _ _ h => h) (.keep (fun _ _ h => h) (.keep (fun _ _ h => h) (.nil))))) ?_
       refine d_val1 0 rfl rfl (by kernel_rfl) (fun _ _ => rfl) .none rfl (p_ldw (k := 3) Try.underlying64 rfl sz64 rfl rfl (rfl : _ = Value.agg #[_, _, _, _, _, _])) ?_
       refine d_val1 3 rfl rfl (by kernel_rfl) (fun _ _ => rfl) .none rfl (p_ldw (k := 2) Try.underlying64 rfl sz64 rfl rfl (rfl : _ = Value.agg #[_, _, _, _, _, _])) ?_
       refine d_eff 1 rfl (by kernel_rfl) (fun K_3 hKK_3 hcK_3 => ?_)
       refine r_callm (vs := [_]) .none rfl cl33 rfl (fun w hw => c_sref _ _ _ (by omega) ht hs w hw) (fun G_4 v_7 hn_5 hr_6 => ?_)
       replace ht := ht.mono hn_5.le
       replace hs := hs.mono hn_5.le
       replace ht2 := ht2.mono hn_5.le
       replace hs2 := hs2.mono hn_5.le
       obtain ⟨u_8a, u_8b, rfl, u_8s, u_8t⟩ := hr_6
       refine r_nil (e_d (i := 1) (brk := (fun _ => false)) (ph' := true) hKK_3 hcK_3 rfl (fun _ => hn_5.le) (fun _ => .keep (fun _ _ h => h) (.keep (fun _ _ h => h) (.keep (fun _ _ h => h) (.keep (fun _ _ h => h) (.nil))))) ?_)
       clear hKK_3 hcK_3 K_3
       refine d_eff 2 rfl (by kernel_rfl) (fun K_9 hKK_9 hcK_9 => ?_)
       refine r_call (vs := [_, _]) .none rfl cl37 rfl (fun w hw => c_rrightS _ _ _ 1 ⟨by omega, Nat.le_trans (ssize_le c) (by omega)⟩ u_8s u_8t w hw) ?_
       refine r_nil (e_d (i := 2) (brk := (fun _ => false)) (ph' := true) hKK_9 hcK_9 rfl (fun _ => hn_5.le) (fun _ => .keep (fun _ _ h => h) (.keep (fun _ _ h => h) (.keep (fun _ _ h => h) (.keep (fun _ _ h => h) (.nil))))) ?_)
       clear hKK_9 hcK_9 K_9
       refine d_eff 4 rfl (by kernel_rfl) (fun K_10 hKK_10 hcK_10 => ?_)
       refine r_callm (vs := [_]) .none rfl cl33 rfl (fun w hw => c_sref _ _ _ (by omega) ht2 hs2 w hw) (fun G_11 v_14 hn_12 hr_13 => ?_)
       replace ht := ht.mono hn_12.le
       replace hs := hs.mono hn_12.le
       replace ht2 := ht2.mono hn_12.le
       replace hs2 := hs2.mono hn_12.le
       replace u_8s := u_8s.mono hn_12.le
       replace u_8t := u_8t.mono hn_12.le
       obtain ⟨u_15a, u_15b, rfl, u_15s, u_15t⟩ := hr_13
       refine r_nil (e_d (i := 4) (brk := (fun _ => false)) (ph' := true) hKK_10 hcK_10 rfl (fun _ => (hn_5.trans hn_12).le) (fun _ => .keep (fun _ _ h => h) (.keep (fun _ _ h => h) (.keep (fun _ _ h => h) (.keep (fun _ _ h => h) (.nil))))) ?_)
       clear hKK_10 hcK_10 K_10
       refine d_eff 5 rfl (by kernel_rfl) (fun K_16 hKK_16 hcK_16 => ?_)
       refine r_call (vs := [_, _]) .none rfl cl37 rfl (fun w hw => c_rrightS _ _ _ 1 ⟨by omega, Nat.le_trans (ssize_le c2) (by omega)⟩ u_15s u_15t w hw) ?_
       refine r_nil (e_d (i := 5) (brk := (fun _ => false)) (ph' := true) hKK_16 hcK_16 rfl (fun _ => (hn_5.trans hn_12).le) (fun _ => .keep (fun _ _ h => h) (.keep (fun _ _ h => h) (.keep (fun _ _ h => h) (.keep (fun _ _ h => h) (.nil))))) ?_)
       clear hKK_16 hcK_16 K_16
       refine d_val1 6 rfl rfl (by kernel_rfl) (fun _ _ => rfl) .none rfl (p_assign rfl) ?_
       refine d_val1 7 rfl rfl (by kernel_rfl) (fun _ _ => rfl) .none rfl (p_assign rfl) ?_
       refine d_nil (by kernel_rfl) ?_
       refine e_next ?_
       refine c_seq ?_
       refine c_seq ?_
       refine c_region ?_
       refine r_val .none rfl (p_ldw (k := 3) Try.underlying64 rfl sz64 rfl rfl (rfl : _ = Value.agg #[_, _, _, _, _, _])) ?_
       refine r_call (vs := [_]) .none rfl cl31 rfl (fun w hw => c_cRight _ _ _ ht hs w hw) ?_
       rw [cR_right]
       refine r_val .none rfl (p_move rfl) ?_
       refine r_val .none rfl (p_neb Try.underlying4 rfl rfl) ?_
       refine r_val .none rfl (p_move rfl) ?_
       refine r_splitn (d := 28) rfl (fun h_17 => ?_) (fun h_17 => ?_)
       ·
        have hx : False := absurd (h_17) (by simp)
        first
         | (exfalso; first | omega | assumption)
         | (
          refine r_skip rfl (.no rfl rfl) ?_
          refine r_skip rfl (.no rfl rfl) ?_
          refine r_skip rfl (.no rfl rfl) ?_
          refine r_skip rfl (.no rfl rfl) ?_
          refine r_val .none rfl (p_pick_t rfl rfl) ?_
          refine r_nil ?_
          refine e_next ?_
          refine c_cond_t rfl ?_
          refine c_seq ?_
          refine c_region ?_
          refine r_val .none rfl (p_assign rfl) ?_
          refine r_nil ?_
          refine e_next ?_
          refine c_ret ?_
          refine e_ret_then ?_
          refine e_ret1 Try.results10 (.tmp rfl .nil) (fun w hm => ⟨?_, hm.since⟩)
          first
          | rfl
          | (simp; done)
          )
       ·
        first
         | (exfalso; first | omega | assumption)
         | (
          refine r_val (.some rfl rfl) rfl (p_ldw (k := 2) Try.underlying64 rfl sz64 rfl rfl (rfl : _ = Value.agg #[_, _, _, _, _, _])) ?_
          refine r_call (vs := [_]) (.some rfl rfl) rfl cl31 rfl (fun w hw => c_cRight _ _ _ ht2 hs2 w hw) ?_
          rw [cR_right]
          refine r_val (.some rfl rfl) rfl (p_move rfl) ?_
          refine r_val (.some rfl rfl) rfl (p_neb Try.underlying4 rfl rfl) ?_
          refine r_val .none rfl (p_pick_f rfl rfl) ?_
          refine r_nil ?_
          refine e_next ?_
          refine c_splitn (d := 33) rfl (fun h_18 => ?_) (fun h_18 => ?_)
          ·
           have hx : False := absurd (h_18) (by simp)
           first
            | (exfalso; first | omega | assumption)
            | (
             refine c_cond_t rfl ?_
             refine c_seq ?_
             refine c_region ?_
             refine r_val .none rfl (p_assign rfl) ?_
             refine r_nil ?_
             refine e_next ?_
             refine c_ret ?_
             refine e_ret_then ?_
             refine e_ret1 Try.results10 (.tmp rfl .nil) (fun w hm => ⟨?_, hm.since⟩)
             first
             | rfl
             | (simp; done)
             )
          ·
           first
            | (exfalso; first | omega | assumption)
            | (
             refine c_cond_f rfl ?_
             refine c_skip ?_
             refine e_next ?_
             refine c_seq ?_
             refine c_region_d (fun _ => false) _ mixed (.keep (fun _ _ h => h) (.keep (fun _ _ h => h) (.keep (fun _ _ h => h) (.keep (fun _ _ h => h) (.nil))))) ?_
             refine d_val1 0 rfl rfl (by kernel_rfl) (fun _ _ => rfl) .none rfl (p_move rfl) ?_
             refine d_val1 1 rfl rfl (by kernel_rfl) (fun _ _ => rfl) .none rfl (p_not rfl) ?_
             refine d_val1 2 rfl rfl (by kernel_rfl) (fun _ _ => rfl) .none rfl (p_move rfl) ?_
             refine d_splitn (d := 36) rfl (fun h_19 => ?_) (fun h_19 => ?_)
             ·
              first
               | (exfalso; first | omega | assumption)
               | (
                refine d_skip1 3 rfl rfl (by kernel_rfl) (fun _ _ => rfl) rfl (.no rfl rfl) ?_
                refine d_skip1 4 rfl rfl (by kernel_rfl) (fun _ _ => rfl) rfl (.no rfl rfl) ?_
                refine d_val1 5 rfl rfl (by kernel_rfl) (fun _ _ => rfl) .none rfl (p_pick_t rfl rfl) ?_
                refine d_val1 6 rfl rfl (by kernel_rfl) (fun _ _ => rfl) .none rfl (p_move rfl) ?_
                refine d_skip1 7 rfl rfl (by kernel_rfl) (fun _ _ => rfl) rfl (.no rfl rfl) ?_
                refine d_skip1 8 rfl rfl (by kernel_rfl) (fun _ _ => rfl) rfl (.no rfl rfl) ?_
                refine d_skip1 9 rfl rfl (by kernel_rfl) (fun _ _ => rfl) rfl (.no rfl rfl) ?_
                refine d_skip1 10 rfl rfl (by kernel_rfl) (fun _ _ => rfl) rfl (.no rfl rfl) ?_
                refine d_skip1 11 rfl rfl (by kernel_rfl) (fun _ _ => rfl) rfl (.no rfl rfl) ?_
                refine d_skip1 12 rfl rfl (by kernel_rfl) (fun _ _ => rfl) rfl (.no rfl rfl) ?_
                refine d_skip1 13 rfl rfl (by kernel_rfl) (fun _ _ => rfl) rfl (.no rfl rfl) ?_
                refine d_skip1 14 rfl rfl (by kernel_rfl) (fun _ _ => rfl) rfl (.no rfl rfl) ?_
                refine d_skip1 15 rfl rfl (by kernel_rfl) (fun _ _ => rfl) rfl (.no rfl rfl) ?_
                refine d_val1 16 rfl rfl (by kernel_rfl) (fun _ _ => rfl) .none rfl (p_pick_t rfl rfl) ?_
                refine d_val1 17 rfl rfl (by kernel_rfl) (fun _ _ => rfl) .none rfl (p_move rfl) ?_
                refine d_eff 18 rfl (by kernel_rfl) (fun K_20 hKK_20 hcK_20 => ?_)
                refine r_call (vs := []) (.some rfl rfl) rfl cl20 rfl (fun w hw => c_awake8 w) ?_
                refine r_nil (e_d (i := 18) (brk := (fun _ => false)) (ph' := true) hKK_20 hcK_20 rfl (fun _ => GLe.refl _) (fun _ => .keep (fun _ _ h => h) (.keep (fun _ _ h => h) (.keep (fun _ _ h => h) (.keep (fun _ _ h => h) (.nil))))) ?_)
                clear hKK_20 hcK_20 K_20
                refine d_val1 19 rfl rfl (by kernel_rfl) (fun _ _ => rfl) .none rfl (p_pick_t rfl rfl) ?_
                refine d_val1 20 rfl rfl (by kernel_rfl) (fun _ _ => rfl) .none rfl (p_assign rfl) ?_
                refine d_nil (by kernel_rfl) ?_
                refine e_next ?_
                refine c_ret ?_
                refine e_ret1 Try.results10 (.tmp rfl .nil) (fun w hm => ⟨?_, hm.since⟩)
                first
                | rfl
                | (simp; done)
                )
             ·
              first
               | (exfalso; first | omega | assumption)
               | (
                refine d_val1 3 rfl rfl (by kernel_rfl) (fun _ _ => rfl) (.some rfl rfl) rfl (p_move rfl) ?_
                refine d_val1 4 rfl rfl (by kernel_rfl) (fun _ _ => rfl) (.some rfl rfl) rfl (p_not rfl) ?_
                refine d_val1 5 rfl rfl (by kernel_rfl) (fun _ _ => rfl) .none rfl (p_pick_f rfl rfl) ?_
                refine d_val1 6 rfl rfl (by kernel_rfl) (fun _ _ => rfl) .none rfl (p_move rfl) ?_
                refine d_splitn (d := 40) rfl (fun h_21 => ?_) (fun h_21 => ?_)
                ·
                 first
                  | (exfalso; first | omega | assumption)
                  | (
                   refine d_skip1 7 rfl rfl (by kernel_rfl) (fun _ _ => rfl) rfl (.no rfl rfl) ?_
                   refine d_skip1 8 rfl rfl (by kernel_rfl) (fun _ _ => rfl) rfl (.no rfl rfl) ?_
                   refine d_skip1 9 rfl rfl (by kernel_rfl) (fun _ _ => rfl) rfl (.no rfl rfl) ?_
                   refine d_skip1 10 rfl rfl (by kernel_rfl) (fun _ _ => rfl) rfl (.no rfl rfl) ?_
                   refine d_skip1 11 rfl rfl (by kernel_rfl) (fun _ _ => rfl) rfl (.no rfl rfl) ?_
                   refine d_skip1 12 rfl rfl (by kernel_rfl) (fun _ _ => rfl) rfl (.no rfl rfl) ?_
                   refine d_skip1 13 rfl rfl (by kernel_rfl) (fun _ _ => rfl) rfl (.no rfl rfl) ?_
                   refine d_skip1 14 rfl rfl (by kernel_rfl) (fun _ _ => rfl) rfl (.no rfl rfl) ?_
                   refine d_skip1 15 rfl rfl (by kernel_rfl) (fun _ _ => rfl) rfl (.no rfl rfl) ?_
                   refine d_val1 16 rfl rfl (by kernel_rfl) (fun _ _ => rfl) .none rfl (p_pick_t rfl rfl) ?_
                   refine d_val1 17 rfl rfl (by kernel_rfl) (fun _ _ => rfl) .none rfl (p_move rfl) ?_
                   refine d_eff 18 rfl (by kernel_rfl) (fun K_22 hKK_22 hcK_22 => ?_)
                   refine r_call (vs := []) (.some rfl rfl) rfl cl20 rfl (fun w hw => c_awake8 w) ?_
                   refine r_nil (e_d (i := 18) (brk := (fun _ => false)) (ph' := true) hKK_22 hcK_22 rfl (fun _ => GLe.refl _) (fun _ => .keep (fun _ _ h => h) (.keep (fun _ _ h => h) (.keep (fun _ _ h => h) (.keep (fun _ _ h => h) (.nil))))) ?_)
                   clear hKK_22 hcK_22 K_22
                   refine d_val1 19 rfl rfl (by kernel_rfl) (fun _ _ => rfl) .none rfl (p_pick_t rfl rfl) ?_
                   refine d_val1 20 rfl rfl (by kernel_rfl) (fun _ _ => rfl) .none rfl (p_assign rfl) ?_
                   refine d_nil (by kernel_rfl) ?_
                   refine e_next ?_
                   refine c_ret ?_
                   refine e_ret1 Try.results10 (.tmp rfl .nil) (fun w hm => ⟨?_, hm.since⟩)
                   first
                   | rfl
                   | (simp; done)
                   )
                ·
                 first
                  | (exfalso; first | omega | assumption)
                  | (
                   refine d_val1 7 rfl rfl (by kernel_rfl) (fun _ _ => rfl) (.some rfl rfl) rfl (p_ldw (k := 3) Try.underlying64 rfl sz64 rfl rfl (rfl : _ = Value.agg #[_, _, _, _, _, _])) ?_
                   refine d_val1 8 rfl rfl (by kernel_rfl) (fun _ _ => rfl) (.some rfl rfl) rfl (p_ldw (k := 2) Try.underlying64 rfl sz64 rfl rfl (rfl : _ = Value.agg #[_, _, _, _, _, _])) ?_
                   refine d_val1 10 rfl rfl (by kernel_rfl) (fun _ _ => rfl) (.some rfl rfl) rfl (p_ldw (k := 3) Try.underlying64 rfl sz64 rfl rfl (rfl : _ = Value.agg #[_, _, _, _, _, _])) ?_
                   refine d_val1 12 rfl rfl (by kernel_rfl) (fun _ _ => rfl) (.some rfl rfl) rfl (p_ldw (k := 2) Try.underlying64 rfl sz64 rfl rfl (rfl : _ = Value.agg #[_, _, _, _, _, _])) ?_
                   refine d_eff 9 rfl (by kernel_rfl) (fun K_23 hKK_23 hcK_23 => ?_)
                   refine r_call (vs := [_, _]) (.some rfl rfl) rfl cl29 rfl (fun w hw => c_csame _ _ _ _ _ _ ht hs ht2 hs2 w hw) ?_
                   refine r_nil (e_d (i := 9) (brk := (fun _ => false)) (ph' := true) hKK_23 hcK_23 rfl (fun _ => GLe.refl _) (fun _ => .keep (fun _ _ h => h) (.keep (fun _ _ h => h) (.keep (fun _ _ h => h) (.keep (fun _ _ h => h) (.nil))))) ?_)
                   clear hKK_23 hcK_23 K_23
                   refine d_eff 11 rfl (by kernel_rfl) (fun K_24 hKK_24 hcK_24 => ?_)
                   refine r_callm (vs := [_]) (.some rfl rfl) rfl cl33 rfl (fun w hw => c_sref _ _ _ (by omega) ht hs w hw) (fun G_25 v_28 hn_26 hr_27 => ?_)
                   replace ht := ht.mono hn_26.le
                   replace hs := hs.mono hn_26.le
                   replace ht2 := ht2.mono hn_26.le
                   replace hs2 := hs2.mono hn_26.le
                   replace u_8s := u_8s.mono hn_26.le
                   replace u_8t := u_8t.mono hn_26.le
                   replace u_15s := u_15s.mono hn_26.le
                   replace u_15t := u_15t.mono hn_26.le
                   obtain ⟨u_29a, u_29b, rfl, u_29s, u_29t⟩ := hr_27
                   refine r_nil (e_d (i := 11) (brk := (fun _ => false)) (ph' := true) hKK_24 hcK_24 rfl (fun _ => hn_26.le) (fun _ => .keep (fun _ _ h => h) (.keep (fun _ _ h => h) (.keep (fun _ _ h => h) (.keep (fun _ _ h => h) (.nil))))) ?_)
                   clear hKK_24 hcK_24 K_24
                   refine d_eff 13 rfl (by kernel_rfl) (fun K_30 hKK_30 hcK_30 => ?_)
                   refine r_callm (vs := [_]) (.some rfl rfl) rfl cl33 rfl (fun w hw => c_sref _ _ _ (by omega) ht2 hs2 w hw) (fun G_31 v_34 hn_32 hr_33 => ?_)
                   replace ht := ht.mono hn_32.le
                   replace hs := hs.mono hn_32.le
                   replace ht2 := ht2.mono hn_32.le
                   replace hs2 := hs2.mono hn_32.le
                   replace u_8s := u_8s.mono hn_32.le
                   replace u_8t := u_8t.mono hn_32.le
                   replace u_15s := u_15s.mono hn_32.le
                   replace u_15t := u_15t.mono hn_32.le
                   replace u_29s := u_29s.mono hn_32.le
                   replace u_29t := u_29t.mono hn_32.le
                   obtain ⟨u_35a, u_35b, rfl, u_35s, u_35t⟩ := hr_33
                   refine r_nil (e_d (i := 13) (brk := (fun _ => false)) (ph' := true) hKK_30 hcK_30 rfl (fun _ => (hn_26.trans hn_32).le) (fun _ => .keep (fun _ _ h => h) (.keep (fun _ _ h => h) (.keep (fun _ _ h => h) (.keep (fun _ _ h => h) (.nil))))) ?_)
                   clear hKK_30 hcK_30 K_30
                   refine d_eff 14 rfl (by kernel_rfl) (fun K_36 hKK_36 hcK_36 => ?_)
                   refine r_call (vs := [_, _]) (.some rfl rfl) rfl cl32 rfl (fun w hw => c_rsameS _ _ _ _ _ _ u_29s u_29t u_35s u_35t w hw) ?_
                   refine r_nil (e_d (i := 14) (brk := (fun _ => false)) (ph' := true) hKK_36 hcK_36 rfl (fun _ => (hn_26.trans hn_32).le) (fun _ => .keep (fun _ _ h => h) (.keep (fun _ _ h => h) (.keep (fun _ _ h => h) (.keep (fun _ _ h => h) (.nil))))) ?_)
                   clear hKK_36 hcK_36 K_36
                   refine d_val1 15 rfl rfl (by kernel_rfl) (fun _ _ => rfl) (.some rfl rfl) rfl (p_eqb Try.underlying4 rfl rfl) ?_
                   refine d_val1 16 rfl rfl (by kernel_rfl) (fun _ _ => rfl) .none rfl (p_pick_f rfl rfl) ?_
                   refine d_val1 17 rfl rfl (by kernel_rfl) (fun _ _ => rfl) .none rfl (p_move rfl) ?_
                   refine d_splitd (d := 51) rfl (fun h_37 => ?_) (fun h_37 => ?_)
                   ·
                    first
                     | (exfalso; first | omega | assumption)
                     | (
                      refine d_eff 18 rfl (by kernel_rfl) (fun K_38 hKK_38 hcK_38 => ?_)
                      refine r_call (vs := []) (.some rfl rfl) rfl cl20 rfl (fun w hw => c_awake8 w) ?_
                      refine r_nil (e_d (i := 18) (brk := (fun _ => false)) (ph' := true) hKK_38 hcK_38 rfl (fun _ => (hn_26.trans hn_32).le) (fun _ => .keep (fun _ _ h => h) (.keep (fun _ _ h => h) (.keep (fun _ _ h => h) (.keep (fun _ _ h => h) (.nil))))) ?_)
                      clear hKK_38 hcK_38 K_38
                      refine d_val1 19 rfl rfl (by kernel_rfl) (fun _ _ => rfl) .none rfl (p_pick_t rfl rfl) ?_
                      refine d_val1 20 rfl rfl (by kernel_rfl) (fun _ _ => rfl) .none rfl (p_assign rfl) ?_
                      refine d_nil (by kernel_rfl) ?_
                      refine e_next ?_
                      refine c_ret ?_
                      refine e_ret1 Try.results10 (.tmp rfl .nil) (fun w hm => ⟨?_, hm.since⟩)
                      first
                      | rfl
                      | (simp; done)
                      )
                   ·
                    have hx : False := absurd (h_37) (by simp)
                    first
                     | (exfalso; first | omega | assumption)
                     | (
                      refine d_skip1 18 rfl rfl (by kernel_rfl) (fun _ _ => rfl) rfl (.no rfl rfl) ?_
                      refine d_val1 19 rfl rfl (by kernel_rfl) (fun _ _ => rfl) .none rfl (p_pick_f rfl rfl) ?_
                      refine d_val1 20 rfl rfl (by kernel_rfl) (fun _ _ => rfl) .none rfl (p_assign rfl) ?_
                      refine d_nil (by kernel_rfl) ?_
                      refine e_next ?_
                      refine c_ret ?_
                      refine e_ret1 Try.results10 (.tmp rfl .nil) (fun w hm => ⟨?_, hm.since⟩)
                      first
                      | rfl
                      | (simp; done)
                      )
                   )
                )
             )
          )
       )
    )
end Go.Proofs.Ytoflaphnlfggkaa

/-
  GX: what comes in, and how much each slice in it takes, at any depth. Generic in the program.
-/
namespace Go.Gx
open Go.RowKit Go.ChangeShapes Go.WideShapes Go.ChangeAt
section
variable {H : Type} {P : Program}
/-- Each slice, string and map in a reading takes at most so many bytes. -/
def Light (P : Program) (T : TypeId) (x : DataW H × List MemPlace) : Prop := ∀ m ∈ x.1.weights P T, m ≤ reachBytes
theorem all_mem {e : TypeId} {d : DataW H} : ∀ {ds : List (DataW H)}, d ∈ ds → ∀ n ∈ d.weights P e, n ∈ DataW.weightsAll P e ds
  | d0 :: ds, h, n, hn => by
    simp only [DataW.weightsAll, List.mem_append]
    rcases List.mem_cons.1 h with rfl | h
    · exact .inl hn
    · exact .inr (all_mem h n hn)
theorem light_struct {t : TypeId} {fs : Array Field} {xs : List (DataW H × List MemPlace)} {ps : List MemPlace} (hu : P.underlying t = some (.struct fs)) (h : Light P t (.agg (xs.map (·.1)), ps)) {i : Nat} {f : Field} {y : DataW H × List MemPlace} (hf : fs[i]? = some f) (hy : xs[i]? = some y) : Light P f.type y := by
  intro m hm
  refine h m ?_
  simp only [DataW.weights, hu]
  exact DataW.weights_mem_each (j := i) (t := f.type) (d := y.1) (by simp [hf]) (by simp [hy]) m hm
theorem light_array {t e : TypeId} {n : Nat} {xs : List (DataW H × List MemPlace)} {ps : List MemPlace} (hu : P.underlying t = some (.array n e)) (h : Light P t (.agg (xs.map (·.1)), ps)) {i : Nat} {y : DataW H × List MemPlace} (hy : xs[i]? = some y) : Light P e y := by
  intro m hm
  refine h m ?_
  simp only [DataW.weights, hu]
  exact all_mem (d := y.1) (List.mem_map.2 ⟨y, List.mem_of_getElem? hy, rfl⟩) m hm
theorem light_slice {t e : TypeId} {xs ys : List (DataW H × List MemPlace)} {ps : List MemPlace} (hu : P.underlying t = some (.slice e)) (h : Light P t (.slice (xs.map (·.1)) (ys.map (·.1)), ps)) : xs.length * P.bytesOf e ≤ reachBytes ∧ ∀ y ∈ xs, Light P e y := by
  have h' : ∀ m, m ∈ ((xs.map (·.1)).length + (ys.map (·.1)).length) * P.bytesOf e :: (DataW.weightsAll P e (xs.map (·.1)) ++ DataW.weightsAll P e (ys.map (·.1))) → m ≤ reachBytes := by
    intro m hm
    refine h m ?_
    simp only [DataW.weights, hu]
    exact hm
  constructor
  · have := h' _ (List.mem_cons_self)
    simp only [List.length_map] at this
    exact Nat.le_trans (Nat.mul_le_mul_right _ (by omega)) this
  · intro y hy m hm
    exact h' m (List.mem_cons.2 (.inr (List.mem_append.2 (.inl (all_mem (d := y.1) (List.mem_map.2 ⟨y, hy, rfl⟩) m hm)))))
theorem light_each {ts : List TypeId} {ds : List (DataW H)} {j : Nat} {t : TypeId} {d : DataW H} {ps : List MemPlace} (hz : (DataW.weightsEach P ts ds).all (· ≤ reachBytes) = true) (htj : ts[j]? = some t) (hd : ds[j]? = some d) : Light P t (d, ps) := by
  intro m hm
  simpa using List.all_eq_true.1 hz m (DataW.weights_mem_each htj hd m hm)
end
section
variable {H : Type} {enc : TypeId × Value → H} {P : Program} {W : World} {base : Nat} {sp : Nat → Bool} {held : Bool} {B : Nat}
/-- A cell that reads as a value of type T, with so much fuel at most. -/
def LeafZ (enc : TypeId × Value → H) (P : Program) (W : World) (base : Nat) (sp : Nat → Bool) (held : Bool) (B : Nat) (T : TypeId) (v : Value) : Prop := ∃ fuel x, fuel ≤ B ∧ DataW.trod enc P W base sp held fuel T [v] = some x ∧ Light P T x
theorem LeafZ.leaf {T : TypeId} {v : Value} (h : LeafZ enc P W base sp held B T v) : Leaf enc P W base sp held T v := by
  obtain ⟨f, x, _, h, _⟩ := h
  exact ⟨f, x, h⟩

inductive LeavesZ (enc : TypeId × Value → H) (P : Program) (W : World) (base : Nat) (sp : Nat → Bool) (held : Bool) (B : Nat) : List TypeId → List Value → Prop
  | nil : LeavesZ enc P W base sp held B [] []
  | cons {T : TypeId} {v : Value} {ts : List TypeId} {vs : List Value} : LeafZ enc P W base sp held B T v → LeavesZ enc P W base sp held B ts vs → LeavesZ enc P W base sp held B (T :: ts) (v :: vs)

theorem LeavesZ.append {a b : List TypeId} {c d : List Value} (h : LeavesZ enc P W base sp held B a c) (k : LeavesZ enc P W base sp held B b d) : LeavesZ enc P W base sp held B (a ++ b) (c ++ d) := by
  induction h with
  | nil => exact k
  | cons h1 _ ih => exact .cons h1 ih
theorem LeavesZ.inv {T : TypeId} {ts : List TypeId} {vs : List Value} (h : LeavesZ enc P W base sp held B (T :: ts) vs) : ∃ v r, vs = v :: r ∧ LeafZ enc P W base sp held B T v ∧ LeavesZ enc P W base sp held B ts r := by
  cases h with
  | cons h1 h2 => exact ⟨_, _, rfl, h1, h2⟩
theorem LeavesZ.inv0 {vs : List Value} (h : LeavesZ enc P W base sp held B [] vs) : vs = [] := by
  cases h; rfl

theorem leavesZ_of (d : Nat) : (∀ (t : TypeId) (l : List TypeId) (fuel : Nat) (cs : List Value) (x : DataW H × List MemPlace), fuel ≤ B → leafT P d t = some l → DataW.trod enc P W base sp held fuel t cs = some x → Light P t x → LeavesZ enc P W base sp held B l cs) ∧
    (∀ (fs : List Field) (off : Nat) (l : List TypeId) (n : Nat) (cs : List Value), n ≤ B → leafF P d off fs = some l → cs.length = off + l.length → (∀ (i : Nat) (f : Field), fs[i]? = some f → ∃ x, DataW.trod enc P W base sp held n f.type ((cs.drop f.offset).take (P.cellsOf f.type)) = some x ∧ Light P f.type x) →
      LeavesZ enc P W base sp held B l (cs.drop off)) := by
  induction d with
  | zero =>
    refine ⟨fun t l _ _ _ _ h _ => by simp [leafT] at h, fun fs off l n cs _ h hl _ => ?_⟩
    cases fs with
    | nil =>
      simp [leafF] at h; subst h
      rw [List.drop_eq_nil_of_le (by simp at hl; omega)]
      exact .nil
    | cons f fs => simp [leafF] at h
  | succ d ih =>
    obtain ⟨ihT, ihF⟩ := ih
    constructor
    · intro t l fuel cs x hB hl h hZ
      cases hu : P.underlying t with
      | none => unfold leafT at hl; rw [hu] at hl; cases hl
      | some e =>
        by_cases hs : e.aggB = false
        · have e1 := one_of_scal hu hs hl
          subst e1
          obtain ⟨v, rfl⟩ := trod_one hu hs h
          exact .cons ⟨fuel, x, hB, h, hZ⟩ .nil
        · cases e <;> simp [TypeDesc.aggB] at hs
          case array n E =>
            unfold leafT at hl
            rw [hu] at hl
            simp only [Option.bind_eq_some_iff] at hl
            obtain ⟨le, h1, h2⟩ := hl
            split at h2
            · rename_i hlen
              simp at h2; subst h2
              obtain ⟨xs, m, hfu, hxx, hcl, hxl, hget⟩ := DataW.trod_array hu h
              subst hxx
              have key : ∀ (k j : Nat), j + k = n → LeavesZ enc P W base sp held B (List.replicate k le).flatten ((cs.drop (j * P.cellsOf E)).take (k * P.cellsOf E)) := by
                intro k
                induction k with
                | zero => intro j _; simp; exact .nil
                | succ k ihk =>
                  intro j hj
                  have hjn : j < n := by omega
                  have hg := hget j hjn
                  have hsome : ∃ y, xs[j]? = some y := ⟨xs[j], List.getElem?_eq_getElem (by omega)⟩
                  obtain ⟨y, hy⟩ := hsome
                  rw [hy] at hg
                  have h3 := ihT E le m _ y (by omega) h1 hg (light_array hu hZ hy)
                  have h4 := ihk (j + 1) (by omega)
                  have e2 : (cs.drop (j * P.cellsOf E)).take ((k + 1) * P.cellsOf E) = (cs.drop (j * P.cellsOf E)).take (P.cellsOf E) ++ (cs.drop ((j + 1) * P.cellsOf E)).take (k * P.cellsOf E) := by
                    rw [Nat.add_mul k 1, Nat.one_mul, Nat.add_comm (k * P.cellsOf E), List.take_add, List.drop_drop, Nat.add_mul j 1, Nat.one_mul]
                  rw [List.replicate_succ, List.flatten_cons, e2]
                  exact h3.append h4
              have := key n 0 (by omega)
              simp only [Nat.zero_mul, List.drop_zero] at this
              have hc : cs.take (n * P.cellsOf E) = cs := by
                rw [List.take_of_length_le]
                rw [hcl, ← hlen.2, hlen.1]
                exact Nat.le_refl _
              rw [hc] at this
              exact this
            · cases h2
          case struct fs =>
            unfold leafT at hl
            rw [hu] at hl
            simp only [Option.bind_eq_some_iff] at hl
            obtain ⟨lf, hl, hl2⟩ := hl
            split at hl2
            rotate_left
            · cases hl2
            rename_i hlen
            simp only [Option.some.injEq] at hl2; subst hl2
            obtain ⟨xs, n, hfu, hxx, hcl, hxl, hget⟩ := DataW.trod_struct hu h
            subst hxx
            have := ihF fs.toList 0 lf n cs (by omega) hl (by rw [hcl, hlen]; omega) (fun i f hf => by
              have hg := hget i f (by simpa using hf)
              have hi : i < xs.length := by
                rw [hxl]
                rcases Nat.lt_or_ge i fs.size with h | h
                · exact h
                · rw [List.getElem?_eq_none (by simpa using h)] at hf; cases hf
              exact ⟨xs[i], by rw [hg]; exact List.getElem?_eq_getElem hi, light_struct hu hZ (by simpa using hf) (List.getElem?_eq_getElem hi)⟩)
            simpa using this
    · intro fs off l n cs hB hl hlen hget
      cases fs with
      | nil =>
        simp [leafF] at hl; subst hl
        rw [List.drop_eq_nil_of_le (by simp at hlen; omega)]
        exact .nil
      | cons f fs =>
        unfold leafF at hl
        split at hl
        · rename_i hoff
          simp only [Option.bind_eq_some_iff] at hl
          obtain ⟨lf, h1, h2⟩ := hl
          split at h2
          · rename_i hlf
            simp only [Option.map_eq_some_iff] at h2
            obtain ⟨lr, h3, rfl⟩ := h2
            obtain ⟨x, hx, hZ⟩ := hget 0 f (by simp)
            have h4 := ihT f.type lf n _ x hB h1 hx hZ
            have h5 := ihF fs (off + lf.length) lr n cs hB h3 (by simp at hlen; omega) (fun i g hg => hget (i + 1) g (by simpa using hg))
            have e2 : cs.drop off = (cs.drop off).take (P.cellsOf f.type) ++ cs.drop (off + lf.length) := by
              rw [← hlf, ← List.drop_drop, List.take_append_drop]
            rw [e2]
            rw [hoff] at h4
            exact h4.append h5
          · cases h2
        · cases hl

/-- A struct's cells, each with less fuel. -/
theorem leavesZ_struct {t : TypeId} {fs : Array Field} {l : List TypeId} {fuel : Nat} {cs : List Value} {x : DataW H × List MemPlace} (d : Nat) (hu : P.underlying t = some (.struct fs)) (hl : leafT P (d + 1) t = some l) (h : DataW.trod enc P W base sp held fuel t cs = some x) (hZ : Light P t x) :
    ∃ n, fuel = n + 1 ∧ LeavesZ enc P W base sp held n l cs := by
  unfold leafT at hl
  rw [hu] at hl
  simp only [Option.bind_eq_some_iff] at hl
  obtain ⟨lf, hl, hl2⟩ := hl
  split at hl2
  rotate_left
  · cases hl2
  rename_i hlen
  simp only [Option.some.injEq] at hl2; subst hl2
  obtain ⟨xs, n, hfu, hxx, hcl, hxl, hget⟩ := DataW.trod_struct hu h
  subst hxx
  have := (leavesZ_of (B := n) d).2 fs.toList 0 lf n cs (Nat.le_refl _) hl (by rw [hcl, hlen]; omega) (fun i f hf => by
    have hg := hget i f (by simpa using hf)
    have hi : i < xs.length := by
      rw [hxl]
      rcases Nat.lt_or_ge i fs.size with h | h
      · exact h
      · rw [List.getElem?_eq_none (by simpa using h)] at hf; cases hf
    exact ⟨xs[i], by rw [hg]; exact List.getElem?_eq_getElem hi, light_struct hu hZ (by simpa using hf) (List.getElem?_eq_getElem hi)⟩)
  exact ⟨n, hfu, by simpa using this⟩

/-- A slice whose elements each read as some α of which more is known. -/
theorem open_slZ {α : Type} {cells : α → List Value} {Qa : α → Prop} {t e : TypeId} {sz : Nat} {v : Value} (e0 : α) (ht : P.underlying t = some (.slice e)) (hsz : P.cellsOf e = sz) (hpos : 0 < sz)
    (hp : ∀ n cs' y, n < B → DataW.trod enc P W base sp held n e cs' = some y → Light P e y → ∃ a : α, cs' = cells a ∧ Qa a)
    (h : LeafZ enc P W base sp held B t v) : ∃ l, SlL (GW W) v sz cells e0 l ∧ l.length * P.bytesOf e ≤ reachBytes ∧ ∀ a ∈ l, Qa a := by
  obtain ⟨fuel, x, hB, h, hZ⟩ := h
  rcases DataW.trod_slice ht h with ⟨hv, _⟩ | ⟨a, len, cap, elems, rest, n, hfu, hv, hxx, _, hl, hm, hlen, hel, _, _⟩
  · simp at hv; subst hv
    exact ⟨[], SlG.nil _ _ _, by simp, by simp⟩
  · simp at hv; subst hv
    subst hxx
    subst hsz
    obtain ⟨hz1, hz2⟩ := light_slice ht hZ
    obtain ⟨A, hA⟩ := @Go.Deep.choose_lt α ⟨e0⟩ len (fun i v => W.cells? base (a.add (i * P.cellsOf e)) (P.cellsOf e) = some (cells v) ∧ Qa v) (fun i hi => by
      have h1 := hel i hi
      rw [List.getElem?_eq_getElem (by omega)] at h1
      obtain ⟨cs', h2, h3⟩ := Option.bind_eq_some_iff.1 h1
      obtain ⟨v, rfl, hq⟩ := hp _ _ _ (by omega) h3 (hz2 _ (List.getElem_mem _))
      exact ⟨v, h2, hq⟩)
    refine ⟨(List.range len).map A, ⟨some a, cap, by simp, ⟨by simpa using hl, by simp; omega⟩, fun hn => ?_⟩, by simpa [hlen] using hz1, fun b hb => ?_⟩
    rotate_left
    · simp only [List.mem_map, List.mem_range] at hb
      obtain ⟨i, hi, rfl⟩ := hb
      exact (hA i hi).2
    simp only [List.length_map, List.length_range] at hn ⊢
    have h0 := (World.cells?_some (hA 0 hn).1).2.2 0 hpos
    have hlen0 := (World.cells?_some (hA 0 hn).1).2.1
    simp only [Nat.zero_mul] at h0
    have e1 : (a.add 0).add 0 = a := by simp [Addr.add]
    rw [e1, List.getElem?_eq_getElem (by omega)] at h0
    obtain ⟨hspot, c, T, fr, hc, _⟩ := cells_of_cell h0
    obtain ⟨ab, ao, asp⟩ := a
    simp only at hspot; subst hspot
    refine ⟨ab, ao, rfl, fun i hi => ⟨c, T, fr, hc, fun j hj => ?_⟩⟩
    have h1 := (World.cells?_some (hA i hi).1).2.2 j hj
    have hlen := (World.cells?_some (hA i hi).1).2.1
    rw [addr_add, addr_add, List.getElem?_eq_getElem (by omega)] at h1
    obtain ⟨_, c', T', fr', hc', h2⟩ := cells_of_cell h1
    simp only at hc hc' h2
    rw [hc] at hc'
    cases hc'
    rw [h2]
    have h3 : ((List.range len).map A).getD i e0 = A i := by simp [List.getD, hi]
    rw [h3]
    have h4 := at_get (cells (A i)) j (by omega)
    rw [List.getElem?_eq_getElem (by omega)] at h4
    simpa using h4

end
end Go.Gx

/- Walks: what Go functions of this chapter come to, each as a function on plain data; no condition but those that each theorem names. Printed by a program of this work (gen.py). -/
namespace Go.Proofs.Ytoflaphnlfggkaa
open Go.Gx Go.Gx.T4 Go.Gx.T3 Go.Gx.T6 Go.Gx.T8 Go.Gx.T4 Go.Gx.T3 Go.Gx.T8 Go.Gx.T4 Go.Gx.T3 Go.Gx.T8 Go.Gx.T6 Go.Gx.T4 Go.Gx.T3
theorem open_stepz_tl : leafT Try.prog 10 92 = some [3, 3, 3] := by kernel_rfl
theorem open_stepz_l : leafT Try.prog 10 64 = some [3, 3, 3, 3, 62, 50] := by kernel_rfl
set_option maxRecDepth 100000 in
theorem open_stepz_t {H : Type} {enc : TypeId × Value → H} {W : World} {base : Nat} {sp : Nat → Bool} {held : Bool} (n : Nat) (cs : List Value) (x : DataW H × List MemPlace) (h : DataW.trod enc Try.prog W base sp held n 92 cs = some x) : ∃ a : TD, cs = tC a ∧ True := by
 obtain ⟨n', _, hl⟩ := leavesB_struct 9 Try.underlying92 open_stepz_tl h
 obtain ⟨x0, r0, e0, f0, g0⟩ := hl.inv
 obtain ⟨a0, rfl, _⟩ := f0.leaf.int Try.underlying3
 obtain ⟨x1, r1, e1, f1, g1⟩ := g0.inv
 obtain ⟨a1, rfl, _⟩ := f1.leaf.int Try.underlying3
 obtain ⟨x2, r2, e2, f2, g2⟩ := g1.inv
 obtain ⟨a2, rfl, _⟩ := f2.leaf.int Try.underlying3
 have z := g2.inv0
 exact ⟨(a0, a1, a2), by rw [e0, e1, e2, z]; rfl, trivial⟩
set_option maxRecDepth 100000 in
theorem open_stepz_n {H : Type} {enc : TypeId × Value → H} {W : World} {base : Nat} {sp : Nat → Bool} {held : Bool} : ∀ (B n : Nat) (cs : List Value) (x : DataW H × List MemPlace), n ≤ B → DataW.trod enc Try.prog W base sp held n 64 cs = some x → Light Try.prog 64 x → ∃ a : SVal, cs = sC a ∧ (SlL (GW W) a.2.1 3 tC t0 a.1.h.ts ∧ Ss (GW W) a.2.2 a.1.subs ∧ ltS a.1)
 | 0, n, cs, x, hn, h, _ => by
  obtain rfl : n = 0 := by omega
  simp [DataW.trod] at h
 | B + 1, n, cs, x, hn, h, hZ => by
  obtain ⟨n', hnn, hl⟩ := leavesZ_struct 9 Try.underlying64 open_stepz_l h hZ
  obtain ⟨x0, r0, e0, f0, g0⟩ := hl.inv
  obtain ⟨a0, rfl, _⟩ := f0.leaf.int Try.underlying3
  obtain ⟨x1, r1, e1, f1, g1⟩ := g0.inv
  obtain ⟨a1, rfl, _⟩ := f1.leaf.int Try.underlying3
  obtain ⟨x2, r2, e2, f2, g2⟩ := g1.inv
  obtain ⟨a2, rfl, _⟩ := f2.leaf.int Try.underlying3
  obtain ⟨x3, r3, e3, f3, g3⟩ := g2.inv
  obtain ⟨a3, rfl, _⟩ := f3.leaf.int Try.underlying3
  obtain ⟨x4, r4, e4, f4, g4⟩ := g3.inv
  obtain ⟨x5, r5, e5, f5, g5⟩ := g4.inv
  have z := g5.inv0
  obtain ⟨ts, h1, hb, _⟩ := open_slZ (cells := tC) (Qa := fun _ => True) t0 Try.underlying62 (show Program.cellsOf Try.prog 92 = 3 by kernel_rfl) (by decide) (fun m cs' y hm hy _ => open_stepz_t m cs' y hy) f4
  obtain ⟨l, h2, _, h3⟩ := open_slZ (cells := sC) (Qa := fun a => SlL (GW W) a.2.1 3 tC t0 a.1.h.ts ∧ Ss (GW W) a.2.2 a.1.subs ∧ ltS a.1) s0 Try.underlying50 (show Program.cellsOf Try.prog 64 = 6 by kernel_rfl) (by decide) (fun m cs' y hm hy hz => open_stepz_n B m cs' y (by omega) hy hz) f5
  rw [show Program.bytesOf Try.prog 92 = 24 by kernel_rfl, show reachBytes = 140737488351232 by decide] at hb
  refine ⟨(ST.mk ⟨a0, a1, a2, a3, ts⟩ (l.map Prod.fst), x4, x5), ?_, h1, Ss.mk l h2 (fun p hp => (h3 p hp).1) (fun p hp => (h3 p hp).2.1), ltS_mk hb (fun c hc => by obtain ⟨p, hp, rfl⟩ := List.mem_map.1 hc; exact (h3 p hp).2.2)⟩
  rw [e0, e1, e2, e3, e4, e5, z]; rfl
set_option maxRecDepth 100000 in
theorem open_stepz {H : Type} {enc : TypeId × Value → H} {W : World} {base : Nat} {sp : Nat → Bool} {held : Bool} {r : Reach} {b0 : Nat} {v : Value} {y : DataW H} {ps : List MemPlace} (hv : Value.okWide Try.prog W r b0 64 v) (h : DataW.Trod enc Try.prog W base sp held 64 v y ps) (hZ : Light Try.prog 64 (y, ps)) : ∃ (c : ST) (ta sb : Value), v = Value.agg #[Value.int .i64 c.h.k, Value.int .i64 c.h.k0, Value.int .i64 c.h.k1, Value.int .i64 c.h.k2, ta, sb] ∧ SlL (GW W) ta 3 tC t0 c.h.ts ∧ Ss (GW W) sb c.subs ∧ ltS c := by
 obtain ⟨cs, rfl⟩ := agg_of_wide Try.underlying64 rfl hv
 obtain ⟨fuel, hf⟩ := h
 obtain ⟨a, e, hs⟩ := open_stepz_n fuel fuel cs.toList _ (Nat.le_refl _) hf hZ
 refine ⟨a.1, a.2.1, a.2.2, ?_, hs⟩
 have : cs = (sC a).toArray := by apply Array.ext'; simpa using e
 rw [this]; rfl
end Go.Proofs.Ytoflaphnlfggkaa
