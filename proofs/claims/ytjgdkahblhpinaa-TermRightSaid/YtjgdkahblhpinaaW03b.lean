/- Walks: what Go functions of this chapter come to, each as a function on plain data; no condition but those that each theorem names. Printed by a program of this work (gen.py). -/
import Derived.Test.YtjgdkahblhpinaaW03
import Derived.Test.YtjgdkahblhpinaaRows
namespace Go.Proofs.Ytjgdkahblhpinaa
open Go.Gx Go.Gx.T3
theorem lf23 : leafT Try.prog 9 23 = some [4, 3] := by
  kernel_rfl
theorem ef23 : eqT Try.prog 9 23 = true := by
  kernel_rfl
theorem eg23 : Try.prog.eqGuardType Try.prog.depth 23 = false := by
  kernel_rfl
theorem cl21 : Callable Try.prog 21 := callable Try.func21 (by kernel_rfl) rfl
theorem bl24_0a2 (x0 : Value) (x1 : Value) : Program.built Try.prog 24 [(0, Value.agg #[x0, x1])] = some #[x0, x1, Value.bool false, Value.int .i64 0, Value.bool false, Value.int .i64 0] := by
  kernel_rfl
theorem c_TermRight (b : Bool) (n : Int) (w : World)  :
    Calls Try.prog 5 #[Value.bool b, Value.int .i64 n] w (Ret fun r w' => r = Value.bool true ∧ Since nX w w') := by
  refine enter (args := [_, _]) (X := nX) (G := (fun _ => none)) (l := [(0, Value.bool b), (1, Value.int .i64 n)]) Try.func5 rfl Try.ntmps5 (fun _ _ h => by cases h) ⟨rfl, rfl, trivial⟩ (Nat.le_of_ble_eq_true rfl) ?_
  refine c_seq ?_
  refine c_region ?_
  refine r_val .none rfl (p_assign rfl) ?_
  refine r_nil ?_
  refine e_next ?_
  refine c_seq ?_
  refine c_region ?_
  refine r_val .none rfl (p_move rfl) ?_
  refine r_val .none rfl (p_move rfl) ?_
  refine r_val .none rfl (p_build (vs := [(0, Value.bool _), (1, Value.int _ _)]) rfl (bl23_0b1_1i1 _ _)) ?_
  refine r_alloc .none rfl zr23 (IsRow.lit _) (fun b1 => ?_)
  refine r_stw (k := 0) .none sz23 rfl rfl (IsRow.lit _) (one_lit rfl rfl) rfl ?_
  refine r_nil ?_
  refine e_next ?_
  refine c_seq ?_
  refine c_seq ?_
  refine c_region_q mixed (by kernel_rfl) ?_
  refine q_val .none rfl (p_ldw (k := 0) Try.underlying23 rfl sz23 rfl rfl (rfl : _ = Value.agg #[_, _])) ?_
  refine q_call (vs := [_]) .none rfl cl21 rfl (fun w hw => c_right _ _ w) ?_
  refine q_val .none rfl (p_ldw (k := 0) Try.underlying23 rfl sz23 rfl rfl (rfl : _ = Value.agg #[_, _])) ?_
  refine q_val .none rfl (p_build (vs := [(0, Value.agg #[_, _])]) rfl (bl24_0a2 _ _)) ?_
  refine q_call (vs := [_]) .none rfl cl23 rfl (fun w hw => c_ref b n false 0 false 0 w) ?_
  refine q_val .none rfl (p_indexa (k := 0) Try.underlying41 Try.underlying40 rfl sz40 rfl (IsRow.lit _) rfl rfl (by first | exact of_decide_eq_true rfl | omega) (rfl : _ = Value.agg #[_, _])) ?_
  refine q_call (vs := [_]) .none rfl cl22 rfl (fun w hw => c_rright _ _ w) ?_
  refine q_val .none rfl (p_neb Try.underlying4 rfl rfl) ?_
  refine q_nil ?_
  refine e_next ?_
  refine c_splitn (d := 16) rfl (fun h1 => ?_) (fun h1 => ?_)
  · skip
    refine c_cond_t rfl ?_
    refine c_seq ?_
    refine c_region ?_
    refine r_val .none rfl (p_assign rfl) ?_
    refine r_nil ?_
    refine e_next ?_
    refine c_ret ?_
    refine e_ret_then ?_
    refine e_ret1 Try.results5 (.tmp rfl .nil) (fun w hm => ⟨?_, hm.since⟩)
    first
    | rfl
    | (exfalso; simp_all [csEq, cEq]; done)
  · skip
    refine c_cond_f rfl ?_
    refine c_skip ?_
    refine e_next ?_
    refine c_seq ?_
    refine c_region ?_
    refine r_val .none rfl (p_move rfl) ?_
    refine r_call (vs := [_]) .none rfl cl24 rfl (fun w hw => c_sym _ w) ?_
    refine r_val .none rfl (p_move rfl) ?_
    refine r_val .none rfl (p_build (vs := [(1, Value.int _ _)]) rfl (bl23_1i1 _)) ?_
    refine r_val .none rfl (p_eqa rfl rfl (eq_flat Try.underlying23 rfl lf23 ef23 eg23 (.cons (.bool Try.underlying4) (.cons (.int Try.underlying3) (.nil))) (.cons (.bool Try.underlying4) (.cons (.int Try.underlying3) (.nil))))) ?_
    refine r_val .none rfl (p_move rfl) ?_
    refine r_split (d := 22) rfl (fun h2 => ?_) (fun h2 => ?_)
    · skip
      refine r_val (.some rfl rfl) rfl (p_move rfl) ?_
      refine r_call (vs := [_]) (.some rfl rfl) rfl cl25 rfl (fun w hw => c_var _ w) ?_
      refine r_val (.some rfl rfl) rfl (p_move rfl) ?_
      refine r_val (.some rfl rfl) rfl (p_build (vs := [(0, Value.bool _), (1, Value.int _ _)]) rfl (bl23_0b1_1i1 _ _)) ?_
      refine r_val (.some rfl rfl) rfl (p_eqa rfl rfl (eq_flat Try.underlying23 rfl lf23 ef23 eg23 (.cons (.bool Try.underlying4) (.cons (.int Try.underlying3) (.nil))) (.cons (.bool Try.underlying4) (.cons (.int Try.underlying3) (.nil))))) ?_
      refine r_val .none rfl (p_pick_t rfl rfl) ?_
      refine r_val .none rfl (p_move rfl) ?_
      refine r_split (d := 29) rfl (fun h3 => ?_) (fun h3 => ?_)
      · skip
        refine r_call (vs := []) (.some rfl rfl) rfl cl15 rfl (fun w hw => c_awake3  w) ?_
        refine r_val .none rfl (p_pick_t rfl rfl) ?_
        refine r_val .none rfl (p_assign rfl) ?_
        refine r_nil ?_
        refine e_next ?_
        refine c_ret ?_
        refine e_ret1 Try.results5 (.tmp rfl .nil) (fun w hm => ⟨?_, hm.since⟩)
        first
        | rfl
        | (exfalso; simp_all [csEq, cEq]; done)
      · skip
        refine r_skip rfl (.no rfl rfl) ?_
        refine r_val .none rfl (p_pick_f rfl rfl) ?_
        refine r_val .none rfl (p_assign rfl) ?_
        refine r_nil ?_
        refine e_next ?_
        refine c_ret ?_
        refine e_ret1 Try.results5 (.tmp rfl .nil) (fun w hm => ⟨?_, hm.since⟩)
        first
        | rfl
        | (exfalso; simp_all [csEq, cEq]; done)
    · skip
      refine r_skip rfl (.no rfl rfl) ?_
      refine r_skip rfl (.no rfl rfl) ?_
      refine r_skip rfl (.no rfl rfl) ?_
      refine r_skip rfl (.no rfl rfl) ?_
      refine r_skip rfl (.no rfl rfl) ?_
      refine r_val .none rfl (p_pick_f rfl rfl) ?_
      refine r_val .none rfl (p_move rfl) ?_
      refine r_skip rfl (.no rfl rfl) ?_
      refine r_val .none rfl (p_pick_f rfl rfl) ?_
      refine r_val .none rfl (p_assign rfl) ?_
      refine r_nil ?_
      refine e_next ?_
      refine c_ret ?_
      refine e_ret1 Try.results5 (.tmp rfl .nil) (fun w hm => ⟨?_, hm.since⟩)
      first
      | rfl
      | (exfalso; simp_all [csEq, cEq]; done)
end Go.Proofs.Ytjgdkahblhpinaa
