/- Walks: what Go functions of this chapter come to, each as a function on plain data; no condition but those that each theorem names. Printed by a program of this work (gen.py). -/
import Derived.Test.YtjgdkahblhpinaaGxJoin
import Derived.Test.YtjgdkahblhpinaaW03c
import Derived.Test.YtjgdkahblhpinaaRows
namespace Go.Proofs.Ytjgdkahblhpinaa
open Go.Gx Go.Gx.T3
theorem lf26 : leafT Try.prog 9 26 = some [3, 3, 3] := by
  kernel_rfl
theorem ef26 : eqT Try.prog 9 26 = true := by
  kernel_rfl
theorem eg26 : Try.prog.eqGuardType Try.prog.depth 26 = false := by
  kernel_rfl
theorem cl31 : Callable Try.prog 31 := callable Try.func31 (by kernel_rfl) rfl
theorem cl33 : Callable Try.prog 33 := callable Try.func33 (by kernel_rfl) rfl
theorem cl34 : Callable Try.prog 34 := callable Try.func34 (by kernel_rfl) rfl
theorem c_TermPuts (v0 : Bool) (n0 : Int) (v1 : Bool) (n1 : Int) (v2 : Bool) (n2 : Int) (B : Nat → Int)  (w : World)  :
    Calls Try.prog 9 #[Value.agg #[Value.bool v0, Value.int .i64 n0, Value.bool v1, Value.int .i64 n1, Value.bool v2, Value.int .i64 n2], aggF 33 (fun i => Value.int .i64 (B i))] w (Ret fun r w' => r = Value.bool true ∧ Since nX w w') := by
  refine enter (args := [_, _]) (X := nX) (G := (fun _ => none)) (l := [(0, Value.agg #[Value.bool v0, Value.int .i64 n0, Value.bool v1, Value.int .i64 n1, Value.bool v2, Value.int .i64 n2]), (1, aggF 33 (fun i => Value.int .i64 (B i)))]) Try.func9 rfl Try.ntmps9 (fun _ _ h => by cases h) ⟨rfl, rfl, trivial⟩ (Nat.le_of_ble_eq_true rfl) ?_
  refine c_seq ?_
  refine c_region ?_
  refine r_box .none rfl rfl (IsRow.lit _) (fun b_1 => ?_)
  refine r_box .none rfl rfl (IsRow.fn _ _) (fun b_2 => ?_)
  refine r_val .none rfl (p_assign rfl) ?_
  refine r_nil ?_
  refine e_next ?_
  refine c_seq ?_
  refine c_seq ?_
  refine c_region ?_
  refine r_val .none rfl (p_ldw (k := 1) Try.underlying24 rfl sz24 rfl rfl (rfl : _ = Value.agg #[_, _, _, _, _, _])) ?_
  refine r_call (vs := [_]) .none rfl cl13 rfl (fun w hw => c_fine _ _ _ _ _ _ w) ?_
  refine r_val .none rfl (p_not rfl) ?_
  refine r_nil ?_
  refine e_next ?_
  refine c_splitn (d := 12) rfl (fun h_1 => ?_) (fun h_1 => ?_)
  · skip
    first
      | (exfalso; omega)
      | (
        refine c_cond_t rfl ?_
        refine c_seq ?_
        refine c_region ?_
        refine r_call (vs := []) .none rfl cl15 rfl (fun w hw => c_awake3  w) ?_
        refine r_val .none rfl (p_assign rfl) ?_
        refine r_nil ?_
        refine e_next ?_
        refine c_ret ?_
        refine e_ret_then ?_
        refine e_ret1 Try.results9 (.tmp rfl .nil) (fun w hm => ⟨?_, hm.since⟩)
        first
        | rfl
        | (rw [put_rput B (by assumption)]; simp [csEq, cEq]; done)
        )
  · skip
    first
      | (exfalso; omega)
      | (
        refine c_cond_f rfl ?_
        refine c_skip ?_
        refine e_next ?_
        refine c_seq ?_
        refine c_region ?_
        refine r_val .none rfl (p_ldw (k := 0) Try.underlying28 rfl sz28 rfl rfl rfl) ?_
        refine r_call (vs := [_]) .none rfl cl16 rfl (fun w hw => c_held _ w) ?_
        refine r_alloc .none rfl zr28 (IsRow.fn _ _) (fun b_3 => ?_)
        refine r_stw (k := 0) .none sz28 rfl rfl (IsRow.fn _ _) (fun _ _ => by first | rfl | (rw [upd_eq]; split <;> rfl)) rfl ?_
        refine r_nil ?_
        refine e_next ?_
        refine c_seq ?_
        refine c_region ?_
        refine r_val .none rfl (p_ldw (k := 2) Try.underlying24 rfl sz24 rfl rfl (rfl : _ = Value.agg #[_, _, _, _, _, _])) ?_
        refine r_val .none rfl (p_ldw (k := 0) Try.underlying28 rfl sz28 rfl rfl rfl) ?_
        refine r_call (vs := [_, _]) .none rfl cl33 rfl (fun w hw => c_put _ _ _ _ _ _ _ w) ?_
        refine r_val .none rfl (p_move rfl) ?_
        refine r_val .none rfl (p_extract rfl rfl) ?_
        refine r_val .none rfl (p_extract rfl rfl) ?_
        refine r_alloc .none rfl zr26 (IsRow.lit _) (fun b_4 => ?_)
        refine r_stw (k := 0) .none sz26 rfl rfl (IsRow.fn _ _) (fun _ _ => by first | rfl | (rw [upd_eq]; split <;> rfl)) rfl ?_
        refine r_val .none rfl (p_assign rfl) ?_
        refine r_nil ?_
        refine e_next ?_
        refine c_seq ?_
        refine c_region_d (fun _ => false) _ mixed (.keep (fun _ _ h => h) (.keep (fun _ _ h => h) (.keep (fun _ _ h => h) (.keep (fun _ _ h => h) (.nil))))) ?_
        refine d_val1 0 rfl rfl (by kernel_rfl) (fun _ _ => rfl) .none rfl (p_ldw (k := 3) Try.underlying24 rfl sz24 rfl rfl (rfl : _ = Value.agg #[_, _, _, _, _, _])) ?_
        refine d_val1 2 rfl rfl (by kernel_rfl) (fun _ _ => rfl) .none rfl (p_ldw (k := 1) Try.underlying28 rfl sz28 rfl rfl rfl) ?_
        refine d_eff2 1 8 rfl rfl (by kernel_rfl) (fun K_2 hKK_2 hcK_2 => ?_) (fun K_2 hKK_2 hcK_2 => ?_)
        · skip
          refine r_call (vs := [_]) .none rfl cl23 rfl (fun w hw => c_ref _ _ _ _ _ _ w) ?_
          refine r_nil (e_d (i := 1) (brk := (fun _ => false)) (ph' := true) hKK_2 hcK_2 rfl (fun _ => GLe.refl _) (fun _ => .keep (fun _ _ h => h) (.keep (fun _ _ h => h) (.keep (fun _ _ h => h) (.keep (fun _ _ h => h) (.nil))))) ?_)
          clear hKK_2 hcK_2 K_2
          refine d_eff2 3 8 rfl rfl (by kernel_rfl) (fun K_3 hKK_3 hcK_3 => ?_) (fun K_3 hKK_3 hcK_3 => ?_)
          · skip
            refine r_callm (vs := [_]) .none rfl cl31 rfl (fun w hw => c_pairs _ w hw) (fun G_4 v_7 hn_5 hr_6 => ?_)
            have u_8 := hr_6
            refine r_nil (e_d (i := 3) (brk := (fun _ => false)) (ph' := true) hKK_3 hcK_3 rfl (fun _ => hn_5.le) (fun _ => .keep (fun _ _ h => h) (.keep (fun _ _ h => h) (.keep (fun _ _ h => h) (.keep (fun _ _ h => h) (.nil))))) ?_)
            clear hKK_3 hcK_3 K_3
            refine d_eff2 4 8 rfl rfl (by kernel_rfl) (fun K_9 hKK_9 hcK_9 => ?_) (fun K_9 hKK_9 hcK_9 => ?_)
            · skip
              refine r_call (vs := [_, _]) .none rfl cl34 rfl (fun w hw => c_rput _ _ _ _ _ _ _ _ u_8 w hw) ?_
              refine r_nil (e_d (i := 4) (brk := (fun _ => false)) (ph' := true) hKK_9 hcK_9 rfl (fun _ => hn_5.le) (fun _ => .keep (fun _ _ h => h) (.keep (fun _ _ h => h) (.keep (fun _ _ h => h) (.keep (fun _ _ h => h) (.nil))))) ?_)
              clear hKK_9 hcK_9 K_9
              refine d_val1 5 rfl rfl (by kernel_rfl) (fun _ _ => rfl) .none rfl (p_move rfl) ?_
              refine d_val1 6 rfl rfl (by kernel_rfl) (fun _ _ => rfl) .none rfl (p_extract rfl rfl) ?_
              refine d_val1 7 rfl rfl (by kernel_rfl) (fun _ _ => rfl) .none rfl (p_extract rfl rfl) ?_
              refine d_eff 8 rfl (by kernel_rfl) (fun K_10 hKK_10 hcK_10 => ?_)
              refine r_alloc .none rfl zr25 (IsRow.lit _) (fun b_5 => ?_)
              refine r_nil (e_d (i := 8) (brk := (fun _ => false)) (ph' := true) hKK_10 hcK_10 rfl (fun _ => hn_5.le) (fun _ => .drop (.keep (fun _ _ h => h) (.keep (fun _ _ h => h) (.keep (fun _ _ h => h) (.keep (fun _ _ h => h) (.nil)))))) ?_)
              clear hKK_10 hcK_10 K_10
              refine d_eff 9 rfl (by kernel_rfl) (fun K_11 hKK_11 hcK_11 => ?_)
              refine r_stw (k := 0) .none sz25 rfl rfl (IsRow.fn _ _) (fun _ _ => by first | rfl | (rw [upd_eq]; split <;> rfl)) rfl ?_
              refine r_nil (e_d (i := 9) (brk := (fun _ => false)) (ph' := true) hKK_11 hcK_11 rfl (fun _ => hn_5.le) (fun _ => .drop (.keep (fun _ _ h => h) (.keep (fun _ _ h => h) (.keep (fun _ _ h => h) (.keep (fun _ _ h => h) (.nil)))))) ?_)
              clear hKK_11 hcK_11 K_11
              refine d_val1 10 rfl rfl (by kernel_rfl) (fun _ _ => rfl) .none rfl (p_assign rfl) ?_
              refine d_nil (by kernel_rfl) ?_
              refine e_next ?_
              refine c_seq ?_
              refine c_region ?_
              refine r_val .none rfl (p_ldw (k := 1) Try.underlying26 rfl sz26 rfl rfl (rfl : _ = Value.agg #[_, _, _])) ?_
              refine r_val .none rfl (p_ldw (k := 0) Try.underlying25 rfl sz25 rfl rfl (rfl : _ = Value.agg #[_, _, _])) ?_
              refine r_val .none rfl (p_eqa rfl rfl (eq_flat Try.underlying26 rfl lf26 ef26 eg26 (.cons (.int Try.underlying3) (.cons (.int Try.underlying3) (.cons (.int Try.underlying3) (.nil)))) (.cons (.int Try.underlying3) (.cons (.int Try.underlying3) (.cons (.int Try.underlying3) (.nil)))))) ?_
              refine r_val .none rfl (p_move rfl) ?_
              refine' r_and (c := 33) (d := 37) [_, _, _, _] rfl (fun h_12 Q_13 hQ_14 => ?_) (fun h_12 Q_13 hQ_14 => ?_) ?_
              rotate_left 1
              · skip
                refine r_val (.some rfl rfl) rfl (p_move rfl) ?_
                refine r_val (.some rfl rfl) rfl (p_move rfl) ?_
                refine r_val (.some rfl rfl) rfl (p_eqb Try.underlying4 rfl rfl) ?_
                refine r_val .none rfl (p_pick_t rfl rfl) ?_
                refine r_nil (e_fin (d := 37) hQ_14 rfl (by repeat (first | exact .refl | refine .put rfl ?_ | refine .say rfl ?_ | refine .say2 rfl (by first | assumption | simp_all) ?_)))
              · skip
                repeat (first | refine r_skip rfl (.no rfl rfl) ?_ | refine r_skip rfl (.un rfl rfl) ?_)
                refine r_val (by first | exact .none | exact .some rfl rfl) rfl (p_pick_f rfl rfl) ?_
                refine r_nil (e_fin (d := 37) hQ_14 rfl (by repeat (first | exact .refl | refine .put rfl ?_ | refine .say rfl ?_ | refine .say2 rfl (by first | assumption | simp_all) ?_)))
              refine r_val .none rfl (p_move rfl) ?_
              refine' r_and (c := 38) (d := 40) [_, _] rfl (fun h_16 Q_17 hQ_18 => ?_) (fun h_16 Q_17 hQ_18 => ?_) ?_
              rotate_left 1
              · skip
                try simp only [Bool.and_eq_true, Bool.or_eq_true, Bool.and_eq_false_iff, Bool.or_eq_false_iff, decide_eq_true_eq, decide_eq_false_iff_not, Bool.not_eq_true', Bool.not_eq_false', ne_eq, Decidable.not_not] at h_16
                refine r_call (vs := []) (.some rfl rfl) rfl cl15 rfl (fun w hw => c_awake3  w) ?_
                refine r_val .none rfl (p_pick_t rfl rfl) ?_
                refine r_nil (e_fin (d := 40) hQ_18 rfl (by repeat (first | exact .refl | refine .put rfl ?_ | refine .say rfl ?_ | refine .say2 rfl (by first | assumption | simp_all) ?_)))
              · skip
                repeat (first | refine r_skip rfl (.no rfl rfl) ?_ | refine r_skip rfl (.un rfl rfl) ?_)
                refine r_val (by first | exact .none | exact .some rfl rfl) rfl (p_pick_f rfl rfl) ?_
                refine r_nil (e_fin (d := 40) hQ_18 rfl (by repeat (first | exact .refl | refine .put rfl ?_ | refine .say rfl ?_ | refine .say2 rfl (by first | assumption | simp_all) ?_)))
              refine r_val .none rfl (p_assign rfl) ?_
              refine r_nil ?_
              refine e_next ?_
              refine c_ret ?_
              refine e_ret1 Try.results9 (.tmp rfl .nil) (fun w hm => ⟨?_, hm.since⟩)
              first
              | rfl
              | (rw [put_rput B (by assumption)]; simp [csEq, cEq]; done)
            · skip
              refine r_alloc .none rfl zr25 (IsRow.lit _) (fun b_6 => ?_)
              refine r_nil (e_d (i := 8) (brk := (fun _ => false)) (ph' := true) hKK_9 hcK_9 rfl (fun _ => hn_5.le) (fun _ => .drop (.keep (fun _ _ h => h) (.keep (fun _ _ h => h) (.keep (fun _ _ h => h) (.keep (fun _ _ h => h) (.nil)))))) ?_)
              clear hKK_9 hcK_9 K_9
              refine d_eff 4 rfl (by kernel_rfl) (fun K_20 hKK_20 hcK_20 => ?_)
              refine r_call (vs := [_, _]) .none rfl cl34 rfl (fun w hw => c_rput _ _ _ _ _ _ _ _ u_8 w hw) ?_
              refine r_nil (e_d (i := 4) (brk := (fun _ => false)) (ph' := true) hKK_20 hcK_20 rfl (fun _ => hn_5.le) (fun _ => .drop (.keep (fun _ _ h => h) (.keep (fun _ _ h => h) (.keep (fun _ _ h => h) (.keep (fun _ _ h => h) (.nil)))))) ?_)
              clear hKK_20 hcK_20 K_20
              refine d_val1 5 rfl rfl (by kernel_rfl) (fun _ _ => rfl) .none rfl (p_move rfl) ?_
              refine d_val1 6 rfl rfl (by kernel_rfl) (fun _ _ => rfl) .none rfl (p_extract rfl rfl) ?_
              refine d_val1 7 rfl rfl (by kernel_rfl) (fun _ _ => rfl) .none rfl (p_extract rfl rfl) ?_
              refine d_eff 9 rfl (by kernel_rfl) (fun K_21 hKK_21 hcK_21 => ?_)
              refine r_stw (k := 0) .none sz25 rfl rfl (IsRow.fn _ _) (fun _ _ => by first | rfl | (rw [upd_eq]; split <;> rfl)) rfl ?_
              refine r_nil (e_d (i := 9) (brk := (fun _ => false)) (ph' := true) hKK_21 hcK_21 rfl (fun _ => hn_5.le) (fun _ => .drop (.keep (fun _ _ h => h) (.keep (fun _ _ h => h) (.keep (fun _ _ h => h) (.keep (fun _ _ h => h) (.nil)))))) ?_)
              clear hKK_21 hcK_21 K_21
              refine d_val1 10 rfl rfl (by kernel_rfl) (fun _ _ => rfl) .none rfl (p_assign rfl) ?_
              refine d_nil (by kernel_rfl) ?_
              refine e_next ?_
              refine c_seq ?_
              refine c_region ?_
              refine r_val .none rfl (p_ldw (k := 1) Try.underlying26 rfl sz26 rfl rfl (rfl : _ = Value.agg #[_, _, _])) ?_
              refine r_val .none rfl (p_ldw (k := 0) Try.underlying25 rfl sz25 rfl rfl (rfl : _ = Value.agg #[_, _, _])) ?_
              refine r_val .none rfl (p_eqa rfl rfl (eq_flat Try.underlying26 rfl lf26 ef26 eg26 (.cons (.int Try.underlying3) (.cons (.int Try.underlying3) (.cons (.int Try.underlying3) (.nil)))) (.cons (.int Try.underlying3) (.cons (.int Try.underlying3) (.cons (.int Try.underlying3) (.nil)))))) ?_
              refine r_val .none rfl (p_move rfl) ?_
              refine' r_and (c := 33) (d := 37) [_, _, _, _] rfl (fun h_22 Q_23 hQ_24 => ?_) (fun h_22 Q_23 hQ_24 => ?_) ?_
              rotate_left 1
              · skip
                refine r_val (.some rfl rfl) rfl (p_move rfl) ?_
                refine r_val (.some rfl rfl) rfl (p_move rfl) ?_
                refine r_val (.some rfl rfl) rfl (p_eqb Try.underlying4 rfl rfl) ?_
                refine r_val .none rfl (p_pick_t rfl rfl) ?_
                refine r_nil (e_fin (d := 37) hQ_24 rfl (by repeat (first | exact .refl | refine .put rfl ?_ | refine .say rfl ?_ | refine .say2 rfl (by first | assumption | simp_all) ?_)))
              · skip
                repeat (first | refine r_skip rfl (.no rfl rfl) ?_ | refine r_skip rfl (.un rfl rfl) ?_)
                refine r_val (by first | exact .none | exact .some rfl rfl) rfl (p_pick_f rfl rfl) ?_
                refine r_nil (e_fin (d := 37) hQ_24 rfl (by repeat (first | exact .refl | refine .put rfl ?_ | refine .say rfl ?_ | refine .say2 rfl (by first | assumption | simp_all) ?_)))
              refine r_val .none rfl (p_move rfl) ?_
              refine' r_and (c := 38) (d := 40) [_, _] rfl (fun h_26 Q_27 hQ_28 => ?_) (fun h_26 Q_27 hQ_28 => ?_) ?_
              rotate_left 1
              · skip
                try simp only [Bool.and_eq_true, Bool.or_eq_true, Bool.and_eq_false_iff, Bool.or_eq_false_iff, decide_eq_true_eq, decide_eq_false_iff_not, Bool.not_eq_true', Bool.not_eq_false', ne_eq, Decidable.not_not] at h_26
                refine r_call (vs := []) (.some rfl rfl) rfl cl15 rfl (fun w hw => c_awake3  w) ?_
                refine r_val .none rfl (p_pick_t rfl rfl) ?_
                refine r_nil (e_fin (d := 40) hQ_28 rfl (by repeat (first | exact .refl | refine .put rfl ?_ | refine .say rfl ?_ | refine .say2 rfl (by first | assumption | simp_all) ?_)))
              · skip
                repeat (first | refine r_skip rfl (.no rfl rfl) ?_ | refine r_skip rfl (.un rfl rfl) ?_)
                refine r_val (by first | exact .none | exact .some rfl rfl) rfl (p_pick_f rfl rfl) ?_
                refine r_nil (e_fin (d := 40) hQ_28 rfl (by repeat (first | exact .refl | refine .put rfl ?_ | refine .say rfl ?_ | refine .say2 rfl (by first | assumption | simp_all) ?_)))
              refine r_val .none rfl (p_assign rfl) ?_
              refine r_nil ?_
              refine e_next ?_
              refine c_ret ?_
              refine e_ret1 Try.results9 (.tmp rfl .nil) (fun w hm => ⟨?_, hm.since⟩)
              first
              | rfl
              | (rw [put_rput B (by assumption)]; simp [csEq, cEq]; done)
          · skip
            refine r_alloc .none rfl zr25 (IsRow.lit _) (fun b_7 => ?_)
            refine r_nil (e_d (i := 8) (brk := (fun _ => false)) (ph' := true) hKK_3 hcK_3 rfl (fun _ => GLe.refl _) (fun _ => .drop (.keep (fun _ _ h => h) (.keep (fun _ _ h => h) (.keep (fun _ _ h => h) (.keep (fun _ _ h => h) (.nil)))))) ?_)
            clear hKK_3 hcK_3 K_3
            refine d_eff 3 rfl (by kernel_rfl) (fun K_30 hKK_30 hcK_30 => ?_)
            refine r_callm (vs := [_]) .none rfl cl31 rfl (fun w hw => c_pairs _ w hw) (fun G_31 v_34 hn_32 hr_33 => ?_)
            have u_35 := hr_33
            refine r_nil (e_d (i := 3) (brk := (fun _ => false)) (ph' := true) hKK_30 hcK_30 rfl (fun _ => hn_32.le) (fun _ => .drop (.keep (fun _ _ h => h) (.keep (fun _ _ h => h) (.keep (fun _ _ h => h) (.keep (fun _ _ h => h) (.nil)))))) ?_)
            clear hKK_30 hcK_30 K_30
            refine d_eff 4 rfl (by kernel_rfl) (fun K_36 hKK_36 hcK_36 => ?_)
            refine r_call (vs := [_, _]) .none rfl cl34 rfl (fun w hw => c_rput _ _ _ _ _ _ _ _ u_35 w hw) ?_
            refine r_nil (e_d (i := 4) (brk := (fun _ => false)) (ph' := true) hKK_36 hcK_36 rfl (fun _ => hn_32.le) (fun _ => .drop (.keep (fun _ _ h => h) (.keep (fun _ _ h => h) (.keep (fun _ _ h => h) (.keep (fun _ _ h => h) (.nil)))))) ?_)
            clear hKK_36 hcK_36 K_36
            refine d_val1 5 rfl rfl (by kernel_rfl) (fun _ _ => rfl) .none rfl (p_move rfl) ?_
            refine d_val1 6 rfl rfl (by kernel_rfl) (fun _ _ => rfl) .none rfl (p_extract rfl rfl) ?_
            refine d_val1 7 rfl rfl (by kernel_rfl) (fun _ _ => rfl) .none rfl (p_extract rfl rfl) ?_
            refine d_eff 9 rfl (by kernel_rfl) (fun K_37 hKK_37 hcK_37 => ?_)
            refine r_stw (k := 0) .none sz25 rfl rfl (IsRow.fn _ _) (fun _ _ => by first | rfl | (rw [upd_eq]; split <;> rfl)) rfl ?_
            refine r_nil (e_d (i := 9) (brk := (fun _ => false)) (ph' := true) hKK_37 hcK_37 rfl (fun _ => hn_32.le) (fun _ => .drop (.keep (fun _ _ h => h) (.keep (fun _ _ h => h) (.keep (fun _ _ h => h) (.keep (fun _ _ h => h) (.nil)))))) ?_)
            clear hKK_37 hcK_37 K_37
            refine d_val1 10 rfl rfl (by kernel_rfl) (fun _ _ => rfl) .none rfl (p_assign rfl) ?_
            refine d_nil (by kernel_rfl) ?_
            refine e_next ?_
            refine c_seq ?_
            refine c_region ?_
            refine r_val .none rfl (p_ldw (k := 1) Try.underlying26 rfl sz26 rfl rfl (rfl : _ = Value.agg #[_, _, _])) ?_
            refine r_val .none rfl (p_ldw (k := 0) Try.underlying25 rfl sz25 rfl rfl (rfl : _ = Value.agg #[_, _, _])) ?_
            refine r_val .none rfl (p_eqa rfl rfl (eq_flat Try.underlying26 rfl lf26 ef26 eg26 (.cons (.int Try.underlying3) (.cons (.int Try.underlying3) (.cons (.int Try.underlying3) (.nil)))) (.cons (.int Try.underlying3) (.cons (.int Try.underlying3) (.cons (.int Try.underlying3) (.nil)))))) ?_
            refine r_val .none rfl (p_move rfl) ?_
            refine' r_and (c := 33) (d := 37) [_, _, _, _] rfl (fun h_38 Q_39 hQ_40 => ?_) (fun h_38 Q_39 hQ_40 => ?_) ?_
            rotate_left 1
            · skip
              refine r_val (.some rfl rfl) rfl (p_move rfl) ?_
              refine r_val (.some rfl rfl) rfl (p_move rfl) ?_
              refine r_val (.some rfl rfl) rfl (p_eqb Try.underlying4 rfl rfl) ?_
              refine r_val .none rfl (p_pick_t rfl rfl) ?_
              refine r_nil (e_fin (d := 37) hQ_40 rfl (by repeat (first | exact .refl | refine .put rfl ?_ | refine .say rfl ?_ | refine .say2 rfl (by first | assumption | simp_all) ?_)))
            · skip
              repeat (first | refine r_skip rfl (.no rfl rfl) ?_ | refine r_skip rfl (.un rfl rfl) ?_)
              refine r_val (by first | exact .none | exact .some rfl rfl) rfl (p_pick_f rfl rfl) ?_
              refine r_nil (e_fin (d := 37) hQ_40 rfl (by repeat (first | exact .refl | refine .put rfl ?_ | refine .say rfl ?_ | refine .say2 rfl (by first | assumption | simp_all) ?_)))
            refine r_val .none rfl (p_move rfl) ?_
            refine' r_and (c := 38) (d := 40) [_, _] rfl (fun h_42 Q_43 hQ_44 => ?_) (fun h_42 Q_43 hQ_44 => ?_) ?_
            rotate_left 1
            · skip
              try simp only [Bool.and_eq_true, Bool.or_eq_true, Bool.and_eq_false_iff, Bool.or_eq_false_iff, decide_eq_true_eq, decide_eq_false_iff_not, Bool.not_eq_true', Bool.not_eq_false', ne_eq, Decidable.not_not] at h_42
              refine r_call (vs := []) (.some rfl rfl) rfl cl15 rfl (fun w hw => c_awake3  w) ?_
              refine r_val .none rfl (p_pick_t rfl rfl) ?_
              refine r_nil (e_fin (d := 40) hQ_44 rfl (by repeat (first | exact .refl | refine .put rfl ?_ | refine .say rfl ?_ | refine .say2 rfl (by first | assumption | simp_all) ?_)))
            · skip
              repeat (first | refine r_skip rfl (.no rfl rfl) ?_ | refine r_skip rfl (.un rfl rfl) ?_)
              refine r_val (by first | exact .none | exact .some rfl rfl) rfl (p_pick_f rfl rfl) ?_
              refine r_nil (e_fin (d := 40) hQ_44 rfl (by repeat (first | exact .refl | refine .put rfl ?_ | refine .say rfl ?_ | refine .say2 rfl (by first | assumption | simp_all) ?_)))
            refine r_val .none rfl (p_assign rfl) ?_
            refine r_nil ?_
            refine e_next ?_
            refine c_ret ?_
            refine e_ret1 Try.results9 (.tmp rfl .nil) (fun w hm => ⟨?_, hm.since⟩)
            first
            | rfl
            | (rw [put_rput B (by assumption)]; simp [csEq, cEq]; done)
        · skip
          refine r_alloc .none rfl zr25 (IsRow.lit _) (fun b_8 => ?_)
          refine r_nil (e_d (i := 8) (brk := (fun _ => false)) (ph' := true) hKK_2 hcK_2 rfl (fun _ => GLe.refl _) (fun _ => .drop (.keep (fun _ _ h => h) (.keep (fun _ _ h => h) (.keep (fun _ _ h => h) (.keep (fun _ _ h => h) (.nil)))))) ?_)
          clear hKK_2 hcK_2 K_2
          refine d_eff 1 rfl (by kernel_rfl) (fun K_46 hKK_46 hcK_46 => ?_)
          refine r_call (vs := [_]) .none rfl cl23 rfl (fun w hw => c_ref _ _ _ _ _ _ w) ?_
          refine r_nil (e_d (i := 1) (brk := (fun _ => false)) (ph' := true) hKK_46 hcK_46 rfl (fun _ => GLe.refl _) (fun _ => .drop (.keep (fun _ _ h => h) (.keep (fun _ _ h => h) (.keep (fun _ _ h => h) (.keep (fun _ _ h => h) (.nil)))))) ?_)
          clear hKK_46 hcK_46 K_46
          refine d_eff 3 rfl (by kernel_rfl) (fun K_47 hKK_47 hcK_47 => ?_)
          refine r_callm (vs := [_]) .none rfl cl31 rfl (fun w hw => c_pairs _ w hw) (fun G_48 v_51 hn_49 hr_50 => ?_)
          have u_52 := hr_50
          refine r_nil (e_d (i := 3) (brk := (fun _ => false)) (ph' := true) hKK_47 hcK_47 rfl (fun _ => hn_49.le) (fun _ => .drop (.keep (fun _ _ h => h) (.keep (fun _ _ h => h) (.keep (fun _ _ h => h) (.keep (fun _ _ h => h) (.nil)))))) ?_)
          clear hKK_47 hcK_47 K_47
          refine d_eff 4 rfl (by kernel_rfl) (fun K_53 hKK_53 hcK_53 => ?_)
          refine r_call (vs := [_, _]) .none rfl cl34 rfl (fun w hw => c_rput _ _ _ _ _ _ _ _ u_52 w hw) ?_
          refine r_nil (e_d (i := 4) (brk := (fun _ => false)) (ph' := true) hKK_53 hcK_53 rfl (fun _ => hn_49.le) (fun _ => .drop (.keep (fun _ _ h => h) (.keep (fun _ _ h => h) (.keep (fun _ _ h => h) (.keep (fun _ _ h => h) (.nil)))))) ?_)
          clear hKK_53 hcK_53 K_53
          refine d_val1 5 rfl rfl (by kernel_rfl) (fun _ _ => rfl) .none rfl (p_move rfl) ?_
          refine d_val1 6 rfl rfl (by kernel_rfl) (fun _ _ => rfl) .none rfl (p_extract rfl rfl) ?_
          refine d_val1 7 rfl rfl (by kernel_rfl) (fun _ _ => rfl) .none rfl (p_extract rfl rfl) ?_
          refine d_eff 9 rfl (by kernel_rfl) (fun K_54 hKK_54 hcK_54 => ?_)
          refine r_stw (k := 0) .none sz25 rfl rfl (IsRow.fn _ _) (fun _ _ => by first | rfl | (rw [upd_eq]; split <;> rfl)) rfl ?_
          refine r_nil (e_d (i := 9) (brk := (fun _ => false)) (ph' := true) hKK_54 hcK_54 rfl (fun _ => hn_49.le) (fun _ => .drop (.keep (fun _ _ h => h) (.keep (fun _ _ h => h) (.keep (fun _ _ h => h) (.keep (fun _ _ h => h) (.nil)))))) ?_)
          clear hKK_54 hcK_54 K_54
          refine d_val1 10 rfl rfl (by kernel_rfl) (fun _ _ => rfl) .none rfl (p_assign rfl) ?_
          refine d_nil (by kernel_rfl) ?_
          refine e_next ?_
          refine c_seq ?_
          refine c_region ?_
          refine r_val .none rfl (p_ldw (k := 1) Try.underlying26 rfl sz26 rfl rfl (rfl : _ = Value.agg #[_, _, _])) ?_
          refine r_val .none rfl (p_ldw (k := 0) Try.underlying25 rfl sz25 rfl rfl (rfl : _ = Value.agg #[_, _, _])) ?_
          refine r_val .none rfl (p_eqa rfl rfl (eq_flat Try.underlying26 rfl lf26 ef26 eg26 (.cons (.int Try.underlying3) (.cons (.int Try.underlying3) (.cons (.int Try.underlying3) (.nil)))) (.cons (.int Try.underlying3) (.cons (.int Try.underlying3) (.cons (.int Try.underlying3) (.nil)))))) ?_
          refine r_val .none rfl (p_move rfl) ?_
          refine' r_and (c := 33) (d := 37) [_, _, _, _] rfl (fun h_55 Q_56 hQ_57 => ?_) (fun h_55 Q_56 hQ_57 => ?_) ?_
          rotate_left 1
          · skip
            refine r_val (.some rfl rfl) rfl (p_move rfl) ?_
            refine r_val (.some rfl rfl) rfl (p_move rfl) ?_
            refine r_val (.some rfl rfl) rfl (p_eqb Try.underlying4 rfl rfl) ?_
            refine r_val .none rfl (p_pick_t rfl rfl) ?_
            refine r_nil (e_fin (d := 37) hQ_57 rfl (by repeat (first | exact .refl | refine .put rfl ?_ | refine .say rfl ?_ | refine .say2 rfl (by first | assumption | simp_all) ?_)))
          · skip
            repeat (first | refine r_skip rfl (.no rfl rfl) ?_ | refine r_skip rfl (.un rfl rfl) ?_)
            refine r_val (by first | exact .none | exact .some rfl rfl) rfl (p_pick_f rfl rfl) ?_
            refine r_nil (e_fin (d := 37) hQ_57 rfl (by repeat (first | exact .refl | refine .put rfl ?_ | refine .say rfl ?_ | refine .say2 rfl (by first | assumption | simp_all) ?_)))
          refine r_val .none rfl (p_move rfl) ?_
          refine' r_and (c := 38) (d := 40) [_, _] rfl (fun h_59 Q_60 hQ_61 => ?_) (fun h_59 Q_60 hQ_61 => ?_) ?_
          rotate_left 1
          · skip
            try simp only [Bool.and_eq_true, Bool.or_eq_true, Bool.and_eq_false_iff, Bool.or_eq_false_iff, decide_eq_true_eq, decide_eq_false_iff_not, Bool.not_eq_true', Bool.not_eq_false', ne_eq, Decidable.not_not] at h_59
            refine r_call (vs := []) (.some rfl rfl) rfl cl15 rfl (fun w hw => c_awake3  w) ?_
            refine r_val .none rfl (p_pick_t rfl rfl) ?_
            refine r_nil (e_fin (d := 40) hQ_61 rfl (by repeat (first | exact .refl | refine .put rfl ?_ | refine .say rfl ?_ | refine .say2 rfl (by first | assumption | simp_all) ?_)))
          · skip
            repeat (first | refine r_skip rfl (.no rfl rfl) ?_ | refine r_skip rfl (.un rfl rfl) ?_)
            refine r_val (by first | exact .none | exact .some rfl rfl) rfl (p_pick_f rfl rfl) ?_
            refine r_nil (e_fin (d := 40) hQ_61 rfl (by repeat (first | exact .refl | refine .put rfl ?_ | refine .say rfl ?_ | refine .say2 rfl (by first | assumption | simp_all) ?_)))
          refine r_val .none rfl (p_assign rfl) ?_
          refine r_nil ?_
          refine e_next ?_
          refine c_ret ?_
          refine e_ret1 Try.results9 (.tmp rfl .nil) (fun w hm => ⟨?_, hm.since⟩)
          first
          | rfl
          | (rw [put_rput B (by assumption)]; simp [csEq, cEq]; done)
        )
end Go.Proofs.Ytjgdkahblhpinaa
