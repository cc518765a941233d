/- Walks: what Go functions of this chapter come to, each as a function on plain data; no condition but those that each theorem names. Printed by a program of this work (gen.py). -/
import Derived.Test.YtjgdkahblhpinaaGxJoin
import Derived.Test.YtjgdkahblhpinaaW03c
import Derived.Test.YtjgdkahblhpinaaRows
namespace Go.Proofs.Ytjgdkahblhpinaa
open Go.Gx Go.Gx.T3
theorem lf26 : leafT Try.prog 9 26 = some [3, 3, 3] := by
  kernel_rfl
theorem ef26 : eqT Try.prog 9 26 = true := by
  kernel_rfl
theorem eg26 : Try.prog.eqGuardType Try.prog.depth 26 = false := by
  kernel_rfl
theorem cl31 : Callable Try.prog 31 := callable Try.func31 (by kernel_rfl) rfl
theorem cl33 : Callable Try.prog 33 := callable Try.func33 (by kernel_rfl) rfl
theorem cl34 : Callable Try.prog 34 := callable Try.func34 (by kernel_rfl) rfl
theorem c_TermPuts (v0 : Bool) (n0 : Int) (v1 : Bool) (n1 : Int) (v2 : Bool) (n2 : Int) (B : Nat → Int)  (w : World)  :
    Calls Try.prog 9 #[Value.agg #[Value.bool v0, Value.int .i64 n0, Value.bool v1, Value.int .i64 n1, Value.bool v2, Value.int .i64 n2], aggF 33 (fun i => Value.int .i64 (B i))] w (Ret fun r w' => r = Value.bool true ∧ Since nX w w') := by
  refine enter (args := [_, _]) (X := nX) (G := (fun _ => none)) (l := [(0, Value.agg #[Value.bool v0, Value.int .i64 n0, Value.bool v1, Value.int .i64 n1, Value.bool v2, Value.int .i64 n2]), (1, aggF 33 (fun i => Value.int .i64 (B i)))]) Try.func9 rfl Try.ntmps9 (fun _ _ h => by cases h) ⟨rfl, rfl, trivial⟩ (Nat.le_of_ble_eq_true rfl) ?_
  refine c_seq ?_
  refine c_region ?_
  refine r_box .none rfl rfl (IsRow.lit _) (fun b1 => ?_)
  refine r_box .none rfl rfl (IsRow.fn _ _) (fun b2 => ?_)
  refine r_val .none rfl (p_assign rfl) ?_
  refine r_nil ?_
  refine e_next ?_
  refine c_seq ?_
  refine c_seq ?_
  refine c_region ?_
  refine r_val .none rfl (p_ldw (k := 1) Try.underlying24 rfl sz24 rfl rfl (rfl : _ = Value.agg #[_, _, _, _, _, _])) ?_
  refine r_call (vs := [_]) .none rfl cl13 rfl (fun w hw => c_fine _ _ _ _ _ _ w) ?_
  refine r_val .none rfl (p_not rfl) ?_
  refine r_nil ?_
  refine e_next ?_
  refine c_splitn (d := 12) rfl (fun h1 => ?_) (fun h1 => ?_)
  · skip
    first
      | (exfalso; omega)
      | (
        refine c_cond_t rfl ?_
        refine c_seq ?_
        refine c_region ?_
        refine r_call (vs := []) .none rfl cl15 rfl (fun w hw => c_awake3  w) ?_
        refine r_val .none rfl (p_assign rfl) ?_
        refine r_nil ?_
        refine e_next ?_
        refine c_ret ?_
        refine e_ret_then ?_
        refine e_ret1 Try.results9 (.tmp rfl .nil) (fun w hm => ⟨?_, hm.since⟩)
        first
        | rfl
        | (rw [put_rput B (by assumption)]; simp [csEq, cEq]; done)
        )
  · skip
    first
      | (exfalso; omega)
      | (
        refine c_cond_f rfl ?_
        refine c_skip ?_
        refine e_next ?_
        refine c_seq ?_
        refine c_region ?_
        refine r_val .none rfl (p_ldw (k := 0) Try.underlying28 rfl sz28 rfl rfl rfl) ?_
        refine r_call (vs := [_]) .none rfl cl16 rfl (fun w hw => c_held _ w) ?_
        refine r_alloc .none rfl zr28 (IsRow.fn _ _) (fun b3 => ?_)
        refine r_stw (k := 0) .none sz28 rfl rfl (IsRow.fn _ _) (fun _ _ => by first | rfl | (rw [upd_eq]; split <;> rfl)) rfl ?_
        refine r_nil ?_
        refine e_next ?_
        refine c_seq ?_
        refine c_region ?_
        refine r_val .none rfl (p_ldw (k := 2) Try.underlying24 rfl sz24 rfl rfl (rfl : _ = Value.agg #[_, _, _, _, _, _])) ?_
        refine r_val .none rfl (p_ldw (k := 0) Try.underlying28 rfl sz28 rfl rfl rfl) ?_
        refine r_call (vs := [_, _]) .none rfl cl33 rfl (fun w hw => c_put _ _ _ _ _ _ _ w) ?_
        refine r_val .none rfl (p_move rfl) ?_
        refine r_val .none rfl (p_extract rfl rfl) ?_
        refine r_val .none rfl (p_extract rfl rfl) ?_
        refine r_alloc .none rfl zr26 (IsRow.lit _) (fun b4 => ?_)
        refine r_stw (k := 0) .none sz26 rfl rfl (IsRow.fn _ _) (fun _ _ => by first | rfl | (rw [upd_eq]; split <;> rfl)) rfl ?_
        refine r_val .none rfl (p_assign rfl) ?_
        refine r_nil ?_
        refine e_next ?_
        refine c_seq ?_
        refine c_region_d (fun _ => false) _ mixed (.keep (fun _ _ h => h) (.keep (fun _ _ h => h) (.keep (fun _ _ h => h) (.keep (fun _ _ h => h) (.nil))))) ?_
        refine d_val1 0 rfl rfl (by kernel_rfl) (fun _ _ => rfl) .none rfl (p_ldw (k := 3) Try.underlying24 rfl sz24 rfl rfl (rfl : _ = Value.agg #[_, _, _, _, _, _])) ?_
        refine d_val1 2 rfl rfl (by kernel_rfl) (fun _ _ => rfl) .none rfl (p_ldw (k := 1) Try.underlying28 rfl sz28 rfl rfl rfl) ?_
        refine d_eff2 1 8 rfl rfl (by kernel_rfl) (fun K2 hKK2 hcK2 => ?_) (fun K2 hKK2 hcK2 => ?_)
        · skip
          refine r_call (vs := [_]) .none rfl cl23 rfl (fun w hw => c_ref _ _ _ _ _ _ w) ?_
          refine r_nil (e_d (i := 1) (brk := (fun _ => false)) (ph' := true) hKK2 hcK2 rfl (fun _ => GLe.refl _) (fun _ => .keep (fun _ _ h => h) (.keep (fun _ _ h => h) (.keep (fun _ _ h => h) (.keep (fun _ _ h => h) (.nil))))) ?_)
          refine d_eff2 3 8 rfl rfl (by kernel_rfl) (fun K3 hKK3 hcK3 => ?_) (fun K3 hKK3 hcK3 => ?_)
          · skip
            refine r_callm (vs := [_]) .none rfl cl31 rfl (fun w hw => c_pairs _ w hw) (fun G4 v7 hn5 hr6 => ?_)
            have u8 := hr6
            refine r_nil (e_d (i := 3) (brk := (fun _ => false)) (ph' := true) hKK3 hcK3 rfl (fun _ => hn5.le) (fun _ => .keep (fun _ _ h => h) (.keep (fun _ _ h => h) (.keep (fun _ _ h => h) (.keep (fun _ _ h => h) (.nil))))) ?_)
            refine d_eff2 4 8 rfl rfl (by kernel_rfl) (fun K9 hKK9 hcK9 => ?_) (fun K9 hKK9 hcK9 => ?_)
            · skip
              refine r_call (vs := [_, _]) .none rfl cl34 rfl (fun w hw => c_rput _ _ _ _ _ _ _ _ u8 w hw) ?_
              refine r_nil (e_d (i := 4) (brk := (fun _ => false)) (ph' := true) hKK9 hcK9 rfl (fun _ => hn5.le) (fun _ => .keep (fun _ _ h => h) (.keep (fun _ _ h => h) (.keep (fun _ _ h => h) (.keep (fun _ _ h => h) (.nil))))) ?_)
              refine d_val1 5 rfl rfl (by kernel_rfl) (fun _ _ => rfl) .none rfl (p_move rfl) ?_
              refine d_val1 6 rfl rfl (by kernel_rfl) (fun _ _ => rfl) .none rfl (p_extract rfl rfl) ?_
              refine d_val1 7 rfl rfl (by kernel_rfl) (fun _ _ => rfl) .none rfl (p_extract rfl rfl) ?_
              refine d_eff 8 rfl (by kernel_rfl) (fun K10 hKK10 hcK10 => ?_)
              refine r_alloc .none rfl zr25 (IsRow.lit _) (fun b5 => ?_)
              refine r_nil (e_d (i := 8) (brk := (fun _ => false)) (ph' := true) hKK10 hcK10 rfl (fun _ => hn5.le) (fun _ => .drop (.keep (fun _ _ h => h) (.keep (fun _ _ h => h) (.keep (fun _ _ h => h) (.keep (fun _ _ h => h) (.nil)))))) ?_)
              refine d_eff 9 rfl (by kernel_rfl) (fun K11 hKK11 hcK11 => ?_)
              refine r_stw (k := 0) .none sz25 rfl rfl (IsRow.fn _ _) (fun _ _ => by first | rfl | (rw [upd_eq]; split <;> rfl)) rfl ?_
              refine r_nil (e_d (i := 9) (brk := (fun _ => false)) (ph' := true) hKK11 hcK11 rfl (fun _ => hn5.le) (fun _ => .drop (.keep (fun _ _ h => h) (.keep (fun _ _ h => h) (.keep (fun _ _ h => h) (.keep (fun _ _ h => h) (.nil)))))) ?_)
              refine d_val1 10 rfl rfl (by kernel_rfl) (fun _ _ => rfl) .none rfl (p_assign rfl) ?_
              refine d_nil (by kernel_rfl) ?_
              refine e_next ?_
              refine c_seq ?_
              refine c_region ?_
              refine r_val .none rfl (p_ldw (k := 1) Try.underlying26 rfl sz26 rfl rfl (rfl : _ = Value.agg #[_, _, _])) ?_
              refine r_val .none rfl (p_ldw (k := 0) Try.underlying25 rfl sz25 rfl rfl (rfl : _ = Value.agg #[_, _, _])) ?_
              refine r_val .none rfl (p_eqa rfl rfl (eq_flat Try.underlying26 rfl lf26 ef26 eg26 (.cons (.int Try.underlying3) (.cons (.int Try.underlying3) (.cons (.int Try.underlying3) (.nil)))) (.cons (.int Try.underlying3) (.cons (.int Try.underlying3) (.cons (.int Try.underlying3) (.nil)))))) ?_
              refine r_val .none rfl (p_move rfl) ?_
              refine' r_and (c := 33) (d := 37) [_, _, _, _] rfl (fun h12 Q13 hQ14 => ?_) (fun h12 Q13 hQ14 => ?_) ?_
              rotate_left 1
              · skip
                refine r_val (.some rfl rfl) rfl (p_move rfl) ?_
                refine r_val (.some rfl rfl) rfl (p_move rfl) ?_
                refine r_val (.some rfl rfl) rfl (p_eqb Try.underlying4 rfl rfl) ?_
                refine r_val .none rfl (p_pick_t rfl rfl) ?_
                refine r_nil (e_fin (d := 37) hQ14 rfl (by repeat (first | exact .refl | refine .put rfl ?_ | refine .say rfl ?_ | refine .say2 rfl (by first | assumption | simp_all) ?_)))
              · skip
                repeat (first | refine r_skip rfl (.no rfl rfl) ?_ | refine r_skip rfl (.un rfl rfl) ?_)
                refine r_val (by first | exact .none | exact .some rfl rfl) rfl (p_pick_f rfl rfl) ?_
                refine r_nil (e_fin (d := 37) hQ14 rfl (by repeat (first | exact .refl | refine .put rfl ?_ | refine .say rfl ?_ | refine .say2 rfl (by first | assumption | simp_all) ?_)))
              refine r_val .none rfl (p_move rfl) ?_
              refine' r_and (c := 38) (d := 40) [_, _] rfl (fun h16 Q17 hQ18 => ?_) (fun h16 Q17 hQ18 => ?_) ?_
              rotate_left 1
              · skip
                try simp only [Bool.and_eq_true, Bool.or_eq_true, Bool.and_eq_false_iff, Bool.or_eq_false_iff, decide_eq_true_eq, decide_eq_false_iff_not, Bool.not_eq_true', Bool.not_eq_false', ne_eq, Decidable.not_not] at h16
                refine r_call (vs := []) (.some rfl rfl) rfl cl15 rfl (fun w hw => c_awake3  w) ?_
                refine r_val .none rfl (p_pick_t rfl rfl) ?_
                refine r_nil (e_fin (d := 40) hQ18 rfl (by repeat (first | exact .refl | refine .put rfl ?_ | refine .say rfl ?_ | refine .say2 rfl (by first | assumption | simp_all) ?_)))
              · skip
                repeat (first | refine r_skip rfl (.no rfl rfl) ?_ | refine r_skip rfl (.un rfl rfl) ?_)
                refine r_val (by first | exact .none | exact .some rfl rfl) rfl (p_pick_f rfl rfl) ?_
                refine r_nil (e_fin (d := 40) hQ18 rfl (by repeat (first | exact .refl | refine .put rfl ?_ | refine .say rfl ?_ | refine .say2 rfl (by first | assumption | simp_all) ?_)))
              refine r_val .none rfl (p_assign rfl) ?_
              refine r_nil ?_
              refine e_next ?_
              refine c_ret ?_
              refine e_ret1 Try.results9 (.tmp rfl .nil) (fun w hm => ⟨?_, hm.since⟩)
              first
              | rfl
              | (rw [put_rput B (by assumption)]; simp [csEq, cEq]; done)
            · skip
              refine r_alloc .none rfl zr25 (IsRow.lit _) (fun b6 => ?_)
              refine r_nil (e_d (i := 8) (brk := (fun _ => false)) (ph' := true) hKK9 hcK9 rfl (fun _ => hn5.le) (fun _ => .drop (.keep (fun _ _ h => h) (.keep (fun _ _ h => h) (.keep (fun _ _ h => h) (.keep (fun _ _ h => h) (.nil)))))) ?_)
              refine d_eff 4 rfl (by kernel_rfl) (fun K20 hKK20 hcK20 => ?_)
              refine r_call (vs := [_, _]) .none rfl cl34 rfl (fun w hw => c_rput _ _ _ _ _ _ _ _ u8 w hw) ?_
              refine r_nil (e_d (i := 4) (brk := (fun _ => false)) (ph' := true) hKK20 hcK20 rfl (fun _ => hn5.le) (fun _ => .drop (.keep (fun _ _ h => h) (.keep (fun _ _ h => h) (.keep (fun _ _ h => h) (.keep (fun _ _ h => h) (.nil)))))) ?_)
              refine d_val1 5 rfl rfl (by kernel_rfl) (fun _ _ => rfl) .none rfl (p_move rfl) ?_
              refine d_val1 6 rfl rfl (by kernel_rfl) (fun _ _ => rfl) .none rfl (p_extract rfl rfl) ?_
              refine d_val1 7 rfl rfl (by kernel_rfl) (fun _ _ => rfl) .none rfl (p_extract rfl rfl) ?_
              refine d_eff 9 rfl (by kernel_rfl) (fun K21 hKK21 hcK21 => ?_)
              refine r_stw (k := 0) .none sz25 rfl rfl (IsRow.fn _ _) (fun _ _ => by first | rfl | (rw [upd_eq]; split <;> rfl)) rfl ?_
              refine r_nil (e_d (i := 9) (brk := (fun _ => false)) (ph' := true) hKK21 hcK21 rfl (fun _ => hn5.le) (fun _ => .drop (.keep (fun _ _ h => h) (.keep (fun _ _ h => h) (.keep (fun _ _ h => h) (.keep (fun _ _ h => h) (.nil)))))) ?_)
              refine d_val1 10 rfl rfl (by kernel_rfl) (fun _ _ => rfl) .none rfl (p_assign rfl) ?_
              refine d_nil (by kernel_rfl) ?_
              refine e_next ?_
              refine c_seq ?_
              refine c_region ?_
              refine r_val .none rfl (p_ldw (k := 1) Try.underlying26 rfl sz26 rfl rfl (rfl : _ = Value.agg #[_, _, _])) ?_
              refine r_val .none rfl (p_ldw (k := 0) Try.underlying25 rfl sz25 rfl rfl (rfl : _ = Value.agg #[_, _, _])) ?_
              refine r_val .none rfl (p_eqa rfl rfl (eq_flat Try.underlying26 rfl lf26 ef26 eg26 (.cons (.int Try.underlying3) (.cons (.int Try.underlying3) (.cons (.int Try.underlying3) (.nil)))) (.cons (.int Try.underlying3) (.cons (.int Try.underlying3) (.cons (.int Try.underlying3) (.nil)))))) ?_
              refine r_val .none rfl (p_move rfl) ?_
              refine' r_and (c := 33) (d := 37) [_, _, _, _] rfl (fun h22 Q23 hQ24 => ?_) (fun h22 Q23 hQ24 => ?_) ?_
              rotate_left 1
              · skip
                refine r_val (.some rfl rfl) rfl (p_move rfl) ?_
                refine r_val (.some rfl rfl) rfl (p_move rfl) ?_
                refine r_val (.some rfl rfl) rfl (p_eqb Try.underlying4 rfl rfl) ?_
                refine r_val .none rfl (p_pick_t rfl rfl) ?_
                refine r_nil (e_fin (d := 37) hQ24 rfl (by repeat (first | exact .refl | refine .put rfl ?_ | refine .say rfl ?_ | refine .say2 rfl (by first | assumption | simp_all) ?_)))
              · skip
                repeat (first | refine r_skip rfl (.no rfl rfl) ?_ | refine r_skip rfl (.un rfl rfl) ?_)
                refine r_val (by first | exact .none | exact .some rfl rfl) rfl (p_pick_f rfl rfl) ?_
                refine r_nil (e_fin (d := 37) hQ24 rfl (by repeat (first | exact .refl | refine .put rfl ?_ | refine .say rfl ?_ | refine .say2 rfl (by first | assumption | simp_all) ?_)))
              refine r_val .none rfl (p_move rfl) ?_
              refine' r_and (c := 38) (d := 40) [_, _] rfl (fun h26 Q27 hQ28 => ?_) (fun h26 Q27 hQ28 => ?_) ?_
              rotate_left 1
              · skip
                try simp only [Bool.and_eq_true, Bool.or_eq_true, Bool.and_eq_false_iff, Bool.or_eq_false_iff, decide_eq_true_eq, decide_eq_false_iff_not, Bool.not_eq_true', Bool.not_eq_false', ne_eq, Decidable.not_not] at h26
                refine r_call (vs := []) (.some rfl rfl) rfl cl15 rfl (fun w hw => c_awake3  w) ?_
                refine r_val .none rfl (p_pick_t rfl rfl) ?_
                refine r_nil (e_fin (d := 40) hQ28 rfl (by repeat (first | exact .refl | refine .put rfl ?_ | refine .say rfl ?_ | refine .say2 rfl (by first | assumption | simp_all) ?_)))
              · skip
                repeat (first | refine r_skip rfl (.no rfl rfl) ?_ | refine r_skip rfl (.un rfl rfl) ?_)
                refine r_val (by first | exact .none | exact .some rfl rfl) rfl (p_pick_f rfl rfl) ?_
                refine r_nil (e_fin (d := 40) hQ28 rfl (by repeat (first | exact .refl | refine .put rfl ?_ | refine .say rfl ?_ | refine .say2 rfl (by first | assumption | simp_all) ?_)))
              refine r_val .none rfl (p_assign rfl) ?_
              refine r_nil ?_
              refine e_next ?_
              refine c_ret ?_
              refine e_ret1 Try.results9 (.tmp rfl .nil) (fun w hm => ⟨?_, hm.since⟩)
              first
              | rfl
              | (rw [put_rput B (by assumption)]; simp [csEq, cEq]; done)
          · skip
            refine r_alloc .none rfl zr25 (IsRow.lit _) (fun b7 => ?_)
            refine r_nil (e_d (i := 8) (brk := (fun _ => false)) (ph' := true) hKK3 hcK3 rfl (fun _ => GLe.refl _) (fun _ => .drop (.keep (fun _ _ h => h) (.keep (fun _ _ h => h) (.keep (fun _ _ h => h) (.keep (fun _ _ h => h) (.nil)))))) ?_)
            refine d_eff 3 rfl (by kernel_rfl) (fun K30 hKK30 hcK30 => ?_)
            refine r_callm (vs := [_]) .none rfl cl31 rfl (fun w hw => c_pairs _ w hw) (fun G31 v34 hn32 hr33 => ?_)
            have u35 := hr33
            refine r_nil (e_d (i := 3) (brk := (fun _ => false)) (ph' := true) hKK30 hcK30 rfl (fun _ => hn32.le) (fun _ => .drop (.keep (fun _ _ h => h) (.keep (fun _ _ h => h) (.keep (fun _ _ h => h) (.keep (fun _ _ h => h) (.nil)))))) ?_)
            refine d_eff 4 rfl (by kernel_rfl) (fun K36 hKK36 hcK36 => ?_)
            refine r_call (vs := [_, _]) .none rfl cl34 rfl (fun w hw => c_rput _ _ _ _ _ _ _ _ u35 w hw) ?_
            refine r_nil (e_d (i := 4) (brk := (fun _ => false)) (ph' := true) hKK36 hcK36 rfl (fun _ => hn32.le) (fun _ => .drop (.keep (fun _ _ h => h) (.keep (fun _ _ h => h) (.keep (fun _ _ h => h) (.keep (fun _ _ h => h) (.nil)))))) ?_)
            refine d_val1 5 rfl rfl (by kernel_rfl) (fun _ _ => rfl) .none rfl (p_move rfl) ?_
            refine d_val1 6 rfl rfl (by kernel_rfl) (fun _ _ => rfl) .none rfl (p_extract rfl rfl) ?_
            refine d_val1 7 rfl rfl (by kernel_rfl) (fun _ _ => rfl) .none rfl (p_extract rfl rfl) ?_
            refine d_eff 9 rfl (by kernel_rfl) (fun K37 hKK37 hcK37 => ?_)
            refine r_stw (k := 0) .none sz25 rfl rfl (IsRow.fn _ _) (fun _ _ => by first | rfl | (rw [upd_eq]; split <;> rfl)) rfl ?_
            refine r_nil (e_d (i := 9) (brk := (fun _ => false)) (ph' := true) hKK37 hcK37 rfl (fun _ => hn32.le) (fun _ => .drop (.keep (fun _ _ h => h) (.keep (fun _ _ h => h) (.keep (fun _ _ h => h) (.keep (fun _ _ h => h) (.nil)))))) ?_)
            refine d_val1 10 rfl rfl (by kernel_rfl) (fun _ _ => rfl) .none rfl (p_assign rfl) ?_
            refine d_nil (by kernel_rfl) ?_
            refine e_next ?_
            refine c_seq ?_
            refine c_region ?_
            refine r_val .none rfl (p_ldw (k := 1) Try.underlying26 rfl sz26 rfl rfl (rfl : _ = Value.agg #[_, _, _])) ?_
            refine r_val .none rfl (p_ldw (k := 0) Try.underlying25 rfl sz25 rfl rfl (rfl : _ = Value.agg #[_, _, _])) ?_
            refine r_val .none rfl (p_eqa rfl rfl (eq_flat Try.underlying26 rfl lf26 ef26 eg26 (.cons (.int Try.underlying3) (.cons (.int Try.underlying3) (.cons (.int Try.underlying3) (.nil)))) (.cons (.int Try.underlying3) (.cons (.int Try.underlying3) (.cons (.int Try.underlying3) (.nil)))))) ?_
            refine r_val .none rfl (p_move rfl) ?_
            refine' r_and (c := 33) (d := 37) [_, _, _, _] rfl (fun h38 Q39 hQ40 => ?_) (fun h38 Q39 hQ40 => ?_) ?_
            rotate_left 1
            · skip
              refine r_val (.some rfl rfl) rfl (p_move rfl) ?_
              refine r_val (.some rfl rfl) rfl (p_move rfl) ?_
              refine r_val (.some rfl rfl) rfl (p_eqb Try.underlying4 rfl rfl) ?_
              refine r_val .none rfl (p_pick_t rfl rfl) ?_
              refine r_nil (e_fin (d := 37) hQ40 rfl (by repeat (first | exact .refl | refine .put rfl ?_ | refine .say rfl ?_ | refine .say2 rfl (by first | assumption | simp_all) ?_)))
            · skip
              repeat (first | refine r_skip rfl (.no rfl rfl) ?_ | refine r_skip rfl (.un rfl rfl) ?_)
              refine r_val (by first | exact .none | exact .some rfl rfl) rfl (p_pick_f rfl rfl) ?_
              refine r_nil (e_fin (d := 37) hQ40 rfl (by repeat (first | exact .refl | refine .put rfl ?_ | refine .say rfl ?_ | refine .say2 rfl (by first | assumption | simp_all) ?_)))
            refine r_val .none rfl (p_move rfl) ?_
            refine' r_and (c := 38) (d := 40) [_, _] rfl (fun h42 Q43 hQ44 => ?_) (fun h42 Q43 hQ44 => ?_) ?_
            rotate_left 1
            · skip
              try simp only [Bool.and_eq_true, Bool.or_eq_true, Bool.and_eq_false_iff, Bool.or_eq_false_iff, decide_eq_true_eq, decide_eq_false_iff_not, Bool.not_eq_true', Bool.not_eq_false', ne_eq, Decidable.not_not] at h42
              refine r_call (vs := []) (.some rfl rfl) rfl cl15 rfl (fun w hw => c_awake3  w) ?_
              refine r_val .none rfl (p_pick_t rfl rfl) ?_
              refine r_nil (e_fin (d := 40) hQ44 rfl (by repeat (first | exact .refl | refine .put rfl ?_ | refine .say rfl ?_ | refine .say2 rfl (by first | assumption | simp_all) ?_)))
            · skip
              repeat (first | refine r_skip rfl (.no rfl rfl) ?_ | refine r_skip rfl (.un rfl rfl) ?_)
              refine r_val (by first | exact .none | exact .some rfl rfl) rfl (p_pick_f rfl rfl) ?_
              refine r_nil (e_fin (d := 40) hQ44 rfl (by repeat (first | exact .refl | refine .put rfl ?_ | refine .say rfl ?_ | refine .say2 rfl (by first | assumption | simp_all) ?_)))
            refine r_val .none rfl (p_assign rfl) ?_
            refine r_nil ?_
            refine e_next ?_
            refine c_ret ?_
            refine e_ret1 Try.results9 (.tmp rfl .nil) (fun w hm => ⟨?_, hm.since⟩)
            first
            | rfl
            | (rw [put_rput B (by assumption)]; simp [csEq, cEq]; done)
        · skip
          refine r_alloc .none rfl zr25 (IsRow.lit _) (fun b8 => ?_)
          refine r_nil (e_d (i := 8) (brk := (fun _ => false)) (ph' := true) hKK2 hcK2 rfl (fun _ => GLe.refl _) (fun _ => .drop (.keep (fun _ _ h => h) (.keep (fun _ _ h => h) (.keep (fun _ _ h => h) (.keep (fun _ _ h => h) (.nil)))))) ?_)
          refine d_eff 1 rfl (by kernel_rfl) (fun K46 hKK46 hcK46 => ?_)
          refine r_call (vs := [_]) .none rfl cl23 rfl (fun w hw => c_ref _ _ _ _ _ _ w) ?_
          refine r_nil (e_d (i := 1) (brk := (fun _ => false)) (ph' := true) hKK46 hcK46 rfl (fun _ => GLe.refl _) (fun _ => .drop (.keep (fun _ _ h => h) (.keep (fun _ _ h => h) (.keep (fun _ _ h => h) (.keep (fun _ _ h => h) (.nil)))))) ?_)
          refine d_eff 3 rfl (by kernel_rfl) (fun K47 hKK47 hcK47 => ?_)
          refine r_callm (vs := [_]) .none rfl cl31 rfl (fun w hw => c_pairs _ w hw) (fun G48 v51 hn49 hr50 => ?_)
          have u52 := hr50
          refine r_nil (e_d (i := 3) (brk := (fun _ => false)) (ph' := true) hKK47 hcK47 rfl (fun _ => hn49.le) (fun _ => .drop (.keep (fun _ _ h => h) (.keep (fun _ _ h => h) (.keep (fun _ _ h => h) (.keep (fun _ _ h => h) (.nil)))))) ?_)
          refine d_eff 4 rfl (by kernel_rfl) (fun K53 hKK53 hcK53 => ?_)
          refine r_call (vs := [_, _]) .none rfl cl34 rfl (fun w hw => c_rput _ _ _ _ _ _ _ _ u52 w hw) ?_
          refine r_nil (e_d (i := 4) (brk := (fun _ => false)) (ph' := true) hKK53 hcK53 rfl (fun _ => hn49.le) (fun _ => .drop (.keep (fun _ _ h => h) (.keep (fun _ _ h => h) (.keep (fun _ _ h => h) (.keep (fun _ _ h => h) (.nil)))))) ?_)
          refine d_val1 5 rfl rfl (by kernel_rfl) (fun _ _ => rfl) .none rfl (p_move rfl) ?_
          refine d_val1 6 rfl rfl (by kernel_rfl) (fun _ _ => rfl) .none rfl (p_extract rfl rfl) ?_
          refine d_val1 7 rfl rfl (by kernel_rfl) (fun _ _ => rfl) .none rfl (p_extract rfl rfl) ?_
          refine d_eff 9 rfl (by kernel_rfl) (fun K54 hKK54 hcK54 => ?_)
          refine r_stw (k := 0) .none sz25 rfl rfl (IsRow.fn _ _) (fun _ _ => by first | rfl | (rw [upd_eq]; split <;> rfl)) rfl ?_
          refine r_nil (e_d (i := 9) (brk := (fun _ => false)) (ph' := true) hKK54 hcK54 rfl (fun _ => hn49.le) (fun _ => .drop (.keep (fun _ _ h => h) (.keep (fun _ _ h => h) (.keep (fun _ _ h => h) (.keep (fun _ _ h => h) (.nil)))))) ?_)
          refine d_val1 10 rfl rfl (by kernel_rfl) (fun _ _ => rfl) .none rfl (p_assign rfl) ?_
          refine d_nil (by kernel_rfl) ?_
          refine e_next ?_
          refine c_seq ?_
          refine c_region ?_
          refine r_val .none rfl (p_ldw (k := 1) Try.underlying26 rfl sz26 rfl rfl (rfl : _ = Value.agg #[_, _, _])) ?_
          refine r_val .none rfl (p_ldw (k := 0) Try.underlying25 rfl sz25 rfl rfl (rfl : _ = Value.agg #[_, _, _])) ?_
          refine r_val .none rfl (p_eqa rfl rfl (eq_flat Try.underlying26 rfl lf26 ef26 eg26 (.cons (.int Try.underlying3) (.cons (.int Try.underlying3) (.cons (.int Try.underlying3) (.nil)))) (.cons (.int Try.underlying3) (.cons (.int Try.underlying3) (.cons (.int Try.underlying3) (.nil)))))) ?_
          refine r_val .none rfl (p_move rfl) ?_
          refine' r_and (c := 33) (d := 37) [_, _, _, _] rfl (fun h55 Q56 hQ57 => ?_) (fun h55 Q56 hQ57 => ?_) ?_
          rotate_left 1
          · skip
            refine r_val (.some rfl rfl) rfl (p_move rfl) ?_
            refine r_val (.some rfl rfl) rfl (p_move rfl) ?_
            refine r_val (.some rfl rfl) rfl (p_eqb Try.underlying4 rfl rfl) ?_
            refine r_val .none rfl (p_pick_t rfl rfl) ?_
            refine r_nil (e_fin (d := 37) hQ57 rfl (by repeat (first | exact .refl | refine .put rfl ?_ | refine .say rfl ?_ | refine .say2 rfl (by first | assumption | simp_all) ?_)))
          · skip
            repeat (first | refine r_skip rfl (.no rfl rfl) ?_ | refine r_skip rfl (.un rfl rfl) ?_)
            refine r_val (by first | exact .none | exact .some rfl rfl) rfl (p_pick_f rfl rfl) ?_
            refine r_nil (e_fin (d := 37) hQ57 rfl (by repeat (first | exact .refl | refine .put rfl ?_ | refine .say rfl ?_ | refine .say2 rfl (by first | assumption | simp_all) ?_)))
          refine r_val .none rfl (p_move rfl) ?_
          refine' r_and (c := 38) (d := 40) [_, _] rfl (fun h59 Q60 hQ61 => ?_) (fun h59 Q60 hQ61 => ?_) ?_
          rotate_left 1
          · skip
            try simp only [Bool.and_eq_true, Bool.or_eq_true, Bool.and_eq_false_iff, Bool.or_eq_false_iff, decide_eq_true_eq, decide_eq_false_iff_not, Bool.not_eq_true', Bool.not_eq_false', ne_eq, Decidable.not_not] at h59
            refine r_call (vs := []) (.some rfl rfl) rfl cl15 rfl (fun w hw => c_awake3  w) ?_
            refine r_val .none rfl (p_pick_t rfl rfl) ?_
            refine r_nil (e_fin (d := 40) hQ61 rfl (by repeat (first | exact .refl | refine .put rfl ?_ | refine .say rfl ?_ | refine .say2 rfl (by first | assumption | simp_all) ?_)))
          · skip
            repeat (first | refine r_skip rfl (.no rfl rfl) ?_ | refine r_skip rfl (.un rfl rfl) ?_)
            refine r_val (by first | exact .none | exact .some rfl rfl) rfl (p_pick_f rfl rfl) ?_
            refine r_nil (e_fin (d := 40) hQ61 rfl (by repeat (first | exact .refl | refine .put rfl ?_ | refine .say rfl ?_ | refine .say2 rfl (by first | assumption | simp_all) ?_)))
          refine r_val .none rfl (p_assign rfl) ?_
          refine r_nil ?_
          refine e_next ?_
          refine c_ret ?_
          refine e_ret1 Try.results9 (.tmp rfl .nil) (fun w hm => ⟨?_, hm.since⟩)
          first
          | rfl
          | (rw [put_rput B (by assumption)]; simp [csEq, cEq]; done)
        )
end Go.Proofs.Ytjgdkahblhpinaa
