/- Walks: what Go functions of this chapter come to, each as a function on plain data; no condition but those that each theorem names. Printed by a program of this work (gen.py). -/
import Derived.Test.YtjgdkahblhpinaaGxJoin
import Derived.Test.YtjgdkahblhpinaaW03c
import Derived.Test.YtjgdkahblhpinaaRows
namespace Go.Proofs.Ytjgdkahblhpinaa
open Go.Gx Go.Gx.T3
theorem lf26 : leafT Try.prog 9 26 = some [3, 3, 3] := by
  kernel_rfl
theorem ef26 : eqT Try.prog 9 26 = true := by
  kernel_rfl
theorem eg26 : Try.prog.eqGuardType Try.prog.depth 26 = false := by
  kernel_rfl
theorem cl30 : Callable Try.prog 30 := callable Try.func30 (by kernel_rfl) rfl
theorem cl31 : Callable Try.prog 31 := callable Try.func31 (by kernel_rfl) rfl
theorem cl33 : Callable Try.prog 33 := callable Try.func33 (by kernel_rfl) rfl
theorem c_TermFits (v0 : Bool) (n0 : Int) (v1 : Bool) (n1 : Int) (v2 : Bool) (n2 : Int) (t0 t1 t2 : Int) (B : Nat → Int)  (w : World)  :
    Calls Try.prog 8 #[Value.agg #[Value.bool v0, Value.int .i64 n0, Value.bool v1, Value.int .i64 n1, Value.bool v2, Value.int .i64 n2], Value.agg #[Value.int .i64 t0, Value.int .i64 t1, Value.int .i64 t2], aggF 33 (fun i => Value.int .i64 (B i))] w (Ret fun r w' => r = Value.bool true ∧ Since nX w w') := by
  refine enter (args := [_, _, _]) (X := nX) (G := (fun _ => none)) (l := [(0, Value.agg #[Value.bool v0, Value.int .i64 n0, Value.bool v1, Value.int .i64 n1, Value.bool v2, Value.int .i64 n2]), (1, Value.agg #[Value.int .i64 t0, Value.int .i64 t1, Value.int .i64 t2]), (2, aggF 33 (fun i => Value.int .i64 (B i)))]) Try.func8 rfl Try.ntmps8 (fun _ _ h => by cases h) ⟨rfl, rfl, rfl, trivial⟩ (Nat.le_of_ble_eq_true rfl) ?_
  refine c_seq ?_
  refine c_region ?_
  refine r_box .none rfl rfl (IsRow.lit _) (fun b_1 => ?_)
  refine r_box .none rfl rfl (IsRow.lit _) (fun b_2 => ?_)
  refine r_box .none rfl rfl (IsRow.fn _ _) (fun b_3 => ?_)
  refine r_val .none rfl (p_assign rfl) ?_
  refine r_nil ?_
  refine e_next ?_
  refine c_seq ?_
  refine c_seq ?_
  refine c_region ?_
  refine r_val .none rfl (p_ldw (k := 2) Try.underlying24 rfl sz24 rfl rfl (rfl : _ = Value.agg #[_, _, _, _, _, _])) ?_
  refine r_call (vs := [_]) .none rfl cl13 rfl (fun w hw => c_fine _ _ _ _ _ _ w) ?_
  refine r_val .none rfl (p_not rfl) ?_
  refine r_val .none rfl (p_move rfl) ?_
  refine' r_or (c := 18) (d := 22) [_, _, _, _] rfl (fun h_1 Q_2 hQ_3 => ?_) (fun h_1 Q_2 hQ_3 => ?_) ?_
  rotate_left 1
  · skip
    try simp only [Bool.and_eq_true, Bool.or_eq_true, Bool.and_eq_false_iff, Bool.or_eq_false_iff, decide_eq_true_eq, decide_eq_false_iff_not, Bool.not_eq_true', Bool.not_eq_false', ne_eq, Decidable.not_not] at h_1
    refine r_val (.some rfl rfl) rfl (p_ldw (k := 1) Try.underlying26 rfl sz26 rfl rfl (rfl : _ = Value.agg #[_, _, _])) ?_
    refine r_call (vs := [_]) (.some rfl rfl) rfl cl14 rfl (fun w hw => c_tright _ _ _ w) ?_
    refine r_val (.some rfl rfl) rfl (p_not rfl) ?_
    refine r_val .none rfl (p_pick_f rfl rfl) ?_
    refine r_nil (e_fin (d := 22) hQ_3 rfl (by repeat (first | exact .refl | refine .put rfl ?_ | refine .say rfl ?_ | refine .say2 rfl (by first | assumption | simp_all) ?_)))
  · skip
    repeat (first | refine r_skip rfl (.no rfl rfl) ?_ | refine r_skip rfl (.un rfl rfl) ?_)
    refine r_val (by first | exact .none | exact .some rfl rfl) rfl (p_pick_t rfl rfl) ?_
    refine r_nil (e_fin (d := 22) hQ_3 rfl (by repeat (first | exact .refl | refine .put rfl ?_ | refine .say rfl ?_ | refine .say2 rfl (by first | assumption | simp_all) ?_)))
  refine r_nil ?_
  refine e_next ?_
  refine c_split (d := 22) rfl (fun h_5 => ?_) (fun h_5 => ?_)
  · skip
    try simp only [Bool.and_eq_true, Bool.or_eq_true, Bool.and_eq_false_iff, Bool.or_eq_false_iff, decide_eq_true_eq, decide_eq_false_iff_not, Bool.not_eq_true', Bool.not_eq_false', ne_eq, Decidable.not_not] at h_5
    first
      | (exfalso; omega)
      | (
        refine c_cond_t rfl ?_
        refine c_seq ?_
        refine c_region ?_
        refine r_call (vs := []) .none rfl cl15 rfl (fun w hw => c_awake3  w) ?_
        refine r_val .none rfl (p_assign rfl) ?_
        refine r_nil ?_
        refine e_next ?_
        refine c_ret ?_
        refine e_ret_then ?_
        refine e_ret1 Try.results8 (.tmp rfl .nil) (fun w hm => ⟨?_, hm.since⟩)
        first
        | rfl
        | (exfalso; rcases hA with h | ⟨h, h'⟩; exact h hf1.symm; exact h' (fun i _ => by rw [fits_5 B h]); done)
        | (exfalso; exact hB.2 (fits_2 B hf ht hB.1 (by omega)).symm)
        | (exfalso; obtain ⟨h1, h2⟩ := hC; rw [fits_4 B hf ht h1] at h2; simp [csEq, cEq, updI, at_] at h2; done)
        | (simp [hf3]; done)
        )
  · skip
    try simp only [Bool.and_eq_true, Bool.or_eq_true, Bool.and_eq_false_iff, Bool.or_eq_false_iff, decide_eq_true_eq, decide_eq_false_iff_not, Bool.not_eq_true', Bool.not_eq_false', ne_eq, Decidable.not_not] at h_5
    obtain ⟨hf, ht⟩ := h_5
    have hf1 := fits_1 B hf ht
    have hf3 := fits_3 B hf ht
    first
      | (exfalso; omega)
      | (
        refine c_cond_f rfl ?_
        refine c_skip ?_
        refine e_next ?_
        refine c_seq ?_
        refine c_region ?_
        refine r_val .none rfl (p_ldw (k := 0) Try.underlying28 rfl sz28 rfl rfl rfl) ?_
        refine r_call (vs := [_]) .none rfl cl16 rfl (fun w hw => c_held _ w) ?_
        refine r_alloc .none rfl zr28 (IsRow.fn _ _) (fun b_4 => ?_)
        refine r_stw (k := 0) .none sz28 rfl rfl (IsRow.fn _ _) (fun _ _ => by first | rfl | (rw [upd_eq]; split <;> rfl)) rfl ?_
        refine r_nil ?_
        refine e_next ?_
        refine c_seq ?_
        refine c_region ?_
        refine r_val .none rfl (p_ldw (k := 3) Try.underlying24 rfl sz24 rfl rfl (rfl : _ = Value.agg #[_, _, _, _, _, _])) ?_
        refine r_val .none rfl (p_ldw (k := 2) Try.underlying26 rfl sz26 rfl rfl (rfl : _ = Value.agg #[_, _, _])) ?_
        refine r_val .none rfl (p_ldw (k := 0) Try.underlying28 rfl sz28 rfl rfl rfl) ?_
        refine r_call (vs := [_, _, _]) .none rfl cl17 rfl (fun w hw => c_fit _ _ _ _ _ _ _ _ _ _ w) ?_
        refine r_val .none rfl (p_move rfl) ?_
        refine r_val .none rfl (p_extract rfl rfl) ?_
        refine r_val .none rfl (p_extract rfl rfl) ?_
        refine r_alloc .none rfl zr28 (IsRow.fn _ _) (fun b_5 => ?_)
        refine r_stw (k := 0) .none sz28 rfl rfl (IsRow.fn _ _) (fun _ _ => by first | rfl | (rw [upd_eq]; split <;> rfl)) rfl ?_
        refine r_val .none rfl (p_assign rfl) ?_
        refine r_nil ?_
        refine e_next ?_
        refine c_seq ?_
        refine c_region_d (fun _ => false) _ mixed (.keep (fun _ _ h => h) (.keep (fun _ _ h => h) (.keep (fun _ _ h => h) (.keep (fun _ _ h => h) (.keep (fun _ _ h => h) (.nil)))))) ?_
        refine d_val1 0 rfl rfl (by kernel_rfl) (fun _ _ => rfl) .none rfl (p_ldw (k := 4) Try.underlying24 rfl sz24 rfl rfl (rfl : _ = Value.agg #[_, _, _, _, _, _])) ?_
        refine d_val1 2 rfl rfl (by kernel_rfl) (fun _ _ => rfl) .none rfl (p_ldw (k := 3) Try.underlying26 rfl sz26 rfl rfl (rfl : _ = Value.agg #[_, _, _])) ?_
        refine d_val1 3 rfl rfl (by kernel_rfl) (fun _ _ => rfl) .none rfl (p_ldw (k := 1) Try.underlying28 rfl sz28 rfl rfl rfl) ?_
        refine d_eff 1 rfl (by kernel_rfl) (fun K_6 hKK_6 hcK_6 => ?_)
        refine r_call (vs := [_]) .none rfl cl23 rfl (fun w hw => c_ref _ _ _ _ _ _ w) ?_
        refine r_nil (e_d (i := 1) (brk := (fun _ => false)) (ph' := true) hKK_6 hcK_6 rfl (fun _ => GLe.refl _) (fun _ => .keep (fun _ _ h => h) (.keep (fun _ _ h => h) (.keep (fun _ _ h => h) (.keep (fun _ _ h => h) (.keep (fun _ _ h => h) (.nil)))))) ?_)
        clear hKK_6 hcK_6 K_6
        refine d_eff 4 rfl (by kernel_rfl) (fun K_7 hKK_7 hcK_7 => ?_)
        refine r_callm (vs := [_]) .none rfl cl31 rfl (fun w hw => c_pairs _ w hw) (fun G_8 v_11 hn_9 hr_10 => ?_)
        have u_12 := hr_10
        refine r_nil (e_d (i := 4) (brk := (fun _ => false)) (ph' := true) hKK_7 hcK_7 rfl (fun _ => hn_9.le) (fun _ => .keep (fun _ _ h => h) (.keep (fun _ _ h => h) (.keep (fun _ _ h => h) (.keep (fun _ _ h => h) (.keep (fun _ _ h => h) (.nil)))))) ?_)
        clear hKK_7 hcK_7 K_7
        refine d_eff 5 rfl (by kernel_rfl) (fun K_13 hKK_13 hcK_13 => ?_)
        refine r_callm (vs := [_, _, _]) .none rfl cl30 rfl (fun w hw => c_rfit _ _ _ _ _ _ _ _ _ _ _ u_12 (prs_len _ 33) w hw) (fun G_14 v_17 hn_15 hr_16 => ?_)
        replace u_12 := u_12.mono hn_15.le
        obtain ⟨u_18, rfl, u_18s⟩ := hr_16
        refine r_nil (e_d (i := 5) (brk := (fun _ => false)) (ph' := true) hKK_13 hcK_13 rfl (fun _ => (hn_9.trans hn_15).le) (fun _ => .keep (fun _ _ h => h) (.keep (fun _ _ h => h) (.keep (fun _ _ h => h) (.keep (fun _ _ h => h) (.keep (fun _ _ h => h) (.nil)))))) ?_)
        clear hKK_13 hcK_13 K_13
        refine d_val1 6 rfl rfl (by kernel_rfl) (fun _ _ => rfl) .none rfl (p_move rfl) ?_
        refine d_val1 7 rfl rfl (by kernel_rfl) (fun _ _ => rfl) .none rfl (p_extract rfl rfl) ?_
        refine d_val1 8 rfl rfl (by kernel_rfl) (fun _ _ => rfl) .none rfl (p_extract rfl rfl) ?_
        refine d_val1 9 rfl rfl (by kernel_rfl) (fun _ _ => rfl) .none rfl (p_assign rfl) ?_
        refine d_val1 10 rfl rfl (by kernel_rfl) (fun _ _ => rfl) .none rfl (p_assign rfl) ?_
        refine d_nil (by kernel_rfl) ?_
        refine e_next ?_
        refine c_seq ?_
        refine c_seq ?_
        refine c_region ?_
        refine r_val .none rfl (p_move rfl) ?_
        refine r_val .none rfl (p_move rfl) ?_
        refine r_val .none rfl (p_neb Try.underlying4 rfl rfl) ?_
        refine r_val .none rfl (p_move rfl) ?_
        refine' r_or (c := 45) (d := 53) [_, _, _, _, _, _, _, _] rfl (fun h_19 Q_20 hQ_21 => ?_) (fun h_19 Q_20 hQ_21 => ?_) ?_
        rotate_left 1
        · skip
          try simp only [Bool.and_eq_true, Bool.or_eq_true, Bool.and_eq_false_iff, Bool.or_eq_false_iff, decide_eq_true_eq, decide_eq_false_iff_not, Bool.not_eq_true', Bool.not_eq_false', ne_eq, Decidable.not_not] at h_19
          refine r_val (.some rfl rfl) rfl (p_move rfl) ?_
          refine r_val (.some rfl rfl) rfl (p_not rfl) ?_
          refine r_val (.some rfl rfl) rfl (p_move rfl) ?_
          refine' r_and (c := 48) (d := 52) [_, _, _, _] rfl (fun h_23 Q_24 hQ_25 => ?_) (fun h_23 Q_24 hQ_25 => ?_) ?_
          rotate_left 1
          · skip
            try simp only [Bool.and_eq_true, Bool.or_eq_true, Bool.and_eq_false_iff, Bool.or_eq_false_iff, decide_eq_true_eq, decide_eq_false_iff_not, Bool.not_eq_true', Bool.not_eq_false', ne_eq, Decidable.not_not] at h_23
            refine r_val (.some rfl rfl) rfl (p_ldw (k := 0) Try.underlying28 rfl sz28 rfl rfl rfl) ?_
            refine r_val (.some rfl rfl) rfl (p_ldw (k := 1) Try.underlying28 rfl sz28 rfl rfl rfl) ?_
            refine r_val (.some rfl rfl) rfl (p_nea rfl rfl (EqIs.of (eqr_ints (d := 9998) Try.underlying28 sz3 Try.underlying3 (IsRow.fn _ _) (IsRow.fn _ _)) _ _ rfl rfl eg28)) ?_
            refine r_val (.some rfl rfl) rfl (p_pick_t rfl rfl) ?_
            refine r_nil (e_fin (d := 52) hQ_25 rfl (by repeat (first | exact .refl | refine .put rfl ?_ | refine .say rfl ?_ | refine .say2 rfl (by first | assumption | simp_all) ?_)))
          · skip
            repeat (first | refine r_skip rfl (.no rfl rfl) ?_ | refine r_skip rfl (.un rfl rfl) ?_)
            refine r_val (by first | exact .none | exact .some rfl rfl) rfl (p_pick_f rfl rfl) ?_
            refine r_nil (e_fin (d := 52) hQ_25 rfl (by repeat (first | exact .refl | refine .put rfl ?_ | refine .say rfl ?_ | refine .say2 rfl (by first | assumption | simp_all) ?_)))
          refine r_val .none rfl (p_pick_f rfl rfl) ?_
          refine r_nil (e_fin (d := 53) hQ_21 rfl (by repeat (first | exact .refl | refine .put rfl ?_ | refine .say rfl ?_ | refine .say2 rfl (by first | assumption | simp_all) ?_)))
        · skip
          repeat (first | refine r_skip rfl (.no rfl rfl) ?_ | refine r_skip rfl (.un rfl rfl) ?_)
          refine r_val (by first | exact .none | exact .some rfl rfl) rfl (p_pick_t rfl rfl) ?_
          refine r_nil (e_fin (d := 53) hQ_21 rfl (by repeat (first | exact .refl | refine .put rfl ?_ | refine .say rfl ?_ | refine .say2 rfl (by first | assumption | simp_all) ?_)))
        refine r_nil ?_
        refine e_next ?_
        refine c_split (d := 53) rfl (fun h_27 => ?_) (fun h_27 => ?_)
        · skip
          try simp only [Bool.and_eq_true, Bool.or_eq_true, Bool.and_eq_false_iff, Bool.or_eq_false_iff, decide_eq_true_eq, decide_eq_false_iff_not, Bool.not_eq_true', Bool.not_eq_false', ne_eq, Decidable.not_not] at h_27
          have hA := h_27
          first
            | (exfalso; omega)
            | (
              refine c_cond_t rfl ?_
              refine c_seq ?_
              refine c_region ?_
              refine r_val .none rfl (p_assign rfl) ?_
              refine r_nil ?_
              refine e_next ?_
              refine c_ret ?_
              refine e_ret_then ?_
              refine e_ret1 Try.results8 (.tmp rfl .nil) (fun w hm => ⟨?_, hm.since⟩)
              first
              | rfl
              | (exfalso; rcases hA with h | ⟨h, h'⟩; exact h hf1.symm; exact h' (fun i _ => by rw [fits_5 B h]); done)
              | (exfalso; exact hB.2 (fits_2 B hf ht hB.1 (by omega)).symm)
              | (exfalso; obtain ⟨h1, h2⟩ := hC; rw [fits_4 B hf ht h1] at h2; simp [csEq, cEq, updI, at_] at h2; done)
              | (simp [hf3]; done)
              )
        · skip
          try simp only [Bool.and_eq_true, Bool.or_eq_true, Bool.and_eq_false_iff, Bool.or_eq_false_iff, decide_eq_true_eq, decide_eq_false_iff_not, Bool.not_eq_true', Bool.not_eq_false', ne_eq, Decidable.not_not] at h_27
          first
            | (exfalso; omega)
            | (
              refine c_cond_f rfl ?_
              refine c_skip ?_
              refine e_next ?_
              refine c_seq ?_
              refine c_seq ?_
              refine c_region ?_
              refine r_val .none rfl (p_move rfl) ?_
              refine r_nil ?_
              refine e_next ?_
              refine c_block ?_
              refine c_name (d := 3) rfl (fun u_28 hu_28 => ?_)
              refine c_name (d := 4) rfl (fun u_29 hu_29 => ?_)
              refine c_name (d := 8) rfl (fun u_30 hu_30 => ?_)
              refine c_name (d := 9) rfl (fun u_31 hu_31 => ?_)
              refine c_name (d := 10) rfl (fun u_32 hu_32 => ?_)
              refine c_nameL (k := 0) rfl (fun A_33 hA_33 => ?_)
              refine c_nameL (k := 1) rfl (fun A_34 hA_34 => ?_)
              refine c_nameL (k := 2) rfl (fun A_35 hA_35 => ?_)
              refine c_nameL (k := 3) rfl (fun A_36 hA_36 => ?_)
              refine c_nameL (k := 4) rfl (fun A_37 hA_37 => ?_)
              refine c_loop (σ := Nat) (fun k => [(54, Value.int .i64 (k : Int)), (3, u_28), (4, u_29), (8, u_30), (9, u_31), (10, u_32)]) (fun k => [A_33, A_34, A_35, A_36, A_37]) (fun _ => _) (fun k => k ≤ 33) (fun k => 33 - k) (0) (by omega) rfl ⟨rfl, rfl, rfl, rfl, rfl, rfl, trivial⟩ (.keep (fun _ _ h => h) (.keep (fun _ _ h => h) (.keep (fun _ _ h => h) (.keep (fun _ _ h => h) (.keep (fun _ _ h => h) (.nil)))))) (fun k hphi => ?_)
              subst hu_28
              subst hu_29
              subst hu_30
              subst hu_31
              subst hu_32
              subst hA_33
              subst hA_34
              subst hA_35
              subst hA_36
              subst hA_37
              refine c_seq ?_
              refine c_region ?_
              refine r_val .none rfl (p_lt rfl rfl) ?_
              refine r_nil ?_
              refine e_next ?_
              refine c_seq ?_
              refine c_splitd (d := 55) rfl (fun h_38 => ?_) (fun h_38 => ?_)
              · skip
                first
                  | (exfalso; omega)
                  | (
                    refine c_cond_t rfl ?_
                    refine c_skip ?_
                    refine e_next ?_
                    refine c_seq ?_
                    refine c_block ?_
                    refine c_seq ?_
                    refine c_region ?_
                    refine r_val .none rfl (p_move rfl) ?_
                    refine r_val .none rfl (p_assign rfl) ?_
                    refine r_nil ?_
                    refine e_next ?_
                    refine c_seq ?_
                    refine c_region_q mixed (by kernel_rfl) ?_
                    refine q_val .none rfl (p_move rfl) ?_
                    refine q_val .none rfl (p_gt rfl rfl) ?_
                    refine q_val .none rfl (p_move rfl) ?_
                    refine' q_and (c := 59) (d := 67) [_, _, _, _, _, _, _, _] rfl (fun h_39 Q_40 hQ_41 => ?_) (fun h_39 Q_40 hQ_41 => ?_) ?_
                    rotate_left 1
                    · skip
                      replace h_39 := of_decide_eq_true h_39
                      refine q_val (.some rfl rfl) rfl (p_move rfl) ?_
                      refine q_val (.some rfl rfl) rfl (p_iaddr1 Try.underlying28 sz3 rfl rfl (by first | exact of_decide_eq_true rfl | omega)) ?_
                      refine q_val (.some rfl rfl) rfl (p_ld (k := 0) Try.underlying3 rfl rfl rfl (by first | exact of_decide_eq_true rfl | omega) (rfl : _ = Value.int _ _)) ?_
                      refine q_val (.some rfl rfl) rfl (p_move rfl) ?_
                      refine q_val (.some rfl rfl) rfl (p_move rfl) ?_
                      refine q_call (vs := [_, _]) (.some rfl rfl) rfl cl32 rfl (fun w hw => c_get _ _ _ u_18s w hw) ?_
                      refine q_val (.some rfl rfl) rfl (p_ne rfl rfl) ?_
                      refine q_val .none rfl (p_pick_t rfl rfl) ?_
                      refine q_nil (e_fin (d := 67) hQ_41 rfl (by repeat (first | exact .refl | refine .put rfl ?_ | refine .say rfl ?_ | refine .say2 rfl (by first | assumption | simp_all) ?_)))
                    · skip
                      repeat (first | refine q_skip rfl (.no rfl rfl) ?_ | refine q_skip rfl (.un rfl rfl) ?_)
                      refine q_val (by first | exact .none | exact .some rfl rfl) rfl (p_pick_f rfl rfl) ?_
                      refine q_nil (e_fin (d := 67) hQ_41 rfl (by repeat (first | exact .refl | refine .put rfl ?_ | refine .say rfl ?_ | refine .say2 rfl (by first | assumption | simp_all) ?_)))
                    refine q_nil ?_
                    refine e_next ?_
                    refine c_split (d := 67) rfl (fun h_43 => ?_) (fun h_43 => ?_)
                    · skip
                      try simp only [Bool.and_eq_true, Bool.or_eq_true, Bool.and_eq_false_iff, Bool.or_eq_false_iff, decide_eq_true_eq, decide_eq_false_iff_not, Bool.not_eq_true', Bool.not_eq_false', ne_eq, Decidable.not_not] at h_43
                      have hB := h_43
                      first
                        | (exfalso; omega)
                        | (
                          refine c_cond_t rfl ?_
                          refine c_seq ?_
                          refine c_region ?_
                          refine r_val .none rfl (p_assign rfl) ?_
                          refine r_nil ?_
                          refine e_next ?_
                          refine c_ret ?_
                          refine e_ret_block ?_
                          refine e_ret_then ?_
                          refine e_ret_then ?_
                          refine e_ret_block ?_
                          refine e_ret_then ?_
                          refine e_ret1 Try.results8 (.tmp rfl .nil) (fun w hm => ⟨?_, hm.since⟩)
                          first
                          | rfl
                          | (exfalso; rcases hA with h | ⟨h, h'⟩; exact h hf1.symm; exact h' (fun i _ => by rw [fits_5 B h]); done)
                          | (exfalso; exact hB.2 (fits_2 B hf ht hB.1 (by omega)).symm)
                          | (exfalso; obtain ⟨h1, h2⟩ := hC; rw [fits_4 B hf ht h1] at h2; simp [csEq, cEq, updI, at_] at h2; done)
                          | (simp [hf3]; done)
                          )
                    · skip
                      try simp only [Bool.and_eq_true, Bool.or_eq_true, Bool.and_eq_false_iff, Bool.or_eq_false_iff, decide_eq_true_eq, decide_eq_false_iff_not, Bool.not_eq_true', Bool.not_eq_false', ne_eq, Decidable.not_not] at h_43
                      first
                        | (exfalso; omega)
                        | (
                          refine c_cond_f rfl ?_
                          refine c_skip ?_
                          refine e_norm_block ?_
                          refine e_next ?_
                          refine c_region ?_
                          refine r_val .none rfl (p_add rfl rfl (by omega)) ?_
                          refine r_val .none rfl (p_move rfl) ?_
                          refine r_nil ?_
                          refine e_round (k + 1) ⟨by omega, by omega⟩ rfl ⟨rfl, rfl, rfl, rfl, rfl, rfl, trivial⟩ (.keep (fun _ _ h => h) (.keep (fun _ _ h => h) (.keep (fun _ _ h => h) (.keep (fun _ _ h => h) (.keep (fun _ _ h => h) (.nil))))))
                          )
                    )
              · skip
                first
                  | (exfalso; omega)
                  | (
                    refine c_cond_f rfl ?_
                    refine c_exit ?_
                    refine e_exit_then ?_
                    refine e_exit_then ?_
                    refine e_exit_block ?_
                    refine e_next ?_
                    refine c_seq ?_
                    refine c_seq ?_
                    refine c_region ?_
                    refine r_val .none rfl (p_ldw (k := 4) Try.underlying24 rfl sz24 rfl rfl (rfl : _ = Value.agg #[_, _, _, _, _, _])) ?_
                    refine r_val .none rfl (p_ldw (k := 0) Try.underlying28 rfl sz28 rfl rfl rfl) ?_
                    refine r_call (vs := [_, _]) .none rfl cl33 rfl (fun w hw => c_put _ _ _ _ _ _ _ w) ?_
                    refine r_val .none rfl (p_move rfl) ?_
                    refine r_val .none rfl (p_extract rfl rfl) ?_
                    refine r_val .none rfl (p_extract rfl rfl) ?_
                    refine r_alloc .none rfl zr26 (IsRow.lit _) (fun b_6 => ?_)
                    refine r_stw (k := 0) .none sz26 rfl rfl (IsRow.fn _ _) (fun _ _ => by first | rfl | (rw [upd_eq]; split <;> rfl)) rfl ?_
                    refine r_val .none rfl (p_assign rfl) ?_
                    refine r_nil ?_
                    refine e_next ?_
                    refine c_seq ?_
                    refine c_region ?_
                    refine r_val .none rfl (p_move rfl) ?_
                    refine r_val .none rfl (p_move rfl) ?_
                    refine' r_and (c := 76) (d := 84) [_, _, _, _, _, _, _, _] rfl (fun h_44 Q_45 hQ_46 => ?_) (fun h_44 Q_45 hQ_46 => ?_) ?_
                    rotate_left 1
                    · skip
                      refine r_val (.some rfl rfl) rfl (p_ldw (k := 0) Try.underlying26 rfl sz26 rfl rfl (rfl : _ = Value.agg #[_, _, _])) ?_
                      refine r_val (.some rfl rfl) rfl (p_ldw (k := 4) Try.underlying26 rfl sz26 rfl rfl (rfl : _ = Value.agg #[_, _, _])) ?_
                      refine r_val (.some rfl rfl) rfl (p_nea rfl rfl (eq_flat Try.underlying26 rfl lf26 ef26 eg26 (.cons (.int Try.underlying3) (.cons (.int Try.underlying3) (.cons (.int Try.underlying3) (.nil)))) (.cons (.int Try.underlying3) (.cons (.int Try.underlying3) (.cons (.int Try.underlying3) (.nil)))))) ?_
                      refine r_val (.some rfl rfl) rfl (p_move rfl) ?_
                      refine' r_or (c := 80) (d := 83) [_, _, _] rfl (fun h_48 Q_49 hQ_50 => ?_) (fun h_48 Q_49 hQ_50 => ?_) ?_
                      rotate_left 1
                      · skip
                        try simp only [Bool.and_eq_true, Bool.or_eq_true, Bool.and_eq_false_iff, Bool.or_eq_false_iff, decide_eq_true_eq, decide_eq_false_iff_not, Bool.not_eq_true', Bool.not_eq_false', ne_eq, Decidable.not_not] at h_48
                        refine r_val (.some rfl rfl) rfl (p_move rfl) ?_
                        refine r_val (.some rfl rfl) rfl (p_not rfl) ?_
                        refine r_val (.some rfl rfl) rfl (p_pick_f rfl rfl) ?_
                        refine r_nil (e_fin (d := 83) hQ_50 rfl (by repeat (first | exact .refl | refine .put rfl ?_ | refine .say rfl ?_ | refine .say2 rfl (by first | assumption | simp_all) ?_)))
                      · skip
                        repeat (first | refine r_skip rfl (.no rfl rfl) ?_ | refine r_skip rfl (.un rfl rfl) ?_)
                        refine r_val (by first | exact .none | exact .some rfl rfl) rfl (p_pick_t rfl rfl) ?_
                        refine r_nil (e_fin (d := 83) hQ_50 rfl (by repeat (first | exact .refl | refine .put rfl ?_ | refine .say rfl ?_ | refine .say2 rfl (by first | assumption | simp_all) ?_)))
                      refine r_val .none rfl (p_pick_t rfl rfl) ?_
                      refine r_nil (e_fin (d := 84) hQ_46 rfl (by repeat (first | exact .refl | refine .put rfl ?_ | refine .say rfl ?_ | refine .say2 rfl (by first | assumption | simp_all) ?_)))
                    · skip
                      repeat (first | refine r_skip rfl (.no rfl rfl) ?_ | refine r_skip rfl (.un rfl rfl) ?_)
                      refine r_val (by first | exact .none | exact .some rfl rfl) rfl (p_pick_f rfl rfl) ?_
                      refine r_nil (e_fin (d := 84) hQ_46 rfl (by repeat (first | exact .refl | refine .put rfl ?_ | refine .say rfl ?_ | refine .say2 rfl (by first | assumption | simp_all) ?_)))
                    refine r_nil ?_
                    refine e_next ?_
                    refine c_split (d := 84) rfl (fun h_52 => ?_) (fun h_52 => ?_)
                    · skip
                      try simp only [Bool.and_eq_true, Bool.or_eq_true, Bool.and_eq_false_iff, Bool.or_eq_false_iff, decide_eq_true_eq, decide_eq_false_iff_not, Bool.not_eq_true', Bool.not_eq_false', ne_eq, Decidable.not_not] at h_52
                      have hC := h_52
                      first
                        | (exfalso; omega)
                        | (
                          refine c_cond_t rfl ?_
                          refine c_seq ?_
                          refine c_region ?_
                          refine r_val .none rfl (p_assign rfl) ?_
                          refine r_nil ?_
                          refine e_next ?_
                          refine c_ret ?_
                          refine e_ret_then ?_
                          refine e_ret1 Try.results8 (.tmp rfl .nil) (fun w hm => ⟨?_, hm.since⟩)
                          first
                          | rfl
                          | (exfalso; rcases hA with h | ⟨h, h'⟩; exact h hf1.symm; exact h' (fun i _ => by rw [fits_5 B h]); done)
                          | (exfalso; exact hB.2 (fits_2 B hf ht hB.1 (by omega)).symm)
                          | (exfalso; obtain ⟨h1, h2⟩ := hC; rw [fits_4 B hf ht h1] at h2; simp [csEq, cEq, updI, at_] at h2; done)
                          | (simp [hf3]; done)
                          )
                    · skip
                      try simp only [Bool.and_eq_true, Bool.or_eq_true, Bool.and_eq_false_iff, Bool.or_eq_false_iff, decide_eq_true_eq, decide_eq_false_iff_not, Bool.not_eq_true', Bool.not_eq_false', ne_eq, Decidable.not_not] at h_52
                      first
                        | (exfalso; omega)
                        | (
                          refine c_cond_f rfl ?_
                          refine c_skip ?_
                          refine e_next ?_
                          refine c_seq ?_
                          refine c_region ?_
                          refine r_val .none rfl (p_iaddr (k := 0) Try.underlying28 sz3 rfl rfl (by first | exact of_decide_eq_true rfl | omega)) ?_
                          refine r_val .none rfl (p_ld (k := 1) Try.underlying3 rfl rfl rfl (by first | exact of_decide_eq_true rfl | omega) (rfl : _ = Value.int _ _)) ?_
                          refine r_val .none rfl (p_eq rfl rfl) ?_
                          refine r_val .none rfl (p_move rfl) ?_
                          refine' r_and (c := 88) (d := 90) [_, _] rfl (fun h_53 Q_54 hQ_55 => ?_) (fun h_53 Q_54 hQ_55 => ?_) ?_
                          rotate_left 1
                          · skip
                            replace h_53 := of_decide_eq_true h_53
                            refine r_call (vs := []) (.some rfl rfl) rfl cl15 rfl (fun w hw => c_awake3  w) ?_
                            refine r_val .none rfl (p_pick_t rfl rfl) ?_
                            refine r_nil (e_fin (d := 90) hQ_55 rfl (by repeat (first | exact .refl | refine .put rfl ?_ | refine .say rfl ?_ | refine .say2 rfl (by first | assumption | simp_all) ?_)))
                          · skip
                            repeat (first | refine r_skip rfl (.no rfl rfl) ?_ | refine r_skip rfl (.un rfl rfl) ?_)
                            refine r_val (by first | exact .none | exact .some rfl rfl) rfl (p_pick_f rfl rfl) ?_
                            refine r_nil (e_fin (d := 90) hQ_55 rfl (by repeat (first | exact .refl | refine .put rfl ?_ | refine .say rfl ?_ | refine .say2 rfl (by first | assumption | simp_all) ?_)))
                          refine r_val .none rfl (p_assign rfl) ?_
                          refine r_nil ?_
                          refine e_next ?_
                          refine c_ret ?_
                          refine e_ret1 Try.results8 (.tmp rfl .nil) (fun w hm => ⟨?_, hm.since⟩)
                          first
                          | rfl
                          | (exfalso; rcases hA with h | ⟨h, h'⟩; exact h hf1.symm; exact h' (fun i _ => by rw [fits_5 B h]); done)
                          | (exfalso; exact hB.2 (fits_2 B hf ht hB.1 (by omega)).symm)
                          | (exfalso; obtain ⟨h1, h2⟩ := hC; rw [fits_4 B hf ht h1] at h2; simp [csEq, cEq, updI, at_] at h2; done)
                          | (simp [hf3]; done)
                          )
                    )
              )
        )
end Go.Proofs.Ytjgdkahblhpinaa
