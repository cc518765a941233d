/- Walks: what Go functions of this chapter come to, each as a function on plain data; no condition but those that each theorem names. Printed by a program of this work (gen.py). -/
import Derived.Test.YtinbigokigkfaaaW11
import Derived.Test.YtinbigokigkfaaaW10b
import Derived.Test.YtinbigokigkfaaaRows
namespace Go.Proofs.Ytinbigokigkfaaa
open Go.Gx Go.Gx.T11
theorem cl31 : Callable Try.prog 31 := callable Try.func31 (by kernel_rfl) rfl
theorem cl32 : Callable Try.prog 32 := callable Try.func32 (by kernel_rfl) rfl
theorem cl33 : Callable Try.prog 33 := callable Try.func33 (by kernel_rfl) rfl
theorem cl34 : Callable Try.prog 34 := callable Try.func34 (by kernel_rfl) rfl
theorem cl35 : Callable Try.prog 35 := callable Try.func35 (by kernel_rfl) rfl
theorem cl36 : Callable Try.prog 36 := callable Try.func36 (by kernel_rfl) rfl
theorem cl37 : Callable Try.prog 37 := callable Try.func37 (by kernel_rfl) rfl
theorem bl26_0i1_1i1_2i1 (x0 : Int) (x1 : Int) (x2 : Int) : Program.built Try.prog 26 [(0, Value.int .i64 x0), (1, Value.int .i64 x1), (2, Value.int .i64 x2)] = some #[Value.int .i64 x0, Value.int .i64 x1, Value.int .i64 x2] := by
  kernel_rfl
theorem c_awake11   (w : World)  :
    Calls Try.prog 37 #[] w (Ret fun r w' => r = Value.bool true ∧ Since nX w w') := by
  refine enter (args := []) (X := nX) (G := (fun _ => none)) (l := []) Try.func37 rfl Try.ntmps37 (fun _ _ h => by cases h) trivial (Nat.le_of_ble_eq_true rfl) ?_
  refine c_seq ?_
  refine c_region ?_
  refine r_val .none rfl (p_assign rfl) ?_
  refine r_nil ?_
  refine e_next ?_
  refine c_seq ?_
  refine c_region ?_
  refine r_callnew (vs := [_]) (vr := fun p => .tuple #[.pointer (some ⟨p, 0, none⟩), .int .i64 0]) .none rfl cl31 rfl (fun w hw => c_mnew _ (by omega) w hw) (fun p_1 => ?_)
  refine r_val .none rfl (p_move rfl) ?_
  refine r_val .none rfl (p_extract rfl rfl) ?_
  refine r_val .none rfl (p_extract rfl rfl) ?_
  refine r_val .none rfl (p_assign rfl) ?_
  refine r_val .none rfl (p_assign rfl) ?_
  refine r_nil ?_
  refine e_next ?_
  refine c_seq ?_
  refine c_seq ?_
  refine c_region ?_
  refine r_val .none rfl (p_move rfl) ?_
  refine r_val .none rfl (p_ne rfl rfl) ?_
  refine r_say (d := 15) (v := Value.bool false) rfl ?_
  refine r_val .none rfl (p_move rfl) ?_
  refine r_val (.some rfl rfl) rfl (p_move rfl) ?_
  refine r_val (.some rfl rfl) rfl (p_eq_ptr Try.underlying76 (by first | exact .inr rfl | exact .inl rfl) rfl rfl) ?_
  refine r_say (d := 18) (v := Value.bool false) rfl ?_
  refine r_val .none rfl (p_pick_f rfl rfl) ?_
  refine r_nil ?_
  refine e_next ?_
  refine c_cond_f rfl ?_
  refine c_skip ?_
  refine e_next ?_
  refine c_seq ?_
  refine c_region ?_
  refine r_val .none rfl (p_build (vs := [(0, Value.int _ _), (1, Value.int _ _), (2, Value.int _ _)]) rfl (bl26_0i1_1i1_2i1 _ _ _)) ?_
  refine r_alloc .none rfl zr26 (IsRow.lit _) (fun b_1 => ?_)
  refine r_stw (k := 0) .none sz26 rfl rfl (IsRow.lit _) (one_lit rfl rfl) rfl ?_
  refine r_nil ?_
  refine e_next ?_
  refine c_seq ?_
  refine c_region ?_
  refine r_val .none rfl (p_move rfl) ?_
  refine r_val .none rfl (p_ldw (k := 0) Try.underlying26 rfl sz26 rfl rfl (rfl : _ = Value.agg #[_, _, _])) ?_
  refine r_callo (k := 1) (vs := [_, _]) .none rfl cl32 rfl rfl (fun w F hw hA hFG => c_madd _ (1, 2, 3) _ _ _ (by first | omega | decide | decide +kernel) w hw hA hFG) ?_
  refine r_val .none rfl (p_move rfl) ?_
  refine r_val .none rfl (p_extract rfl rfl) ?_
  refine r_val .none rfl (p_extract rfl rfl) ?_
  refine r_val .none rfl (p_assign rfl) ?_
  refine r_val .none rfl (p_assign rfl) ?_
  refine r_nil ?_
  refine e_next ?_
  refine c_seq ?_
  refine c_region ?_
  refine r_val .none rfl (p_move rfl) ?_
  refine r_val .none rfl (p_ldw (k := 0) Try.underlying26 rfl sz26 rfl rfl (rfl : _ = Value.agg #[_, _, _])) ?_
  refine r_callo (k := 1) (vs := [_, _]) .none rfl cl32 rfl rfl (fun w F hw hA hFG => c_madd _ (1, 2, 3) _ _ _ (by first | omega | decide | decide +kernel) w hw hA hFG) ?_
  refine r_val .none rfl (p_move rfl) ?_
  refine r_val .none rfl (p_extract rfl rfl) ?_
  refine r_val .none rfl (p_extract rfl rfl) ?_
  refine r_val .none rfl (p_assign rfl) ?_
  refine r_val .none rfl (p_assign rfl) ?_
  refine r_nil ?_
  refine e_next ?_
  refine c_seq ?_
  refine c_region ?_
  refine r_val .none rfl (p_move rfl) ?_
  refine r_callo (k := 1) (vs := [_, _]) .none rfl cl33 rfl rfl (fun w F hw hA hFG => c_mrem _ _ _ _ _ w hw hA hFG) ?_
  refine r_nil ?_
  refine e_next ?_
  refine c_seq ?_
  refine c_region ?_
  refine r_val .none rfl (p_move rfl) ?_
  refine r_val .none rfl (p_ldw (k := 0) Try.underlying26 rfl sz26 rfl rfl (rfl : _ = Value.agg #[_, _, _])) ?_
  refine r_callo (k := 1) (vs := [_, _]) .none rfl cl32 rfl rfl (fun w F hw hA hFG => c_madd _ (1, 2, 3) _ _ _ (by first | omega | decide | decide +kernel) w hw hA hFG) ?_
  refine r_val .none rfl (p_move rfl) ?_
  refine r_val .none rfl (p_extract rfl rfl) ?_
  refine r_val .none rfl (p_extract rfl rfl) ?_
  refine r_val .none rfl (p_assign rfl) ?_
  refine r_val .none rfl (p_assign rfl) ?_
  refine r_nil ?_
  refine e_next ?_
  refine c_seq ?_
  refine c_region ?_
  refine r_val .none rfl (p_move rfl) ?_
  refine r_val .none rfl (p_eq rfl rfl) ?_
  refine r_val .none rfl (p_move rfl) ?_
  refine' r_and (c := 43) (d := 46) [_, _, _] rfl (fun h_2 Q_3 hQ_4 => ?_) (fun h_2 Q_3 hQ_4 => ?_) ?_
  rotate_left 1
  · skip
    replace h_2 := of_decide_eq_true h_2
    refine r_val (.some rfl rfl) rfl (p_move rfl) ?_
    refine r_val (.some rfl rfl) rfl (p_eq rfl rfl) ?_
    refine r_val .none rfl (p_pick_t rfl rfl) ?_
    refine r_nil (e_fin (d := 46) hQ_4 rfl (by repeat (first | exact .refl | refine .put rfl ?_ | refine .say rfl ?_ | refine .say2 rfl (by first | assumption | simp_all) ?_)))
  · skip
    repeat (first | refine r_skip rfl (.no rfl rfl) ?_ | refine r_skip rfl (.un rfl rfl) ?_)
    refine r_val (by first | exact .none | exact .some rfl rfl) rfl (p_pick_f rfl rfl) ?_
    refine r_nil (e_fin (d := 46) hQ_4 rfl (by repeat (first | exact .refl | refine .put rfl ?_ | refine .say rfl ?_ | refine .say2 rfl (by first | assumption | simp_all) ?_)))
  refine r_val .none rfl (p_move rfl) ?_
  refine' r_and (c := 47) (d := 50) [_, _, _] rfl (fun h_6 Q_7 hQ_8 => ?_) (fun h_6 Q_7 hQ_8 => ?_) ?_
  rotate_left 1
  · skip
    try simp only [norms] at h_6
    refine r_val (.some rfl rfl) rfl (p_move rfl) ?_
    refine r_val (.some rfl rfl) rfl (p_eq rfl rfl) ?_
    refine r_val .none rfl (p_pick_t rfl rfl) ?_
    refine r_nil (e_fin (d := 50) hQ_8 rfl (by repeat (first | exact .refl | refine .put rfl ?_ | refine .say rfl ?_ | refine .say2 rfl (by first | assumption | simp_all) ?_)))
  · skip
    repeat (first | refine r_skip rfl (.no rfl rfl) ?_ | refine r_skip rfl (.un rfl rfl) ?_)
    refine r_val (by first | exact .none | exact .some rfl rfl) rfl (p_pick_f rfl rfl) ?_
    refine r_nil (e_fin (d := 50) hQ_8 rfl (by repeat (first | exact .refl | refine .put rfl ?_ | refine .say rfl ?_ | refine .say2 rfl (by first | assumption | simp_all) ?_)))
  refine r_val .none rfl (p_move rfl) ?_
  refine' r_and (c := 51) (d := 54) [_, _, _] rfl (fun h_10 Q_11 hQ_12 => ?_) (fun h_10 Q_11 hQ_12 => ?_) ?_
  rotate_left 1
  · skip
    try simp only [norms] at h_10
    refine r_val (.some rfl rfl) rfl (p_move rfl) ?_
    refine r_val (.some rfl rfl) rfl (p_eq rfl rfl) ?_
    refine r_val .none rfl (p_pick_t rfl rfl) ?_
    refine r_nil (e_fin (d := 54) hQ_12 rfl (by repeat (first | exact .refl | refine .put rfl ?_ | refine .say rfl ?_ | refine .say2 rfl (by first | assumption | simp_all) ?_)))
  · skip
    repeat (first | refine r_skip rfl (.no rfl rfl) ?_ | refine r_skip rfl (.un rfl rfl) ?_)
    refine r_val (by first | exact .none | exact .some rfl rfl) rfl (p_pick_f rfl rfl) ?_
    refine r_nil (e_fin (d := 54) hQ_12 rfl (by repeat (first | exact .refl | refine .put rfl ?_ | refine .say rfl ?_ | refine .say2 rfl (by first | assumption | simp_all) ?_)))
  refine r_val .none rfl (p_move rfl) ?_
  refine' r_and (c := 55) (d := 59) [_, _, _, _] rfl (fun h_14 Q_15 hQ_16 => ?_) (fun h_14 Q_15 hQ_16 => ?_) ?_
  rotate_left 1
  · skip
    try simp only [norms] at h_14
    refine r_val (.some rfl rfl) rfl (p_move rfl) ?_
    refine r_callo (k := 1) (vs := [_]) (.some rfl rfl) rfl cl35 rfl rfl (fun w F hw hA hFG => c_mlen _ _ _ _ w hw hA hFG) ?_
    refine r_val (.some rfl rfl) rfl (p_eq rfl rfl) ?_
    refine r_val .none rfl (p_pick_t rfl rfl) ?_
    refine r_nil (e_fin (d := 59) hQ_16 rfl (by repeat (first | exact .refl | refine .put rfl ?_ | refine .say rfl ?_ | refine .say2 rfl (by first | assumption | simp_all) ?_)))
  · skip
    repeat (first | refine r_skip rfl (.no rfl rfl) ?_ | refine r_skip rfl (.un rfl rfl) ?_)
    refine r_val (by first | exact .none | exact .some rfl rfl) rfl (p_pick_f rfl rfl) ?_
    refine r_nil (e_fin (d := 59) hQ_16 rfl (by repeat (first | exact .refl | refine .put rfl ?_ | refine .say rfl ?_ | refine .say2 rfl (by first | assumption | simp_all) ?_)))
  refine r_val .none rfl (p_assign rfl) ?_
  refine r_nil ?_
  refine e_next ?_
  refine c_ret ?_
  refine e_ret1 Try.results37 (.tmp rfl .nil) (fun w hm => ⟨?_, hm.since⟩)
  first
  | rfl
  | exact congrArg Value.bool (by decide +kernel)
theorem c_WmFull (x y : Int) (hx : 0 ≤ x ∧ x ≤ 65535) (hy : 0 ≤ y ∧ y ≤ 65535) (w : World)  :
    Calls Try.prog 7 #[Value.int .u16 x, Value.int .u16 y] w (Ret fun r w' => r = Value.bool true ∧ Since nX w w') := by
  obtain ⟨n, hn, hn1⟩ : ∃ n : Nat, 1 + x % 1024 = (n : Int) ∧ 1 ≤ n ∧ n ≤ 1024 := ⟨(1 + x % 1024).toNat, by omega, by omega⟩
  have hm := Int.emod_nonneg y (show (n : Int) ≠ 0 by omega)
  have hm2 := Int.emod_lt_of_pos y (show (0 : Int) < n by omega)
  obtain ⟨c, hc, hc1⟩ : ∃ c : Int, 1 + y % (n : Int) = c ∧ 1 ≤ c ∧ c ≤ n := ⟨_, rfl, by omega, by omega⟩
  refine enter (args := [_, _]) (X := nX) (G := (fun _ => none)) (l := [(0, Value.int .u16 x), (1, Value.int .u16 y)]) Try.func7 rfl Try.ntmps7 (fun _ _ h => by cases h) ⟨rfl, rfl, trivial⟩ (Nat.le_of_ble_eq_true rfl) ?_
  refine c_seq ?_
  refine c_region ?_
  refine r_val .none rfl (p_assign rfl) ?_
  refine r_nil ?_
  refine e_next ?_
  refine c_seq ?_
  refine c_region ?_
  refine r_val .none rfl (p_move rfl) ?_
  refine r_val .none rfl (p_conv Try.underlying75 Try.underlying3 rfl (IntWalk.i64_in _ (by omega))) ?_
  refine r_val .none rfl (p_rem rfl rfl (by omega)) ?_
  refine r_val .none rfl (p_add rfl rfl (by omega)) ?_
  rw [hn]
  refine r_val .none rfl (p_assign rfl) ?_
  refine r_nil ?_
  refine e_next ?_
  refine c_seq ?_
  refine c_region ?_
  refine r_val .none rfl (p_move rfl) ?_
  refine r_callnew (vs := [_]) (vr := fun p => .tuple #[.pointer (some ⟨p, 0, none⟩), .int .i64 0]) .none rfl cl31 rfl (fun w hw => c_mnew _ (by omega) w hw) (fun p_1 => ?_)
  refine r_val .none rfl (p_move rfl) ?_
  refine r_val .none rfl (p_extract rfl rfl) ?_
  refine r_val .none rfl (p_extract rfl rfl) ?_
  refine r_val .none rfl (p_assign rfl) ?_
  refine r_val .none rfl (p_assign rfl) ?_
  refine r_nil ?_
  refine e_next ?_
  refine c_seq ?_
  refine c_seq ?_
  refine c_region ?_
  refine r_val .none rfl (p_move rfl) ?_
  refine r_val .none rfl (p_ne rfl rfl) ?_
  refine r_say (d := 31) (v := Value.bool false) rfl ?_
  refine r_val .none rfl (p_move rfl) ?_
  refine r_val (.some rfl rfl) rfl (p_move rfl) ?_
  refine r_val (.some rfl rfl) rfl (p_eq_ptr Try.underlying76 (by first | exact .inr rfl | exact .inl rfl) rfl rfl) ?_
  refine r_say (d := 34) (v := Value.bool false) rfl ?_
  refine r_val .none rfl (p_pick_f rfl rfl) ?_
  refine r_nil ?_
  refine e_next ?_
  refine c_cond_f rfl ?_
  refine c_skip ?_
  refine e_next ?_
  refine c_seq ?_
  refine c_region ?_
  refine r_val .none rfl (p_build (vs := [(0, Value.int _ _), (1, Value.int _ _), (2, Value.int _ _)]) rfl (bl26_0i1_1i1_2i1 _ _ _)) ?_
  refine r_alloc .none rfl zr26 (IsRow.lit _) (fun b_1 => ?_)
  refine r_stw (k := 0) .none sz26 rfl rfl (IsRow.lit _) (one_lit rfl rfl) rfl ?_
  refine r_nil ?_
  refine e_next ?_
  refine c_seq ?_
  refine c_seq ?_
  refine c_region ?_
  refine r_val .none rfl (p_move rfl) ?_
  refine r_val .none rfl (p_move rfl) ?_
  refine r_nil ?_
  refine e_next ?_
  refine c_block ?_
  refine c_name (d := 1) rfl (fun u_2 hu_2 => ?_)
  refine c_name (d := 5) rfl (fun u_3 hu_3 => ?_)
  refine c_name (d := 6) rfl (fun u_4 hu_4 => ?_)
  refine c_name (d := 8) rfl (fun u_5 hu_5 => ?_)
  refine c_name (d := 37) rfl (fun u_6 hu_6 => ?_)
  refine c_nameL (k := 0) rfl (fun A_7 hA_7 => ?_)
  refine c_loop (σ := Nat) (fun k => [(38, Value.int .i64 (k : Nat)), (1, u_2), (5, u_3), (6, u_4), (8, u_5), (37, u_6)]) (fun k => [A_7, memA p_1 (full (4096, 1, 2) k) (n : Nat) (k : Nat)]) (fun _ => _) (fun k => k ≤ n) (fun k => n - k) (0) (by omega) rfl ⟨rfl, rfl, rfl, rfl, rfl, rfl, trivial⟩ (.keep (fun _ _ h => h) (.keep (fun _ _ h => h) (.nil))) (fun k hphi => ?_)
  subst hu_2
  subst hu_3
  subst hu_4
  subst hu_5
  subst hu_6
  subst hA_7
  refine c_seq ?_
  refine c_region ?_
  refine r_val .none rfl (p_lt rfl rfl) ?_
  refine r_nil ?_
  refine e_next ?_
  refine c_seq ?_
  refine c_splitd (d := 39) rfl (fun h_8 => ?_) (fun h_8 => ?_)
  · skip
    first
      | (exfalso; omega)
      | (
        refine c_cond_t rfl ?_
        refine c_skip ?_
        refine e_next ?_
        refine c_seq ?_
        refine c_block ?_
        refine c_seq ?_
        refine c_region ?_
        refine r_val .none rfl (p_move rfl) ?_
        refine r_val .none rfl (p_assign rfl) ?_
        refine r_nil ?_
        refine e_next ?_
        refine c_seq ?_
        refine c_region ?_
        refine r_val .none rfl (p_move rfl) ?_
        refine r_val .none rfl (p_ldw (k := 0) Try.underlying26 rfl sz26 rfl rfl (rfl : _ = Value.agg #[_, _, _])) ?_
        refine r_callo (k := 1) (vs := [_, _]) .none rfl cl32 rfl rfl (fun w F hw hA hFG => c_madd _ (4096, 1, 2) _ _ _ (by omega) w hw hA hFG) ?_
        refine r_val .none rfl (p_move rfl) ?_
        refine r_val .none rfl (p_extract rfl rfl) ?_
        refine r_val .none rfl (p_extract rfl rfl) ?_
        refine r_val .none rfl (p_assign rfl) ?_
        refine r_val .none rfl (p_assign rfl) ?_
        refine r_nil ?_
        refine e_next ?_
        refine c_seq ?_
        refine c_region ?_
        refine r_val .none rfl (p_move rfl) ?_
        refine r_val .none rfl (p_move rfl) ?_
        refine r_val .none rfl (p_add rfl rfl (by omega)) ?_
        refine r_val .none rfl (p_ne rfl rfl) ?_
        refine r_val .none rfl (p_move rfl) ?_
        refine' r_or (c := 51) (d := 54) [_, _, _] rfl (fun h_9 Q_10 hQ_11 => ?_) (fun h_9 Q_10 hQ_11 => ?_) ?_
        rotate_left 1
        · skip
          replace h_9 := of_decide_eq_false h_9
          refine r_val (.some rfl rfl) rfl (p_move rfl) ?_
          refine r_val (.some rfl rfl) rfl (p_ne rfl rfl) ?_
          refine r_val .none rfl (p_pick_f rfl rfl) ?_
          refine r_nil (e_fin (d := 54) hQ_11 rfl (by repeat (first | exact .refl | refine .put rfl ?_ | refine .say rfl ?_ | refine .say2 rfl (by first | assumption | simp_all) ?_)))
        · skip
          repeat (first | refine r_skip rfl (.no rfl rfl) ?_ | refine r_skip rfl (.un rfl rfl) ?_)
          refine r_val (by first | exact .none | exact .some rfl rfl) rfl (p_pick_t rfl rfl) ?_
          refine r_nil (e_fin (d := 54) hQ_11 rfl (by repeat (first | exact .refl | refine .put rfl ?_ | refine .say rfl ?_ | refine .say2 rfl (by first | assumption | simp_all) ?_)))
        refine r_nil ?_
        refine e_next ?_
        refine c_split (d := 54) rfl (fun h_13 => ?_) (fun h_13 => ?_)
        · skip
          try simp only [norms] at h_13
          have hA1 := h_13
          first
            | (exfalso; omega)
            | (
              refine c_cond_t rfl ?_
              refine c_seq ?_
              refine c_region ?_
              refine r_val .none rfl (p_assign rfl) ?_
              refine r_nil ?_
              refine e_next ?_
              refine c_ret ?_
              refine e_ret_block ?_
              refine e_ret_then ?_
              refine e_ret_then ?_
              refine e_ret_block ?_
              refine e_ret_then ?_
              refine e_ret1 Try.results7 (.tmp rfl .nil) (fun w hm => ⟨?_, hm.since⟩)
              first
              | rfl
              | (exfalso; rw [wAdd_ok (by decide) (by rw [full_len]; omega)] at hA1; simp at hA1; done)
              | (exfalso; simp at hB; done)
              | (exfalso; simp at hC; done)
              | (clear hm; have hz : lkp (mdel (full (4096, 1, 2) n) c) ((n : Int) + 1) = none := (by rw [full_del_lkp, if_neg (by omega), if_neg (by omega)]); have hz2 : lkp (mdel (full (4096, 1, 2) n) c) c = none := (by rw [full_del_lkp, if_pos rfl]); simp [lkp_mput, hz, hz2, mput_len, show ¬ (n : Int) + 1 = c by omega]; omega)
              )
        · skip
          try simp only [norms] at h_13
          first
            | (exfalso; omega)
            | (
              refine c_cond_f rfl ?_
              refine c_skip ?_
              refine e_norm_block ?_
              refine e_next ?_
              refine c_region ?_
              refine r_val .none rfl (p_add rfl rfl (by omega)) ?_
              refine r_val .none rfl (p_move rfl) ?_
              refine r_nil ?_
              refine e_round (k + 1) ⟨by omega, by omega⟩ rfl ⟨rfl, rfl, rfl, rfl, rfl, rfl, trivial⟩ (.keep (fun _ _ h => h) (.keep (fun _ _ h => by have e : ((k + 1 : Nat) : Int) = (k : Int) + 1 := (by omega); rw [wAdd_ok (by decide) (by rw [full_len]; omega), full_next] at h; show (memA _ _ _ ((k + 1 : Nat) : Int)).holds _ _; rw [e]; exact h) (.nil)))
              )
        )
  · skip
    first
      | (exfalso; omega)
      | (
        refine c_cond_f rfl ?_
        refine c_exit ?_
        refine e_exit_then ?_
        refine e_exit_then ?_
        refine e_exit_block ?_
        refine e_next ?_
        refine c_seq ?_
        refine c_seq ?_
        refine c_region ?_
        refine r_val .none rfl (p_move rfl) ?_
        refine r_val .none rfl (p_ldw (k := 0) Try.underlying26 rfl sz26 rfl rfl (rfl : _ = Value.agg #[_, _, _])) ?_
        refine r_callo (k := 1) (vs := [_, _]) .none rfl cl32 rfl rfl (fun w F hw hA hFG => c_madd _ (4096, 1, 2) _ _ _ (by omega) w hw hA hFG) ?_
        have hkn : n = k := (by omega)
        subst hkn
        simp only [wAdd_full (show triRight (4096, 1, 2) = true by decide) (show (n : Int) ≤ ((full (4096, 1, 2) n).length : Int) by rw [full_len]; omega)]
        refine r_val .none rfl (p_move rfl) ?_
        refine r_val .none rfl (p_extract rfl rfl) ?_
        refine r_val .none rfl (p_extract rfl rfl) ?_
        refine r_val .none rfl (p_assign rfl) ?_
        refine r_val .none rfl (p_assign rfl) ?_
        refine r_nil ?_
        refine e_next ?_
        refine c_seq ?_
        refine c_region ?_
        refine r_val .none rfl (p_move rfl) ?_
        refine r_val .none rfl (p_ne rfl rfl) ?_
        refine r_val .none rfl (p_move rfl) ?_
        refine' r_or (c := 64) (d := 67) [_, _, _] rfl (fun h_14 Q_15 hQ_16 => ?_) (fun h_14 Q_15 hQ_16 => ?_) ?_
        rotate_left 1
        · skip
          replace h_14 := of_decide_eq_false h_14
          refine r_val (.some rfl rfl) rfl (p_move rfl) ?_
          refine r_val (.some rfl rfl) rfl (p_ne rfl rfl) ?_
          refine r_val .none rfl (p_pick_f rfl rfl) ?_
          refine r_nil (e_fin (d := 67) hQ_16 rfl (by repeat (first | exact .refl | refine .put rfl ?_ | refine .say rfl ?_ | refine .say2 rfl (by first | assumption | simp_all) ?_)))
        · skip
          repeat (first | refine r_skip rfl (.no rfl rfl) ?_ | refine r_skip rfl (.un rfl rfl) ?_)
          refine r_val (by first | exact .none | exact .some rfl rfl) rfl (p_pick_t rfl rfl) ?_
          refine r_nil (e_fin (d := 67) hQ_16 rfl (by repeat (first | exact .refl | refine .put rfl ?_ | refine .say rfl ?_ | refine .say2 rfl (by first | assumption | simp_all) ?_)))
        refine r_nil ?_
        refine e_next ?_
        refine c_split (d := 67) rfl (fun h_18 => ?_) (fun h_18 => ?_)
        · skip
          try simp only [norms] at h_18
          have hB := h_18
          first
            | (exfalso; omega)
            | (
              refine c_cond_t rfl ?_
              refine c_seq ?_
              refine c_region ?_
              refine r_val .none rfl (p_assign rfl) ?_
              refine r_nil ?_
              refine e_next ?_
              refine c_ret ?_
              refine e_ret_then ?_
              refine e_ret1 Try.results7 (.tmp rfl .nil) (fun w hm => ⟨?_, hm.since⟩)
              first
              | rfl
              | (exfalso; rw [wAdd_ok (by decide) (by rw [full_len]; omega)] at hA1; simp at hA1; done)
              | (exfalso; simp at hB; done)
              | (exfalso; simp at hC; done)
              | (clear hm; have hz : lkp (mdel (full (4096, 1, 2) n) c) ((n : Int) + 1) = none := (by rw [full_del_lkp, if_neg (by omega), if_neg (by omega)]); have hz2 : lkp (mdel (full (4096, 1, 2) n) c) c = none := (by rw [full_del_lkp, if_pos rfl]); simp [lkp_mput, hz, hz2, mput_len, show ¬ (n : Int) + 1 = c by omega]; omega)
              )
        · skip
          try simp only [norms] at h_18
          first
            | (exfalso; omega)
            | (
              refine c_cond_f rfl ?_
              refine c_skip ?_
              refine e_next ?_
              refine c_seq ?_
              refine c_region ?_
              refine r_val .none rfl (p_move rfl) ?_
              refine r_val .none rfl (p_conv Try.underlying75 Try.underlying3 rfl (IntWalk.i64_in _ (by omega))) ?_
              refine r_val .none rfl (p_move rfl) ?_
              refine r_val .none rfl (p_rem rfl rfl (by omega)) ?_
              refine r_val .none rfl (p_add rfl rfl (by omega)) ?_
              rw [hc]
              refine r_val .none rfl (p_assign rfl) ?_
              refine r_nil ?_
              refine e_next ?_
              refine c_seq ?_
              refine c_seq ?_
              refine c_region ?_
              refine r_val .none rfl (p_move rfl) ?_
              refine r_val .none rfl (p_move rfl) ?_
              refine r_callo (k := 1) (vs := [_, _]) .none rfl cl33 rfl rfl (fun w F hw hA hFG => c_mrem _ _ _ _ _ w hw hA hFG) ?_
              rw [full_lkp, if_pos hc1]
              refine r_val .none rfl (p_move rfl) ?_
              refine r_val .none rfl (p_extract rfl rfl) ?_
              refine r_val .none rfl (p_extract rfl rfl) ?_
              refine r_alloc .none rfl zr26 (IsRow.lit _) (fun b_2 => ?_)
              refine r_stw (k := 0) .none sz26 rfl rfl (IsRow.lit _) (one_lit rfl rfl) rfl ?_
              refine r_val .none rfl (p_assign rfl) ?_
              refine r_nil ?_
              refine e_next ?_
              refine c_seq ?_
              refine c_region ?_
              refine r_val .none rfl (p_ldw (k := 0) Try.underlying26 rfl sz26 rfl rfl (rfl : _ = Value.agg #[_, _, _])) ?_
              refine r_val .none rfl (p_ldw (k := 1) Try.underlying26 rfl sz26 rfl rfl (rfl : _ = Value.agg #[_, _, _])) ?_
              refine r_val .none rfl (p_nea rfl rfl (eq_tri Try.underlying26 Try.underlying3 lf26 ef26 eg26 (4096, 1, 2) (4096, 1, 2))) ?_
              refine r_val .none rfl (p_move rfl) ?_
              refine' r_or (c := 82) (d := 85) [_, _, _] rfl (fun h_19 Q_20 hQ_21 => ?_) (fun h_19 Q_20 hQ_21 => ?_) ?_
              rotate_left 1
              · skip
                try simp only [norms] at h_19
                refine r_val (.some rfl rfl) rfl (p_move rfl) ?_
                refine r_val (.some rfl rfl) rfl (p_ne rfl rfl) ?_
                refine r_val .none rfl (p_pick_f rfl rfl) ?_
                refine r_nil (e_fin (d := 85) hQ_21 rfl (by repeat (first | exact .refl | refine .put rfl ?_ | refine .say rfl ?_ | refine .say2 rfl (by first | assumption | simp_all) ?_)))
              · skip
                repeat (first | refine r_skip rfl (.no rfl rfl) ?_ | refine r_skip rfl (.un rfl rfl) ?_)
                refine r_val (by first | exact .none | exact .some rfl rfl) rfl (p_pick_t rfl rfl) ?_
                refine r_nil (e_fin (d := 85) hQ_21 rfl (by repeat (first | exact .refl | refine .put rfl ?_ | refine .say rfl ?_ | refine .say2 rfl (by first | assumption | simp_all) ?_)))
              refine r_nil ?_
              refine e_next ?_
              refine c_split (d := 85) rfl (fun h_23 => ?_) (fun h_23 => ?_)
              · skip
                try simp only [norms] at h_23
                have hC := h_23
                first
                  | (exfalso; omega)
                  | (
                    refine c_cond_t rfl ?_
                    refine c_seq ?_
                    refine c_region ?_
                    refine r_val .none rfl (p_assign rfl) ?_
                    refine r_nil ?_
                    refine e_next ?_
                    refine c_ret ?_
                    refine e_ret_then ?_
                    refine e_ret1 Try.results7 (.tmp rfl .nil) (fun w hm => ⟨?_, hm.since⟩)
                    first
                    | rfl
                    | (exfalso; rw [wAdd_ok (by decide) (by rw [full_len]; omega)] at hA1; simp at hA1; done)
                    | (exfalso; simp at hB; done)
                    | (exfalso; simp at hC; done)
                    | (clear hm; have hz : lkp (mdel (full (4096, 1, 2) n) c) ((n : Int) + 1) = none := (by rw [full_del_lkp, if_neg (by omega), if_neg (by omega)]); have hz2 : lkp (mdel (full (4096, 1, 2) n) c) c = none := (by rw [full_del_lkp, if_pos rfl]); simp [lkp_mput, hz, hz2, mput_len, show ¬ (n : Int) + 1 = c by omega]; omega)
                    )
              · skip
                try simp only [norms] at h_23
                first
                  | (exfalso; omega)
                  | (
                    refine c_cond_f rfl ?_
                    refine c_skip ?_
                    refine e_next ?_
                    refine c_seq ?_
                    refine c_region ?_
                    refine r_val .none rfl (p_move rfl) ?_
                    refine r_val .none rfl (p_ldw (k := 1) Try.underlying26 rfl sz26 rfl rfl (rfl : _ = Value.agg #[_, _, _])) ?_
                    refine r_callo (k := 2) (vs := [_, _]) .none rfl cl32 rfl rfl (fun w F hw hA hFG => c_madd _ (4096, 1, 2) _ _ _ (by omega) w hw hA hFG) ?_
                    have hlen := full_del_len (4096, 1, 2) hc1
                    simp only [wAdd_ok (show triRight (4096, 1, 2) = true by decide) (show ¬ (n : Int) ≤ ((mdel (full (4096, 1, 2) n) c).length : Int) by omega)]
                    refine r_val .none rfl (p_move rfl) ?_
                    refine r_val .none rfl (p_extract rfl rfl) ?_
                    refine r_val .none rfl (p_extract rfl rfl) ?_
                    refine r_val .none rfl (p_assign rfl) ?_
                    refine r_val .none rfl (p_assign rfl) ?_
                    refine r_nil ?_
                    refine e_next ?_
                    refine c_seq ?_
                    refine c_region ?_
                    refine r_val .none rfl (p_move rfl) ?_
                    refine r_val .none rfl (p_move rfl) ?_
                    refine r_callo (k := 2) (vs := [_, _]) .none rfl cl34 rfl rfl (fun w F hw hA hFG => c_mget _ _ _ _ _ w hw hA hFG) ?_
                    refine r_val .none rfl (p_move rfl) ?_
                    refine r_val .none rfl (p_extract rfl rfl) ?_
                    refine r_val .none rfl (p_extract rfl rfl) ?_
                    refine r_alloc .none rfl zr26 (IsRow.lit _) (fun b_3 => ?_)
                    refine r_stw (k := 0) .none sz26 rfl rfl (IsRow.lit _) (one_lit rfl rfl) rfl ?_
                    refine r_val .none rfl (p_assign rfl) ?_
                    refine r_nil ?_
                    refine e_next ?_
                    refine c_seq ?_
                    refine c_region ?_
                    refine r_val .none rfl (p_move rfl) ?_
                    refine r_val .none rfl (p_move rfl) ?_
                    refine r_val .none rfl (p_add rfl rfl (by omega)) ?_
                    refine r_val .none rfl (p_eq rfl rfl) ?_
                    refine r_val .none rfl (p_move rfl) ?_
                    refine' r_and (c := 102) (d := 105) [_, _, _] rfl (fun h_24 Q_25 hQ_26 => ?_) (fun h_24 Q_25 hQ_26 => ?_) ?_
                    rotate_left 1
                    · skip
                      replace h_24 := of_decide_eq_true h_24
                      refine r_val (.some rfl rfl) rfl (p_move rfl) ?_
                      refine r_val (.some rfl rfl) rfl (p_eq rfl rfl) ?_
                      refine r_val .none rfl (p_pick_t rfl rfl) ?_
                      refine r_nil (e_fin (d := 105) hQ_26 rfl (by repeat (first | exact .refl | refine .put rfl ?_ | refine .say rfl ?_ | refine .say2 rfl (by first | assumption | simp_all) ?_)))
                    · skip
                      repeat (first | refine r_skip rfl (.no rfl rfl) ?_ | refine r_skip rfl (.un rfl rfl) ?_)
                      refine r_val (by first | exact .none | exact .some rfl rfl) rfl (p_pick_f rfl rfl) ?_
                      refine r_nil (e_fin (d := 105) hQ_26 rfl (by repeat (first | exact .refl | refine .put rfl ?_ | refine .say rfl ?_ | refine .say2 rfl (by first | assumption | simp_all) ?_)))
                    refine r_val .none rfl (p_move rfl) ?_
                    refine' r_and (c := 106) (d := 109) [_, _, _] rfl (fun h_28 Q_29 hQ_30 => ?_) (fun h_28 Q_29 hQ_30 => ?_) ?_
                    rotate_left 1
                    · skip
                      try simp only [norms] at h_28
                      refine r_val (.some rfl rfl) rfl (p_move rfl) ?_
                      refine r_val (.some rfl rfl) rfl (p_not rfl) ?_
                      refine r_val .none rfl (p_pick_t rfl rfl) ?_
                      refine r_nil (e_fin (d := 109) hQ_30 rfl (by repeat (first | exact .refl | refine .put rfl ?_ | refine .say rfl ?_ | refine .say2 rfl (by first | assumption | simp_all) ?_)))
                    · skip
                      repeat (first | refine r_skip rfl (.no rfl rfl) ?_ | refine r_skip rfl (.un rfl rfl) ?_)
                      refine r_val (by first | exact .none | exact .some rfl rfl) rfl (p_pick_f rfl rfl) ?_
                      refine r_nil (e_fin (d := 109) hQ_30 rfl (by repeat (first | exact .refl | refine .put rfl ?_ | refine .say rfl ?_ | refine .say2 rfl (by first | assumption | simp_all) ?_)))
                    refine r_val .none rfl (p_move rfl) ?_
                    refine' r_and (c := 110) (d := 115) [_, _, _, _, _] rfl (fun h_32 Q_33 hQ_34 => ?_) (fun h_32 Q_33 hQ_34 => ?_) ?_
                    rotate_left 1
                    · skip
                      try simp only [norms] at h_32
                      refine r_val (.some rfl rfl) rfl (p_move rfl) ?_
                      refine r_callo (k := 3) (vs := [_]) (.some rfl rfl) rfl cl35 rfl rfl (fun w F hw hA hFG => c_mlen _ _ _ _ w hw hA hFG) ?_
                      refine r_val (.some rfl rfl) rfl (p_move rfl) ?_
                      refine r_val (.some rfl rfl) rfl (p_eq rfl rfl) ?_
                      refine r_val .none rfl (p_pick_t rfl rfl) ?_
                      refine r_nil (e_fin (d := 115) hQ_34 rfl (by repeat (first | exact .refl | refine .put rfl ?_ | refine .say rfl ?_ | refine .say2 rfl (by first | assumption | simp_all) ?_)))
                    · skip
                      repeat (first | refine r_skip rfl (.no rfl rfl) ?_ | refine r_skip rfl (.un rfl rfl) ?_)
                      refine r_val (by first | exact .none | exact .some rfl rfl) rfl (p_pick_f rfl rfl) ?_
                      refine r_nil (e_fin (d := 115) hQ_34 rfl (by repeat (first | exact .refl | refine .put rfl ?_ | refine .say rfl ?_ | refine .say2 rfl (by first | assumption | simp_all) ?_)))
                    refine r_val .none rfl (p_move rfl) ?_
                    refine' r_and (c := 116) (d := 122) [_, _, _, _, _, _] rfl (fun h_36 Q_37 hQ_38 => ?_) (fun h_36 Q_37 hQ_38 => ?_) ?_
                    rotate_left 1
                    · skip
                      try simp only [norms] at h_36
                      refine r_val (.some rfl rfl) rfl (p_move rfl) ?_
                      refine r_callo (k := 3) (vs := [_]) (.some rfl rfl) rfl cl36 rfl rfl (fun w F hw hA hFG => c_mlast _ _ _ _ w hw hA hFG) ?_
                      refine r_val (.some rfl rfl) rfl (p_move rfl) ?_
                      refine r_val (.some rfl rfl) rfl (p_add rfl rfl (by omega)) ?_
                      refine r_val (.some rfl rfl) rfl (p_eq rfl rfl) ?_
                      refine r_val .none rfl (p_pick_t rfl rfl) ?_
                      refine r_nil (e_fin (d := 122) hQ_38 rfl (by repeat (first | exact .refl | refine .put rfl ?_ | refine .say rfl ?_ | refine .say2 rfl (by first | assumption | simp_all) ?_)))
                    · skip
                      repeat (first | refine r_skip rfl (.no rfl rfl) ?_ | refine r_skip rfl (.un rfl rfl) ?_)
                      refine r_val (by first | exact .none | exact .some rfl rfl) rfl (p_pick_f rfl rfl) ?_
                      refine r_nil (e_fin (d := 122) hQ_38 rfl (by repeat (first | exact .refl | refine .put rfl ?_ | refine .say rfl ?_ | refine .say2 rfl (by first | assumption | simp_all) ?_)))
                    refine r_val .none rfl (p_move rfl) ?_
                    refine' r_and (c := 123) (d := 125) [_, _] rfl (fun h_40 Q_41 hQ_42 => ?_) (fun h_40 Q_41 hQ_42 => ?_) ?_
                    rotate_left 1
                    · skip
                      try simp only [norms] at h_40
                      refine r_call (vs := []) (.some rfl rfl) rfl cl37 rfl (fun w hw => c_awake11 w) ?_
                      refine r_val .none rfl (p_pick_t rfl rfl) ?_
                      refine r_nil (e_fin (d := 125) hQ_42 rfl (by repeat (first | exact .refl | refine .put rfl ?_ | refine .say rfl ?_ | refine .say2 rfl (by first | assumption | simp_all) ?_)))
                    · skip
                      repeat (first | refine r_skip rfl (.no rfl rfl) ?_ | refine r_skip rfl (.un rfl rfl) ?_)
                      refine r_val (by first | exact .none | exact .some rfl rfl) rfl (p_pick_f rfl rfl) ?_
                      refine r_nil (e_fin (d := 125) hQ_42 rfl (by repeat (first | exact .refl | refine .put rfl ?_ | refine .say rfl ?_ | refine .say2 rfl (by first | assumption | simp_all) ?_)))
                    refine r_val .none rfl (p_assign rfl) ?_
                    refine r_nil ?_
                    refine e_next ?_
                    refine c_ret ?_
                    refine e_ret1 Try.results7 (.tmp rfl .nil) (fun w hm => ⟨?_, hm.since⟩)
                    first
                    | rfl
                    | (exfalso; rw [wAdd_ok (by decide) (by rw [full_len]; omega)] at hA1; simp at hA1; done)
                    | (exfalso; simp at hB; done)
                    | (exfalso; simp at hC; done)
                    | (clear hm; have hz : lkp (mdel (full (4096, 1, 2) n) c) ((n : Int) + 1) = none := (by rw [full_del_lkp, if_neg (by omega), if_neg (by omega)]); have hz2 : lkp (mdel (full (4096, 1, 2) n) c) c = none := (by rw [full_del_lkp, if_pos rfl]); simp [lkp_mput, hz, hz2, mput_len, show ¬ (n : Int) + 1 = c by omega]; omega)
                    )
              )
        )
end Go.Proofs.Ytinbigokigkfaaa
