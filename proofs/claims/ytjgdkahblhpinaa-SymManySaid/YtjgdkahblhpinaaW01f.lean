/- Walks: what Go functions of this chapter come to, each as a function on plain data; no condition but those that each theorem names. Printed by a program of this work (gen.py). -/
import Derived.Test.YtjgdkahblhpinaaW01c
import Derived.Test.YtjgdkahblhpinaaGxConv
import Derived.Test.YtjgdkahblhpinaaPl01b
import Derived.Test.YtjgdkahblhpinaaRows
namespace Go.Proofs.Ytjgdkahblhpinaa
open Go.Gx Go.Gx.T1
theorem bs5_30i2_1i2_2i2 (a0 : IntKind) (a1 : Int) (a2 : IntKind) (a3 : Int) (a4 : IntKind) (a5 : Int) : Instr.fill (fun i => some (i * 1, 1)) ((Array.range (3 * 1)).map ((Value.int .u8 0).cells[· % (Value.int .u8 0).cells.size]!)) [(0, Value.int a0 a1), (1, Value.int a2 a3), (2, Value.int a4 a5)] = some #[Value.int a0 a1, Value.int a2 a3, Value.int a4 a5] := by
  kernel_rfl
theorem el5 : ElemIs Try.prog 5 1 1 (Value.int .u8 0) := by
  unfold ElemIs
  kernel_rfl
theorem c_SymMany (s : ByteArray)  (w : World)  :
    Calls Try.prog 6 #[Value.string s] w (Ret fun r w' => r = Value.bool true ∧ Since nX w w') := by
  refine enter (args := [_]) (X := nX) (G := (fun _ => none)) (l := [(0, Value.string s)]) Try.func6 rfl Try.ntmps6 (fun _ _ h => by cases h) ⟨rfl, trivial⟩ (Nat.le_of_ble_eq_true rfl) ?_
  refine c_seq ?_
  refine c_region ?_
  refine r_val .none rfl (p_assign rfl) ?_
  refine r_nil ?_
  refine e_next ?_
  refine c_seq ?_
  refine c_region ?_
  refine r_callnew (vs := []) .none rfl cl26 rfl (fun w hw => c_tnew w hw) (fun p_1 => ?_)
  refine r_val .none rfl (p_assign rfl) ?_
  refine r_nil ?_
  refine e_next ?_
  refine c_seq ?_
  refine c_seq ?_
  refine c_region ?_
  refine r_val .none rfl (p_move rfl) ?_
  refine r_val .none rfl (p_len_str Try.underlying9 rfl) ?_
  refine r_val .none rfl (p_gt rfl rfl) ?_
  refine r_val .none rfl (p_move rfl) ?_
  refine' r_or (c := 16) (d := 19) [_, _, _] rfl (fun h_2 Q_3 hQ_4 => ?_) (fun h_2 Q_3 hQ_4 => ?_) ?_
  rotate_left 1
  · skip
    replace h_2 := of_decide_eq_false h_2
    refine r_val (.some rfl rfl) rfl (p_move rfl) ?_
    refine r_val (.some rfl rfl) rfl (p_eq_ptr Try.underlying45 (by first | exact .inr rfl | exact .inl rfl) rfl rfl) ?_
    refine r_say (d := 18) (v := Value.bool false) rfl ?_
    refine r_val .none rfl (p_pick_f rfl rfl) ?_
    refine r_nil (e_fin (d := 19) hQ_4 rfl (by repeat (first | exact .refl | refine .put rfl ?_ | refine .say rfl ?_ | refine .say2 rfl (by first | assumption | simp_all) ?_)))
  · skip
    repeat (first | refine r_skip rfl (.no rfl rfl) ?_ | refine r_skip rfl (.un rfl rfl) ?_)
    refine r_val (by first | exact .none | exact .some rfl rfl) rfl (p_pick_t rfl rfl) ?_
    refine r_nil (e_fin (d := 19) hQ_4 rfl (by repeat (first | exact .refl | refine .put rfl ?_ | refine .say rfl ?_ | refine .say2 rfl (by first | assumption | simp_all) ?_)))
  refine r_nil ?_
  refine e_next ?_
  refine c_split (d := 19) rfl (fun h_6 => ?_) (fun h_6 => ?_)
  · skip
    try simp only [norms] at h_6
    first
      | (exfalso; omega)
      | (
        refine c_cond_t rfl ?_
        refine c_seq ?_
        refine c_region ?_
        refine r_val .none rfl (p_move rfl) ?_
        refine r_val .none rfl (p_ne_ptr Try.underlying45 (by first | exact .inr rfl | exact .inl rfl) rfl rfl) ?_
        refine r_say (d := 21) (v := Value.bool true) rfl ?_
        refine r_val .none rfl (p_move rfl) ?_
        refine r_call (vs := []) (.some rfl rfl) rfl cl18 rfl (fun w hw => c_awake1 w) ?_
        refine r_val .none rfl (p_pick_t rfl rfl) ?_
        refine r_val .none rfl (p_assign rfl) ?_
        refine r_nil ?_
        refine e_next ?_
        refine c_ret ?_
        refine e_ret_then ?_
        refine e_ret1 Try.results6 (.tmp rfl .nil) (fun w hm => ⟨?_, hm.since⟩)
        first
        | rfl
        | (exfalso; rw [intern_nm (by omega)] at hA; simp at hA; done)
        | (rw [intern_1 ‹symRight s = false›]; simp; done)
        | (rw [intern_2 hR hF]; simp; done)
        | (rw [intern_3 hR hF (show 4096 ≤ (nms k).length by rw [nms_len]; omega)]; simp [nms_len]; done)
        | (rw [intern_3 hR hF (show 4096 ≤ (nms k).length by rw [nms_len]; omega)]; simp [nms_len]; omega)
        )
  · skip
    try simp only [norms] at h_6
    first
      | (exfalso; omega)
      | (
        refine c_cond_f rfl ?_
        refine c_skip ?_
        refine e_next ?_
        refine c_seq ?_
        refine c_seq ?_
        refine c_region ?_
        refine r_val .none rfl (p_move rfl) ?_
        refine r_nil ?_
        refine e_next ?_
        refine c_block ?_
        refine c_name (d := 0) rfl (fun u_7 hu_7 => ?_)
        refine c_name (d := 3) rfl (fun u_8 hu_8 => ?_)
        refine c_loop (σ := Nat) (fun k => [(25, Value.int .i64 (k : Nat)), (0, u_7), (3, u_8)]) (fun k => [tabA p_1 (nms k)]) (fun _ => _) (fun k => k ≤ 4096) (fun k => 4096 - k) (0) (by omega) rfl ⟨rfl, rfl, rfl, trivial⟩ (.keep (fun _ _ h => h) (.nil)) (fun k hphi => ?_)
        subst hu_7
        subst hu_8
        refine c_seq ?_
        refine c_region ?_
        refine r_val .none rfl (p_lt rfl rfl) ?_
        refine r_nil ?_
        refine e_next ?_
        refine c_seq ?_
        refine c_splitd (d := 26) rfl (fun h_9 => ?_) (fun h_9 => ?_)
        · skip
          first
            | (exfalso; omega)
            | (
              refine c_cond_t rfl ?_
              refine c_skip ?_
              refine e_next ?_
              refine c_seq ?_
              refine c_block ?_
              refine c_seq ?_
              refine c_region ?_
              refine r_val .none rfl (p_move rfl) ?_
              refine r_val .none rfl (p_assign rfl) ?_
              refine r_nil ?_
              refine e_next ?_
              refine c_seq ?_
              refine c_region ?_
              refine r_val .none rfl (p_move rfl) ?_
              refine r_val .none rfl (p_quo rfl rfl ⟨⟨by omega, by omega⟩, by omega⟩) ?_
              refine r_val .none rfl (p_add rfl rfl (by omega)) ?_
              refine r_val .none rfl (p_conv Try.underlying3 Try.underlying5 rfl (IntWalk.u8_in _ (by omega))) ?_
              refine r_val .none rfl (p_move rfl) ?_
              refine r_val .none rfl (p_quo rfl rfl ⟨⟨by omega, by omega⟩, by omega⟩) ?_
              refine r_val .none rfl (p_rem rfl rfl (by omega)) ?_
              refine r_val .none rfl (p_add rfl rfl (by omega)) ?_
              refine r_val .none rfl (p_conv Try.underlying3 Try.underlying5 rfl (IntWalk.u8_in _ (by omega))) ?_
              refine r_val .none rfl (p_move rfl) ?_
              refine r_val .none rfl (p_rem rfl rfl (by omega)) ?_
              refine r_val .none rfl (p_add rfl rfl (by omega)) ?_
              refine r_val .none rfl (p_conv Try.underlying3 Try.underlying5 rfl (IntWalk.u8_in _ (by omega))) ?_
              refine r_bslice (vs := [(0, Value.int _ _), (1, Value.int _ _), (2, Value.int _ _)]) (c := #[_, _, _]) .none rfl Try.underlying47 el5 rfl rfl rfl (bs5_30i2_1i2_2i2 _ _ _ _ _ _) (IsRow.lit _) (fun b_1 => ?_)
              refine r_val .none rfl (p_conv_bytes3 (k := 0) Try.underlying47 Try.underlying5 Try.underlying9 rfl rfl rfl rfl rfl) ?_
              refine r_say (d := 42) (v := Value.string (nm k)) (congrArg (fun x => some (Value.string x)) (nm_eq k)) ?_
              refine r_val .none rfl (p_assign rfl) ?_
              refine r_nil ?_
              refine e_next ?_
              refine c_seq ?_
              refine c_region ?_
              refine r_val .none rfl (p_move rfl) ?_
              refine r_val .none rfl (p_move rfl) ?_
              refine r_callo (k := 1) (vs := [_, _]) .none rfl cl27 rfl rfl (fun w F hw hA hFG => c_intern _ _ _ w hw hA hFG) ?_
              refine r_val .none rfl (p_move rfl) ?_
              refine r_val .none rfl (p_extract rfl rfl) ?_
              refine r_val .none rfl (p_extract rfl rfl) ?_
              refine r_val .none rfl (p_assign rfl) ?_
              refine r_val .none rfl (p_assign rfl) ?_
              refine r_nil ?_
              refine e_next ?_
              refine c_seq ?_
              refine c_region ?_
              refine r_val .none rfl (p_move rfl) ?_
              refine r_val .none rfl (p_move rfl) ?_
              refine r_val .none rfl (p_add rfl rfl (by omega)) ?_
              refine r_val .none rfl (p_ne rfl rfl) ?_
              refine r_val .none rfl (p_move rfl) ?_
              refine' r_or (c := 53) (d := 56) [_, _, _] rfl (fun h_10 Q_11 hQ_12 => ?_) (fun h_10 Q_11 hQ_12 => ?_) ?_
              rotate_left 1
              · skip
                replace h_10 := of_decide_eq_false h_10
                refine r_val (.some rfl rfl) rfl (p_move rfl) ?_
                refine r_val (.some rfl rfl) rfl (p_ne rfl rfl) ?_
                refine r_val .none rfl (p_pick_f rfl rfl) ?_
                refine r_nil (e_fin (d := 56) hQ_12 rfl (by repeat (first | exact .refl | refine .put rfl ?_ | refine .say rfl ?_ | refine .say2 rfl (by first | assumption | simp_all) ?_)))
              · skip
                repeat (first | refine r_skip rfl (.no rfl rfl) ?_ | refine r_skip rfl (.un rfl rfl) ?_)
                refine r_val (by first | exact .none | exact .some rfl rfl) rfl (p_pick_t rfl rfl) ?_
                refine r_nil (e_fin (d := 56) hQ_12 rfl (by repeat (first | exact .refl | refine .put rfl ?_ | refine .say rfl ?_ | refine .say2 rfl (by first | assumption | simp_all) ?_)))
              refine r_nil ?_
              refine e_next ?_
              refine c_split (d := 56) rfl (fun h_14 => ?_) (fun h_14 => ?_)
              · skip
                try simp only [norms] at h_14
                have hA := h_14
                first
                  | (exfalso; omega)
                  | (
                    refine c_cond_t rfl ?_
                    refine c_seq ?_
                    refine c_region ?_
                    refine r_val .none rfl (p_assign rfl) ?_
                    refine r_nil ?_
                    refine e_next ?_
                    refine c_ret ?_
                    refine e_ret_block ?_
                    refine e_ret_then ?_
                    refine e_ret_then ?_
                    refine e_ret_block ?_
                    refine e_ret_then ?_
                    refine e_ret1 Try.results6 (.tmp rfl .nil) (fun w hm => ⟨?_, hm.since⟩)
                    first
                    | rfl
                    | (exfalso; rw [intern_nm (by omega)] at hA; simp at hA; done)
                    | (rw [intern_1 ‹symRight s = false›]; simp; done)
                    | (rw [intern_2 hR hF]; simp; done)
                    | (rw [intern_3 hR hF (show 4096 ≤ (nms k).length by rw [nms_len]; omega)]; simp [nms_len]; done)
                    | (rw [intern_3 hR hF (show 4096 ≤ (nms k).length by rw [nms_len]; omega)]; simp [nms_len]; omega)
                    )
              · skip
                try simp only [norms] at h_14
                first
                  | (exfalso; omega)
                  | (
                    refine c_cond_f rfl ?_
                    refine c_skip ?_
                    refine e_norm_block ?_
                    refine e_next ?_
                    refine c_region ?_
                    refine r_val .none rfl (p_add rfl rfl (by omega)) ?_
                    refine r_val .none rfl (p_move rfl) ?_
                    refine r_nil ?_
                    refine e_round (k + 1) ⟨by omega, by omega⟩ rfl ⟨rfl, rfl, rfl, trivial⟩ (.drop (.keep (fun _ _ h => by rw [intern_nm (by omega)] at h; exact h) (.nil)))
                    )
              )
        · skip
          first
            | (exfalso; omega)
            | (
              refine c_cond_f rfl ?_
              refine c_exit ?_
              refine e_exit_then ?_
              refine e_exit_then ?_
              refine e_exit_block ?_
              refine e_next ?_
              refine c_seq ?_
              refine c_region ?_
              refine r_val .none rfl (p_move rfl) ?_
              refine r_val .none rfl (p_move rfl) ?_
              refine r_callo (k := 0) (vs := [_, _]) .none rfl cl27 rfl rfl (fun w F hw hA hFG => c_intern _ _ _ w hw hA hFG) ?_
              simp only [intern_full (show 4096 ≤ (nms k).length by rw [nms_len]; omega)]
              refine r_val .none rfl (p_move rfl) ?_
              refine r_val .none rfl (p_extract rfl rfl) ?_
              refine r_val .none rfl (p_extract rfl rfl) ?_
              refine r_val .none rfl (p_assign rfl) ?_
              refine r_val .none rfl (p_assign rfl) ?_
              refine r_nil ?_
              refine e_next ?_
              refine c_seq ?_
              refine c_region ?_
              refine r_val .none rfl (p_move rfl) ?_
              refine r_val .none rfl (p_move rfl) ?_
              refine r_callo (k := 0) (vs := [_, _]) .none rfl cl28 rfl rfl (fun w F hw hA hFG => c_find _ _ _ w hw hA hFG) ?_
              refine r_val .none rfl (p_move rfl) ?_
              refine r_val .none rfl (p_extract rfl rfl) ?_
              refine r_val .none rfl (p_extract rfl rfl) ?_
              refine r_val .none rfl (p_assign rfl) ?_
              refine r_val .none rfl (p_assign rfl) ?_
              refine r_nil ?_
              refine e_next ?_
              refine c_seq ?_
              refine c_block ?_
              refine c_seq ?_
              refine c_region ?_
              refine r_val .none rfl (p_move rfl) ?_
              refine r_call (vs := [_]) .none rfl cl20 rfl (fun w hw => c_rsymRight _ w) ?_
              refine r_val .none rfl (p_not rfl) ?_
              refine r_val .none rfl (p_assign rfl) ?_
              refine r_nil ?_
              refine e_next ?_
              refine c_splitn (d := 70) rfl (fun h_15 => ?_) (fun h_15 => ?_)
              · skip
                first
                  | (exfalso; omega)
                  | (
                    refine c_cond_t rfl ?_
                    refine c_seq ?_
                    refine c_region ?_
                    refine r_val .none rfl (p_move rfl) ?_
                    refine r_val .none rfl (p_eq rfl rfl) ?_
                    refine r_val .none rfl (p_move rfl) ?_
                    refine' r_and (c := 76) (d := 79) [_, _, _] rfl (fun h_16 Q_17 hQ_18 => ?_) (fun h_16 Q_17 hQ_18 => ?_) ?_
                    rotate_left 1
                    · skip
                      replace h_16 := of_decide_eq_true h_16
                      refine r_val (.some rfl rfl) rfl (p_move rfl) ?_
                      refine r_val (.some rfl rfl) rfl (p_eq rfl rfl) ?_
                      refine r_val .none rfl (p_pick_t rfl rfl) ?_
                      refine r_nil (e_fin (d := 79) hQ_18 rfl (by repeat (first | exact .refl | refine .put rfl ?_ | refine .say rfl ?_ | refine .say2 rfl (by first | assumption | simp_all) ?_)))
                    · skip
                      repeat (first | refine r_skip rfl (.no rfl rfl) ?_ | refine r_skip rfl (.un rfl rfl) ?_)
                      refine r_val (by first | exact .none | exact .some rfl rfl) rfl (p_pick_f rfl rfl) ?_
                      refine r_nil (e_fin (d := 79) hQ_18 rfl (by repeat (first | exact .refl | refine .put rfl ?_ | refine .say rfl ?_ | refine .say2 rfl (by first | assumption | simp_all) ?_)))
                    refine r_val .none rfl (p_move rfl) ?_
                    refine' r_and (c := 80) (d := 82) [_, _] rfl (fun h_20 Q_21 hQ_22 => ?_) (fun h_20 Q_21 hQ_22 => ?_) ?_
                    rotate_left 1
                    · skip
                      try simp only [norms] at h_20
                      refine r_call (vs := []) (.some rfl rfl) rfl cl18 rfl (fun w hw => c_awake1 w) ?_
                      refine r_val .none rfl (p_pick_t rfl rfl) ?_
                      refine r_nil (e_fin (d := 82) hQ_22 rfl (by repeat (first | exact .refl | refine .put rfl ?_ | refine .say rfl ?_ | refine .say2 rfl (by first | assumption | simp_all) ?_)))
                    · skip
                      repeat (first | refine r_skip rfl (.no rfl rfl) ?_ | refine r_skip rfl (.un rfl rfl) ?_)
                      refine r_val (by first | exact .none | exact .some rfl rfl) rfl (p_pick_f rfl rfl) ?_
                      refine r_nil (e_fin (d := 82) hQ_22 rfl (by repeat (first | exact .refl | refine .put rfl ?_ | refine .say rfl ?_ | refine .say2 rfl (by first | assumption | simp_all) ?_)))
                    refine r_val .none rfl (p_assign rfl) ?_
                    refine r_nil ?_
                    refine e_next ?_
                    refine c_ret ?_
                    refine e_ret_block ?_
                    refine e_ret_then ?_
                    refine e_ret1 Try.results6 (.tmp rfl .nil) (fun w hm => ⟨?_, hm.since⟩)
                    first
                    | rfl
                    | (exfalso; rw [intern_nm (by omega)] at hA; simp at hA; done)
                    | (rw [intern_1 ‹symRight s = false›]; simp; done)
                    | (rw [intern_2 hR hF]; simp; done)
                    | (rw [intern_3 hR hF (show 4096 ≤ (nms k).length by rw [nms_len]; omega)]; simp [nms_len]; done)
                    | (rw [intern_3 hR hF (show 4096 ≤ (nms k).length by rw [nms_len]; omega)]; simp [nms_len]; omega)
                    )
              · skip
                have hR := h_15
                first
                  | (exfalso; omega)
                  | (
                    refine c_cond_f rfl ?_
                    refine c_seq ?_
                    refine c_region ?_
                    refine r_val .none rfl (p_move rfl) ?_
                    refine r_val .none rfl (p_assign rfl) ?_
                    refine r_nil ?_
                    refine e_next ?_
                    refine c_split (d := 83) rfl (fun h_24 => ?_) (fun h_24 => ?_)
                    · skip
                      have hF := of_decide_eq_true h_24
                      first
                        | (exfalso; omega)
                        | (
                          refine c_cond_t rfl ?_
                          refine c_seq ?_
                          refine c_region ?_
                          refine r_val .none rfl (p_move rfl) ?_
                          refine r_val .none rfl (p_move rfl) ?_
                          refine r_val .none rfl (p_eq rfl rfl) ?_
                          refine r_val .none rfl (p_move rfl) ?_
                          refine' r_and (c := 88) (d := 91) [_, _, _] rfl (fun h_25 Q_26 hQ_27 => ?_) (fun h_25 Q_26 hQ_27 => ?_) ?_
                          rotate_left 1
                          · skip
                            replace h_25 := of_decide_eq_true h_25
                            refine r_val (.some rfl rfl) rfl (p_move rfl) ?_
                            refine r_val (.some rfl rfl) rfl (p_eq rfl rfl) ?_
                            refine r_val .none rfl (p_pick_t rfl rfl) ?_
                            refine r_nil (e_fin (d := 91) hQ_27 rfl (by repeat (first | exact .refl | refine .put rfl ?_ | refine .say rfl ?_ | refine .say2 rfl (by first | assumption | simp_all) ?_)))
                          · skip
                            repeat (first | refine r_skip rfl (.no rfl rfl) ?_ | refine r_skip rfl (.un rfl rfl) ?_)
                            refine r_val (by first | exact .none | exact .some rfl rfl) rfl (p_pick_f rfl rfl) ?_
                            refine r_nil (e_fin (d := 91) hQ_27 rfl (by repeat (first | exact .refl | refine .put rfl ?_ | refine .say rfl ?_ | refine .say2 rfl (by first | assumption | simp_all) ?_)))
                          refine r_val .none rfl (p_move rfl) ?_
                          refine' r_and (c := 92) (d := 94) [_, _] rfl (fun h_29 Q_30 hQ_31 => ?_) (fun h_29 Q_30 hQ_31 => ?_) ?_
                          rotate_left 1
                          · skip
                            try simp only [norms] at h_29
                            refine r_call (vs := []) (.some rfl rfl) rfl cl18 rfl (fun w hw => c_awake1 w) ?_
                            refine r_val .none rfl (p_pick_t rfl rfl) ?_
                            refine r_nil (e_fin (d := 94) hQ_31 rfl (by repeat (first | exact .refl | refine .put rfl ?_ | refine .say rfl ?_ | refine .say2 rfl (by first | assumption | simp_all) ?_)))
                          · skip
                            repeat (first | refine r_skip rfl (.no rfl rfl) ?_ | refine r_skip rfl (.un rfl rfl) ?_)
                            refine r_val (by first | exact .none | exact .some rfl rfl) rfl (p_pick_f rfl rfl) ?_
                            refine r_nil (e_fin (d := 94) hQ_31 rfl (by repeat (first | exact .refl | refine .put rfl ?_ | refine .say rfl ?_ | refine .say2 rfl (by first | assumption | simp_all) ?_)))
                          refine r_val .none rfl (p_assign rfl) ?_
                          refine r_nil ?_
                          refine e_next ?_
                          refine c_ret ?_
                          refine e_ret_block ?_
                          refine e_ret_then ?_
                          refine e_ret1 Try.results6 (.tmp rfl .nil) (fun w hm => ⟨?_, hm.since⟩)
                          first
                          | rfl
                          | (exfalso; rw [intern_nm (by omega)] at hA; simp at hA; done)
                          | (rw [intern_1 ‹symRight s = false›]; simp; done)
                          | (rw [intern_2 hR hF]; simp; done)
                          | (rw [intern_3 hR hF (show 4096 ≤ (nms k).length by rw [nms_len]; omega)]; simp [nms_len]; done)
                          | (rw [intern_3 hR hF (show 4096 ≤ (nms k).length by rw [nms_len]; omega)]; simp [nms_len]; omega)
                          )
                    · skip
                      have hF := of_decide_eq_false h_24
                      first
                        | (exfalso; omega)
                        | (
                          refine c_cond_f rfl ?_
                          refine c_skip ?_
                          refine e_norm_block ?_
                          refine e_next ?_
                          refine c_seq ?_
                          refine c_region ?_
                          refine r_val .none rfl (p_move rfl) ?_
                          refine r_val .none rfl (p_eq rfl rfl) ?_
                          refine r_val .none rfl (p_move rfl) ?_
                          refine' r_and (c := 97) (d := 100) [_, _, _] rfl (fun h_33 Q_34 hQ_35 => ?_) (fun h_33 Q_34 hQ_35 => ?_) ?_
                          rotate_left 1
                          · skip
                            replace h_33 := of_decide_eq_true h_33
                            refine r_val (.some rfl rfl) rfl (p_move rfl) ?_
                            refine r_val (.some rfl rfl) rfl (p_eq rfl rfl) ?_
                            refine r_val .none rfl (p_pick_t rfl rfl) ?_
                            refine r_nil (e_fin (d := 100) hQ_35 rfl (by repeat (first | exact .refl | refine .put rfl ?_ | refine .say rfl ?_ | refine .say2 rfl (by first | assumption | simp_all) ?_)))
                          · skip
                            repeat (first | refine r_skip rfl (.no rfl rfl) ?_ | refine r_skip rfl (.un rfl rfl) ?_)
                            refine r_val (by first | exact .none | exact .some rfl rfl) rfl (p_pick_f rfl rfl) ?_
                            refine r_nil (e_fin (d := 100) hQ_35 rfl (by repeat (first | exact .refl | refine .put rfl ?_ | refine .say rfl ?_ | refine .say2 rfl (by first | assumption | simp_all) ?_)))
                          refine r_val .none rfl (p_move rfl) ?_
                          refine' r_and (c := 101) (d := 105) [_, _, _, _] rfl (fun h_37 Q_38 hQ_39 => ?_) (fun h_37 Q_38 hQ_39 => ?_) ?_
                          rotate_left 1
                          · skip
                            try simp only [norms] at h_37
                            refine r_val (.some rfl rfl) rfl (p_move rfl) ?_
                            refine r_callo (k := 0) (vs := [_]) (.some rfl rfl) rfl cl29 rfl rfl (fun w F hw hA hFG => c_tlen _ _ w hw hA hFG) ?_
                            refine r_val (.some rfl rfl) rfl (p_eq rfl rfl) ?_
                            refine r_val .none rfl (p_pick_t rfl rfl) ?_
                            refine r_nil (e_fin (d := 105) hQ_39 rfl (by repeat (first | exact .refl | refine .put rfl ?_ | refine .say rfl ?_ | refine .say2 rfl (by first | assumption | simp_all) ?_)))
                          · skip
                            repeat (first | refine r_skip rfl (.no rfl rfl) ?_ | refine r_skip rfl (.un rfl rfl) ?_)
                            refine r_val (by first | exact .none | exact .some rfl rfl) rfl (p_pick_f rfl rfl) ?_
                            refine r_nil (e_fin (d := 105) hQ_39 rfl (by repeat (first | exact .refl | refine .put rfl ?_ | refine .say rfl ?_ | refine .say2 rfl (by first | assumption | simp_all) ?_)))
                          refine r_val .none rfl (p_move rfl) ?_
                          refine' r_and (c := 106) (d := 108) [_, _] rfl (fun h_41 Q_42 hQ_43 => ?_) (fun h_41 Q_42 hQ_43 => ?_) ?_
                          rotate_left 1
                          · skip
                            try simp only [norms] at h_41
                            refine r_call (vs := []) (.some rfl rfl) rfl cl18 rfl (fun w hw => c_awake1 w) ?_
                            refine r_val .none rfl (p_pick_t rfl rfl) ?_
                            refine r_nil (e_fin (d := 108) hQ_43 rfl (by repeat (first | exact .refl | refine .put rfl ?_ | refine .say rfl ?_ | refine .say2 rfl (by first | assumption | simp_all) ?_)))
                          · skip
                            repeat (first | refine r_skip rfl (.no rfl rfl) ?_ | refine r_skip rfl (.un rfl rfl) ?_)
                            refine r_val (by first | exact .none | exact .some rfl rfl) rfl (p_pick_f rfl rfl) ?_
                            refine r_nil (e_fin (d := 108) hQ_43 rfl (by repeat (first | exact .refl | refine .put rfl ?_ | refine .say rfl ?_ | refine .say2 rfl (by first | assumption | simp_all) ?_)))
                          refine r_val .none rfl (p_assign rfl) ?_
                          refine r_nil ?_
                          refine e_next ?_
                          refine c_ret ?_
                          refine e_ret1 Try.results6 (.tmp rfl .nil) (fun w hm => ⟨?_, hm.since⟩)
                          first
                          | rfl
                          | (exfalso; rw [intern_nm (by omega)] at hA; simp at hA; done)
                          | (rw [intern_1 ‹symRight s = false›]; simp; done)
                          | (rw [intern_2 hR hF]; simp; done)
                          | (rw [intern_3 hR hF (show 4096 ≤ (nms k).length by rw [nms_len]; omega)]; simp [nms_len]; done)
                          | (rw [intern_3 hR hF (show 4096 ≤ (nms k).length by rw [nms_len]; omega)]; simp [nms_len]; omega)
                          )
                    )
              )
        )
end Go.Proofs.Ytjgdkahblhpinaa
