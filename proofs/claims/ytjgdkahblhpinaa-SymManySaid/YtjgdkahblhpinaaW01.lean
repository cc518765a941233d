/- Walks: what Go functions of this chapter come to, each as a function on plain data; no condition but those that each theorem names. Printed by a program of this work (gen.py). -/
import Derived.Test.YtjgdkahblhpinaaPl01
import Derived.Test.YtjgdkahblhpinaaRows
namespace Go.Proofs.Ytjgdkahblhpinaa
open Go.Gx Go.Gx.T1
theorem mixed : Try.prog.follows .mixedOrders = true := by
  kernel_rfl
def tabA (p : Nat) (l : List ByteArray) : Asrt := exA fun z : Value × Nat => starL [box p 2 77 (at_ [z.1, .map (some z.2)]), rowA z.1 9 1 l.length (l.flatMap sc), mapA z.2 kS kI (ix l 0)]
theorem c_symRight (s : ByteArray)  (w : World)  :
    Calls Try.prog 19 #[Value.string s] w (Ret fun r w' => r = Value.bool (symRight s) ∧ Since nX w w') := by
  refine enter (args := [_]) (X := nX) (G := (fun _ => none)) (l := [(0, Value.string s)]) Try.func19 rfl Try.ntmps19 (fun _ _ h => by cases h) ⟨rfl, trivial⟩ (Nat.le_of_ble_eq_true rfl) ?_
  refine c_seq ?_
  refine c_region ?_
  refine r_val .none rfl (p_assign rfl) ?_
  refine r_nil ?_
  refine e_next ?_
  refine c_seq ?_
  refine c_seq ?_
  refine c_region ?_
  refine r_val .none rfl (p_move rfl) ?_
  refine r_range_str .none rfl Try.underlying9 rfl (fun r_1 => ?_)
  refine r_nil ?_
  refine e_next ?_
  refine c_block ?_
  refine c_name (d := 0) rfl (fun u_2 hu_2 => ?_)
  refine c_name (d := 6) rfl (fun u_3 hu_3 => ?_)
  refine c_loop (σ := Nat) (fun k => [(0, u_2), (6, u_3)]) (fun k => [strI r_1 s k]) (fun _ => _) (fun k => k ≤ s.size ∧ okTo s k) (fun k => s.size - k) (0) ⟨Nat.zero_le _, okTo_zero s⟩ rfl ⟨rfl, rfl, trivial⟩ (.keep (fun _ _ h => h) (.nil)) (fun k hphi => ?_)
  subst hu_2
  subst hu_3
  refine c_seq ?_
  refine c_region ?_
  refine r_next_str (i := 0) .none rfl rfl rfl (fun h_4 => ?_) (fun h_4 => ?_)
  · skip
    have hk := h_4
    refine r_val .none rfl (p_extract rfl rfl) ?_
    refine r_nil ?_
    refine e_next ?_
    refine c_seq ?_
    refine c_cond_t rfl ?_
    refine c_skip ?_
    refine e_next ?_
    refine c_block ?_
    refine c_seq ?_
    refine c_region ?_
    refine r_val .none rfl (p_extract rfl rfl) ?_
    refine r_val .none rfl (p_assign rfl) ?_
    refine r_nil ?_
    refine e_next ?_
    refine c_block ?_
    refine c_seq ?_
    refine c_seq ?_
    refine c_region ?_
    refine r_val .none rfl (p_move rfl) ?_
    refine r_val .none rfl (p_ge rfl rfl) ?_
    refine r_val .none rfl (p_move rfl) ?_
    refine' r_and (c := 13) (d := 16) [_, _, _] rfl (fun h_5 Q_6 hQ_7 => ?_) (fun h_5 Q_6 hQ_7 => ?_) ?_
    rotate_left 1
    · skip
      replace h_5 := of_decide_eq_true h_5
      refine r_val (.some rfl rfl) rfl (p_move rfl) ?_
      refine r_val (.some rfl rfl) rfl (p_le rfl rfl) ?_
      refine r_val .none rfl (p_pick_t rfl rfl) ?_
      refine r_nil (e_fin (d := 16) hQ_7 rfl (by repeat (first | exact .refl | refine .put rfl ?_ | refine .say rfl ?_ | refine .say2 rfl (by first | assumption | simp_all) ?_)))
    · skip
      repeat (first | refine r_skip rfl (.no rfl rfl) ?_ | refine r_skip rfl (.un rfl rfl) ?_)
      refine r_val (by first | exact .none | exact .some rfl rfl) rfl (p_pick_f rfl rfl) ?_
      refine r_nil (e_fin (d := 16) hQ_7 rfl (by repeat (first | exact .refl | refine .put rfl ?_ | refine .say rfl ?_ | refine .say2 rfl (by first | assumption | simp_all) ?_)))
    refine r_val .none rfl (p_assign rfl) ?_
    refine r_nil ?_
    refine e_next ?_
    refine' c_join (c := 10) (D1 := [(10, .bool _)]) (D2 := [(10, .bool _)]) rfl (.cons .bool (.nil)) (fun h_11 hQ_12 => ?_) (fun h_11 hQ_12 => ?_) ?_
    rotate_left 2
    · skip
      try simp only [norms] at h_11
      refine c_skip ?_
      refine e_finD hQ_12 ⟨rfl, trivial⟩ (by repeat (first | exact .refl | refine .put rfl ?_ | refine .say rfl (by first | assumption | simp_all) ?_))
    · skip
      try simp only [norms] at h_11
      refine c_seq ?_
      refine c_region ?_
      refine r_val .none rfl (p_move rfl) ?_
      refine r_val .none rfl (p_ge rfl rfl) ?_
      refine r_val .none rfl (p_move rfl) ?_
      refine' r_and (c := 19) (d := 22) [_, _, _] rfl (fun h_13 Q_14 hQ_15 => ?_) (fun h_13 Q_14 hQ_15 => ?_) ?_
      rotate_left 1
      · skip
        replace h_13 := of_decide_eq_true h_13
        refine r_val (.some rfl rfl) rfl (p_move rfl) ?_
        refine r_val (.some rfl rfl) rfl (p_le rfl rfl) ?_
        refine r_val .none rfl (p_pick_t rfl rfl) ?_
        refine r_nil (e_fin (d := 22) hQ_15 rfl (by repeat (first | exact .refl | refine .put rfl ?_ | refine .say rfl ?_ | refine .say2 rfl (by first | assumption | simp_all) ?_)))
      · skip
        repeat (first | refine r_skip rfl (.no rfl rfl) ?_ | refine r_skip rfl (.un rfl rfl) ?_)
        refine r_val (by first | exact .none | exact .some rfl rfl) rfl (p_pick_f rfl rfl) ?_
        refine r_nil (e_fin (d := 22) hQ_15 rfl (by repeat (first | exact .refl | refine .put rfl ?_ | refine .say rfl ?_ | refine .say2 rfl (by first | assumption | simp_all) ?_)))
      refine r_val .none rfl (p_assign rfl) ?_
      refine r_nil ?_
      refine e_next ?_
      refine' c_join (c := 10) (D1 := [(10, .bool _)]) (D2 := [(10, .bool _)]) rfl (.cons .bool (.nil)) (fun h_19 hQ_20 => ?_) (fun h_19 hQ_20 => ?_) ?_
      rotate_left 2
      · skip
        try simp only [norms] at h_19
        refine c_skip ?_
        refine e_finD hQ_20 ⟨rfl, trivial⟩ (by repeat (first | exact .refl | refine .put rfl ?_ | refine .say rfl (by first | assumption | simp_all) ?_))
      · skip
        try simp only [norms] at h_19
        refine c_seq ?_
        refine c_region ?_
        refine r_val .none rfl (p_move rfl) ?_
        refine r_val .none rfl (p_ge rfl rfl) ?_
        refine r_val .none rfl (p_move rfl) ?_
        refine' r_and (c := 25) (d := 28) [_, _, _] rfl (fun h_21 Q_22 hQ_23 => ?_) (fun h_21 Q_22 hQ_23 => ?_) ?_
        rotate_left 1
        · skip
          replace h_21 := of_decide_eq_true h_21
          refine r_val (.some rfl rfl) rfl (p_move rfl) ?_
          refine r_val (.some rfl rfl) rfl (p_le rfl rfl) ?_
          refine r_val .none rfl (p_pick_t rfl rfl) ?_
          refine r_nil (e_fin (d := 28) hQ_23 rfl (by repeat (first | exact .refl | refine .put rfl ?_ | refine .say rfl ?_ | refine .say2 rfl (by first | assumption | simp_all) ?_)))
        · skip
          repeat (first | refine r_skip rfl (.no rfl rfl) ?_ | refine r_skip rfl (.un rfl rfl) ?_)
          refine r_val (by first | exact .none | exact .some rfl rfl) rfl (p_pick_f rfl rfl) ?_
          refine r_nil (e_fin (d := 28) hQ_23 rfl (by repeat (first | exact .refl | refine .put rfl ?_ | refine .say rfl ?_ | refine .say2 rfl (by first | assumption | simp_all) ?_)))
        refine r_val .none rfl (p_assign rfl) ?_
        refine r_nil ?_
        refine e_next ?_
        refine' c_join (c := 10) (D1 := [(10, .bool _)]) (D2 := [(10, .bool _)]) rfl (.cons .bool (.nil)) (fun h_27 hQ_28 => ?_) (fun h_27 hQ_28 => ?_) ?_
        rotate_left 2
        · skip
          try simp only [norms] at h_27
          refine c_skip ?_
          refine e_finD hQ_28 ⟨rfl, trivial⟩ (by repeat (first | exact .refl | refine .put rfl ?_ | refine .say rfl (by first | assumption | simp_all) ?_))
        · skip
          try simp only [norms] at h_27
          refine c_seq ?_
          refine c_region ?_
          refine r_val .none rfl (p_move rfl) ?_
          refine r_val .none rfl (p_eq rfl rfl) ?_
          refine r_val .none rfl (p_assign rfl) ?_
          refine r_nil ?_
          refine e_next ?_
          refine' c_join (c := 10) (D1 := [(10, .bool _)]) (D2 := [(10, .bool _)]) rfl (.cons .bool (.nil)) (fun h_31 hQ_32 => ?_) (fun h_31 hQ_32 => ?_) ?_
          rotate_left 2
          · skip
            replace h_31 := of_decide_eq_true h_31
            refine c_skip ?_
            refine e_finD hQ_32 ⟨rfl, trivial⟩ (by repeat (first | exact .refl | refine .put rfl ?_ | refine .say rfl (by first | assumption | simp_all) ?_))
          · skip
            replace h_31 := of_decide_eq_false h_31
            refine c_region ?_
            refine r_val .none rfl (p_move rfl) ?_
            refine r_val .none rfl (p_eq rfl rfl) ?_
            refine r_val .none rfl (p_assign rfl) ?_
            refine r_nil ?_
            refine e_finD hQ_32 ⟨rfl, trivial⟩ (by repeat (first | exact .refl | refine .put rfl ?_ | refine .say rfl (by first | assumption | simp_all) ?_))
          refine e_finD hQ_28 ⟨rfl, trivial⟩ (by repeat (first | exact .refl | refine .put rfl ?_ | refine .say rfl (by first | assumption | simp_all) ?_))
        refine e_finD hQ_20 ⟨rfl, trivial⟩ (by repeat (first | exact .refl | refine .put rfl ?_ | refine .say rfl (by first | assumption | simp_all) ?_))
      refine e_finD hQ_12 ⟨rfl, trivial⟩ (by repeat (first | exact .refl | refine .put rfl ?_ | refine .say rfl (by first | assumption | simp_all) ?_))
    refine e_next ?_
    refine c_split (d := 10) rfl (fun h_33 => ?_) (fun h_33 => ?_)
    · skip
      try simp only [norms] at h_33
      first
        | (exfalso; omega)
        | (
          refine c_cond_t rfl ?_
          refine c_skip ?_
          refine e_norm_block ?_
          refine e_norm_block ?_
          refine e_round (k + 1) ⟨⟨by omega, okTo_succ hphi.2 (decode_ok (by simp [okb]; omega)).1⟩, by omega⟩ rfl ⟨rfl, rfl, trivial⟩ (.keep (fun _ _ h => by rw [(decode_ok (by simp [okb]; omega)).2] at h; exact h) (.nil))
          )
    · skip
      try simp only [norms] at h_33
      first
        | (exfalso; omega)
        | (
          refine c_cond_f rfl ?_
          refine c_seq ?_
          refine c_region ?_
          refine r_val .none rfl (p_assign rfl) ?_
          refine r_nil ?_
          refine e_next ?_
          refine c_ret ?_
          refine e_ret_block ?_
          refine e_ret_block ?_
          refine e_ret_then ?_
          refine e_ret_block ?_
          refine e_ret_then ?_
          refine e_ret1 Try.results19 (.tmp rfl .nil) (fun w hm => ⟨?_, hm.since⟩)
          first
          | (have hb : okb (Utf8.decode s k).1 = false := (by simp [okb]; omega); rw [symRight_bad hk (decode_bad hb)]; done)
          | (have he : k = s.size := (by omega); subst he; by_cases hz : 1 ≤ s.size ∧ s.size ≤ 32; rw [symRight_yes hz hphi.2]; simp; (try omega); rw [symRight_size hz]; simp; (try omega))
          )
  · skip
    refine r_val .none rfl (p_extract rfl rfl) ?_
    refine r_nil ?_
    refine e_next ?_
    refine c_seq ?_
    refine c_cond_f rfl ?_
    refine c_exit ?_
    refine e_exit_then ?_
    refine e_exit_then ?_
    refine e_exit_block ?_
    refine e_next ?_
    refine c_seq ?_
    refine c_region ?_
    refine r_val .none rfl (p_move rfl) ?_
    refine r_val .none rfl (p_len_str Try.underlying9 rfl) ?_
    refine r_val .none rfl (p_ge rfl rfl) ?_
    refine r_val .none rfl (p_move rfl) ?_
    refine' r_and (c := 36) (d := 40) [_, _, _, _] rfl (fun h_34 Q_35 hQ_36 => ?_) (fun h_34 Q_35 hQ_36 => ?_) ?_
    rotate_left 1
    · skip
      replace h_34 := of_decide_eq_true h_34
      refine r_val (.some rfl rfl) rfl (p_move rfl) ?_
      refine r_val (.some rfl rfl) rfl (p_len_str Try.underlying9 rfl) ?_
      refine r_val (.some rfl rfl) rfl (p_le rfl rfl) ?_
      refine r_val .none rfl (p_pick_t rfl rfl) ?_
      refine r_nil (e_fin (d := 40) hQ_36 rfl (by repeat (first | exact .refl | refine .put rfl ?_ | refine .say rfl ?_ | refine .say2 rfl (by first | assumption | simp_all) ?_)))
    · skip
      repeat (first | refine r_skip rfl (.no rfl rfl) ?_ | refine r_skip rfl (.un rfl rfl) ?_)
      refine r_val (by first | exact .none | exact .some rfl rfl) rfl (p_pick_f rfl rfl) ?_
      refine r_nil (e_fin (d := 40) hQ_36 rfl (by repeat (first | exact .refl | refine .put rfl ?_ | refine .say rfl ?_ | refine .say2 rfl (by first | assumption | simp_all) ?_)))
    refine r_val .none rfl (p_assign rfl) ?_
    refine r_nil ?_
    refine e_next ?_
    refine c_ret ?_
    refine e_ret1 Try.results19 (.tmp rfl .nil) (fun w hm => ⟨?_, hm.since⟩)
    first
    | (have hb : okb (Utf8.decode s k).1 = false := (by simp [okb]; omega); rw [symRight_bad hk (decode_bad hb)]; done)
    | (have he : k = s.size := (by omega); subst he; by_cases hz : 1 ≤ s.size ∧ s.size ≤ 32; rw [symRight_yes hz hphi.2]; simp; (try omega); rw [symRight_size hz]; simp; (try omega))
theorem c_rsymRight (s : ByteArray)  (w : World)  :
    Calls Try.prog 20 #[Value.string s] w (Ret fun r w' => r = Value.bool (symRight s) ∧ Since nX w w') := by
  refine enter (args := [_]) (X := nX) (G := (fun _ => none)) (l := [(0, Value.string s)]) Try.func20 rfl Try.ntmps20 (fun _ _ h => by cases h) ⟨rfl, trivial⟩ (Nat.le_of_ble_eq_true rfl) ?_
  refine c_seq ?_
  refine c_region ?_
  refine r_val .none rfl (p_assign rfl) ?_
  refine r_nil ?_
  refine e_next ?_
  refine c_seq ?_
  refine c_seq ?_
  refine c_region ?_
  refine r_val .none rfl (p_move rfl) ?_
  refine r_val .none rfl (p_len_str Try.underlying9 rfl) ?_
  refine r_val .none rfl (p_lt rfl rfl) ?_
  refine r_val .none rfl (p_move rfl) ?_
  refine' r_or (c := 8) (d := 12) [_, _, _, _] rfl (fun h_1 Q_2 hQ_3 => ?_) (fun h_1 Q_2 hQ_3 => ?_) ?_
  rotate_left 1
  · skip
    replace h_1 := of_decide_eq_false h_1
    refine r_val (.some rfl rfl) rfl (p_move rfl) ?_
    refine r_val (.some rfl rfl) rfl (p_len_str Try.underlying9 rfl) ?_
    refine r_val (.some rfl rfl) rfl (p_gt rfl rfl) ?_
    refine r_val .none rfl (p_pick_f rfl rfl) ?_
    refine r_nil (e_fin (d := 12) hQ_3 rfl (by repeat (first | exact .refl | refine .put rfl ?_ | refine .say rfl ?_ | refine .say2 rfl (by first | assumption | simp_all) ?_)))
  · skip
    repeat (first | refine r_skip rfl (.no rfl rfl) ?_ | refine r_skip rfl (.un rfl rfl) ?_)
    refine r_val (by first | exact .none | exact .some rfl rfl) rfl (p_pick_t rfl rfl) ?_
    refine r_nil (e_fin (d := 12) hQ_3 rfl (by repeat (first | exact .refl | refine .put rfl ?_ | refine .say rfl ?_ | refine .say2 rfl (by first | assumption | simp_all) ?_)))
  refine r_nil ?_
  refine e_next ?_
  refine c_split (d := 12) rfl (fun h_5 => ?_) (fun h_5 => ?_)
  · skip
    try simp only [norms] at h_5
    first
      | (exfalso; omega)
      | (
        refine c_cond_t rfl ?_
        refine c_seq ?_
        refine c_region ?_
        refine r_val .none rfl (p_assign rfl) ?_
        refine r_nil ?_
        refine e_next ?_
        refine c_ret ?_
        refine e_ret_then ?_
        refine e_ret1 Try.results20 (.tmp rfl .nil) (fun w hm => ⟨?_, hm.since⟩)
        first
        | (rw [symRight_size (by omega)]; done)
        | (rw [symRight_bad (k := k) (by omega) (by simp [okb]; omega)]; done)
        | (have he : k = s.size := (by omega); subst he; rw [symRight_yes (by omega) hphi.2]; done)
        )
  · skip
    try simp only [norms] at h_5
    first
      | (exfalso; omega)
      | (
        refine c_cond_f rfl ?_
        refine c_skip ?_
        refine e_next ?_
        refine c_seq ?_
        refine c_seq ?_
        refine c_region ?_
        refine r_val .none rfl (p_assign rfl) ?_
        refine r_nil ?_
        refine e_next ?_
        refine c_block ?_
        refine c_name (d := 0) rfl (fun u_6 hu_6 => ?_)
        refine c_loop (σ := Nat) (fun k => [(3, Value.int .i64 (k : Int)), (0, u_6)]) (fun k => []) (fun _ => _) (fun k => k ≤ s.size ∧ okTo s k) (fun k => s.size - k) (0) ⟨Nat.zero_le _, okTo_zero s⟩ rfl ⟨rfl, rfl, trivial⟩ (.nil) (fun k hphi => ?_)
        subst hu_6
        refine c_seq ?_
        refine c_seq ?_
        refine c_region ?_
        refine r_val .none rfl (p_move rfl) ?_
        refine r_val .none rfl (p_move rfl) ?_
        refine r_val .none rfl (p_len_str Try.underlying9 rfl) ?_
        refine r_val .none rfl (p_lt rfl rfl) ?_
        refine r_nil ?_
        refine e_next ?_
        refine c_splitd (d := 16) rfl (fun h_7 => ?_) (fun h_7 => ?_)
        · skip
          first
            | (exfalso; omega)
            | (
              refine c_cond_t rfl ?_
              refine c_skip ?_
              refine e_next ?_
              refine c_seq ?_
              refine c_block ?_
              refine c_seq ?_
              refine c_region ?_
              refine r_val .none rfl (p_move rfl) ?_
              refine r_val .none rfl (p_move rfl) ?_
              refine r_val .none rfl (p_index_str Try.underlying9 rfl rfl (by first | exact of_decide_eq_true rfl | omega)) ?_
              refine r_val .none rfl (p_assign rfl) ?_
              refine r_nil ?_
              refine e_next ?_
              refine c_seq ?_
              refine c_region ?_
              refine r_val .none rfl (p_move rfl) ?_
              refine r_val .none rfl (p_ge rfl rfl) ?_
              refine r_val .none rfl (p_move rfl) ?_
              refine' r_and (c := 24) (d := 27) [_, _, _] rfl (fun h_8 Q_9 hQ_10 => ?_) (fun h_8 Q_9 hQ_10 => ?_) ?_
              rotate_left 1
              · skip
                replace h_8 := of_decide_eq_true h_8
                refine r_val (.some rfl rfl) rfl (p_move rfl) ?_
                refine r_val (.some rfl rfl) rfl (p_le rfl rfl) ?_
                refine r_val .none rfl (p_pick_t rfl rfl) ?_
                refine r_nil (e_fin (d := 27) hQ_10 rfl (by repeat (first | exact .refl | refine .put rfl ?_ | refine .say rfl ?_ | refine .say2 rfl (by first | assumption | simp_all) ?_)))
              · skip
                repeat (first | refine r_skip rfl (.no rfl rfl) ?_ | refine r_skip rfl (.un rfl rfl) ?_)
                refine r_val (by first | exact .none | exact .some rfl rfl) rfl (p_pick_f rfl rfl) ?_
                refine r_nil (e_fin (d := 27) hQ_10 rfl (by repeat (first | exact .refl | refine .put rfl ?_ | refine .say rfl ?_ | refine .say2 rfl (by first | assumption | simp_all) ?_)))
              refine r_val .none rfl (p_not rfl) ?_
              refine r_val .none rfl (p_move rfl) ?_
              refine' r_and (c := 29) (d := 37) [_, _, _, _, _, _, _, _] rfl (fun h_12 Q_13 hQ_14 => ?_) (fun h_12 Q_13 hQ_14 => ?_) ?_
              rotate_left 1
              · skip
                try simp only [norms] at h_12
                refine r_val (.some rfl rfl) rfl (p_move rfl) ?_
                refine r_val (.some rfl rfl) rfl (p_ge rfl rfl) ?_
                refine r_val (.some rfl rfl) rfl (p_move rfl) ?_
                refine' r_and (c := 32) (d := 35) [_, _, _] rfl (fun h_16 Q_17 hQ_18 => ?_) (fun h_16 Q_17 hQ_18 => ?_) ?_
                rotate_left 1
                · skip
                  replace h_16 := of_decide_eq_true h_16
                  refine r_val (.some rfl rfl) rfl (p_move rfl) ?_
                  refine r_val (.some rfl rfl) rfl (p_le rfl rfl) ?_
                  refine r_val (.some rfl rfl) rfl (p_pick_t rfl rfl) ?_
                  refine r_nil (e_fin (d := 35) hQ_18 rfl (by repeat (first | exact .refl | refine .put rfl ?_ | refine .say rfl ?_ | refine .say2 rfl (by first | assumption | simp_all) ?_)))
                · skip
                  repeat (first | refine r_skip rfl (.no rfl rfl) ?_ | refine r_skip rfl (.un rfl rfl) ?_)
                  refine r_val (by first | exact .none | exact .some rfl rfl) rfl (p_pick_f rfl rfl) ?_
                  refine r_nil (e_fin (d := 35) hQ_18 rfl (by repeat (first | exact .refl | refine .put rfl ?_ | refine .say rfl ?_ | refine .say2 rfl (by first | assumption | simp_all) ?_)))
                refine r_val (.some rfl rfl) rfl (p_not rfl) ?_
                refine r_val .none rfl (p_pick_t rfl rfl) ?_
                refine r_nil (e_fin (d := 37) hQ_14 rfl (by repeat (first | exact .refl | refine .put rfl ?_ | refine .say rfl ?_ | refine .say2 rfl (by first | assumption | simp_all) ?_)))
              · skip
                repeat (first | refine r_skip rfl (.no rfl rfl) ?_ | refine r_skip rfl (.un rfl rfl) ?_)
                refine r_val (by first | exact .none | exact .some rfl rfl) rfl (p_pick_f rfl rfl) ?_
                refine r_nil (e_fin (d := 37) hQ_14 rfl (by repeat (first | exact .refl | refine .put rfl ?_ | refine .say rfl ?_ | refine .say2 rfl (by first | assumption | simp_all) ?_)))
              refine r_val .none rfl (p_move rfl) ?_
              refine' r_and (c := 38) (d := 46) [_, _, _, _, _, _, _, _] rfl (fun h_20 Q_21 hQ_22 => ?_) (fun h_20 Q_21 hQ_22 => ?_) ?_
              rotate_left 1
              · skip
                try simp only [norms] at h_20
                refine r_val (.some rfl rfl) rfl (p_move rfl) ?_
                refine r_val (.some rfl rfl) rfl (p_ge rfl rfl) ?_
                refine r_val (.some rfl rfl) rfl (p_move rfl) ?_
                refine' r_and (c := 41) (d := 44) [_, _, _] rfl (fun h_24 Q_25 hQ_26 => ?_) (fun h_24 Q_25 hQ_26 => ?_) ?_
                rotate_left 1
                · skip
                  replace h_24 := of_decide_eq_true h_24
                  refine r_val (.some rfl rfl) rfl (p_move rfl) ?_
                  refine r_val (.some rfl rfl) rfl (p_le rfl rfl) ?_
                  refine r_val (.some rfl rfl) rfl (p_pick_t rfl rfl) ?_
                  refine r_nil (e_fin (d := 44) hQ_26 rfl (by repeat (first | exact .refl | refine .put rfl ?_ | refine .say rfl ?_ | refine .say2 rfl (by first | assumption | simp_all) ?_)))
                · skip
                  repeat (first | refine r_skip rfl (.no rfl rfl) ?_ | refine r_skip rfl (.un rfl rfl) ?_)
                  refine r_val (by first | exact .none | exact .some rfl rfl) rfl (p_pick_f rfl rfl) ?_
                  refine r_nil (e_fin (d := 44) hQ_26 rfl (by repeat (first | exact .refl | refine .put rfl ?_ | refine .say rfl ?_ | refine .say2 rfl (by first | assumption | simp_all) ?_)))
                refine r_val (.some rfl rfl) rfl (p_not rfl) ?_
                refine r_val .none rfl (p_pick_t rfl rfl) ?_
                refine r_nil (e_fin (d := 46) hQ_22 rfl (by repeat (first | exact .refl | refine .put rfl ?_ | refine .say rfl ?_ | refine .say2 rfl (by first | assumption | simp_all) ?_)))
              · skip
                repeat (first | refine r_skip rfl (.no rfl rfl) ?_ | refine r_skip rfl (.un rfl rfl) ?_)
                refine r_val (by first | exact .none | exact .some rfl rfl) rfl (p_pick_f rfl rfl) ?_
                refine r_nil (e_fin (d := 46) hQ_22 rfl (by repeat (first | exact .refl | refine .put rfl ?_ | refine .say rfl ?_ | refine .say2 rfl (by first | assumption | simp_all) ?_)))
              refine r_val .none rfl (p_move rfl) ?_
              refine' r_and (c := 47) (d := 50) [_, _, _] rfl (fun h_28 Q_29 hQ_30 => ?_) (fun h_28 Q_29 hQ_30 => ?_) ?_
              rotate_left 1
              · skip
                try simp only [norms] at h_28
                refine r_val (.some rfl rfl) rfl (p_move rfl) ?_
                refine r_val (.some rfl rfl) rfl (p_ne rfl rfl) ?_
                refine r_val .none rfl (p_pick_t rfl rfl) ?_
                refine r_nil (e_fin (d := 50) hQ_30 rfl (by repeat (first | exact .refl | refine .put rfl ?_ | refine .say rfl ?_ | refine .say2 rfl (by first | assumption | simp_all) ?_)))
              · skip
                repeat (first | refine r_skip rfl (.no rfl rfl) ?_ | refine r_skip rfl (.un rfl rfl) ?_)
                refine r_val (by first | exact .none | exact .some rfl rfl) rfl (p_pick_f rfl rfl) ?_
                refine r_nil (e_fin (d := 50) hQ_30 rfl (by repeat (first | exact .refl | refine .put rfl ?_ | refine .say rfl ?_ | refine .say2 rfl (by first | assumption | simp_all) ?_)))
              refine r_val .none rfl (p_move rfl) ?_
              refine' r_and (c := 51) (d := 54) [_, _, _] rfl (fun h_32 Q_33 hQ_34 => ?_) (fun h_32 Q_33 hQ_34 => ?_) ?_
              rotate_left 1
              · skip
                try simp only [norms] at h_32
                refine r_val (.some rfl rfl) rfl (p_move rfl) ?_
                refine r_val (.some rfl rfl) rfl (p_ne rfl rfl) ?_
                refine r_val .none rfl (p_pick_t rfl rfl) ?_
                refine r_nil (e_fin (d := 54) hQ_34 rfl (by repeat (first | exact .refl | refine .put rfl ?_ | refine .say rfl ?_ | refine .say2 rfl (by first | assumption | simp_all) ?_)))
              · skip
                repeat (first | refine r_skip rfl (.no rfl rfl) ?_ | refine r_skip rfl (.un rfl rfl) ?_)
                refine r_val (by first | exact .none | exact .some rfl rfl) rfl (p_pick_f rfl rfl) ?_
                refine r_nil (e_fin (d := 54) hQ_34 rfl (by repeat (first | exact .refl | refine .put rfl ?_ | refine .say rfl ?_ | refine .say2 rfl (by first | assumption | simp_all) ?_)))
              refine r_nil ?_
              refine e_next ?_
              refine c_split (d := 54) rfl (fun h_36 => ?_) (fun h_36 => ?_)
              · skip
                try simp only [norms] at h_36
                first
                  | (exfalso; omega)
                  | (
                    refine c_cond_t rfl ?_
                    refine c_seq ?_
                    refine c_region ?_
                    refine r_val .none rfl (p_assign rfl) ?_
                    refine r_nil ?_
                    refine e_next ?_
                    refine c_ret ?_
                    refine e_ret_block ?_
                    refine e_ret_then ?_
                    refine e_ret_then ?_
                    refine e_ret_block ?_
                    refine e_ret_then ?_
                    refine e_ret1 Try.results20 (.tmp rfl .nil) (fun w hm => ⟨?_, hm.since⟩)
                    first
                    | (rw [symRight_size (by omega)]; done)
                    | (rw [symRight_bad (k := k) (by omega) (by simp [okb]; omega)]; done)
                    | (have he : k = s.size := (by omega); subst he; rw [symRight_yes (by omega) hphi.2]; done)
                    )
              · skip
                try simp only [norms] at h_36
                first
                  | (exfalso; omega)
                  | (
                    refine c_cond_f rfl ?_
                    refine c_skip ?_
                    refine e_norm_block ?_
                    refine e_next ?_
                    refine c_region ?_
                    refine r_val .none rfl (p_move rfl) ?_
                    refine r_val .none rfl (p_add rfl rfl (by omega)) ?_
                    refine r_val .none rfl (p_assign rfl) ?_
                    refine r_nil ?_
                    refine e_round (k + 1) ⟨⟨by omega, okTo_succ hphi.2 (by simp [okb]; omega)⟩, by omega⟩ rfl ⟨rfl, rfl, trivial⟩ (.nil)
                    )
              )
        · skip
          first
            | (exfalso; omega)
            | (
              refine c_cond_f rfl ?_
              refine c_exit ?_
              refine e_exit_then ?_
              refine e_exit_then ?_
              refine e_exit_block ?_
              refine e_next ?_
              refine c_seq ?_
              refine c_region ?_
              refine r_val .none rfl (p_assign rfl) ?_
              refine r_nil ?_
              refine e_next ?_
              refine c_ret ?_
              refine e_ret1 Try.results20 (.tmp rfl .nil) (fun w hm => ⟨?_, hm.since⟩)
              first
              | (rw [symRight_size (by omega)]; done)
              | (rw [symRight_bad (k := k) (by omega) (by simp [okb]; omega)]; done)
              | (have he : k = s.size := (by omega); subst he; rw [symRight_yes (by omega) hphi.2]; done)
              )
        )
end Go.Proofs.Ytjgdkahblhpinaa
