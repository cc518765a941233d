/- Texts of this work, laid together: a logic of steps, plain laws, and walks of Go functions, each without a condition but those that its theorems name. -/
import Derived.Test.YtpcpbfajadgmpaaKRulePlaces4
import Derived.Test.YtpcpbfajadgmpaaRows
/- Walks: what Go functions of this chapter come to, each as a function on plain data; no condition but those that each theorem names. Printed by a program of this work (gen.py). -/
namespace Go.Proofs.Ytpcpbfajadgmpaa
open Go.Gx Go.Gx.T1 Go.Gx.T3 Go.Gx.T4 Go.Gx.T3 Go.Gx.T5 Go.Gx.T1 Go.Gx.T8 Go.Gx.T6 Go.Gx.T4 Go.Gx.T3 Go.Gx.T6 Go.Gx.T8 Go.Gx.T4 Go.Gx.T3 Go.Gx.T8 Go.Gx.T4 Go.Gx.T3 Go.Gx.T8 Go.Gx.T6 Go.Gx.T4 Go.Gx.T3
theorem sz51 : SzIs Try.prog 51 2 := by
  unfold SzIs
  kernel_rfl
theorem zr51 : ZeroIs Try.prog 51 (Value.agg #[Value.string ⟨#[]⟩, Value.slice none 0 0]) := by
  unfold ZeroIs
  kernel_rfl
theorem cl20 : Callable Try.prog 20 := callable Try.func20 (by kernel_rfl) rfl
theorem cl23 : Callable Try.prog 23 := callable Try.func23 (by kernel_rfl) rfl
theorem cl24 : Callable Try.prog 24 := callable Try.func24 (by kernel_rfl) rfl
theorem cl44 : Callable Try.prog 44 := callable Try.func44 (by kernel_rfl) rfl
theorem cl45 : Callable Try.prog 45 := callable Try.func45 (by kernel_rfl) rfl
theorem cl55 : Callable Try.prog 55 := callable Try.func55 (by kernel_rfl) rfl
theorem bl51_0s1 (x0 : ByteArray) : Program.built Try.prog 51 [(0, Value.string x0)] = some #[Value.string x0, Value.slice none 0 0] := by
  kernel_rfl
theorem bl27_2s3 (x0 : Option Addr) (x1 : Nat) (x2 : Nat) : Program.built Try.prog 27 [(2, Value.slice x0 x1 x2)] = some #[Value.int .i64 0, Value.bool false, Value.int .i64 0, Value.bool false, Value.int .i64 0, Value.bool false, Value.int .i64 0, Value.slice x0 x1 x2] := by
  kernel_rfl
def OutIs (n : Nat) : Prop := ∀ (va : Value) (l : List CT) (v : Nat) (G : Ghost) (w : World), SizeOf.sizeOf l ≤ n → Rs G va l → Has G w → Calls Try.prog 45 #[va, Value.int .i64 (v : Nat)] w (Ret fun r w' => r = Value.int .i64 (out l v) ∧ Since nX w w')
theorem c_rsymRight (s : ByteArray)  (w : World)  :
    Calls Try.prog 44 #[Value.string s] w (Ret fun r w' => r = Value.bool (symRight s) ∧ Since nX w w') := by
  refine enter (args := [_]) (X := nX) (G := (fun _ => none)) (l := [(0, Value.string s)]) Try.func44 rfl Try.ntmps44 (fun _ _ h => by cases h) ⟨rfl, trivial⟩ (Nat.le_of_ble_eq_true rfl) ?_
  refine c_seq ?_
  refine c_region ?_
  refine r_val .none rfl (p_assign rfl) ?_
  refine r_nil ?_
  refine e_next ?_
  refine c_seq ?_
  refine c_seq ?_
  refine c_region ?_
  refine r_val .none rfl (p_move rfl) ?_
  refine r_val .none rfl (p_len_str Try.underlying9 rfl) ?_
  refine r_val .none rfl (p_lt rfl rfl) ?_
  refine r_val .none rfl (p_move rfl) ?_
  refine' r_or (c := 8) (d := 12) [_, _, _, _] rfl (fun h_1 Q_2 hQ_3 => ?_) (fun h_1 Q_2 hQ_3 => ?_) ?_
  rotate_left 1
  · skip
    replace h_1 := of_decide_eq_false h_1
    refine r_val (.some rfl rfl) rfl (p_move rfl) ?_
    refine r_val (.some rfl rfl) rfl (p_len_str Try.underlying9 rfl) ?_
    refine r_val (.some rfl rfl) rfl (p_gt rfl rfl) ?_
    refine r_val .none rfl (p_pick_f rfl rfl) ?_
    refine r_nil (e_fin (d := 12) hQ_3 rfl (by repeat (first | exact .refl | refine .put rfl ?_ | refine .say rfl ?_ | refine .say2 rfl (by first | assumption | simp_all) ?_)))
  · skip
    repeat (first | refine r_skip rfl (.no rfl rfl) ?_ | refine r_skip rfl (.un rfl rfl) ?_)
    refine r_val (by first | exact .none | exact .some rfl rfl) rfl (p_pick_t rfl rfl) ?_
    refine r_nil (e_fin (d := 12) hQ_3 rfl (by repeat (first | exact .refl | refine .put rfl ?_ | refine .say rfl ?_ | refine .say2 rfl (by first | assumption | simp_all) ?_)))
  refine r_nil ?_
  refine e_next ?_
  refine c_split (d := 12) rfl (fun h_5 => ?_) (fun h_5 => ?_)
  · skip
    try simp only [norms] at h_5
    first
      | (exfalso; omega)
      | (
        refine c_cond_t rfl ?_
        refine c_seq ?_
        refine c_region ?_
        refine r_val .none rfl (p_assign rfl) ?_
        refine r_nil ?_
        refine e_next ?_
        refine c_ret ?_
        refine e_ret_then ?_
        refine e_ret1 Try.results44 (.tmp rfl .nil) (fun w hm => ⟨?_, hm.since⟩)
        first
        | (rw [symRight_size (by omega)]; done)
        | (rw [symRight_bad (k := k) (by omega) (by simp [okb]; omega)]; done)
        | (have he : k = s.size := (by omega); subst he; rw [symRight_yes (by omega) hphi.2]; done)
        )
  · skip
    try simp only [norms] at h_5
    first
      | (exfalso; omega)
      | (
        refine c_cond_f rfl ?_
        refine c_skip ?_
        refine e_next ?_
        refine c_seq ?_
        refine c_seq ?_
        refine c_region ?_
        refine r_val .none rfl (p_assign rfl) ?_
        refine r_nil ?_
        refine e_next ?_
        refine c_block ?_
        refine c_name (d := 0) rfl (fun u_6 hu_6 => ?_)
        refine c_loop (σ := Nat) (fun k => [(3, Value.int .i64 (k : Int)), (0, u_6)]) (fun k => []) (fun _ => _) (fun k => k ≤ s.size ∧ okTo s k) (fun k => s.size - k) (0) ⟨Nat.zero_le _, okTo_zero s⟩ rfl ⟨rfl, rfl, trivial⟩ (.nil) (fun k hphi => ?_)
        subst hu_6
        refine c_seq ?_
        refine c_seq ?_
        refine c_region ?_
        refine r_val .none rfl (p_move rfl) ?_
        refine r_val .none rfl (p_move rfl) ?_
        refine r_val .none rfl (p_len_str Try.underlying9 rfl) ?_
        refine r_val .none rfl (p_lt rfl rfl) ?_
        refine r_nil ?_
        refine e_next ?_
        refine c_splitd (d := 16) rfl (fun h_7 => ?_) (fun h_7 => ?_)
        · skip
          first
            | (exfalso; omega)
            | (
              refine c_cond_t rfl ?_
              refine c_skip ?_
              refine e_next ?_
              refine c_seq ?_
              refine c_block ?_
              refine c_seq ?_
              refine c_region ?_
              refine r_val .none rfl (p_move rfl) ?_
              refine r_val .none rfl (p_move rfl) ?_
              refine r_val .none rfl (p_index_str Try.underlying9 rfl rfl (by first | exact of_decide_eq_true rfl | omega)) ?_
              refine r_val .none rfl (p_assign rfl) ?_
              refine r_nil ?_
              refine e_next ?_
              refine c_seq ?_
              refine c_region ?_
              refine r_val .none rfl (p_move rfl) ?_
              refine r_val .none rfl (p_ge rfl rfl) ?_
              refine r_val .none rfl (p_move rfl) ?_
              refine' r_and (c := 24) (d := 27) [_, _, _] rfl (fun h_8 Q_9 hQ_10 => ?_) (fun h_8 Q_9 hQ_10 => ?_) ?_
              rotate_left 1
              · skip
                replace h_8 := of_decide_eq_true h_8
                refine r_val (.some rfl rfl) rfl (p_move rfl) ?_
                refine r_val (.some rfl rfl) rfl (p_le rfl rfl) ?_
                refine r_val .none rfl (p_pick_t rfl rfl) ?_
                refine r_nil (e_fin (d := 27) hQ_10 rfl (by repeat (first | exact .refl | refine .put rfl ?_ | refine .say rfl ?_ | refine .say2 rfl (by first | assumption | simp_all) ?_)))
              · skip
                repeat (first | refine r_skip rfl (.no rfl rfl) ?_ | refine r_skip rfl (.un rfl rfl) ?_)
                refine r_val (by first | exact .none | exact .some rfl rfl) rfl (p_pick_f rfl rfl) ?_
                refine r_nil (e_fin (d := 27) hQ_10 rfl (by repeat (first | exact .refl | refine .put rfl ?_ | refine .say rfl ?_ | refine .say2 rfl (by first | assumption | simp_all) ?_)))
              refine r_val .none rfl (p_not rfl) ?_
              refine r_val .none rfl (p_move rfl) ?_
              refine' r_and (c := 29) (d := 37) [_, _, _, _, _, _, _, _] rfl (fun h_12 Q_13 hQ_14 => ?_) (fun h_12 Q_13 hQ_14 => ?_) ?_
              rotate_left 1
              · skip
                try simp only [norms] at h_12
                refine r_val (.some rfl rfl) rfl (p_move rfl) ?_
                refine r_val (.some rfl rfl) rfl (p_ge rfl rfl) ?_
                refine r_val (.some rfl rfl) rfl (p_move rfl) ?_
                refine' r_and (c := 32) (d := 35) [_, _, _] rfl (fun h_16 Q_17 hQ_18 => ?_) (fun h_16 Q_17 hQ_18 => ?_) ?_
                rotate_left 1
                · skip
                  replace h_16 := of_decide_eq_true h_16
                  refine r_val (.some rfl rfl) rfl (p_move rfl) ?_
                  refine r_val (.some rfl rfl) rfl (p_le rfl rfl) ?_
                  refine r_val (.some rfl rfl) rfl (p_pick_t rfl rfl) ?_
                  refine r_nil (e_fin (d := 35) hQ_18 rfl (by repeat (first | exact .refl | refine .put rfl ?_ | refine .say rfl ?_ | refine .say2 rfl (by first | assumption | simp_all) ?_)))
                · skip
                  repeat (first | refine r_skip rfl (.no rfl rfl) ?_ | refine r_skip rfl (.un rfl rfl) ?_)
                  refine r_val (by first | exact .none | exact .some rfl rfl) rfl (p_pick_f rfl rfl) ?_
                  refine r_nil (e_fin (d := 35) hQ_18 rfl (by repeat (first | exact .refl | refine .put rfl ?_ | refine .say rfl ?_ | refine .say2 rfl (by first | assumption | simp_all) ?_)))
                refine r_val (.some rfl rfl) rfl (p_not rfl) ?_
                refine r_val .none rfl (p_pick_t rfl rfl) ?_
                refine r_nil (e_fin (d := 37) hQ_14 rfl (by repeat (first | exact .refl | refine .put rfl ?_ | refine .say rfl ?_ | refine .say2 rfl (by first | assumption | simp_all) ?_)))
              · skip
                repeat (first | refine r_skip rfl (.no rfl rfl) ?_ | refine r_skip rfl (.un rfl rfl) ?_)
                refine r_val (by first | exact .none | exact .some rfl rfl) rfl (p_pick_f rfl rfl) ?_
                refine r_nil (e_fin (d := 37) hQ_14 rfl (by repeat (first | exact .refl | refine .put rfl ?_ | refine .say rfl ?_ | refine .say2 rfl (by first | assumption | simp_all) ?_)))
              refine r_val .none rfl (p_move rfl) ?_
              refine' r_and (c := 38) (d := 46) [_, _, _, _, _, _, _, _] rfl (fun h_20 Q_21 hQ_22 => ?_) (fun h_20 Q_21 hQ_22 => ?_) ?_
              rotate_left 1
              · skip
                try simp only [norms] at h_20
                refine r_val (.some rfl rfl) rfl (p_move rfl) ?_
                refine r_val (.some rfl rfl) rfl (p_ge rfl rfl) ?_
                refine r_val (.some rfl rfl) rfl (p_move rfl) ?_
                refine' r_and (c := 41) (d := 44) [_, _, _] rfl (fun h_24 Q_25 hQ_26 => ?_) (fun h_24 Q_25 hQ_26 => ?_) ?_
                rotate_left 1
                · skip
                  replace h_24 := of_decide_eq_true h_24
                  refine r_val (.some rfl rfl) rfl (p_move rfl) ?_
                  refine r_val (.some rfl rfl) rfl (p_le rfl rfl) ?_
                  refine r_val (.some rfl rfl) rfl (p_pick_t rfl rfl) ?_
                  refine r_nil (e_fin (d := 44) hQ_26 rfl (by repeat (first | exact .refl | refine .put rfl ?_ | refine .say rfl ?_ | refine .say2 rfl (by first | assumption | simp_all) ?_)))
                · skip
                  repeat (first | refine r_skip rfl (.no rfl rfl) ?_ | refine r_skip rfl (.un rfl rfl) ?_)
                  refine r_val (by first | exact .none | exact .some rfl rfl) rfl (p_pick_f rfl rfl) ?_
                  refine r_nil (e_fin (d := 44) hQ_26 rfl (by repeat (first | exact .refl | refine .put rfl ?_ | refine .say rfl ?_ | refine .say2 rfl (by first | assumption | simp_all) ?_)))
                refine r_val (.some rfl rfl) rfl (p_not rfl) ?_
                refine r_val .none rfl (p_pick_t rfl rfl) ?_
                refine r_nil (e_fin (d := 46) hQ_22 rfl (by repeat (first | exact .refl | refine .put rfl ?_ | refine .say rfl ?_ | refine .say2 rfl (by first | assumption | simp_all) ?_)))
              · skip
                repeat (first | refine r_skip rfl (.no rfl rfl) ?_ | refine r_skip rfl (.un rfl rfl) ?_)
                refine r_val (by first | exact .none | exact .some rfl rfl) rfl (p_pick_f rfl rfl) ?_
                refine r_nil (e_fin (d := 46) hQ_22 rfl (by repeat (first | exact .refl | refine .put rfl ?_ | refine .say rfl ?_ | refine .say2 rfl (by first | assumption | simp_all) ?_)))
              refine r_val .none rfl (p_move rfl) ?_
              refine' r_and (c := 47) (d := 50) [_, _, _] rfl (fun h_28 Q_29 hQ_30 => ?_) (fun h_28 Q_29 hQ_30 => ?_) ?_
              rotate_left 1
              · skip
                try simp only [norms] at h_28
                refine r_val (.some rfl rfl) rfl (p_move rfl) ?_
                refine r_val (.some rfl rfl) rfl (p_ne rfl rfl) ?_
                refine r_val .none rfl (p_pick_t rfl rfl) ?_
                refine r_nil (e_fin (d := 50) hQ_30 rfl (by repeat (first | exact .refl | refine .put rfl ?_ | refine .say rfl ?_ | refine .say2 rfl (by first | assumption | simp_all) ?_)))
              · skip
                repeat (first | refine r_skip rfl (.no rfl rfl) ?_ | refine r_skip rfl (.un rfl rfl) ?_)
                refine r_val (by first | exact .none | exact .some rfl rfl) rfl (p_pick_f rfl rfl) ?_
                refine r_nil (e_fin (d := 50) hQ_30 rfl (by repeat (first | exact .refl | refine .put rfl ?_ | refine .say rfl ?_ | refine .say2 rfl (by first | assumption | simp_all) ?_)))
              refine r_val .none rfl (p_move rfl) ?_
              refine' r_and (c := 51) (d := 54) [_, _, _] rfl (fun h_32 Q_33 hQ_34 => ?_) (fun h_32 Q_33 hQ_34 => ?_) ?_
              rotate_left 1
              · skip
                try simp only [norms] at h_32
                refine r_val (.some rfl rfl) rfl (p_move rfl) ?_
                refine r_val (.some rfl rfl) rfl (p_ne rfl rfl) ?_
                refine r_val .none rfl (p_pick_t rfl rfl) ?_
                refine r_nil (e_fin (d := 54) hQ_34 rfl (by repeat (first | exact .refl | refine .put rfl ?_ | refine .say rfl ?_ | refine .say2 rfl (by first | assumption | simp_all) ?_)))
              · skip
                repeat (first | refine r_skip rfl (.no rfl rfl) ?_ | refine r_skip rfl (.un rfl rfl) ?_)
                refine r_val (by first | exact .none | exact .some rfl rfl) rfl (p_pick_f rfl rfl) ?_
                refine r_nil (e_fin (d := 54) hQ_34 rfl (by repeat (first | exact .refl | refine .put rfl ?_ | refine .say rfl ?_ | refine .say2 rfl (by first | assumption | simp_all) ?_)))
              refine r_nil ?_
              refine e_next ?_
              refine c_split (d := 54) rfl (fun h_36 => ?_) (fun h_36 => ?_)
              · skip
                try simp only [norms] at h_36
                first
                  | (exfalso; omega)
                  | (
                    refine c_cond_t rfl ?_
                    refine c_seq ?_
                    refine c_region ?_
                    refine r_val .none rfl (p_assign rfl) ?_
                    refine r_nil ?_
                    refine e_next ?_
                    refine c_ret ?_
                    refine e_ret_block ?_
                    refine e_ret_then ?_
                    refine e_ret_then ?_
                    refine e_ret_block ?_
                    refine e_ret_then ?_
                    refine e_ret1 Try.results44 (.tmp rfl .nil) (fun w hm => ⟨?_, hm.since⟩)
                    first
                    | (rw [symRight_size (by omega)]; done)
                    | (rw [symRight_bad (k := k) (by omega) (by simp [okb]; omega)]; done)
                    | (have he : k = s.size := (by omega); subst he; rw [symRight_yes (by omega) hphi.2]; done)
                    )
              · skip
                try simp only [norms] at h_36
                first
                  | (exfalso; omega)
                  | (
                    refine c_cond_f rfl ?_
                    refine c_skip ?_
                    refine e_norm_block ?_
                    refine e_next ?_
                    refine c_region ?_
                    refine r_val .none rfl (p_move rfl) ?_
                    refine r_val .none rfl (p_add rfl rfl (by omega)) ?_
                    refine r_val .none rfl (p_assign rfl) ?_
                    refine r_nil ?_
                    refine e_round (k + 1) ⟨⟨by omega, okTo_succ hphi.2 (by simp [okb]; omega)⟩, by omega⟩ rfl ⟨rfl, rfl, trivial⟩ (.nil)
                    )
              )
        · skip
          first
            | (exfalso; omega)
            | (
              refine c_cond_f rfl ?_
              refine c_exit ?_
              refine e_exit_then ?_
              refine e_exit_then ?_
              refine e_exit_block ?_
              refine e_next ?_
              refine c_seq ?_
              refine c_region ?_
              refine r_val .none rfl (p_assign rfl) ?_
              refine r_nil ?_
              refine e_next ?_
              refine c_ret ?_
              refine e_ret1 Try.results44 (.tmp rfl .nil) (fun w hm => ⟨?_, hm.since⟩)
              first
              | (rw [symRight_size (by omega)]; done)
              | (rw [symRight_bad (k := k) (by omega) (by simp [okb]; omega)]; done)
              | (have he : k = s.size := (by omega); subst he; rw [symRight_yes (by omega) hphi.2]; done)
              )
        )
theorem c_rest (va : Value) (l : List CT) (f v : Nat) {G : Ghost} (hs : Rs G va l) (hf : f ≤ l.length) (w : World) (hG : Has G w) :
    Calls Try.prog 55 #[va, Value.int .i64 (f : Nat), Value.int .i64 (v : Nat)] w (Ret fun r w' => r = Value.bool (hasL (l.drop f) v) ∧ Since nX w w') := by
  refine enter (args := [_, _, _]) (X := nX) (G := G) (l := [(0, va), (1, Value.int .i64 (f : Nat)), (2, Value.int .i64 (v : Nat))]) Try.func55 rfl Try.ntmps55 hG ⟨rfl, rfl, rfl, trivial⟩ (Nat.le_of_ble_eq_true rfl) ?_
  obtain ⟨rs, hr, hp, hl⟩ := hs.inv
  have hbd := hr.bound
  have hlr : l.length = rs.length := by rw [hl]; simp
  refine c_seq ?_
  refine c_region ?_
  refine r_val .none rfl (p_assign rfl) ?_
  refine r_nil ?_
  refine e_next ?_
  refine c_seq ?_
  refine c_seq ?_
  refine c_region ?_
  refine r_val .none rfl (p_move rfl) ?_
  refine r_val .none rfl (p_assign rfl) ?_
  refine r_nil ?_
  refine e_next ?_
  refine c_block ?_
  refine c_name (d := 0) rfl (fun u_1 hu_1 => ?_)
  refine c_name (d := 2) rfl (fun u_2 hu_2 => ?_)
  refine c_loop (σ := Nat) (fun k => [(7, Value.int .i64 (k : Nat)), (0, u_1), (2, u_2)]) (fun k => []) (fun _ => _) (fun k => k ≤ rs.length ∧ hasL (l.drop k) v = hasL (l.drop f) v) (fun k => rs.length - k) (f) ⟨by omega, rfl⟩ rfl ⟨rfl, rfl, rfl, trivial⟩ (.nil) (fun k hphi => ?_)
  subst hu_1
  subst hu_2
  refine c_seq ?_
  refine c_seq ?_
  refine c_region ?_
  refine r_val .none rfl (p_move rfl) ?_
  refine r_val .none rfl (p_move rfl) ?_
  refine r_val .none rfl (p_leng Try.underlying36 rfl hr) ?_
  have bd_3 := (hr).bound
  refine r_val .none rfl (p_lt rfl rfl) ?_
  refine r_nil ?_
  refine e_next ?_
  refine c_splitd (d := 12) rfl (fun h_4 => ?_) (fun h_4 => ?_)
  · skip
    first
      | (exfalso; omega)
      | (
        refine c_cond_t rfl ?_
        refine c_skip ?_
        refine e_next ?_
        refine c_seq ?_
        refine c_block ?_
        refine c_seq ?_
        refine c_region ?_
        refine r_val .none rfl (p_move rfl) ?_
        refine r_val .none rfl (p_move rfl) ?_
        refine r_iaddr_g .none rfl Try.underlying36 sz38 rfl hr rfl (by first | exact of_decide_eq_true rfl | omega) (fun p_6 o_7 R_5 => ?_)
        have hc_8 := hp _ (getD_mem (i := k) (d := d0) (by omega))
        refine r_val .none rfl (p_ldga0 Try.underlying38 rfl sz38 rfl R_5 (by first | exact of_decide_eq_true rfl | omega) (rfl : _ = Value.agg #[_, _, _, _, _, _, _, _])) ?_
        refine r_val .none rfl (p_move rfl) ?_
        refine r_call (vs := [_, _]) .none rfl cl31 rfl (fun w hw => c_rhas (rs.getD k d0).1 _ v hc_8 w hw) ?_
        refine r_nil ?_
        refine e_next ?_
        refine c_split (d := 20) rfl (fun h_9 => ?_) (fun h_9 => ?_)
        · skip
          have hE := h_9
          first
            | (exfalso; omega)
            | (
              refine c_cond_t rfl ?_
              refine c_seq ?_
              refine c_region ?_
              refine r_val .none rfl (p_assign rfl) ?_
              refine r_nil ?_
              refine e_next ?_
              refine c_ret ?_
              refine e_ret_block ?_
              refine e_ret_then ?_
              refine e_ret_then ?_
              refine e_ret_block ?_
              refine e_ret_then ?_
              refine e_ret1 Try.results55 (.tmp rfl .nil) (fun w hm => ⟨?_, hm.since⟩)
              first
              | (rw [← hphi.2, hl, map_drop (i := k) (d := d0) (by omega), hasL_yes hE]; done)
              | (rw [← hphi.2, List.drop_eq_nil_of_le (by omega)]; rfl)
              )
        · skip
          have hE := h_9
          first
            | (exfalso; omega)
            | (
              refine c_cond_f rfl ?_
              refine c_skip ?_
              refine e_norm_block ?_
              refine e_next ?_
              refine c_region ?_
              refine r_val .none rfl (p_move rfl) ?_
              refine r_val .none rfl (p_add rfl rfl (by omega)) ?_
              refine r_val .none rfl (p_assign rfl) ?_
              refine r_nil ?_
              refine e_round (k + 1) ⟨⟨by omega, by rw [← hphi.2, hl, map_drop (i := k) (d := d0) (by omega), hasL_no hE]⟩, by omega⟩ rfl ⟨rfl, rfl, rfl, trivial⟩ (.nil)
              )
        )
  · skip
    first
      | (exfalso; omega)
      | (
        refine c_cond_f rfl ?_
        refine c_exit ?_
        refine e_exit_then ?_
        refine e_exit_then ?_
        refine e_exit_block ?_
        refine e_next ?_
        refine c_seq ?_
        refine c_region ?_
        refine r_val .none rfl (p_assign rfl) ?_
        refine r_nil ?_
        refine e_next ?_
        refine c_ret ?_
        refine e_ret1 Try.results55 (.tmp rfl .nil) (fun w hm => ⟨?_, hm.since⟩)
        first
        | (rw [← hphi.2, hl, map_drop (i := k) (d := d0) (by omega), hasL_yes hE]; done)
        | (rw [← hphi.2, List.drop_eq_nil_of_le (by omega)]; rfl)
        )
theorem c_out_s (n : Nat) (ih : OutIs n) (va : Value) (l : List CT) (v : Nat) {G : Ghost} (hz : SizeOf.sizeOf l ≤ n + 1) (hs : Rs G va l) (w : World) (hG : Has G w) :
    Calls Try.prog 45 #[va, Value.int .i64 (v : Nat)] w (Ret fun r w' => r = Value.int .i64 (out l v) ∧ Since nX w w') := by
  refine enter (args := [_, _]) (X := nX) (G := G) (l := [(0, va), (1, Value.int .i64 (v : Nat))]) Try.func45 rfl Try.ntmps45 hG ⟨rfl, rfl, trivial⟩ (Nat.le_of_ble_eq_true rfl) ?_
  obtain ⟨rs, hr, hp, hl⟩ := hs.inv
  have hbd := hr.bound
  have hlr : l.length = rs.length := by rw [hl]; simp
  refine c_seq ?_
  refine c_region ?_
  refine r_val .none rfl (p_assign rfl) ?_
  refine r_nil ?_
  refine e_next ?_
  refine c_seq ?_
  refine c_seq ?_
  refine c_region ?_
  refine r_val .none rfl (p_move rfl) ?_
  refine r_val .none rfl (p_leng Try.underlying36 rfl hr) ?_
  have bd_1 := (hr).bound
  refine r_val .none rfl (p_move rfl) ?_
  refine r_nil ?_
  refine e_next ?_
  refine c_block ?_
  refine c_name (d := 0) rfl (fun u_2 hu_2 => ?_)
  refine c_name (d := 1) rfl (fun u_3 hu_3 => ?_)
  refine c_name (d := 7) rfl (fun u_4 hu_4 => ?_)
  refine c_name (d := 8) rfl (fun u_5 hu_5 => ?_)
  refine c_loop (σ := Nat) (fun k => [(9, Value.int .i64 (k : Nat)), (0, u_2), (1, u_3), (7, u_4), (8, u_5)]) (fun k => []) (fun _ => _) (fun k => k ≤ rs.length ∧ out (l.drop k) v = out l v) (fun k => rs.length - k) (0) ⟨Nat.zero_le _, rfl⟩ rfl ⟨rfl, rfl, rfl, rfl, rfl, trivial⟩ (.nil) (fun k hphi => ?_)
  subst hu_2
  subst hu_3
  subst hu_4
  subst hu_5
  refine c_seq ?_
  refine c_region ?_
  refine r_val .none rfl (p_lt rfl rfl) ?_
  refine r_nil ?_
  refine e_next ?_
  refine c_seq ?_
  refine c_splitd (d := 10) rfl (fun h_6 => ?_) (fun h_6 => ?_)
  · skip
    first
      | (exfalso; omega)
      | (
        refine c_cond_t rfl ?_
        refine c_skip ?_
        refine e_next ?_
        refine c_seq ?_
        refine c_block ?_
        refine c_seq ?_
        refine c_region ?_
        refine r_val .none rfl (p_move rfl) ?_
        refine r_iaddr_g .none rfl Try.underlying36 sz38 rfl hr rfl (by first | exact of_decide_eq_true rfl | omega) (fun p_8 o_9 R_7 => ?_)
        have hc_10 := hp _ (getD_mem (i := k) (d := d0) (by omega))
        refine r_val .none rfl (p_ldga0 Try.underlying38 rfl sz38 rfl R_7 (by first | exact of_decide_eq_true rfl | omega) (rfl : _ = Value.agg #[_, _, _, _, _, _, _, _])) ?_
        refine r_alloc .none rfl zr38 (IsRow.lit _) (fun b_1 => ?_)
        refine r_val .none rfl (p_assign rfl) ?_
        refine r_stw (k := 0) .none sz38 rfl rfl (IsRow.lit _) (one_lit rfl (all_cons rfl (all_cons rfl (all_cons rfl (all_cons rfl (all_cons rfl (all_cons rfl (all_cons rfl (all_cons (hc_10).one rfl))))))))) rfl ?_
        refine r_nil ?_
        refine e_next ?_
        refine c_seq ?_
        refine c_seq ?_
        refine c_region ?_
        refine r_val .none rfl (p_ldw (k := 0) Try.underlying38 rfl sz38 rfl rfl (rfl : _ = Value.agg #[_, _, _, _, _, _, _, _])) ?_
        refine r_val .none rfl (p_move rfl) ?_
        refine r_call (vs := [_, _]) .none rfl cl31 rfl (fun w hw => c_rhas (rs.getD k d0).1 _ v hc_10 w hw) ?_
        refine r_val .none rfl (p_not rfl) ?_
        refine r_nil ?_
        refine e_next ?_
        refine c_splitn (d := 17) rfl (fun h_11 => ?_) (fun h_11 => ?_)
        · skip
          have hH := h_11
          first
            | (exfalso; omega)
            | (
              refine c_cond_t rfl ?_
              refine c_exit ?_
              refine e_exit_then ?_
              refine e_exit_block ?_
              refine e_next ?_
              refine c_region ?_
              refine r_val .none rfl (p_add rfl rfl (by omega)) ?_
              refine r_val .none rfl (p_move rfl) ?_
              refine r_nil ?_
              refine e_round (k + 1) ⟨⟨by omega, by rw [← hphi.2, hl, out_skip (k := k) (by omega) (by simpa using hH)]⟩, by omega⟩ rfl ⟨rfl, rfl, rfl, rfl, rfl, trivial⟩ (.drop (.nil))
              )
        · skip
          have hH := h_11
          first
            | (exfalso; omega)
            | (
              refine c_cond_f rfl ?_
              refine c_skip ?_
              refine e_next ?_
              refine c_seq ?_
              refine c_seq ?_
              refine c_region ?_
              refine r_val .none rfl (p_field Try.underlying38 rfl sz3 rfl) ?_
              refine r_val .none rfl (p_ld (k := 0) Try.underlying3 rfl rfl rfl (by first | exact of_decide_eq_true rfl | omega) (rfl : _ = Value.int _ _)) ?_
              refine r_val .none rfl (p_eq rfl rfl) ?_
              refine r_nil ?_
              refine e_next ?_
              refine c_splitd (d := 20) rfl (fun h_12 => ?_) (fun h_12 => ?_)
              · skip
                have h1 := h_12
                first
                  | (exfalso; omega)
                  | (
                    refine c_cond_t rfl ?_
                    refine c_seq ?_
                    refine c_region ?_
                    refine r_val .none rfl (p_assign rfl) ?_
                    refine r_nil ?_
                    refine e_next ?_
                    refine c_ret ?_
                    refine e_ret_then ?_
                    refine e_ret_block ?_
                    refine e_ret_then ?_
                    refine e_ret_then ?_
                    refine e_ret_block ?_
                    refine e_ret_then ?_
                    refine e_ret1 Try.results45 (.tmp rfl .nil) (fun w hm => ⟨?_, hm.since⟩)
                    rw [← hphi.2, hl]
                    first
                    | (rw [out_pos (by omega) (by simpa using hH) h1]; done)
                    | (rw [out_rest (by omega) (by simpa using hH) h1 h2]; done)
                    | (rw [out_in (by omega) (by simpa using hH) h1 h2 h3 h4]; done)
                    | (rw [out_zero (by omega) (by simpa using hH) h1 h2 (fun hx => h3 hx.1)]; done)
                    | (rw [out_zero (by omega) (by simpa using hH) h1 h2 (fun hx => h4 hx.2)]; done)
                    | (rw [List.drop_eq_nil_of_le (by simp; omega)]; rfl)
                    )
              · skip
                have h1 := h_12
                first
                  | (exfalso; omega)
                  | (
                    refine c_cond_f rfl ?_
                    refine c_skip ?_
                    refine e_next ?_
                    refine c_seq ?_
                    refine c_seq ?_
                    refine c_region ?_
                    refine r_val .none rfl (p_move rfl) ?_
                    refine r_val .none rfl (p_move rfl) ?_
                    refine r_val .none rfl (p_add rfl rfl (by omega)) ?_
                    refine r_say (d := 23) (v := Value.int .i64 (((k + 1 : Nat)) : Int)) (congrArg (fun x => some (Value.int .i64 x)) (by omega)) ?_
                    refine r_val .none rfl (p_move rfl) ?_
                    refine r_call (vs := [_, _, _]) .none rfl cl55 rfl (fun w hw => c_rest _ l (k + 1) v hs (by omega) w hw) ?_
                    refine r_nil ?_
                    refine e_next ?_
                    refine c_split (d := 25) rfl (fun h_13 => ?_) (fun h_13 => ?_)
                    · skip
                      have h2 := h_13
                      rw [hl] at h2
                      first
                        | (exfalso; omega)
                        | (
                          refine c_cond_t rfl ?_
                          refine c_seq ?_
                          refine c_region ?_
                          refine r_val .none rfl (p_assign rfl) ?_
                          refine r_nil ?_
                          refine e_next ?_
                          refine c_ret ?_
                          refine e_ret_then ?_
                          refine e_ret_block ?_
                          refine e_ret_then ?_
                          refine e_ret_then ?_
                          refine e_ret_block ?_
                          refine e_ret_then ?_
                          refine e_ret1 Try.results45 (.tmp rfl .nil) (fun w hm => ⟨?_, hm.since⟩)
                          rw [← hphi.2, hl]
                          first
                          | (rw [out_pos (by omega) (by simpa using hH) h1]; done)
                          | (rw [out_rest (by omega) (by simpa using hH) h1 h2]; done)
                          | (rw [out_in (by omega) (by simpa using hH) h1 h2 h3 h4]; done)
                          | (rw [out_zero (by omega) (by simpa using hH) h1 h2 (fun hx => h3 hx.1)]; done)
                          | (rw [out_zero (by omega) (by simpa using hH) h1 h2 (fun hx => h4 hx.2)]; done)
                          | (rw [List.drop_eq_nil_of_le (by simp; omega)]; rfl)
                          )
                    · skip
                      have h2 := h_13
                      rw [hl] at h2
                      first
                        | (exfalso; omega)
                        | (
                          refine c_cond_f rfl ?_
                          refine c_skip ?_
                          refine e_next ?_
                          refine c_seq ?_
                          refine c_seq ?_
                          refine c_region ?_
                          refine r_val .none rfl (p_field Try.underlying38 rfl sz3 rfl) ?_
                          refine r_val .none rfl (p_ld (k := 0) Try.underlying3 rfl rfl rfl (by first | exact of_decide_eq_true rfl | omega) (rfl : _ = Value.int _ _)) ?_
                          refine r_val .none rfl (p_eq rfl rfl) ?_
                          refine r_nil ?_
                          refine e_next ?_
                          refine c_splitd (d := 28) rfl (fun h_14 => ?_) (fun h_14 => ?_)
                          · skip
                            have h3 := h_14
                            first
                              | (exfalso; omega)
                              | (
                                refine c_cond_t rfl ?_
                                refine c_seq ?_
                                refine c_region ?_
                                refine r_val .none rfl (p_field Try.underlying38 rfl sz36 rfl) ?_
                                refine r_val .none rfl (p_ld (k := 0) Try.underlying36 rfl rfl rfl (by first | exact of_decide_eq_true rfl | omega) rfl) ?_
                                refine r_val .none rfl (p_move rfl) ?_
                                refine r_call (vs := [_, _]) .none rfl cl45 rfl (fun w hw => ih _ _ v _ w (Nat.le_of_lt_succ (Nat.lt_of_lt_of_le (sub_size5 (by omega)) (by rw [← hl]; exact hz))) hc_10 hw) ?_
                                refine r_val .none rfl (p_eq rfl rfl) ?_
                                refine r_nil ?_
                                refine e_next ?_
                                refine c_splitd (d := 33) rfl (fun h_15 => ?_) (fun h_15 => ?_)
                                · skip
                                  have h4 := h_15
                                  first
                                    | (exfalso; omega)
                                    | (
                                      refine c_cond_t rfl ?_
                                      refine c_seq ?_
                                      refine c_region ?_
                                      refine r_val .none rfl (p_assign rfl) ?_
                                      refine r_nil ?_
                                      refine e_next ?_
                                      refine c_ret ?_
                                      refine e_ret_then ?_
                                      refine e_ret_block ?_
                                      refine e_ret_then ?_
                                      refine e_ret_then ?_
                                      refine e_ret_block ?_
                                      refine e_ret_then ?_
                                      refine e_ret1 Try.results45 (.tmp rfl .nil) (fun w hm => ⟨?_, hm.since⟩)
                                      rw [← hphi.2, hl]
                                      first
                                      | (rw [out_pos (by omega) (by simpa using hH) h1]; done)
                                      | (rw [out_rest (by omega) (by simpa using hH) h1 h2]; done)
                                      | (rw [out_in (by omega) (by simpa using hH) h1 h2 h3 h4]; done)
                                      | (rw [out_zero (by omega) (by simpa using hH) h1 h2 (fun hx => h3 hx.1)]; done)
                                      | (rw [out_zero (by omega) (by simpa using hH) h1 h2 (fun hx => h4 hx.2)]; done)
                                      | (rw [List.drop_eq_nil_of_le (by simp; omega)]; rfl)
                                      )
                                · skip
                                  have h4 := h_15
                                  first
                                    | (exfalso; omega)
                                    | (
                                      refine c_cond_f rfl ?_
                                      refine c_skip ?_
                                      refine e_next ?_
                                      refine c_seq ?_
                                      refine c_region ?_
                                      refine r_val .none rfl (p_assign rfl) ?_
                                      refine r_nil ?_
                                      refine e_next ?_
                                      refine c_ret ?_
                                      refine e_ret_block ?_
                                      refine e_ret_then ?_
                                      refine e_ret_then ?_
                                      refine e_ret_block ?_
                                      refine e_ret_then ?_
                                      refine e_ret1 Try.results45 (.tmp rfl .nil) (fun w hm => ⟨?_, hm.since⟩)
                                      rw [← hphi.2, hl]
                                      first
                                      | (rw [out_pos (by omega) (by simpa using hH) h1]; done)
                                      | (rw [out_rest (by omega) (by simpa using hH) h1 h2]; done)
                                      | (rw [out_in (by omega) (by simpa using hH) h1 h2 h3 h4]; done)
                                      | (rw [out_zero (by omega) (by simpa using hH) h1 h2 (fun hx => h3 hx.1)]; done)
                                      | (rw [out_zero (by omega) (by simpa using hH) h1 h2 (fun hx => h4 hx.2)]; done)
                                      | (rw [List.drop_eq_nil_of_le (by simp; omega)]; rfl)
                                      )
                                )
                          · skip
                            have h3 := h_14
                            first
                              | (exfalso; omega)
                              | (
                                refine c_cond_f rfl ?_
                                refine c_skip ?_
                                refine e_next ?_
                                refine c_seq ?_
                                refine c_region ?_
                                refine r_val .none rfl (p_assign rfl) ?_
                                refine r_nil ?_
                                refine e_next ?_
                                refine c_ret ?_
                                refine e_ret_block ?_
                                refine e_ret_then ?_
                                refine e_ret_then ?_
                                refine e_ret_block ?_
                                refine e_ret_then ?_
                                refine e_ret1 Try.results45 (.tmp rfl .nil) (fun w hm => ⟨?_, hm.since⟩)
                                rw [← hphi.2, hl]
                                first
                                | (rw [out_pos (by omega) (by simpa using hH) h1]; done)
                                | (rw [out_rest (by omega) (by simpa using hH) h1 h2]; done)
                                | (rw [out_in (by omega) (by simpa using hH) h1 h2 h3 h4]; done)
                                | (rw [out_zero (by omega) (by simpa using hH) h1 h2 (fun hx => h3 hx.1)]; done)
                                | (rw [out_zero (by omega) (by simpa using hH) h1 h2 (fun hx => h4 hx.2)]; done)
                                | (rw [List.drop_eq_nil_of_le (by simp; omega)]; rfl)
                                )
                          )
                    )
              )
        )
  · skip
    first
      | (exfalso; omega)
      | (
        refine c_cond_f rfl ?_
        refine c_exit ?_
        refine e_exit_then ?_
        refine e_exit_then ?_
        refine e_exit_block ?_
        refine e_next ?_
        refine c_seq ?_
        refine c_region ?_
        refine r_val .none rfl (p_assign rfl) ?_
        refine r_nil ?_
        refine e_next ?_
        refine c_ret ?_
        refine e_ret1 Try.results45 (.tmp rfl .nil) (fun w hm => ⟨?_, hm.since⟩)
        rw [← hphi.2, hl]
        first
        | (rw [out_pos (by omega) (by simpa using hH) h1]; done)
        | (rw [out_rest (by omega) (by simpa using hH) h1 h2]; done)
        | (rw [out_in (by omega) (by simpa using hH) h1 h2 h3 h4]; done)
        | (rw [out_zero (by omega) (by simpa using hH) h1 h2 (fun hx => h3 hx.1)]; done)
        | (rw [out_zero (by omega) (by simpa using hH) h1 h2 (fun hx => h4 hx.2)]; done)
        | (rw [List.drop_eq_nil_of_le (by simp; omega)]; rfl)
        )
theorem c_out_n : ∀ n, OutIs n
  | 0 => fun va l v G w hz _ _ => absurd hz (by cases l <;> simp)
  | n + 1 => fun va l v G w hz hs hG => c_out_s n (c_out_n n) va l v hz hs w hG
theorem c_out (va : Value) (l : List CT) (v : Nat) {G : Ghost} (hs : Rs G va l) (w : World) (hG : Has G w) : Calls Try.prog 45 #[va, Value.int .i64 (v : Nat)] w (Ret fun r w' => r = Value.int .i64 (out l v) ∧ Since nX w w') := c_out_n _ va l v G w (Nat.le_refl _) hs hG
theorem c_rcheck5 (nm : ByteArray) (cv : Value) (l : List CT) {G : Ghost} (hsz : sizeL l ≤ 1000) (hs : Rs G cv l) (w : World) (hG : Has G w) :
    Calls Try.prog 23 #[Value.agg #[Value.string nm, cv]] w (Ret fun r w' => r = Value.int .i64 (ruleChk nm l) ∧ Since nX w w') := by
  refine enter (args := [_]) (X := nX) (G := G) (l := [(0, Value.agg #[Value.string nm, cv])]) Try.func23 rfl Try.ntmps23 hG ⟨rfl, trivial⟩ (Nat.le_of_ble_eq_true rfl) ?_
  obtain ⟨rs, hr, hp, hl⟩ := hs.inv
  have hbd := hr.bound
  have hlr : l.length = rs.length := by rw [hl]; simp
  refine c_seq ?_
  refine c_region ?_
  refine r_box .none rfl rfl (IsRow.lit _) (fun b_1 => ?_)
  refine r_val .none rfl (p_assign rfl) ?_
  refine r_nil ?_
  refine e_next ?_
  refine c_seq ?_
  refine c_seq ?_
  refine c_region ?_
  refine r_val .none rfl (p_field Try.underlying51 rfl sz9 rfl) ?_
  refine r_val .none rfl (p_ld (k := 0) Try.underlying9 rfl rfl rfl (by first | exact of_decide_eq_true rfl | omega) (rfl : _ = Value.string _)) ?_
  refine r_call (vs := [_]) .none rfl cl44 rfl (fun w hw => c_rsymRight nm w) ?_
  refine r_val .none rfl (p_not rfl) ?_
  refine r_nil ?_
  refine e_next ?_
  refine c_splitn (d := 11) rfl (fun h_1 => ?_) (fun h_1 => ?_)
  · skip
    have hN : symRight nm = false := by simpa using h_1
    first
      | (exfalso; omega)
      | (
        refine c_cond_t rfl ?_
        refine c_seq ?_
        refine c_region ?_
        refine r_val .none rfl (p_assign rfl) ?_
        refine r_nil ?_
        refine e_next ?_
        refine c_ret ?_
        refine e_ret_then ?_
        refine e_ret1 Try.results23 (.tmp rfl .nil) (fun w hm => ⟨?_, hm.since⟩)
        first
        | (rw [chk_name hN]; done)
        | (rw [chk_empty hN (by omega)]; done)
        | (rw [chk_bad hN (by omega) (by rw [hl, checkL_at (by omega) hphi.2 hE]; exact hE), hl, checkL_at (by omega) hphi.2 hE]; done)
        | (rw [chk_long hN (by omega) hC0 (by omega)]; done)
        | (rw [chk_scope hN (by omega) hC0 (by omega) (anyBad_yes (v := v) (by omega) (by omega) hB)]; done)
        | (rw [chk_ok hN (by omega) hC0 (by omega) (anyBad_no (fun u h1 h2 => hno u h1 (by omega)))]; done)
        )
  · skip
    have hN : symRight nm = true := by simpa using h_1
    first
      | (exfalso; omega)
      | (
        refine c_cond_f rfl ?_
        refine c_skip ?_
        refine e_next ?_
        refine c_seq ?_
        refine c_seq ?_
        refine c_region ?_
        refine r_val .none rfl (p_field Try.underlying51 rfl sz36 rfl) ?_
        refine r_val .none rfl (p_ld (k := 0) Try.underlying36 rfl rfl rfl (by first | exact of_decide_eq_true rfl | omega) rfl) ?_
        refine r_val .none rfl (p_leng Try.underlying36 rfl hr) ?_
        have bd_2 := (hr).bound
        refine r_val .none rfl (p_eq rfl rfl) ?_
        refine r_nil ?_
        refine e_next ?_
        refine c_splitd (d := 15) rfl (fun h_3 => ?_) (fun h_3 => ?_)
        · skip
          first
            | (exfalso; omega)
            | (
              refine c_cond_t rfl ?_
              refine c_seq ?_
              refine c_region ?_
              refine r_val .none rfl (p_assign rfl) ?_
              refine r_nil ?_
              refine e_next ?_
              refine c_ret ?_
              refine e_ret_then ?_
              refine e_ret1 Try.results23 (.tmp rfl .nil) (fun w hm => ⟨?_, hm.since⟩)
              first
              | (rw [chk_name hN]; done)
              | (rw [chk_empty hN (by omega)]; done)
              | (rw [chk_bad hN (by omega) (by rw [hl, checkL_at (by omega) hphi.2 hE]; exact hE), hl, checkL_at (by omega) hphi.2 hE]; done)
              | (rw [chk_long hN (by omega) hC0 (by omega)]; done)
              | (rw [chk_scope hN (by omega) hC0 (by omega) (anyBad_yes (v := v) (by omega) (by omega) hB)]; done)
              | (rw [chk_ok hN (by omega) hC0 (by omega) (anyBad_no (fun u h1 h2 => hno u h1 (by omega)))]; done)
              )
        · skip
          first
            | (exfalso; omega)
            | (
              refine c_cond_f rfl ?_
              refine c_skip ?_
              refine e_next ?_
              refine c_seq ?_
              refine c_region ?_
              refine r_val .none rfl (p_assign rfl) ?_
              refine r_nil ?_
              refine e_next ?_
              refine c_seq ?_
              refine c_seq ?_
              refine c_region ?_
              refine r_val .none rfl (p_field Try.underlying51 rfl sz36 rfl) ?_
              refine r_val .none rfl (p_ld (k := 0) Try.underlying36 rfl rfl rfl (by first | exact of_decide_eq_true rfl | omega) rfl) ?_
              refine r_val .none rfl (p_leng Try.underlying36 rfl hr) ?_
              have bd_4 := (hr).bound
              refine r_val .none rfl (p_move rfl) ?_
              refine r_nil ?_
              refine e_next ?_
              refine c_block ?_
              refine c_name (d := 1) rfl (fun u_5 hu_5 => ?_)
              refine c_name (d := 17) rfl (fun u_6 hu_6 => ?_)
              refine c_name (d := 18) rfl (fun u_7 hu_7 => ?_)
              refine c_nameL (k := 0) rfl (fun A_8 hA_8 => ?_)
              refine c_loop (σ := Nat) (fun k => [(19, Value.int .i64 (k : Nat)), (3, Value.int .i64 (sizeL ((rs.map Prod.fst).take k) : Nat)), (1, u_5), (17, u_6), (18, u_7)]) (fun k => [A_8]) (fun _ => _) (fun k => k ≤ rs.length ∧ ∀ c ∈ (rs.map Prod.fst).take k, check c 1 = 0) (fun k => rs.length - k) (0) ⟨Nat.zero_le _, by simp⟩ rfl ⟨rfl, rfl, rfl, rfl, rfl, trivial⟩ (.keep (fun _ _ h => h) (.nil)) (fun k hphi => ?_)
              subst hu_5
              subst hu_6
              subst hu_7
              subst hA_8
              refine c_seq ?_
              refine c_region ?_
              refine r_val .none rfl (p_lt rfl rfl) ?_
              refine r_nil ?_
              refine e_next ?_
              refine c_seq ?_
              refine c_splitd (d := 20) rfl (fun h_9 => ?_) (fun h_9 => ?_)
              · skip
                first
                  | (exfalso; omega)
                  | (
                    refine c_cond_t rfl ?_
                    refine c_skip ?_
                    refine e_next ?_
                    refine c_seq ?_
                    refine c_block ?_
                    refine c_seq ?_
                    refine c_region ?_
                    refine r_iaddr_g .none rfl Try.underlying36 sz38 rfl hr rfl (by first | exact of_decide_eq_true rfl | omega) (fun p_11 o_12 R_10 => ?_)
                    have hc_13 := hp _ (getD_mem (i := k) (d := d0) (by omega))
                    have hz3 : size (rs.getD k d0).1 ≤ 1000 := Nat.le_trans (sizeL_mem (by rw [hl]; exact List.mem_map.2 ⟨_, getD_mem (i := k) (d := d0) (by omega), rfl⟩)) hsz
                    have hst := sizeL_take (rs := rs) (k := k) (by omega)
                    have hst2 : sizeL ((rs.map Prod.fst).take (k + 1)) ≤ sizeL l := by rw [hl]; exact sizeL_take_le _ _
                    refine r_val .none rfl (p_ldga0 Try.underlying38 rfl sz38 rfl R_10 (by first | exact of_decide_eq_true rfl | omega) (rfl : _ = Value.agg #[_, _, _, _, _, _, _, _])) ?_
                    refine r_alloc .none rfl zr38 (IsRow.lit _) (fun b_2 => ?_)
                    refine r_stw (k := 0) .none sz38 rfl rfl (IsRow.lit _) (one_lit rfl (all_cons rfl (all_cons rfl (all_cons rfl (all_cons rfl (all_cons rfl (all_cons rfl (all_cons rfl (all_cons (hc_13).one rfl))))))))) rfl ?_
                    refine r_nil ?_
                    refine e_next ?_
                    refine c_seq ?_
                    refine c_region ?_
                    refine r_val .none rfl (p_ldw (k := 0) Try.underlying38 rfl sz38 rfl rfl (rfl : _ = Value.agg #[_, _, _, _, _, _, _, _])) ?_
                    refine r_call (vs := [_, _]) .none rfl cl14 rfl (fun w hw => c_rcheck (rs.getD k d0).1 _ 1 (by decide) hc_13 w hw) ?_
                    refine r_val .none rfl (p_assign rfl) ?_
                    refine r_nil ?_
                    refine e_next ?_
                    refine c_seq ?_
                    refine c_seq ?_
                    refine c_region ?_
                    refine r_val .none rfl (p_move rfl) ?_
                    refine r_val .none rfl (p_ne rfl rfl) ?_
                    refine r_nil ?_
                    refine e_next ?_
                    refine c_splitd (d := 26) rfl (fun h_14 => ?_) (fun h_14 => ?_)
                    · skip
                      have hE := h_14
                      first
                        | (exfalso; omega)
                        | (
                          refine c_cond_t rfl ?_
                          refine c_seq ?_
                          refine c_region ?_
                          refine r_val .none rfl (p_move rfl) ?_
                          refine r_val .none rfl (p_assign rfl) ?_
                          refine r_nil ?_
                          refine e_next ?_
                          refine c_ret ?_
                          refine e_ret_then ?_
                          refine e_ret_block ?_
                          refine e_ret_then ?_
                          refine e_ret_then ?_
                          refine e_ret_block ?_
                          refine e_ret_then ?_
                          refine e_ret1 Try.results23 (.tmp rfl .nil) (fun w hm => ⟨?_, hm.since⟩)
                          first
                          | (rw [chk_name hN]; done)
                          | (rw [chk_empty hN (by omega)]; done)
                          | (rw [chk_bad hN (by omega) (by rw [hl, checkL_at (by omega) hphi.2 hE]; exact hE), hl, checkL_at (by omega) hphi.2 hE]; done)
                          | (rw [chk_long hN (by omega) hC0 (by omega)]; done)
                          | (rw [chk_scope hN (by omega) hC0 (by omega) (anyBad_yes (v := v) (by omega) (by omega) hB)]; done)
                          | (rw [chk_ok hN (by omega) hC0 (by omega) (anyBad_no (fun u h1 h2 => hno u h1 (by omega)))]; done)
                          )
                    · skip
                      have hE := Decidable.not_not.1 h_14
                      first
                        | (exfalso; omega)
                        | (
                          refine c_cond_f rfl ?_
                          refine c_skip ?_
                          refine e_next ?_
                          refine c_region ?_
                          refine r_val .none rfl (p_move rfl) ?_
                          refine r_val .none rfl (p_ldw (k := 0) Try.underlying38 rfl sz38 rfl rfl (rfl : _ = Value.agg #[_, _, _, _, _, _, _, _])) ?_
                          refine r_call (vs := [_]) .none rfl cl33 rfl (fun w hw => c_rsize (rs.getD k d0).1 _ hz3 hc_13 w hw) ?_
                          refine r_val .none rfl (p_add rfl rfl (by omega)) ?_
                          refine r_val .none rfl (p_assign rfl) ?_
                          refine r_nil ?_
                          refine e_norm_block ?_
                          refine e_next ?_
                          refine c_region ?_
                          refine r_val .none rfl (p_add rfl rfl (by omega)) ?_
                          refine r_val .none rfl (p_move rfl) ?_
                          refine r_nil ?_
                          refine e_round (k + 1) ⟨⟨by omega, fun c hc => by rw [map_take (d := d0) (by omega)] at hc; rcases List.mem_append.1 hc with h | h; exact hphi.2 c h; rw [List.mem_singleton.1 h]; exact hE⟩, by omega⟩ rfl ⟨rfl, (congrArg (fun z => some (Value.int .i64 z)) (by rw [hst]; omega)), rfl, rfl, rfl, trivial⟩ (.drop (.keep (fun _ _ h => h) (.nil)))
                          )
                    )
              · skip
                first
                  | (exfalso; omega)
                  | (
                    refine c_cond_f rfl ?_
                    refine c_exit ?_
                    refine e_exit_then ?_
                    refine e_exit_then ?_
                    refine e_exit_block ?_
                    refine e_next ?_
                    refine c_seq ?_
                    refine c_seq ?_
                    refine c_region ?_
                    have hlt : (rs.map Prod.fst).take k = l := by rw [List.take_of_length_le (by simp; omega), hl]
                    have hC0 : checkL l 1 = 0 := checkL_all (fun c hc => hphi.2 c (by rw [hlt]; exact hc))
                    rw [hlt] at *
                    refine r_val .none rfl (p_move rfl) ?_
                    refine r_val .none rfl (p_gt rfl rfl) ?_
                    refine r_nil ?_
                    refine e_next ?_
                    refine c_splitd (d := 34) rfl (fun h_15 => ?_) (fun h_15 => ?_)
                    · skip
                      first
                        | (exfalso; omega)
                        | (
                          refine c_cond_t rfl ?_
                          refine c_seq ?_
                          refine c_region ?_
                          refine r_val .none rfl (p_assign rfl) ?_
                          refine r_nil ?_
                          refine e_next ?_
                          refine c_ret ?_
                          refine e_ret_then ?_
                          refine e_ret1 Try.results23 (.tmp rfl .nil) (fun w hm => ⟨?_, hm.since⟩)
                          first
                          | (rw [chk_name hN]; done)
                          | (rw [chk_empty hN (by omega)]; done)
                          | (rw [chk_bad hN (by omega) (by rw [hl, checkL_at (by omega) hphi.2 hE]; exact hE), hl, checkL_at (by omega) hphi.2 hE]; done)
                          | (rw [chk_long hN (by omega) hC0 (by omega)]; done)
                          | (rw [chk_scope hN (by omega) hC0 (by omega) (anyBad_yes (v := v) (by omega) (by omega) hB)]; done)
                          | (rw [chk_ok hN (by omega) hC0 (by omega) (anyBad_no (fun u h1 h2 => hno u h1 (by omega)))]; done)
                          )
                    · skip
                      first
                        | (exfalso; omega)
                        | (
                          refine c_cond_f rfl ?_
                          refine c_skip ?_
                          refine e_next ?_
                          refine c_seq ?_
                          refine c_seq ?_
                          refine c_region ?_
                          refine r_val .none rfl (p_assign rfl) ?_
                          refine r_nil ?_
                          refine e_next ?_
                          refine c_block ?_
                          refine c_name (d := 1) rfl (fun u_16 hu_16 => ?_)
                          refine c_nameL (k := 0) rfl (fun A_17 hA_17 => ?_)
                          refine c_loop (σ := Nat) (fun v => [(7, Value.int .i64 (v : Nat)), (1, u_16)]) (fun v => [A_17]) (fun _ => _) (fun v => (1 ≤ v ∧ v ≤ 33) ∧ (∀ u, 1 ≤ u → u < v → out l u ≠ 1)) (fun v => 33 - v) (1) ⟨⟨Nat.le_refl _, Nat.le_of_ble_eq_true rfl⟩, fun u h1 h2 => absurd (Nat.lt_of_le_of_lt h1 h2) (Nat.lt_irrefl _)⟩ rfl ⟨rfl, rfl, trivial⟩ (.keep (fun _ _ h => h) (.nil)) (fun v hphi => ?_)
                          subst hu_16
                          subst hA_17
                          have hv := hphi.1
                          have hno := hphi.2
                          refine c_seq ?_
                          refine c_seq ?_
                          refine c_region ?_
                          refine r_val .none rfl (p_move rfl) ?_
                          refine r_val .none rfl (p_le rfl rfl) ?_
                          refine r_nil ?_
                          refine e_next ?_
                          refine c_splitd (d := 36) rfl (fun h_18 => ?_) (fun h_18 => ?_)
                          · skip
                            first
                              | (exfalso; omega)
                              | (
                                refine c_cond_t rfl ?_
                                refine c_skip ?_
                                refine e_next ?_
                                refine c_seq ?_
                                refine c_block ?_
                                refine c_seq ?_
                                refine c_region ?_
                                refine r_val .none rfl (p_field Try.underlying51 rfl sz36 rfl) ?_
                                refine r_val .none rfl (p_ld (k := 0) Try.underlying36 rfl rfl rfl (by first | exact of_decide_eq_true rfl | omega) rfl) ?_
                                refine r_val .none rfl (p_move rfl) ?_
                                refine r_call (vs := [_, _]) .none rfl cl45 rfl (fun w hw => c_out _ l v hs w hw) ?_
                                refine r_val .none rfl (p_eq rfl rfl) ?_
                                refine r_nil ?_
                                refine e_next ?_
                                refine c_splitd (d := 43) rfl (fun h_19 => ?_) (fun h_19 => ?_)
                                · skip
                                  have hB := h_19
                                  first
                                    | (exfalso; omega)
                                    | (
                                      refine c_cond_t rfl ?_
                                      refine c_seq ?_
                                      refine c_region ?_
                                      refine r_val .none rfl (p_assign rfl) ?_
                                      refine r_nil ?_
                                      refine e_next ?_
                                      refine c_ret ?_
                                      refine e_ret_block ?_
                                      refine e_ret_then ?_
                                      refine e_ret_then ?_
                                      refine e_ret_block ?_
                                      refine e_ret_then ?_
                                      refine e_ret1 Try.results23 (.tmp rfl .nil) (fun w hm => ⟨?_, hm.since⟩)
                                      first
                                      | (rw [chk_name hN]; done)
                                      | (rw [chk_empty hN (by omega)]; done)
                                      | (rw [chk_bad hN (by omega) (by rw [hl, checkL_at (by omega) hphi.2 hE]; exact hE), hl, checkL_at (by omega) hphi.2 hE]; done)
                                      | (rw [chk_long hN (by omega) hC0 (by omega)]; done)
                                      | (rw [chk_scope hN (by omega) hC0 (by omega) (anyBad_yes (v := v) (by omega) (by omega) hB)]; done)
                                      | (rw [chk_ok hN (by omega) hC0 (by omega) (anyBad_no (fun u h1 h2 => hno u h1 (by omega)))]; done)
                                      )
                                · skip
                                  have hB := h_19
                                  first
                                    | (exfalso; omega)
                                    | (
                                      refine c_cond_f rfl ?_
                                      refine c_skip ?_
                                      refine e_norm_block ?_
                                      refine e_next ?_
                                      refine c_region ?_
                                      refine r_val .none rfl (p_move rfl) ?_
                                      refine r_val .none rfl (p_add rfl rfl (by omega)) ?_
                                      refine r_val .none rfl (p_assign rfl) ?_
                                      refine r_nil ?_
                                      refine e_round (v + 1) ⟨⟨⟨by omega, by omega⟩, fun u h1 h2 => by rcases Nat.lt_or_ge u v with h3 | h3; exact hno u h1 h3; rw [show u = v by omega]; exact hB⟩, by omega⟩ rfl ⟨rfl, rfl, trivial⟩ (.keep (fun _ _ h => h) (.nil))
                                      )
                                )
                          · skip
                            first
                              | (exfalso; omega)
                              | (
                                refine c_cond_f rfl ?_
                                refine c_exit ?_
                                refine e_exit_then ?_
                                refine e_exit_then ?_
                                refine e_exit_block ?_
                                refine e_next ?_
                                refine c_seq ?_
                                refine c_region ?_
                                refine r_val .none rfl (p_assign rfl) ?_
                                refine r_nil ?_
                                refine e_next ?_
                                refine c_ret ?_
                                refine e_ret1 Try.results23 (.tmp rfl .nil) (fun w hm => ⟨?_, hm.since⟩)
                                first
                                | (rw [chk_name hN]; done)
                                | (rw [chk_empty hN (by omega)]; done)
                                | (rw [chk_bad hN (by omega) (by rw [hl, checkL_at (by omega) hphi.2 hE]; exact hE), hl, checkL_at (by omega) hphi.2 hE]; done)
                                | (rw [chk_long hN (by omega) hC0 (by omega)]; done)
                                | (rw [chk_scope hN (by omega) hC0 (by omega) (anyBad_yes (v := v) (by omega) (by omega) hB)]; done)
                                | (rw [chk_ok hN (by omega) hC0 (by omega) (anyBad_no (fun u h1 h2 => hno u h1 (by omega)))]; done)
                                )
                          )
                    )
              )
        )
theorem c_ref5 (nm : ByteArray) (cv : Value) (l : List CT) {G : Ghost} (hsz : sizeL l ≤ 1000) (hs : Cs G cv l) (w : World) (hG : Has G w) :
    Calls Try.prog 24 #[Value.agg #[Value.string nm, cv]] w (Ret fun r w' => ∃ G', GNew w nX G G' ∧ Has G' w' ∧ (∃ u, r = Value.agg #[Value.string nm, u] ∧ Rs G' u l) ∧ Since nX w w') := by
  refine enter (args := [_]) (X := nX) (G := G) (l := [(0, Value.agg #[Value.string nm, cv])]) Try.func24 rfl Try.ntmps24 hG ⟨rfl, trivial⟩ (Nat.le_of_ble_eq_true rfl) ?_
  obtain ⟨rs, hr, hp, hl⟩ := hs.inv
  have hbd := hr.bound
  have hlr : l.length = rs.length := by rw [hl]; simp
  have hll := sizeL_len l
  refine c_seq ?_
  refine c_region ?_
  refine r_box .none rfl rfl (IsRow.lit _) (fun b_1 => ?_)
  refine r_alloc .none rfl zr51 (IsRow.lit _) (fun b_2 => ?_)
  refine r_nil ?_
  refine e_next ?_
  refine c_seq ?_
  refine c_region ?_
  refine r_val .none rfl (p_field Try.underlying46 rfl sz9 rfl) ?_
  refine r_val .none rfl (p_ld (k := 1) Try.underlying9 rfl rfl rfl (by first | exact of_decide_eq_true rfl | omega) (rfl : _ = Value.string _)) ?_
  refine r_val .none rfl (p_build (vs := [(0, Value.string _)]) rfl (bl51_0s1 _)) ?_
  refine r_alloc .none rfl zr51 (IsRow.lit _) (fun b_3 => ?_)
  refine r_stw (k := 0) .none sz51 rfl rfl (IsRow.lit _) (one_lit rfl rfl) rfl ?_
  refine r_nil ?_
  refine e_next ?_
  refine c_seq ?_
  refine c_seq ?_
  refine c_region ?_
  refine r_val .none rfl (p_field Try.underlying46 rfl sz25 rfl) ?_
  refine r_val .none rfl (p_ld (k := 2) Try.underlying25 rfl rfl rfl (by first | exact of_decide_eq_true rfl | omega) rfl) ?_
  refine r_val .none rfl (p_leng Try.underlying25 rfl hr) ?_
  have bd_1 := (hr).bound
  refine r_val .none rfl (p_move rfl) ?_
  refine r_nil ?_
  refine e_next ?_
  refine c_block ?_
  refine c_nilrow 38 8 ?_
  refine c_name (d := 2) rfl (fun u_2 hu_2 => ?_)
  refine c_name (d := 3) rfl (fun u_3 hu_3 => ?_)
  refine c_name (d := 10) rfl (fun u_4 hu_4 => ?_)
  refine c_name (d := 11) rfl (fun u_5 hu_5 => ?_)
  refine c_nameL (k := 2) rfl (fun A_6 hA_6 => ?_)
  refine c_nameL (k := 3) rfl (fun A_7 hA_7 => ?_)
  refine c_loop (σ := Nat × Value × List (CT × Value) × Ghost) (fun s => [(12, Value.int .i64 (s.1 : Nat)), (2, u_2), (3, u_3), (10, u_4), (11, u_5)]) (fun s => [rowA (s.2.1) 38 8 (s.2.2.1).length ((s.2.2.1).flatMap rvC), box b_3 2 51 (at_ [.string nm, s.2.1]), A_6, A_7]) (fun s => s.2.2.2) (fun s => s.1 ≤ rs.length ∧ s.2.2.1.map Prod.fst = (rs.map Prod.fst).take s.1 ∧ (∀ p ∈ s.2.2.1, Rs s.2.2.2 p.2 p.1.subs) ∧ GNew w nX G s.2.2.2) (fun s => rs.length - s.1) ((0, _, [], _)) ⟨Nat.zero_le _, rfl, by simp, GNew.refl _ _ _⟩ rfl ⟨rfl, rfl, rfl, rfl, rfl, trivial⟩ (.keep (fun _ _ h => rowA_nil rfl _ _ h) (.keep (fun _ _ h => box_congr (fun i hi => by match i, hi with | 0, _ => rfl | 1, _ => rfl) _ _ h) (.keep (fun _ _ h => h) (.keep (fun _ _ h => h) (.nil))))) (fun s hphi => ?_)
  subst hu_2
  subst hu_3
  subst hu_4
  subst hu_5
  subst hA_6
  subst hA_7
  obtain ⟨k, v, qs, H⟩ := s
  obtain ⟨hk, hq, hqs, hgn⟩ := hphi
  dsimp only at hk hq hqs hgn ⊢
  have hql : qs.length ≤ k := (by have := congrArg List.length hq; simp at this; omega)
  refine c_row1 (k := 0) rfl (fun ov => ?_)
  refine c_rowlen (k := 0) rfl (fun l63 => ?_)
  replace hp := fun p hm0 => (hp p hm0).mono hgn.le
  replace hr := hr.mono hgn.le
  replace hs := hs.mono hgn.le
  refine c_seq ?_
  refine c_region ?_
  refine r_val .none rfl (p_lt rfl rfl) ?_
  refine r_nil ?_
  refine e_next ?_
  refine c_seq ?_
  refine c_splitd (d := 13) rfl (fun h_8 => ?_) (fun h_8 => ?_)
  · skip
    first
      | (exfalso; omega)
      | (
        refine c_cond_t rfl ?_
        refine c_skip ?_
        refine e_next ?_
        refine c_seq ?_
        refine c_block ?_
        refine c_seq ?_
        refine c_region ?_
        refine r_iaddr_g .none rfl Try.underlying25 sz27 rfl hr rfl (by first | exact of_decide_eq_true rfl | omega) (fun p_10 o_11 R_9 => ?_)
        have hc_12 := hp _ (getD_mem (i := k) (d := d0) (by omega))
        have hz3 : size (rs.getD k d0).1 ≤ 1000 := Nat.le_trans (sizeL_mem (by rw [hl]; exact List.mem_map.2 ⟨_, getD_mem (i := k) (d := d0) (by omega), rfl⟩)) hsz
        refine r_val .none rfl (p_ldga0 Try.underlying27 rfl sz27 rfl R_9 (by first | exact of_decide_eq_true rfl | omega) (rfl : _ = Value.agg #[_, _, _, _, _, _, _, _])) ?_
        refine r_alloc .none rfl zr27 (IsRow.lit _) (fun b_4 => ?_)
        refine r_stw (k := 0) .none sz27 rfl rfl (IsRow.lit _) (one_lit rfl (all_cons rfl (all_cons rfl (all_cons rfl (all_cons rfl (all_cons rfl (all_cons rfl (all_cons rfl (all_cons (hc_12).one rfl))))))))) rfl ?_
        refine r_nil ?_
        refine e_next ?_
        refine c_region_d (fun j => [5, 6, 7].contains j) _ mixed (.keep (fun _ _ h => h) (.keep (fun _ _ h => h) (.keep (fun _ _ h => h) (.keep (fun _ _ h => h) (.keep (fun _ _ h => h) (.nil)))))) ?_
        refine d_val1 0 rfl rfl (by kernel_rfl) (fun j hj => by have h : 7 < j := (Nat.lt_of_lt_of_le (by decide : 7 < 8) hj); simp; omega) .none rfl (p_field Try.underlying51 rfl sz36 rfl) ?_
        refine d_val1 1 rfl rfl (by kernel_rfl) (fun j hj => by have h : 7 < j := (Nat.lt_of_lt_of_le (by decide : 7 < 8) hj); simp; omega) .none rfl (p_ld (k := 2) Try.underlying36 rfl rfl rfl (by first | exact of_decide_eq_true rfl | omega) rfl) ?_
        refine d_val1 2 rfl rfl (by kernel_rfl) (fun j hj => by have h : 7 < j := (Nat.lt_of_lt_of_le (by decide : 7 < 8) hj); simp; omega) .none rfl (p_ldw (k := 0) Try.underlying27 rfl sz27 rfl rfl (rfl : _ = Value.agg #[_, _, _, _, _, _, _, _])) ?_
        refine d_eff 3 rfl (by kernel_rfl) (fun K_13 hKK_13 hcK_13 => ?_)
        refine r_callm (vs := [_]) .none rfl cl15 rfl (fun w hw => c_ref4 (rs.getD k d0).1 _ hz3 hc_12 w hw) (fun G_14 v_17 hn_15 hr_16 => ?_)
        replace hp := fun p hm0 => (hp p hm0).mono hn_15.le
        replace hr := hr.mono hn_15.le
        replace hs := hs.mono hn_15.le
        replace hqs := fun p hm0 => (hqs p hm0).mono hn_15.le
        replace R_9 := R_9.mono hn_15.le
        replace hc_12 := hc_12.mono hn_15.le
        obtain ⟨u_18, rfl, u_18s⟩ := hr_16
        refine r_nil (e_d (i := 3) (brk := (fun j => [5, 6, 7].contains j)) (ph' := true) hKK_13 hcK_13 rfl (fun _ => hn_15.le) (fun _ => .keep (fun _ _ h => h) (.keep (fun _ _ h => h) (.keep (fun _ _ h => h) (.keep (fun _ _ h => h) (.keep (fun _ _ h => h) (.nil)))))) ?_)
        clear hKK_13 hcK_13 K_13
        refine d_eff 4 rfl (by kernel_rfl) (fun K_19 hKK_19 hcK_19 => ?_)
        refine r_bslice (vs := [(0, Value.agg #[_, _, _, _, _, _, _, _])]) (c := #[_, _, _, _, _, _, _, _]) .none rfl Try.underlying36 el38 rfl rfl rfl (bs38_10a8 _ _ _ _ _ _ _ _) (IsRow.lit _) (fun b_5 => ?_)
        refine r_nil (e_d (i := 4) (brk := (fun j => [5, 6, 7].contains j)) (ph' := true) hKK_19 hcK_19 rfl (fun _ => hn_15.le) (fun _ => .drop (.keep (fun _ _ h => h) (.keep (fun _ _ h => h) (.keep (fun _ _ h => h) (.keep (fun _ _ h => h) (.keep (fun _ _ h => h) (.nil))))))) ?_)
        clear hKK_19 hcK_19 K_19
        refine d_eff 5 rfl (by kernel_rfl) (fun K_20 hKK_20 hcK_20 => ?_)
        refine r_append (k := 2) (k2 := 0) .none rfl Try.underlying36 el38 rfl (by decide) rfl rfl rfl rfl rfl (one_lit rfl (all_cons rfl (all_cons rfl (all_cons rfl (all_cons rfl (all_cons rfl (all_cons rfl (all_cons rfl (all_cons (u_18s).one rfl))))))))) (by simp only [maxLen]; omega) (by omega) (fun v_21 => ?_)
        refine r_row1 (k := 2) rfl (fun o_22 => ?_)
        refine r_nil (e_d (i := 5) (brk := (fun j => [5, 6, 7].contains j)) (ph' := false) hKK_20 hcK_20 rfl (fun h => by cases h) (fun h => by cases h) ?_)
        clear hKK_20 hcK_20 K_20
        refine d_val2 6 rfl rfl (by kernel_rfl) .none rfl (fun _ => p_field Try.underlying51 rfl sz36 rfl) ?_
        refine d_eff 7 rfl (by kernel_rfl) (fun K_23 hKK_23 hcK_23 => ?_)
        refine r_st (k := 3) .none sz36 rfl rfl o_22 rfl (by first | exact of_decide_eq_true rfl | omega) ?_
        refine r_nil (e_d (i := 7) (brk := (fun j => [5, 6, 7].contains j)) (ph' := false) hKK_23 hcK_23 rfl (fun h => by cases h) (fun h => by cases h) ?_)
        clear hKK_23 hcK_23 K_23
        refine d_nil (by kernel_rfl) ?_
        refine e_norm_block ?_
        refine e_next ?_
        refine c_region ?_
        refine r_val .none rfl (p_add rfl rfl (by omega)) ?_
        refine r_val .none rfl (p_move rfl) ?_
        refine r_nil ?_
        refine e_round ((k + 1, _, qs ++ [((rs.getD k d0).1, u_18)], _)) ⟨⟨by dsimp only; omega, by rw [map_take (d := d0) (by omega), List.map_append, hq]; rfl, (fun p hp' => by rcases List.mem_append.1 hp' with h | h; exact hqs p h; rw [List.mem_singleton.1 h]; exact u_18s), (hgn.trans hn_15)⟩, by dsimp only; omega⟩ rfl ⟨rfl, rfl, rfl, rfl, rfl, trivial⟩ (.drop (.drop (.keep (fun _ _ h => rowA_snoc (l := qs) (x := ((rs.getD k d0).1, u_18)) rfl rfl rfl rfl _ _ h) (.keep (fun _ _ h => box_congr (fun i hi => by match i, hi with | 0, _ => rfl | 1, _ => rfl) _ _ h) (.keep (fun _ _ h => h) (.keep (fun _ _ h => h) (.nil)))))))
        )
  · skip
    first
      | (exfalso; omega)
      | (
        refine c_cond_f rfl ?_
        refine c_exit ?_
        refine e_exit_then ?_
        refine e_exit_then ?_
        refine e_exit_block ?_
        refine e_next ?_
        refine c_seq ?_
        refine c_region ?_
        refine r_val .none rfl (p_ldw (k := 1) Try.underlying51 rfl sz51 rfl rfl (rfl : _ = Value.agg #[_, _])) ?_
        refine r_stw (k := 2) .none sz51 rfl rfl (IsRow.lit _) (one_lit rfl (all_cons rfl (all_cons ov rfl))) rfl ?_
        refine r_nil ?_
        refine e_next ?_
        refine c_ret ?_
        refine e_freeze (k := 0) rfl (fun G_24 hn_25 hs_26 => ?_)
        replace hp := fun p hm0 => (hp p hm0).mono hn_25.le
        replace hr := hr.mono hn_25.le
        replace hs := hs.mono hn_25.le
        replace hqs := fun p hm0 => (hqs p hm0).mono hn_25.le
        refine e_ret1 Try.results24 (.cell (k := 1) rfl Try.underlying51 rfl sz51 rfl (rfl : _ = Value.agg #[_, _]) .nil) (fun w hm => ⟨_, (hgn.trans hn_25), hm.has, ?_, hm.since⟩)
        refine ⟨v, rfl, ?_⟩
        rw [show l = qs.map Prod.fst by rw [hq, hl, List.take_of_length_le (by simp; omega)]]
        exact Tr.mk qs (SlL.of d0 (fun _ => rfl) rfl hs_26) hqs
        )
theorem c_Small5 (nm : ByteArray) (cv : Value) (l : List CT) (m : Int) {G : Ghost} (hm : 0 ≤ m ∧ m ≤ 900) (hs : Cs G cv l) (w : World) (hG : Has G w) :
    Calls Try.prog 20 #[Value.agg #[Value.string nm, cv], Value.int .i64 m] w (Ret fun r w' => r = Value.bool ((small (m + 1) (.mk h0 l) 5 0).1 && decide ((nm.size : Int) ≤ 200)) ∧ Since nX w w') := by
  refine enter (args := [_, _]) (X := nX) (G := G) (l := [(0, Value.agg #[Value.string nm, cv]), (1, Value.int .i64 m)]) Try.func20 rfl Try.ntmps20 hG ⟨rfl, rfl, trivial⟩ (Nat.le_of_ble_eq_true rfl) ?_
  obtain ⟨rs, hr, hp, hl⟩ := hs.inv
  have hbd := hr.bound
  have hlr : l.length = rs.length := by rw [hl]; simp
  refine c_seq ?_
  refine c_region ?_
  refine r_box .none rfl rfl (IsRow.lit _) (fun b_1 => ?_)
  refine r_val .none rfl (p_assign rfl) ?_
  refine r_nil ?_
  refine e_next ?_
  refine c_seq ?_
  refine c_region ?_
  refine r_val .none rfl (p_field Try.underlying46 rfl sz25 rfl) ?_
  refine r_val .none rfl (p_ld (k := 0) Try.underlying25 rfl rfl rfl (by first | exact of_decide_eq_true rfl | omega) rfl) ?_
  obtain ⟨a_1, c_2, rfl⟩ := SlG.len hr
  refine r_val .none rfl (p_build (vs := [(2, Value.slice _ _ _)]) rfl (bl27_2s3 _ _ _)) ?_
  refine r_val .none rfl (p_move rfl) ?_
  refine r_val .none rfl (p_add rfl rfl (by omega)) ?_
  refine r_call (vs := [_, _]) .none rfl cl11 rfl (fun w hw => c_Small (.mk h0 l) _ (m + 1) (by omega) hs w hw) ?_
  refine r_val .none rfl (p_move rfl) ?_
  refine' r_and (c := 11) (d := 16) [_, _, _, _, _] rfl (fun h_3 Q_4 hQ_5 => ?_) (fun h_3 Q_4 hQ_5 => ?_) ?_
  rotate_left 1
  · skip
    refine r_val (.some rfl rfl) rfl (p_field Try.underlying46 rfl sz9 rfl) ?_
    refine r_val (.some rfl rfl) rfl (p_ld (k := 0) Try.underlying9 rfl rfl rfl (by first | exact of_decide_eq_true rfl | omega) (rfl : _ = Value.string _)) ?_
    refine r_val (.some rfl rfl) rfl (p_len_str Try.underlying9 rfl) ?_
    refine r_val (.some rfl rfl) rfl (p_le rfl rfl) ?_
    refine r_val .none rfl (p_pick_t rfl rfl) ?_
    refine r_nil (e_fin (d := 16) hQ_5 rfl (by repeat (first | exact .refl | refine .put rfl ?_ | refine .say rfl ?_ | refine .say2 rfl (by first | assumption | simp_all) ?_)))
  · skip
    repeat (first | refine r_skip rfl (.no rfl rfl) ?_ | refine r_skip rfl (.un rfl rfl) ?_)
    refine r_val (by first | exact .none | exact .some rfl rfl) rfl (p_pick_f rfl rfl) ?_
    refine r_nil (e_fin (d := 16) hQ_5 rfl (by repeat (first | exact .refl | refine .put rfl ?_ | refine .say rfl ?_ | refine .say2 rfl (by first | assumption | simp_all) ?_)))
  refine r_val .none rfl (p_assign rfl) ?_
  refine r_nil ?_
  refine e_next ?_
  refine c_ret ?_
  refine e_ret1 Try.results20 (.tmp rfl .nil) (fun w hm => ⟨?_, hm.since⟩)
  rfl
theorem c_fine5 (nm : ByteArray) (cv : Value) (l : List CT) {G : Ghost} (hs : Cs G cv l) (w : World) (hG : Has G w) :
    Calls Try.prog 25 #[Value.agg #[Value.string nm, cv]] w (Ret fun r w' => r = Value.bool (fineR nm l) ∧ Since nX w w') := by
  refine enter (args := [_]) (X := nX) (G := G) (l := [(0, Value.agg #[Value.string nm, cv])]) Try.func25 rfl Try.ntmps25 hG ⟨rfl, trivial⟩ (Nat.le_of_ble_eq_true rfl) ?_
  refine c_seq ?_
  refine c_region ?_
  refine r_box .none rfl rfl (IsRow.lit _) (fun b_1 => ?_)
  refine r_val .none rfl (p_assign rfl) ?_
  refine r_nil ?_
  refine e_next ?_
  refine c_seq ?_
  refine c_region ?_
  refine r_val .none rfl (p_ldw (k := 0) Try.underlying46 rfl sz46 rfl rfl (rfl : _ = Value.agg #[_, _])) ?_
  refine r_call (vs := [_, _]) .none rfl cl20 rfl (fun w hw => c_Small5 nm _ l 20 (by decide) hs w hw) ?_
  refine r_val .none rfl (p_move rfl) ?_
  refine r_split (d := 5) rfl (fun h_1 => ?_) (fun h_1 => ?_)
  · skip
    have hS := h_1
    have hsz : sizeL l ≤ 1000 := by have h9 := (Bool.and_eq_true _ _).mp hS; have := small_sz (m := 21) h9.1; omega
    first
      | (exfalso; omega)
      | (
        refine r_val (.some rfl rfl) rfl (p_ldw (k := 0) Try.underlying46 rfl sz46 rfl rfl (rfl : _ = Value.agg #[_, _])) ?_
        refine r_callm (vs := [_]) (.some rfl rfl) rfl cl24 rfl (fun w hw => c_ref5 nm _ l hsz hs w hw) (fun G_2 v_5 hn_3 hr_4 => ?_)
        replace hs := hs.mono hn_3.le
        obtain ⟨u_6, rfl, u_6s⟩ := hr_4
        refine r_call (vs := [_]) (.some rfl rfl) rfl cl23 rfl (fun w hw => c_rcheck5 nm _ l hsz u_6s w hw) ?_
        refine r_val (.some rfl rfl) rfl (p_eq rfl rfl) ?_
        refine r_val .none rfl (p_pick_t rfl rfl) ?_
        refine r_val .none rfl (p_assign rfl) ?_
        refine r_nil ?_
        refine e_next ?_
        refine c_ret ?_
        refine e_ret1 Try.results25 (.tmp rfl .nil) (fun w hm => ⟨?_, hm.since⟩)
        first
        | (have e : fineR nm l = false := (by unfold fineR; rw [show ((small 21 (.mk h0 l) 5 0).1 && decide ((nm.size : Int) ≤ 200)) = false from hS, Bool.false_and]); rw [e]; done)
        | (have e : fineR nm l = decide (ruleChk nm l = 0) := (by unfold fineR; rw [show ((small 21 (.mk h0 l) 5 0).1 && decide ((nm.size : Int) ≤ 200)) = true from hS, Bool.true_and]); rw [e]; done)
        )
  · skip
    have hS := h_1
    first
      | (exfalso; omega)
      | (
        refine r_skip rfl (.no rfl rfl) ?_
        refine r_skip rfl (.no rfl rfl) ?_
        refine r_skip rfl (.no rfl rfl) ?_
        refine r_skip rfl (.no rfl rfl) ?_
        refine r_val .none rfl (p_pick_f rfl rfl) ?_
        refine r_val .none rfl (p_assign rfl) ?_
        refine r_nil ?_
        refine e_next ?_
        refine c_ret ?_
        refine e_ret1 Try.results25 (.tmp rfl .nil) (fun w hm => ⟨?_, hm.since⟩)
        first
        | (have e : fineR nm l = false := (by unfold fineR; rw [show ((small 21 (.mk h0 l) 5 0).1 && decide ((nm.size : Int) ≤ 200)) = false from hS, Bool.false_and]); rw [e]; done)
        | (have e : fineR nm l = decide (ruleChk nm l = 0) := (by unfold fineR; rw [show ((small 21 (.mk h0 l) 5 0).1 && decide ((nm.size : Int) ≤ 200)) = true from hS, Bool.true_and]); rw [e]; done)
        )
end Go.Proofs.Ytpcpbfajadgmpaa

/- Plain laws of rules: the ways to where a variable of any number stands, as numbers and as text; no program in sight. -/
namespace Go.Gx.T5
open Go.Gx Go.Gx.T3 Go.Gx.T4 Go.Gx.T8 Go.Gx.T6
def ownI (h : Hd) (v : Int) : Bool := (h.v0 && decide (h.n0 = v)) || (h.v1 && decide (h.n1 = v)) || (h.v2 && decide (h.n2 = v))
mutual
/-- The ways to where a variable stands. -/
def wi1 : CT → Int → Int → List (List Int)
  | .mk h s, v, i => if h.k = 3 then (wi s v 0).map (fun p => i :: p) else if ownI h v = true then [[i]] else []
def wi : List CT → Int → Int → List (List Int)
  | [], _, _ => []
  | c :: t, v, i => wi1 c v i ++ wi t v (i + 1)
end
theorem wi1_ncc {c : CT} {v i : Int} (h : c.h.k = 3) : wi1 c v i = (wi c.subs v 0).map (fun p => i :: p) := by
  cases c with | mk hd l => have h' : hd.k = 3 := h; rw [wi1, if_pos h']; rfl
theorem wi1_own {c : CT} {v i : Int} (h : c.h.k ≠ 3) (ho : ownI c.h v = true) : wi1 c v i = [[i]] := by
  cases c with | mk hd l => have h' : hd.k ≠ 3 := h; have ho' : ownI hd v = true := ho; rw [wi1, if_neg h', if_pos ho']
theorem wi1_none {c : CT} {v i : Int} (h : c.h.k ≠ 3) (ho : ownI c.h v = false) : wi1 c v i = [] := by
  cases c with | mk hd l => have h' : hd.k ≠ 3 := h; have ho' : ownI hd v = false := ho; rw [wi1, if_neg h', if_neg (by rw [ho']; decide)]
theorem wi_append (a b : List CT) (v : Int) : ∀ i, wi (a ++ b) v i = wi a v i ++ wi b v (i + a.length) := by
  induction a with
  | nil => intro i; simp [wi]
  | cons c t ih => intro i; simp only [List.cons_append, wi, ih, List.length_cons, List.append_assoc]; congr 3; omega
theorem wi_take {rs : List (CT × Value)} {k : Nat} {v : Int} (hk : k < rs.length) : wi ((rs.map Prod.fst).take (k + 1)) v 0 = wi ((rs.map Prod.fst).take k) v 0 ++ wi1 (rs.getD k d0).1 v (k : Nat) := by
  rw [map_take (d := d0) hk, wi_append]
  simp only [wi, List.append_nil, List.length_take, List.length_map, Int.zero_add]
  congr 3; omega
mutual
theorem wi1_len : ∀ (c : CT) (v i : Int), (wi1 c v i).length ≤ size c
  | .mk h s, v, i => by
    have := wi_len s v 0
    rw [wi1, size]
    split
    · rw [List.length_map]; omega
    · split <;> simp
theorem wi_len : ∀ (l : List CT) (v i : Int), (wi l v i).length ≤ sizeL l
  | [], _, _ => by simp [wi]
  | c :: t, v, i => by
    have h1 := wi1_len c v i
    have h2 := wi_len t v (i + 1)
    rw [wi, sizeL, List.length_append]; omega
end
def wysI (l : List CT) (v : Int) (way : List Int) : List (List Int) := (wi l v 0).map fun p => way ++ p
theorem waysI_nil (v : Int) (way : List Int) : wysI [] v way = [] := by simp [wysI, wi]
theorem waysI_len (l : List CT) (v : Int) (way : List Int) : (wysI l v way).length ≤ sizeL l := by rw [wysI, List.length_map]; exact wi_len l v 0
theorem waysI_ncc {rs : List (CT × Value)} {k : Nat} {v : Int} {way : List Int} (hk : k < rs.length) (h : (rs.getD k d0).1.h.k = 3) : wysI ((rs.map Prod.fst).take (k + 1)) v way = wysI ((rs.map Prod.fst).take k) v way ++ wysI (rs.getD k d0).1.subs v (way ++ [((k : Nat) : Int)]) := by
  unfold wysI
  rw [wi_take hk, wi1_ncc h, List.map_append, List.map_map]
  congr 1
  refine List.map_congr_left fun p _ => ?_
  simp
theorem waysI_own {rs : List (CT × Value)} {k : Nat} {v : Int} {way : List Int} (hk : k < rs.length) (h : ¬ (rs.getD k d0).1.h.k = 3) (ho : ownI (rs.getD k d0).1.h v = true) : wysI ((rs.map Prod.fst).take (k + 1)) v way = wysI ((rs.map Prod.fst).take k) v way ++ [way ++ [((k : Nat) : Int)]] := by
  unfold wysI
  rw [wi_take hk, wi1_own h ho, List.map_append]; rfl
theorem waysI_no {rs : List (CT × Value)} {k : Nat} {v : Int} {way : List Int} (hk : k < rs.length) (h : ¬ (rs.getD k d0).1.h.k = 3) (ho : ownI (rs.getD k d0).1.h v = false) : wysI ((rs.map Prod.fst).take (k + 1)) v way = wysI ((rs.map Prod.fst).take k) v way := by
  unfold wysI
  rw [wi_take hk, wi1_none h ho, List.append_nil]
theorem terms_ownI {h : Hd} {v : Int} : decide (0 ≤ idxF (sameT (true, v)) (termsL h) 0) = ownI h v := by
  have f : ∀ b n, sameT (true, v) (b, n) = (b && decide (n = v)) := by
    intro b n
    rw [sameT_eq]
    show (decide (true = b) && decide (v = n)) = _
    cases b with
    | false => simp
    | true => rw [decide_eq_true (rfl : true = true)]; congr 1; exact decide_eq_decide.2 eq_comm
  rw [idxF_any]
  simp only [List.any_cons, List.any_nil, Bool.or_false, ownI, f, Bool.or_assoc]
/-- A way as text: one byte a number. -/
def strW (way : List Int) : ByteArray := ⟨(way.map fun i => UInt8.ofNat (97 + i).toNat).toArray⟩
theorem strW_size (way : List Int) : (strW way).size = way.length := by simp [strW, ByteArray.size]
theorem strW_snoc (way : List Int) (i : Int) : strW way ++ ⟨#[UInt8.ofNat (97 + i).toNat]⟩ = strW (way ++ [i]) := by
  apply ByteArray.ext
  rw [ByteArray.data_append]
  simp [strW]
/-! ### the document's places -/
mutual
/-- The ways to where a variable stands, of conditions of whatever kind. -/
def wr1 : CT → Int → Int → List (List Int)
  | .mk h s, v, i => (if h.k < 3 ∧ ownI h v = true then [[i]] else []) ++ (wr s v 0).map (fun p => i :: p)
def wr : List CT → Int → Int → List (List Int)
  | [], _, _ => []
  | c :: t, v, i => wr1 c v i ++ wr t v (i + 1)
end
mutual
theorem wr1_wi : ∀ (c : CT) (v i d : Int), check c d = 0 → wr1 c v i = wi1 c v i
  | .mk h s, v, i, d, hc => by
    rw [wr1, wi1]
    rcases check_right hc with ⟨h3, hcs⟩ | ⟨h12, _, hs⟩
    · rw [if_neg (by omega), if_pos h3, List.nil_append, wr_wi s v 0 _ hcs]
    · subst hs
      rw [if_neg (show ¬ h.k = 3 by omega), wr, List.map_nil, List.append_nil]
      by_cases ho : ownI h v = true
      · rw [if_pos ⟨by omega, ho⟩, if_pos ho]
      · rw [if_neg (fun h => ho h.2), if_neg ho]
theorem wr_wi : ∀ (l : List CT) (v i d : Int), checkL l d = 0 → wr l v i = wi l v i
  | [], _, _, _, _ => by rw [wr, wi]
  | c :: t, v, i, d, hc => by
    have h := checkL_right hc
    rw [wr, wi, wr1_wi c v i d h.1, wr_wi t v (i + 1) d h.2]
end
theorem wr_append (a b : List CT) (v : Int) : ∀ i, wr (a ++ b) v i = wr a v i ++ wr b v (i + a.length) := by
  induction a with
  | nil => intro i; simp [wr]
  | cons c t ih => intro i; simp only [List.cons_append, wr, ih, List.length_cons, List.append_assoc]; congr 3; omega
theorem wr_take {rs : List (CT × Value)} {k : Nat} {v : Int} (hk : k < rs.length) : wr ((rs.map Prod.fst).take (k + 1)) v 0 = wr ((rs.map Prod.fst).take k) v 0 ++ wr1 (rs.getD k d0).1 v (k : Nat) := by
  rw [map_take (d := d0) hk, wr_append]
  simp only [wr, List.append_nil, List.length_take, List.length_map, Int.zero_add]
  congr 3; omega
theorem wr1_eq (c : CT) (v i : Int) : wr1 c v i = (if c.h.k < 3 ∧ ownI c.h v = true then [[i]] else []) ++ (wr c.subs v 0).map (fun p => i :: p) := by cases c; rw [wr1]; rfl
mutual
theorem wr1_len : ∀ (c : CT) (v i : Int), (wr1 c v i).length ≤ size c
  | .mk h s, v, i => by
    have := wr_len s v 0
    rw [wr1, size, List.length_append, List.length_map]
    split <;> simp <;> omega
theorem wr_len : ∀ (l : List CT) (v i : Int), (wr l v i).length ≤ sizeL l
  | [], _, _ => by simp [wr]
  | c :: t, v, i => by
    have h1 := wr1_len c v i
    have h2 := wr_len t v (i + 1)
    rw [wr, sizeL, List.length_append]; omega
end
/-- .. as texts, behind a text. -/
def strs (l : List CT) (v : Int) (way : List Int) : List ByteArray := (wr l v 0).map fun p => strW (way ++ p)
theorem strs_take {rs : List (CT × Value)} {k : Nat} {v : Int} {way : List Int} (hk : k < rs.length) : strs ((rs.map Prod.fst).take (k + 1)) v way = strs ((rs.map Prod.fst).take k) v way ++ ((if (rs.getD k d0).1.h.k < 3 ∧ ownI (rs.getD k d0).1.h v = true then [strW (way ++ [(k : Int)])] else []) ++ strs (rs.getD k d0).1.subs v (way ++ [(k : Int)])) := by
  unfold strs
  rw [wr_take hk, wr1_eq, List.map_append, List.map_append, List.map_map]
  congr 2
  · split <;> rfl
  · refine List.map_congr_left fun p _ => ?_
    simp
theorem strs_len (l : List CT) (v : Int) (way : List Int) : (strs l v way).length ≤ sizeL l := by rw [strs, List.length_map]; exact wr_len l v 0
theorem ownI_yes {h : Hd} {v : Int} (e : h.k < 3 ∧ ((vi h.v0 = 1 ∧ h.n0 = v) ∨ (vi h.v1 = 1 ∧ h.n1 = v) ∨ (vi h.v2 = 1 ∧ h.n2 = v))) : (decide (h.k < 3) && ownI h v) = true := by
  rw [decide_eq_true e.1, Bool.true_and]
  unfold ownI
  rcases e.2 with ⟨a, b⟩ | ⟨a, b⟩ | ⟨a, b⟩
  · have : h.v0 = true := by cases e : h.v0 <;> simp_all [vi]
    simp [this, b]
  · have : h.v1 = true := by cases e : h.v1 <;> simp_all [vi]
    simp [this, b]
  · have : h.v2 = true := by cases e : h.v2 <;> simp_all [vi]
    simp [this, b]
theorem ownI_no {h : Hd} {v : Int} (e : ¬ (h.k < 3 ∧ vi h.v0 = 1 ∧ h.n0 = v) ∧ ¬ (h.k < 3 ∧ vi h.v1 = 1 ∧ h.n1 = v) ∧ ¬ (h.k < 3 ∧ vi h.v2 = 1 ∧ h.n2 = v)) : (decide (h.k < 3) && ownI h v) = false := by
  rw [← Bool.not_eq_true]
  intro hx
  simp only [ownI, Bool.and_eq_true, Bool.or_eq_true, decide_eq_true_eq] at hx
  obtain ⟨hk, (⟨a, b⟩ | ⟨a, b⟩) | ⟨a, b⟩⟩ := hx
  · exact e.1 ⟨hk, by simp [vi, a], b⟩
  · exact e.2.1 ⟨hk, by simp [vi, a], b⟩
  · exact e.2.2 ⟨hk, by simp [vi, a], b⟩
def sB (s : ByteArray) : List Value := [.string s]
abbrev sE : ByteArray := ⟨#[]⟩
end Go.Gx.T5

/-
  GX: a string of one byte of the call's own; strings joined. Generic in the program.
-/
namespace Go.Gx
open Go.RowKit
section
variable {P : Program} {N : Nat} {X : Nat → Prop} {w0 : World} {G : Ghost} {l : List (Nat × Value)} {L : List Asrt}
variable {d : Nat} {ty : TypeId} {pos : String} {after : Array Edge} {gd : Option (Nat × Bool)} {x y : Operand} {T U E E' : TypeId} {b k : Nat} {f : Nat → Value}

/-- string([]byte of one). -/
theorem p_conv_bytes1 {a0 : Int} (hT : P.underlying T = some (.slice E)) (hE : P.underlying E = some (.int .u8)) (hU : P.underlying U = some .string) (hx : ev l x = some (.slice (some ⟨b, 0, none⟩) 1 1)) (hL : L[k]? = some (box b 1 E' f))
    (h0 : f 0 = .int .u8 a0) :
    PV P N X w0 G l L ⟨some d, .convert T U x, ty, pos, after, gd⟩ (.string ⟨#[UInt8.ofNat a0.toNat]⟩) := by
  intro ac w hS
  obtain ⟨F, ⟨hB, _⟩, _⟩ := hS.mem.take hL
  have c0 := hB.cell (i := 0) (by omega)
  rw [h0] at c0
  simp only [execOp, hS.fr.eval hx]
  simp [convert, run_underlying hT, run_underlying hU, run_underlying hE, Conv.bytesToString]
  have hl := run_loadCells_list (P := P) w ⟨b, 0, none⟩ [.int .u8 a0] (fun j v hj => by
    rw [addr_add, Nat.zero_add]
    match j, hj with
    | 0, hj => simp at hj; subst hj; exact c0
    | j + 1, hj => simp at hj)
  simp only [List.length_cons, List.length_nil] at hl
  rw [hl]
  simp
  rfl

/-- Two strings joined. -/
theorem p_adds {s t : ByteArray} (hx : ev l x = some (.string s)) (hy : ev l y = some (.string t)) (hb : s.size + t.size ≤ 9223372036854775807) :
    PV P N X w0 G l L ⟨some d, .binOp .add T x y U, ty, pos, after, gd⟩ (.string (s ++ t)) := fun a w hS => by
  simp only [execOp, hS.fr.eval hx, hS.fr.eval hy]
  simp [go_sem]
  exact hb
end
end Go.Gx

/- Walks: what Go functions of this chapter come to, each as a function on plain data; no condition but those that each theorem names. Printed by a program of this work (gen.py). -/
namespace Go.Proofs.Ytpcpbfajadgmpaa
open Go.Gx Go.Gx.T1 Go.Gx.T3 Go.Gx.T4 Go.Gx.T3 Go.Gx.T5 Go.Gx.T1 Go.Gx.T8 Go.Gx.T6 Go.Gx.T4 Go.Gx.T3 Go.Gx.T6 Go.Gx.T8 Go.Gx.T4 Go.Gx.T3 Go.Gx.T8 Go.Gx.T4 Go.Gx.T3 Go.Gx.T8 Go.Gx.T6 Go.Gx.T4 Go.Gx.T3

def WalkIIs (n : Nat) : Prop := ∀ (vl vw : Value) (l : List CT) (v : Int) (way : List Int) (p : Nat) (z0 : List (List Int × Value)) (G : Ghost) (F : Nat → Prop) (w : World), SizeOf.sizeOf l ≤ n → way.length + sizeL l ≤ 1000 → z0.length + sizeL l ≤ 3000 → Cs G vl l → SlL G vw 1 cI 0 way → WyC G z0 → Has G w → (outA 55 57 p (z0)).holds w F → (∀ b, F b → G b = none) → Calls Try.prog 46 #[vl, Value.int .i64 v, vw, Value.pointer (some ⟨p, 0, none⟩)] w (Ret fun r w' => ∃ G' z', GNew w F G G' ∧ Has G' w' ∧ (r = .tuple #[] ∧ z'.map Prod.fst = z0.map Prod.fst ++ wysI l v way ∧ WyC G' z') ∧ KeptG (outA 55 57 p (z')) F G' w w')
theorem c_walkI_s (n : Nat) (ih : WalkIIs n) (vl vw : Value) (l : List CT) (v : Int) (way : List Int) (p : Nat) (z0 : List (List Int × Value)) {G : Ghost} {F : Nat → Prop} (hz : SizeOf.sizeOf l ≤ n + 1) (hsz : way.length + sizeL l ≤ 1000) (hlz : z0.length + sizeL l ≤ 3000) (hs : Cs G vl l) (hwy : SlL G vw 1 cI 0 way) (hz0 : WyC G z0) (w : World) (hG : Has G w) (hA : (outA 55 57 p (z0)).holds w F) (hFG : ∀ b, F b → G b = none) :
    Calls Try.prog 46 #[vl, Value.int .i64 v, vw, Value.pointer (some ⟨p, 0, none⟩)] w (Ret fun r w' => ∃ G' z', GNew w F G G' ∧ Has G' w' ∧ (r = .tuple #[] ∧ z'.map Prod.fst = z0.map Prod.fst ++ wysI l v way ∧ WyC G' z') ∧ KeptG (outA 55 57 p (z')) F G' w w') := by
  refine enterO (args := [_, _, _, _]) (G := G) (A := outA 55 57 p (z0)) (l := [(0, vl), (1, Value.int .i64 v), (2, vw), (3, Value.pointer (some ⟨p, 0, none⟩))]) Try.func46 rfl Try.ntmps46 hG hA hFG ⟨rfl, rfl, rfl, rfl, trivial⟩ (Nat.le_of_ble_eq_true rfl) ?_
  obtain ⟨rs, hr, hp, rfl⟩ := hs.inv
  have hbd := hr.bound
  refine c_seq ?_
  refine c_region ?_
  refine r_val .none rfl (p_move rfl) ?_
  refine r_val .none rfl (p_leng Try.underlying25 rfl hr) ?_
  have bd_1 := (hr).bound
  refine r_val .none rfl (p_move rfl) ?_
  refine r_nil ?_
  refine e_next ?_
  refine c_block ?_
  refine c_name (d := 1) rfl (fun u_2 hu_2 => ?_)
  refine c_name (d := 2) rfl (fun u_3 hu_3 => ?_)
  refine c_name (d := 3) rfl (fun u_4 hu_4 => ?_)
  refine c_name (d := 11) rfl (fun u_5 hu_5 => ?_)
  refine c_name (d := 12) rfl (fun u_6 hu_6 => ?_)
  refine c_loop (σ := Nat × List (List Int × Value) × Ghost) (fun s => [(13, Value.int .i64 (s.1 : Nat)), (1, u_2), (2, u_3), (3, u_4), (11, u_5), (12, u_6)]) (fun s => [outA 55 57 p (s.2.1)]) (fun s => s.2.2) (fun s => s.1 ≤ rs.length ∧ s.2.1.map Prod.fst = z0.map Prod.fst ++ wysI ((rs.map Prod.fst).take s.1) v way ∧ WyC s.2.2 s.2.1 ∧ GNew w F G s.2.2) (fun s => rs.length - s.1) ((0, z0, _)) ⟨Nat.zero_le _, by simp [waysI_nil], hz0, GNew.refl _ _ _⟩ rfl ⟨rfl, rfl, rfl, rfl, rfl, rfl, trivial⟩ (.keep (fun _ _ h => h) (.nil)) (fun s hphi => ?_)
  subst hu_2
  subst hu_3
  subst hu_4
  subst hu_5
  subst hu_6
  obtain ⟨k, z, H⟩ := s
  obtain ⟨hk, hzq, hzc, hgn⟩ := hphi
  dsimp only at hk hzq hzc hgn ⊢
  have hzl : z.length = z0.length + (wysI ((rs.map Prod.fst).take k) v way).length := by have := congrArg List.length hzq; simpa using this
  have hcl := waysI_len ((rs.map Prod.fst).take k) v way
  have hst0 := sizeL_take_le (rs.map Prod.fst) k
  have hll := sizeL_len (rs.map Prod.fst)
  rw [List.length_map] at hll
  replace hr := hr.mono hgn.le
  replace hwy := hwy.mono hgn.le
  replace hp := fun p hm0 => (hp p hm0).mono hgn.le
  refine c_seq ?_
  refine c_region ?_
  refine r_val .none rfl (p_lt rfl rfl) ?_
  refine r_nil ?_
  refine e_next ?_
  refine c_seq ?_
  refine c_splitd (d := 14) rfl (fun h_7 => ?_) (fun h_7 => ?_)
  · skip
    first
      | (exfalso; omega)
      | (
        refine c_cond_t rfl ?_
        refine c_skip ?_
        refine e_next ?_
        refine c_seq ?_
        refine c_block ?_
        refine c_seq ?_
        refine c_region ?_
        refine r_val .none rfl (p_move rfl) ?_
        refine r_iaddr_g .none rfl Try.underlying25 sz27 rfl hr rfl (by first | exact of_decide_eq_true rfl | omega) (fun p_9 o_10 R_8 => ?_)
        have hc_11 := hp _ (getD_mem (i := k) (d := d0) (by omega))
        have hkl := sizeL_len ((rs.map Prod.fst).take k)
        rw [List.length_take, List.length_map] at hkl
        have hsk := sizeL_take (rs := rs) (k := k) (by omega)
        have hsk2 := sizeL_take_le (rs.map Prod.fst) (k + 1)
        have hsq := size_eq (rs.getD k d0).1
        refine r_val .none rfl (p_ldga0 Try.underlying27 rfl sz27 rfl R_8 (by first | exact of_decide_eq_true rfl | omega) (rfl : _ = Value.agg #[_, _, _, _, _, _, _, _])) ?_
        refine r_alloc .none rfl zr27 (IsRow.lit _) (fun b_1 => ?_)
        refine r_val .none rfl (p_assign rfl) ?_
        refine r_stw (k := 0) .none sz27 rfl rfl (IsRow.lit _) (one_lit rfl (all_cons rfl (all_cons rfl (all_cons rfl (all_cons rfl (all_cons rfl (all_cons rfl (all_cons rfl (all_cons (hc_11).one rfl))))))))) rfl ?_
        refine r_nil ?_
        refine e_next ?_
        refine c_seq ?_
        refine c_region ?_
        refine r_val .none rfl (p_move rfl) ?_
        refine r_callrow (vs := [_]) .none rfl cl56 rfl (fun w hw => c_cloneI _ way hwy (by omega) w hw) (fun v_12 => ?_)
        refine r_val .none rfl (p_move rfl) ?_
        refine r_bslice (vs := [(0, Value.int _ _)]) (c := #[_]) .none rfl Try.underlying57 el3 rfl rfl rfl (bs3_10i2 _ _) (IsRow.lit _) (fun b_2 => ?_)
        refine r_append (k := 1) (k2 := 0) .none rfl Try.underlying57 el3 rfl (by decide) rfl rfl rfl rfl rfl (one_lit rfl rfl) (by simp only [maxLen]; omega) (by omega) (fun v_13 => ?_)
        refine r_row1 (k := 1) rfl (fun o_14 => ?_)
        refine r_val .none rfl (p_assign rfl) ?_
        refine r_nil ?_
        refine e_next ?_
        refine c_seq ?_
        refine c_seq ?_
        refine c_region ?_
        refine r_freeze (k := 1) rfl (fun G_15 hn_16 hs_17 => ?_)
        replace hr := hr.mono hn_16.le
        replace hwy := hwy.mono hn_16.le
        replace hp := fun p hm0 => (hp p hm0).mono hn_16.le
        replace hzc := WyC.mono hzc hn_16.le
        replace R_8 := R_8.mono hn_16.le
        replace hc_11 := hc_11.mono hn_16.le
        have hs2 : SlL G_15 v_13 1 cI 0 (way ++ [((k : Nat) : Int)]) := SlL.of2 0 (fun _ => rfl) (by simp) (by rw [List.flatMap_append, List.flatMap_cons, List.flatMap_nil, List.append_nil]; rfl) hs_17
        refine r_val .none rfl (p_field Try.underlying27 rfl sz3 rfl) ?_
        refine r_val .none rfl (p_ld (k := 1) Try.underlying3 rfl rfl rfl (by first | exact of_decide_eq_true rfl | omega) (rfl : _ = Value.int _ _)) ?_
        refine r_val .none rfl (p_eq rfl rfl) ?_
        refine r_nil ?_
        refine e_next ?_
        refine c_splitd (d := 25) rfl (fun h_18 => ?_) (fun h_18 => ?_)
        · skip
          have hk3 := h_18
          first
            | (exfalso; omega)
            | (
              refine c_cond_t rfl ?_
              refine c_seq ?_
              refine c_region ?_
              refine r_val .none rfl (p_field Try.underlying27 rfl sz25 rfl) ?_
              refine r_val .none rfl (p_ld (k := 1) Try.underlying25 rfl rfl rfl (by first | exact of_decide_eq_true rfl | omega) rfl) ?_
              refine r_val .none rfl (p_move rfl) ?_
              refine r_val .none rfl (p_move rfl) ?_
              refine r_val .none rfl (p_move rfl) ?_
              refine r_callox (k := 2) (vs := [_, _, _, _]) .none rfl cl46 rfl rfl (fun w F hw hA hFG => ih _ _ _ _ _ _ _ _ _ w (Nat.le_of_lt_succ (Nat.lt_of_lt_of_le (sub_size5 (by omega)) hz)) (by rw [List.length_append, List.length_singleton]; omega) (by omega) hc_11 hs2 hzc hw hA hFG) (fun G_19 v_22 z_24 hn_20 hr_21 => ?_)
              replace hr := hr.mono hn_20.le
              replace hwy := hwy.mono hn_20.le
              replace hp := fun p hm0 => (hp p hm0).mono hn_20.le
              replace hzc := WyC.mono hzc hn_20.le
              replace R_8 := R_8.mono hn_20.le
              replace hc_11 := hc_11.mono hn_20.le
              replace hs2 := hs2.mono hn_20.le
              obtain ⟨-, u_23q, u_23c⟩ := hr_21
              refine r_nil ?_
              refine e_next ?_
              refine c_exit ?_
              refine e_exit_then ?_
              refine e_exit_block ?_
              refine e_next ?_
              refine c_region ?_
              refine r_val .none rfl (p_add rfl rfl (by omega)) ?_
              refine r_val .none rfl (p_move rfl) ?_
              refine r_nil ?_
              refine e_round ((k + 1, z_24, _)) ⟨⟨by dsimp only; omega, by rw [u_23q, hzq, waysI_ncc (by omega) hk3, List.append_assoc], u_23c, ((hgn.trans hn_16).trans hn_20)⟩, by dsimp only; omega⟩ rfl ⟨rfl, rfl, rfl, rfl, rfl, rfl, trivial⟩ (.drop (.drop (.keep (fun _ _ h => h) (.nil))))
              )
        · skip
          have hk3 := h_18
          first
            | (exfalso; omega)
            | (
              refine c_cond_f rfl ?_
              refine c_skip ?_
              refine e_next ?_
              refine c_seq ?_
              refine c_region ?_
              refine r_freezeX (k := 1) rfl (fun G_25 hn_26 hR_27 => ?_)
              replace hr := hr.mono hn_26.le
              replace hwy := hwy.mono hn_26.le
              replace hp := fun p hm0 => (hp p hm0).mono hn_26.le
              replace hzc := WyC.mono hzc hn_26.le
              replace R_8 := R_8.mono hn_26.le
              replace hc_11 := hc_11.mono hn_26.le
              replace hs2 := hs2.mono hn_26.le
              have hR_28 : RowAt G_25 b_1 0 8 (at_ [Value.int .i64 (rs.getD k d0).1.h.k, Value.bool (rs.getD k d0).1.h.v0, Value.int .i64 (rs.getD k d0).1.h.n0, Value.bool (rs.getD k d0).1.h.v1, Value.int .i64 (rs.getD k d0).1.h.n1, Value.bool (rs.getD k d0).1.h.v2, Value.int .i64 (rs.getD k d0).1.h.n2, (rs.getD k d0).2]) := RowAt.congr hR_27 (fun i hi => by match i, hi with | 0, _ => rfl | 1, _ => rfl | 2, _ => rfl | 3, _ => rfl | 4, _ => rfl | 5, _ => rfl | 6, _ => rfl | 7, _ => rfl)
              refine r_val .none rfl (p_field Try.underlying27 rfl sz24 rfl) ?_
              refine r_val .none rfl (p_slarr_all Try.underlying24 sz23 rfl (by decide)) ?_
              have hs_29 := slarr_g (n := 3) (m := 3) (sz := 2) (RowAt.sub (j := 1) (m := 6) hR_28 (by decide)) (by decide) (by decide)
              have hT := terms_all hs_29
              refine r_val .none rfl (p_move rfl) ?_
              refine r_val .none rfl (p_build (vs := [(0, Value.bool _), (1, Value.int _ _)]) rfl (bl23_0b1_1i1 _ _)) ?_
              refine r_call (vs := [_, _]) .none rfl cl57 rfl (fun w hw => c_ctT _ (termsL (rs.getD k d0).1.h) (true, v) hT w hw) ?_
              refine r_nil ?_
              refine e_next ?_
              refine c_split (d := 36) rfl (fun h_30 => ?_) (fun h_30 => ?_)
              · skip
                have ho : ownI (rs.getD k d0).1.h v = true := terms_ownI.symm.trans h_30
                first
                  | (exfalso; omega)
                  | (
                    refine c_cond_t rfl ?_
                    refine c_region ?_
                    refine r_front (k := 1) rfl ?_
                    refine r_unpackout (fun ov => ?_)
                    refine r_row1 (k := 1) rfl (fun o1 => ?_)
                    refine r_val .none rfl (p_move rfl) ?_
                    refine r_val .none rfl (p_move rfl) ?_
                    refine r_val .none rfl (p_nilcheck rfl) ?_
                    refine r_val .none rfl (p_ld (k := 0) Try.underlying55 rfl rfl rfl (by first | exact of_decide_eq_true rfl | omega) rfl) ?_
                    refine r_val .none rfl (p_move rfl) ?_
                    obtain ⟨a_31, c_32, rfl⟩ := SlG.len hs2
                    refine r_bslice (vs := [(0, Value.slice _ _ _)]) (c := #[_]) .none rfl Try.underlying55 el57 rfl rfl rfl (bs57_10s3 _ _ _) (IsRow.lit _) (fun b_3 => ?_)
                    refine r_append (k := 2) (k2 := 0) .none rfl Try.underlying55 el57 rfl (by decide) rfl rfl rfl rfl rfl (one_lit rfl rfl) (by simp only [maxLen]; omega) (by omega) (fun v_33 => ?_)
                    refine r_row1 (k := 2) rfl (fun o_34 => ?_)
                    refine r_val .none rfl (p_nilcheck rfl) ?_
                    refine r_st (k := 1) .none sz55 rfl rfl o_34 rfl (by first | exact of_decide_eq_true rfl | omega) ?_
                    refine r_front (k := 1) rfl ?_
                    refine r_front (k := 2) rfl ?_
                    refine r_packout (rs := z ++ [(way ++ [((k : Nat) : Int)], Value.slice a_31 (way ++ [((k : Nat) : Int)]).length c_32)]) rfl (by simp) (by rw [List.flatMap_append]; rfl) ?_
                    refine r_nil ?_
                    refine e_norm_block ?_
                    refine e_next ?_
                    refine c_region ?_
                    refine r_val .none rfl (p_add rfl rfl (by omega)) ?_
                    refine r_val .none rfl (p_move rfl) ?_
                    refine r_nil ?_
                    refine e_round ((k + 1, z ++ [(way ++ [((k : Nat) : Int)], Value.slice a_31 (way ++ [((k : Nat) : Int)]).length c_32)], _)) ⟨⟨by dsimp only; omega, by rw [List.map_append, hzq, waysI_own (by omega) hk3 ho, List.append_assoc]; rfl, WyC.snoc hzc hs2, ((hgn.trans hn_16).trans hn_26)⟩, by dsimp only; omega⟩ rfl ⟨rfl, rfl, rfl, rfl, rfl, rfl, trivial⟩ (.keep (fun _ _ h => h) (.drop (.drop (.nil))))
                    )
              · skip
                have ho : ownI (rs.getD k d0).1.h v = false := terms_ownI.symm.trans h_30
                first
                  | (exfalso; omega)
                  | (
                    refine c_cond_f rfl ?_
                    refine c_skip ?_
                    refine e_norm_block ?_
                    refine e_next ?_
                    refine c_region ?_
                    refine r_val .none rfl (p_add rfl rfl (by omega)) ?_
                    refine r_val .none rfl (p_move rfl) ?_
                    refine r_nil ?_
                    refine e_round ((k + 1, z, _)) ⟨⟨by dsimp only; omega, by rw [hzq, waysI_no (by omega) hk3 ho], hzc, ((hgn.trans hn_16).trans hn_26)⟩, by dsimp only; omega⟩ rfl ⟨rfl, rfl, rfl, rfl, rfl, rfl, trivial⟩ (.drop (.keep (fun _ _ h => h) (.nil)))
                    )
              )
        )
  · skip
    first
      | (exfalso; omega)
      | (
        refine c_cond_f rfl ?_
        refine c_exit ?_
        refine e_exit_then ?_
        refine e_exit_then ?_
        refine e_exit_block ?_
        refine e_end0 Try.results46 (fun w hm => ⟨_, z, hgn, hm.has, ⟨rfl, by rw [hzq, List.take_of_length_le (by simp; omega)], hzc⟩, hm.keptG [outA _ _ p z] (.keep (fun _ _ h => h) (.nil)) (outA _ _ p z) (fun F' h => starL_one h)⟩)
        )
theorem c_walkI_n : ∀ n, WalkIIs n
  | 0 => fun vl vw l v way p z0 G F w hz _ _ _ _ _ _ _ _ => absurd hz (by cases l <;> simp)
  | n + 1 => fun vl vw l v way p z0 G F w hz hsz hlz hs hwy hz0 hG hA hFG => c_walkI_s n (c_walkI_n n) vl vw l v way p z0 hz hsz hlz hs hwy hz0 w hG hA hFG
theorem c_walkI (vl vw : Value) (l : List CT) (v : Int) (way : List Int) (p : Nat) (z0 : List (List Int × Value)) {G : Ghost} {F : Nat → Prop} (hsz : way.length + sizeL l ≤ 1000) (hlz : z0.length + sizeL l ≤ 3000) (hs : Cs G vl l) (hwy : SlL G vw 1 cI 0 way) (hz0 : WyC G z0) (w : World) (hG : Has G w) (hA : (outA 55 57 p (z0)).holds w F) (hFG : ∀ b, F b → G b = none) : Calls Try.prog 46 #[vl, Value.int .i64 v, vw, Value.pointer (some ⟨p, 0, none⟩)] w (Ret fun r w' => ∃ G' z', GNew w F G G' ∧ Has G' w' ∧ (r = .tuple #[] ∧ z'.map Prod.fst = z0.map Prod.fst ++ wysI l v way ∧ WyC G' z') ∧ KeptG (outA 55 57 p (z')) F G' w w') := c_walkI_n _ vl vw l v way p z0 G F w (Nat.le_refl _) hsz hlz hs hwy hz0 hG hA hFG
theorem c_placesI (nm : ByteArray) (cv : Value) (l : List CT) (v : Int) {G : Ghost} (hsz : sizeL l ≤ 1000) (hs : Cs G cv l) (w : World) (hG : Has G w) :
    Calls Try.prog 26 #[Value.agg #[Value.string nm, cv], Value.int .i64 v] w (Ret fun r w' => ∃ G', GNew w nX G G' ∧ Has G' w' ∧ Ls (fun G v l => SlL G v 1 cI 0 l) ([] : List Int) G' r (wysI l v []) ∧ Since nX w w') := by
  refine enter (args := [_, _]) (X := nX) (G := G) (l := [(0, Value.agg #[Value.string nm, cv]), (1, Value.int .i64 v)]) Try.func26 rfl Try.ntmps26 hG ⟨rfl, rfl, trivial⟩ (Nat.le_of_ble_eq_true rfl) ?_
  refine c_seq ?_
  refine c_region ?_
  refine r_box .none rfl rfl (IsRow.lit _) (fun b_1 => ?_)
  refine r_val .none rfl (p_assign rfl) ?_
  refine r_nil ?_
  refine e_next ?_
  refine c_seq ?_
  refine c_region ?_
  refine r_alloc .none rfl zr55 (IsRow.lit [_]) (fun b_2 => ?_)
  refine r_nil ?_
  refine e_next ?_
  refine c_seq ?_
  refine c_region ?_
  refine r_front (k := 0) rfl ?_
  refine r_nilrow 57 1 ?_
  refine r_packout (rs := ([] : List (List Int × Value))) rfl rfl rfl ?_
  refine r_val .none rfl (p_field Try.underlying46 rfl sz25 rfl) ?_
  refine r_val .none rfl (p_ld (k := 1) Try.underlying25 rfl rfl rfl (by first | exact of_decide_eq_true rfl | omega) rfl) ?_
  refine r_val .none rfl (p_move rfl) ?_
  refine r_callox (k := 0) (vs := [_, _, _, _]) .none rfl cl46 rfl rfl (fun w F hw hA hFG => c_walkI _ _ l v [] _ [] (by simp; omega) (by simp; omega) hs (SlG.nil _ _ _) (by simp [WyC]) w hw hA hFG) (fun G_1 v_4 z_6 hn_2 hr_3 => ?_)
  replace hs := hs.mono hn_2.le
  obtain ⟨-, u_5q, u_5c⟩ := hr_3
  refine r_nil ?_
  refine e_next ?_
  refine c_seq ?_
  refine c_region ?_
  refine r_unpackout (fun ov => ?_)
  refine r_row1 (k := 1) rfl (fun o1 => ?_)
  refine r_val .none rfl (p_ld (k := 0) Try.underlying55 rfl rfl rfl (by first | exact of_decide_eq_true rfl | omega) rfl) ?_
  refine r_val .none rfl (p_assign rfl) ?_
  refine r_nil ?_
  refine e_next ?_
  refine c_ret ?_
  refine e_freeze (k := 1) rfl (fun G_7 hn_8 hs_9 => ?_)
  replace hs := hs.mono hn_8.le
  replace u_5c := WyC.mono u_5c hn_8.le
  refine e_ret1 Try.results26 (.tmp rfl .nil) (fun w hm => ⟨_, (hn_2.trans hn_8), hm.has, ?_, hm.since⟩)
  rw [show wysI l v [] = z_6.map Prod.fst by rw [u_5q]; rfl]
  exact Ls.mk _ (SlL.of (([] : List Int), Value.slice none 0 0) (fun _ => rfl) rfl hs_9) u_5c
end Go.Proofs.Ytpcpbfajadgmpaa

/- Walks: what Go functions of this chapter come to, each as a function on plain data; no condition but those that each theorem names. Printed by a program of this work (gen.py). -/
namespace Go.Proofs.Ytpcpbfajadgmpaa
open Go.Gx Go.Gx.T1 Go.Gx.T3 Go.Gx.T4 Go.Gx.T3 Go.Gx.T5 Go.Gx.T1 Go.Gx.T8 Go.Gx.T6 Go.Gx.T4 Go.Gx.T3 Go.Gx.T6 Go.Gx.T8 Go.Gx.T4 Go.Gx.T3 Go.Gx.T8 Go.Gx.T4 Go.Gx.T3 Go.Gx.T8 Go.Gx.T6 Go.Gx.T4 Go.Gx.T3
theorem cl27 : Callable Try.prog 27 := callable Try.func27 (by kernel_rfl) rfl
theorem cl47 : Callable Try.prog 47 := callable Try.func47 (by kernel_rfl) rfl
theorem bs5_10i2 (a0 : IntKind) (a1 : Int) : Instr.fill (fun i => some (i * 1, 1)) ((Array.range (1 * 1)).map ((Value.int .u8 0).cells[· % (Value.int .u8 0).cells.size]!)) [(0, Value.int a0 a1)] = some #[Value.int a0 a1] := by
  kernel_rfl
theorem bs9_10s1 (a0 : ByteArray) : Instr.fill (fun i => some (i * 1, 1)) ((Array.range (1 * 1)).map ((Value.string ⟨#[]⟩).cells[· % (Value.string ⟨#[]⟩).cells.size]!)) [(0, Value.string a0)] = some #[Value.string a0] := by
  kernel_rfl
theorem el5 : ElemIs Try.prog 5 1 1 (Value.int .u8 0) := by
  unfold ElemIs
  kernel_rfl
theorem el9 : ElemIs Try.prog 9 1 16 (Value.string ⟨#[]⟩) := by
  unfold ElemIs
  kernel_rfl
def RPlIs (n : Nat) : Prop := ∀ (va : Value) (l : List CT) (v : Int) (way : List Int) (G : Ghost) (w : World), SizeOf.sizeOf l ≤ n → way.length + sizeL l ≤ 100 → Rs G va l → Has G w → Calls Try.prog 27 #[va, Value.int .i64 v, Value.string (strW way)] w (Ret fun r w' => ∃ G', GNew w nX G G' ∧ Has G' w' ∧ SlL G' r 1 sc ByteArray.empty (strs l v way) ∧ Since nX w w')
theorem c_own5 (c : CT) (sv : Value) (v : Int) {G : Ghost} (hs : Rs G sv c.subs) (w : World) (hG : Has G w) :
    Calls Try.prog 47 #[Value.agg #[Value.int .i64 c.h.k, Value.int .i64 (vi c.h.v0), Value.int .i64 c.h.n0, Value.int .i64 (vi c.h.v1), Value.int .i64 c.h.n1, Value.int .i64 (vi c.h.v2), Value.int .i64 c.h.n2, sv], Value.int .i64 v] w (Ret fun r w' => r = Value.bool (decide (c.h.k < 3) && ownI c.h v) ∧ Since nX w w') := by
  refine enter (args := [_, _]) (X := nX) (G := G) (l := [(0, Value.agg #[Value.int .i64 c.h.k, Value.int .i64 (vi c.h.v0), Value.int .i64 c.h.n0, Value.int .i64 (vi c.h.v1), Value.int .i64 c.h.n1, Value.int .i64 (vi c.h.v2), Value.int .i64 c.h.n2, sv]), (1, Value.int .i64 v)]) Try.func47 rfl Try.ntmps47 hG ⟨rfl, rfl, trivial⟩ (Nat.le_of_ble_eq_true rfl) ?_
  obtain ⟨rs, hr, hp, hl⟩ := hs.inv
  refine c_seq ?_
  refine c_region ?_
  refine r_box .none rfl rfl (IsRow.lit _) (fun b_1 => ?_)
  refine r_val .none rfl (p_assign rfl) ?_
  refine r_nil ?_
  refine e_next ?_
  refine c_seq ?_
  refine c_seq ?_
  refine c_region ?_
  refine r_val .none rfl (p_assign rfl) ?_
  refine r_nil ?_
  refine e_next ?_
  refine c_block ?_
  refine c_unroll 4 ?_
  refine l_round (n := 3) ?_
  refine c_seq ?_
  refine c_seq ?_
  refine c_region ?_
  refine r_val .none rfl (p_move rfl) ?_
  refine r_val .none rfl (p_lt rfl rfl) ?_
  refine r_say (d := 7) (v := Value.bool true) rfl ?_
  refine r_nil ?_
  refine e_next ?_
  refine c_cond_t rfl ?_
  refine c_skip ?_
  refine e_next ?_
  refine c_seq ?_
  refine c_block ?_
  refine c_seq ?_
  refine c_region ?_
  refine r_val .none rfl (p_field Try.underlying38 rfl sz3 rfl) ?_
  refine r_val .none rfl (p_ld (k := 0) Try.underlying3 rfl rfl rfl (by first | exact of_decide_eq_true rfl | omega) (rfl : _ = Value.int _ _)) ?_
  refine r_val .none rfl (p_lt rfl rfl) ?_
  refine r_val .none rfl (p_move rfl) ?_
  refine' r_and (c := 13) (d := 20) [_, _, _, _, _, _, _] rfl (fun h_1 Q_2 hQ_3 => ?_) (fun h_1 Q_2 hQ_3 => ?_) ?_
  rotate_left 1
  · skip
    replace h_1 := of_decide_eq_true h_1
    refine r_val (.some rfl rfl) rfl (p_move rfl) ?_
    refine r_val (.some rfl rfl) rfl (p_field Try.underlying38 rfl sz35 rfl) ?_
    refine r_val (.some rfl rfl) rfl (p_iaddr (k := 0) Try.underlying35 sz34 rfl rfl (by first | exact of_decide_eq_true rfl | omega)) ?_
    refine r_val (.some rfl rfl) rfl (p_field Try.underlying34 rfl sz3 rfl) ?_
    refine r_val (.some rfl rfl) rfl (p_ld (k := 0) Try.underlying3 rfl rfl rfl (by first | exact of_decide_eq_true rfl | omega) (rfl : _ = Value.int _ _)) ?_
    refine r_val (.some rfl rfl) rfl (p_eq rfl rfl) ?_
    refine r_val .none rfl (p_pick_t rfl rfl) ?_
    refine r_nil (e_fin (d := 20) hQ_3 rfl (by repeat (first | exact .refl | refine .put rfl ?_ | refine .say rfl ?_ | refine .say2 rfl (by first | assumption | simp_all) ?_)))
  · skip
    repeat (first | refine r_skip rfl (.no rfl rfl) ?_ | refine r_skip rfl (.un rfl rfl) ?_)
    refine r_val (by first | exact .none | exact .some rfl rfl) rfl (p_pick_f rfl rfl) ?_
    refine r_nil (e_fin (d := 20) hQ_3 rfl (by repeat (first | exact .refl | refine .put rfl ?_ | refine .say rfl ?_ | refine .say2 rfl (by first | assumption | simp_all) ?_)))
  refine r_val .none rfl (p_move rfl) ?_
  refine' r_and (c := 21) (d := 29) [_, _, _, _, _, _, _, _] rfl (fun h_5 Q_6 hQ_7 => ?_) (fun h_5 Q_6 hQ_7 => ?_) ?_
  rotate_left 1
  · skip
    try simp only [norms] at h_5
    refine r_val (.some rfl rfl) rfl (p_move rfl) ?_
    refine r_val (.some rfl rfl) rfl (p_field Try.underlying38 rfl sz35 rfl) ?_
    refine r_val (.some rfl rfl) rfl (p_iaddr (k := 0) Try.underlying35 sz34 rfl rfl (by first | exact of_decide_eq_true rfl | omega)) ?_
    refine r_val (.some rfl rfl) rfl (p_field Try.underlying34 rfl sz3 rfl) ?_
    refine r_val (.some rfl rfl) rfl (p_ld (k := 0) Try.underlying3 rfl rfl rfl (by first | exact of_decide_eq_true rfl | omega) (rfl : _ = Value.int _ _)) ?_
    refine r_val (.some rfl rfl) rfl (p_move rfl) ?_
    refine r_val (.some rfl rfl) rfl (p_eq rfl rfl) ?_
    refine r_val .none rfl (p_pick_t rfl rfl) ?_
    refine r_nil (e_fin (d := 29) hQ_7 rfl (by repeat (first | exact .refl | refine .put rfl ?_ | refine .say rfl ?_ | refine .say2 rfl (by first | assumption | simp_all) ?_)))
  · skip
    repeat (first | refine r_skip rfl (.no rfl rfl) ?_ | refine r_skip rfl (.un rfl rfl) ?_)
    refine r_val (by first | exact .none | exact .some rfl rfl) rfl (p_pick_f rfl rfl) ?_
    refine r_nil (e_fin (d := 29) hQ_7 rfl (by repeat (first | exact .refl | refine .put rfl ?_ | refine .say rfl ?_ | refine .say2 rfl (by first | assumption | simp_all) ?_)))
  refine r_nil ?_
  refine e_next ?_
  refine c_split (d := 29) rfl (fun h_9 => ?_) (fun h_9 => ?_)
  · skip
    try simp only [norms] at h_9
    first
      | (exfalso; omega)
      | (
        refine c_cond_t rfl ?_
        refine c_seq ?_
        refine c_region ?_
        refine r_val .none rfl (p_assign rfl) ?_
        refine r_nil ?_
        refine e_next ?_
        refine c_ret ?_
        refine e_ret_block ?_
        refine e_ret_then ?_
        refine e_ret_then ?_
        refine e_ret_block ?_
        refine e_ret_then ?_
        refine e_ret1 Try.results47 (.tmp rfl .nil) (fun w hm => ⟨?_, hm.since⟩)
        first
        | (rw [ownI_yes (by omega)]; done)
        | (rw [ownI_no (by omega)]; done)
        )
  · skip
    try simp only [norms] at h_9
    first
      | (exfalso; omega)
      | (
        refine c_cond_f rfl ?_
        refine c_skip ?_
        refine e_norm_block ?_
        refine e_next ?_
        refine c_region ?_
        refine r_val .none rfl (p_move rfl) ?_
        refine r_val .none rfl (p_add rfl rfl (by omega)) ?_
        refine r_val .none rfl (p_assign rfl) ?_
        refine r_nil ?_
        refine e_again ?_
        refine l_round (n := 2) ?_
        refine c_seq ?_
        refine c_seq ?_
        refine c_region ?_
        refine r_val .none rfl (p_move rfl) ?_
        refine r_val .none rfl (p_lt rfl rfl) ?_
        refine r_say (d := 7) (v := Value.bool true) rfl ?_
        refine r_nil ?_
        refine e_next ?_
        refine c_cond_t rfl ?_
        refine c_skip ?_
        refine e_next ?_
        refine c_seq ?_
        refine c_block ?_
        refine c_seq ?_
        refine c_region ?_
        refine r_val .none rfl (p_field Try.underlying38 rfl sz3 rfl) ?_
        refine r_val .none rfl (p_ld (k := 0) Try.underlying3 rfl rfl rfl (by first | exact of_decide_eq_true rfl | omega) (rfl : _ = Value.int _ _)) ?_
        refine r_val .none rfl (p_lt rfl rfl) ?_
        refine r_val .none rfl (p_move rfl) ?_
        refine r_splitd (d := 13) rfl (fun h_10 => ?_) (fun h_10 => ?_)
        · skip
          first
            | (exfalso; omega)
            | (
              refine r_val (.some rfl rfl) rfl (p_move rfl) ?_
              refine r_val (.some rfl rfl) rfl (p_field Try.underlying38 rfl sz35 rfl) ?_
              refine r_val (.some rfl rfl) rfl (p_iaddr (k := 1) Try.underlying35 sz34 rfl rfl (by first | exact of_decide_eq_true rfl | omega)) ?_
              refine r_val (.some rfl rfl) rfl (p_field Try.underlying34 rfl sz3 rfl) ?_
              refine r_val (.some rfl rfl) rfl (p_ld (k := 0) Try.underlying3 rfl rfl rfl (by first | exact of_decide_eq_true rfl | omega) (rfl : _ = Value.int _ _)) ?_
              refine r_val (.some rfl rfl) rfl (p_eq rfl rfl) ?_
              refine r_val .none rfl (p_pick_t rfl rfl) ?_
              refine r_val .none rfl (p_move rfl) ?_
              refine r_splitd (d := 21) rfl (fun h_11 => ?_) (fun h_11 => ?_)
              · skip
                first
                  | (exfalso; omega)
                  | (
                    refine r_val (.some rfl rfl) rfl (p_move rfl) ?_
                    refine r_val (.some rfl rfl) rfl (p_field Try.underlying38 rfl sz35 rfl) ?_
                    refine r_val (.some rfl rfl) rfl (p_iaddr (k := 1) Try.underlying35 sz34 rfl rfl (by first | exact of_decide_eq_true rfl | omega)) ?_
                    refine r_val (.some rfl rfl) rfl (p_field Try.underlying34 rfl sz3 rfl) ?_
                    refine r_val (.some rfl rfl) rfl (p_ld (k := 0) Try.underlying3 rfl rfl rfl (by first | exact of_decide_eq_true rfl | omega) (rfl : _ = Value.int _ _)) ?_
                    refine r_val (.some rfl rfl) rfl (p_move rfl) ?_
                    refine r_val (.some rfl rfl) rfl (p_eq rfl rfl) ?_
                    refine r_val .none rfl (p_pick_t rfl rfl) ?_
                    refine r_nil ?_
                    refine e_next ?_
                    refine c_splitd (d := 29) rfl (fun h_12 => ?_) (fun h_12 => ?_)
                    · skip
                      first
                        | (exfalso; omega)
                        | (
                          refine c_cond_t rfl ?_
                          refine c_seq ?_
                          refine c_region ?_
                          refine r_val .none rfl (p_assign rfl) ?_
                          refine r_nil ?_
                          refine e_next ?_
                          refine c_ret ?_
                          refine e_ret_block ?_
                          refine e_ret_then ?_
                          refine e_ret_then ?_
                          refine e_ret_block ?_
                          refine e_ret_then ?_
                          refine e_ret1 Try.results47 (.tmp rfl .nil) (fun w hm => ⟨?_, hm.since⟩)
                          first
                          | (rw [ownI_yes (by omega)]; done)
                          | (rw [ownI_no (by omega)]; done)
                          )
                    · skip
                      first
                        | (exfalso; omega)
                        | (
                          refine c_cond_f rfl ?_
                          refine c_skip ?_
                          refine e_norm_block ?_
                          refine e_next ?_
                          refine c_region ?_
                          refine r_val .none rfl (p_move rfl) ?_
                          refine r_val .none rfl (p_add rfl rfl (by omega)) ?_
                          refine r_val .none rfl (p_assign rfl) ?_
                          refine r_nil ?_
                          refine e_again ?_
                          refine l_round (n := 1) ?_
                          refine c_seq ?_
                          refine c_seq ?_
                          refine c_region ?_
                          refine r_val .none rfl (p_move rfl) ?_
                          refine r_val .none rfl (p_lt rfl rfl) ?_
                          refine r_say (d := 7) (v := Value.bool true) rfl ?_
                          refine r_nil ?_
                          refine e_next ?_
                          refine c_cond_t rfl ?_
                          refine c_skip ?_
                          refine e_next ?_
                          refine c_seq ?_
                          refine c_block ?_
                          refine c_seq ?_
                          refine c_region ?_
                          refine r_val .none rfl (p_field Try.underlying38 rfl sz3 rfl) ?_
                          refine r_val .none rfl (p_ld (k := 0) Try.underlying3 rfl rfl rfl (by first | exact of_decide_eq_true rfl | omega) (rfl : _ = Value.int _ _)) ?_
                          refine r_val .none rfl (p_lt rfl rfl) ?_
                          refine r_val .none rfl (p_move rfl) ?_
                          refine r_splitd (d := 13) rfl (fun h_13 => ?_) (fun h_13 => ?_)
                          · skip
                            first
                              | (exfalso; omega)
                              | (
                                refine r_val (.some rfl rfl) rfl (p_move rfl) ?_
                                refine r_val (.some rfl rfl) rfl (p_field Try.underlying38 rfl sz35 rfl) ?_
                                refine r_val (.some rfl rfl) rfl (p_iaddr (k := 2) Try.underlying35 sz34 rfl rfl (by first | exact of_decide_eq_true rfl | omega)) ?_
                                refine r_val (.some rfl rfl) rfl (p_field Try.underlying34 rfl sz3 rfl) ?_
                                refine r_val (.some rfl rfl) rfl (p_ld (k := 0) Try.underlying3 rfl rfl rfl (by first | exact of_decide_eq_true rfl | omega) (rfl : _ = Value.int _ _)) ?_
                                refine r_val (.some rfl rfl) rfl (p_eq rfl rfl) ?_
                                refine r_val .none rfl (p_pick_t rfl rfl) ?_
                                refine r_val .none rfl (p_move rfl) ?_
                                refine r_splitd (d := 21) rfl (fun h_14 => ?_) (fun h_14 => ?_)
                                · skip
                                  first
                                    | (exfalso; omega)
                                    | (
                                      refine r_val (.some rfl rfl) rfl (p_move rfl) ?_
                                      refine r_val (.some rfl rfl) rfl (p_field Try.underlying38 rfl sz35 rfl) ?_
                                      refine r_val (.some rfl rfl) rfl (p_iaddr (k := 2) Try.underlying35 sz34 rfl rfl (by first | exact of_decide_eq_true rfl | omega)) ?_
                                      refine r_val (.some rfl rfl) rfl (p_field Try.underlying34 rfl sz3 rfl) ?_
                                      refine r_val (.some rfl rfl) rfl (p_ld (k := 0) Try.underlying3 rfl rfl rfl (by first | exact of_decide_eq_true rfl | omega) (rfl : _ = Value.int _ _)) ?_
                                      refine r_val (.some rfl rfl) rfl (p_move rfl) ?_
                                      refine r_val (.some rfl rfl) rfl (p_eq rfl rfl) ?_
                                      refine r_val .none rfl (p_pick_t rfl rfl) ?_
                                      refine r_nil ?_
                                      refine e_next ?_
                                      refine c_splitd (d := 29) rfl (fun h_15 => ?_) (fun h_15 => ?_)
                                      · skip
                                        first
                                          | (exfalso; omega)
                                          | (
                                            refine c_cond_t rfl ?_
                                            refine c_seq ?_
                                            refine c_region ?_
                                            refine r_val .none rfl (p_assign rfl) ?_
                                            refine r_nil ?_
                                            refine e_next ?_
                                            refine c_ret ?_
                                            refine e_ret_block ?_
                                            refine e_ret_then ?_
                                            refine e_ret_then ?_
                                            refine e_ret_block ?_
                                            refine e_ret_then ?_
                                            refine e_ret1 Try.results47 (.tmp rfl .nil) (fun w hm => ⟨?_, hm.since⟩)
                                            first
                                            | (rw [ownI_yes (by omega)]; done)
                                            | (rw [ownI_no (by omega)]; done)
                                            )
                                      · skip
                                        first
                                          | (exfalso; omega)
                                          | (
                                            refine c_cond_f rfl ?_
                                            refine c_skip ?_
                                            refine e_norm_block ?_
                                            refine e_next ?_
                                            refine c_region ?_
                                            refine r_val .none rfl (p_move rfl) ?_
                                            refine r_val .none rfl (p_add rfl rfl (by omega)) ?_
                                            refine r_val .none rfl (p_assign rfl) ?_
                                            refine r_nil ?_
                                            refine e_again ?_
                                            refine l_round (n := 0) ?_
                                            refine c_seq ?_
                                            refine c_seq ?_
                                            refine c_region ?_
                                            refine r_val .none rfl (p_move rfl) ?_
                                            refine r_val .none rfl (p_lt rfl rfl) ?_
                                            refine r_say (d := 7) (v := Value.bool false) rfl ?_
                                            refine r_nil ?_
                                            refine e_next ?_
                                            refine c_cond_f rfl ?_
                                            refine c_exit ?_
                                            refine e_exit_then ?_
                                            refine e_exit_then ?_
                                            refine e_exit_block ?_
                                            refine e_next ?_
                                            refine c_seq ?_
                                            refine c_region ?_
                                            refine r_val .none rfl (p_assign rfl) ?_
                                            refine r_nil ?_
                                            refine e_next ?_
                                            refine c_ret ?_
                                            refine e_ret1 Try.results47 (.tmp rfl .nil) (fun w hm => ⟨?_, hm.since⟩)
                                            first
                                            | (rw [ownI_yes (by omega)]; done)
                                            | (rw [ownI_no (by omega)]; done)
                                            )
                                      )
                                · skip
                                  first
                                    | (exfalso; omega)
                                    | (
                                      refine r_skip rfl (.no rfl rfl) ?_
                                      refine r_skip rfl (.no rfl rfl) ?_
                                      refine r_skip rfl (.no rfl rfl) ?_
                                      refine r_skip rfl (.no rfl rfl) ?_
                                      refine r_skip rfl (.no rfl rfl) ?_
                                      refine r_skip rfl (.no rfl rfl) ?_
                                      refine r_skip rfl (.no rfl rfl) ?_
                                      refine r_val .none rfl (p_pick_f rfl rfl) ?_
                                      refine r_nil ?_
                                      refine e_next ?_
                                      refine c_cond_f rfl ?_
                                      refine c_skip ?_
                                      refine e_norm_block ?_
                                      refine e_next ?_
                                      refine c_region ?_
                                      refine r_val .none rfl (p_move rfl) ?_
                                      refine r_val .none rfl (p_add rfl rfl (by omega)) ?_
                                      refine r_val .none rfl (p_assign rfl) ?_
                                      refine r_nil ?_
                                      refine e_again ?_
                                      refine l_round (n := 0) ?_
                                      refine c_seq ?_
                                      refine c_seq ?_
                                      refine c_region ?_
                                      refine r_val .none rfl (p_move rfl) ?_
                                      refine r_val .none rfl (p_lt rfl rfl) ?_
                                      refine r_say (d := 7) (v := Value.bool false) rfl ?_
                                      refine r_nil ?_
                                      refine e_next ?_
                                      refine c_cond_f rfl ?_
                                      refine c_exit ?_
                                      refine e_exit_then ?_
                                      refine e_exit_then ?_
                                      refine e_exit_block ?_
                                      refine e_next ?_
                                      refine c_seq ?_
                                      refine c_region ?_
                                      refine r_val .none rfl (p_assign rfl) ?_
                                      refine r_nil ?_
                                      refine e_next ?_
                                      refine c_ret ?_
                                      refine e_ret1 Try.results47 (.tmp rfl .nil) (fun w hm => ⟨?_, hm.since⟩)
                                      first
                                      | (rw [ownI_yes (by omega)]; done)
                                      | (rw [ownI_no (by omega)]; done)
                                      )
                                )
                          · skip
                            first
                              | (exfalso; omega)
                              | (
                                refine r_skip rfl (.no rfl rfl) ?_
                                refine r_skip rfl (.no rfl rfl) ?_
                                refine r_skip rfl (.no rfl rfl) ?_
                                refine r_skip rfl (.no rfl rfl) ?_
                                refine r_skip rfl (.no rfl rfl) ?_
                                refine r_skip rfl (.no rfl rfl) ?_
                                refine r_val .none rfl (p_pick_f rfl rfl) ?_
                                refine r_val .none rfl (p_move rfl) ?_
                                refine r_skip rfl (.no rfl rfl) ?_
                                refine r_skip rfl (.no rfl rfl) ?_
                                refine r_skip rfl (.no rfl rfl) ?_
                                refine r_skip rfl (.no rfl rfl) ?_
                                refine r_skip rfl (.no rfl rfl) ?_
                                refine r_skip rfl (.no rfl rfl) ?_
                                refine r_skip rfl (.no rfl rfl) ?_
                                refine r_val .none rfl (p_pick_f rfl rfl) ?_
                                refine r_nil ?_
                                refine e_next ?_
                                refine c_cond_f rfl ?_
                                refine c_skip ?_
                                refine e_norm_block ?_
                                refine e_next ?_
                                refine c_region ?_
                                refine r_val .none rfl (p_move rfl) ?_
                                refine r_val .none rfl (p_add rfl rfl (by omega)) ?_
                                refine r_val .none rfl (p_assign rfl) ?_
                                refine r_nil ?_
                                refine e_again ?_
                                refine l_round (n := 0) ?_
                                refine c_seq ?_
                                refine c_seq ?_
                                refine c_region ?_
                                refine r_val .none rfl (p_move rfl) ?_
                                refine r_val .none rfl (p_lt rfl rfl) ?_
                                refine r_say (d := 7) (v := Value.bool false) rfl ?_
                                refine r_nil ?_
                                refine e_next ?_
                                refine c_cond_f rfl ?_
                                refine c_exit ?_
                                refine e_exit_then ?_
                                refine e_exit_then ?_
                                refine e_exit_block ?_
                                refine e_next ?_
                                refine c_seq ?_
                                refine c_region ?_
                                refine r_val .none rfl (p_assign rfl) ?_
                                refine r_nil ?_
                                refine e_next ?_
                                refine c_ret ?_
                                refine e_ret1 Try.results47 (.tmp rfl .nil) (fun w hm => ⟨?_, hm.since⟩)
                                first
                                | (rw [ownI_yes (by omega)]; done)
                                | (rw [ownI_no (by omega)]; done)
                                )
                          )
                    )
              · skip
                first
                  | (exfalso; omega)
                  | (
                    refine r_skip rfl (.no rfl rfl) ?_
                    refine r_skip rfl (.no rfl rfl) ?_
                    refine r_skip rfl (.no rfl rfl) ?_
                    refine r_skip rfl (.no rfl rfl) ?_
                    refine r_skip rfl (.no rfl rfl) ?_
                    refine r_skip rfl (.no rfl rfl) ?_
                    refine r_skip rfl (.no rfl rfl) ?_
                    refine r_val .none rfl (p_pick_f rfl rfl) ?_
                    refine r_nil ?_
                    refine e_next ?_
                    refine c_cond_f rfl ?_
                    refine c_skip ?_
                    refine e_norm_block ?_
                    refine e_next ?_
                    refine c_region ?_
                    refine r_val .none rfl (p_move rfl) ?_
                    refine r_val .none rfl (p_add rfl rfl (by omega)) ?_
                    refine r_val .none rfl (p_assign rfl) ?_
                    refine r_nil ?_
                    refine e_again ?_
                    refine l_round (n := 1) ?_
                    refine c_seq ?_
                    refine c_seq ?_
                    refine c_region ?_
                    refine r_val .none rfl (p_move rfl) ?_
                    refine r_val .none rfl (p_lt rfl rfl) ?_
                    refine r_say (d := 7) (v := Value.bool true) rfl ?_
                    refine r_nil ?_
                    refine e_next ?_
                    refine c_cond_t rfl ?_
                    refine c_skip ?_
                    refine e_next ?_
                    refine c_seq ?_
                    refine c_block ?_
                    refine c_seq ?_
                    refine c_region ?_
                    refine r_val .none rfl (p_field Try.underlying38 rfl sz3 rfl) ?_
                    refine r_val .none rfl (p_ld (k := 0) Try.underlying3 rfl rfl rfl (by first | exact of_decide_eq_true rfl | omega) (rfl : _ = Value.int _ _)) ?_
                    refine r_val .none rfl (p_lt rfl rfl) ?_
                    refine r_val .none rfl (p_move rfl) ?_
                    refine r_splitd (d := 13) rfl (fun h_16 => ?_) (fun h_16 => ?_)
                    · skip
                      first
                        | (exfalso; omega)
                        | (
                          refine r_val (.some rfl rfl) rfl (p_move rfl) ?_
                          refine r_val (.some rfl rfl) rfl (p_field Try.underlying38 rfl sz35 rfl) ?_
                          refine r_val (.some rfl rfl) rfl (p_iaddr (k := 2) Try.underlying35 sz34 rfl rfl (by first | exact of_decide_eq_true rfl | omega)) ?_
                          refine r_val (.some rfl rfl) rfl (p_field Try.underlying34 rfl sz3 rfl) ?_
                          refine r_val (.some rfl rfl) rfl (p_ld (k := 0) Try.underlying3 rfl rfl rfl (by first | exact of_decide_eq_true rfl | omega) (rfl : _ = Value.int _ _)) ?_
                          refine r_val (.some rfl rfl) rfl (p_eq rfl rfl) ?_
                          refine r_val .none rfl (p_pick_t rfl rfl) ?_
                          refine r_val .none rfl (p_move rfl) ?_
                          refine r_splitd (d := 21) rfl (fun h_17 => ?_) (fun h_17 => ?_)
                          · skip
                            first
                              | (exfalso; omega)
                              | (
                                refine r_val (.some rfl rfl) rfl (p_move rfl) ?_
                                refine r_val (.some rfl rfl) rfl (p_field Try.underlying38 rfl sz35 rfl) ?_
                                refine r_val (.some rfl rfl) rfl (p_iaddr (k := 2) Try.underlying35 sz34 rfl rfl (by first | exact of_decide_eq_true rfl | omega)) ?_
                                refine r_val (.some rfl rfl) rfl (p_field Try.underlying34 rfl sz3 rfl) ?_
                                refine r_val (.some rfl rfl) rfl (p_ld (k := 0) Try.underlying3 rfl rfl rfl (by first | exact of_decide_eq_true rfl | omega) (rfl : _ = Value.int _ _)) ?_
                                refine r_val (.some rfl rfl) rfl (p_move rfl) ?_
                                refine r_val (.some rfl rfl) rfl (p_eq rfl rfl) ?_
                                refine r_val .none rfl (p_pick_t rfl rfl) ?_
                                refine r_nil ?_
                                refine e_next ?_
                                refine c_splitd (d := 29) rfl (fun h_18 => ?_) (fun h_18 => ?_)
                                · skip
                                  first
                                    | (exfalso; omega)
                                    | (
                                      refine c_cond_t rfl ?_
                                      refine c_seq ?_
                                      refine c_region ?_
                                      refine r_val .none rfl (p_assign rfl) ?_
                                      refine r_nil ?_
                                      refine e_next ?_
                                      refine c_ret ?_
                                      refine e_ret_block ?_
                                      refine e_ret_then ?_
                                      refine e_ret_then ?_
                                      refine e_ret_block ?_
                                      refine e_ret_then ?_
                                      refine e_ret1 Try.results47 (.tmp rfl .nil) (fun w hm => ⟨?_, hm.since⟩)
                                      first
                                      | (rw [ownI_yes (by omega)]; done)
                                      | (rw [ownI_no (by omega)]; done)
                                      )
                                · skip
                                  first
                                    | (exfalso; omega)
                                    | (
                                      refine c_cond_f rfl ?_
                                      refine c_skip ?_
                                      refine e_norm_block ?_
                                      refine e_next ?_
                                      refine c_region ?_
                                      refine r_val .none rfl (p_move rfl) ?_
                                      refine r_val .none rfl (p_add rfl rfl (by omega)) ?_
                                      refine r_val .none rfl (p_assign rfl) ?_
                                      refine r_nil ?_
                                      refine e_again ?_
                                      refine l_round (n := 0) ?_
                                      refine c_seq ?_
                                      refine c_seq ?_
                                      refine c_region ?_
                                      refine r_val .none rfl (p_move rfl) ?_
                                      refine r_val .none rfl (p_lt rfl rfl) ?_
                                      refine r_say (d := 7) (v := Value.bool false) rfl ?_
                                      refine r_nil ?_
                                      refine e_next ?_
                                      refine c_cond_f rfl ?_
                                      refine c_exit ?_
                                      refine e_exit_then ?_
                                      refine e_exit_then ?_
                                      refine e_exit_block ?_
                                      refine e_next ?_
                                      refine c_seq ?_
                                      refine c_region ?_
                                      refine r_val .none rfl (p_assign rfl) ?_
                                      refine r_nil ?_
                                      refine e_next ?_
                                      refine c_ret ?_
                                      refine e_ret1 Try.results47 (.tmp rfl .nil) (fun w hm => ⟨?_, hm.since⟩)
                                      first
                                      | (rw [ownI_yes (by omega)]; done)
                                      | (rw [ownI_no (by omega)]; done)
                                      )
                                )
                          · skip
                            first
                              | (exfalso; omega)
                              | (
                                refine r_skip rfl (.no rfl rfl) ?_
                                refine r_skip rfl (.no rfl rfl) ?_
                                refine r_skip rfl (.no rfl rfl) ?_
                                refine r_skip rfl (.no rfl rfl) ?_
                                refine r_skip rfl (.no rfl rfl) ?_
                                refine r_skip rfl (.no rfl rfl) ?_
                                refine r_skip rfl (.no rfl rfl) ?_
                                refine r_val .none rfl (p_pick_f rfl rfl) ?_
                                refine r_nil ?_
                                refine e_next ?_
                                refine c_cond_f rfl ?_
                                refine c_skip ?_
                                refine e_norm_block ?_
                                refine e_next ?_
                                refine c_region ?_
                                refine r_val .none rfl (p_move rfl) ?_
                                refine r_val .none rfl (p_add rfl rfl (by omega)) ?_
                                refine r_val .none rfl (p_assign rfl) ?_
                                refine r_nil ?_
                                refine e_again ?_
                                refine l_round (n := 0) ?_
                                refine c_seq ?_
                                refine c_seq ?_
                                refine c_region ?_
                                refine r_val .none rfl (p_move rfl) ?_
                                refine r_val .none rfl (p_lt rfl rfl) ?_
                                refine r_say (d := 7) (v := Value.bool false) rfl ?_
                                refine r_nil ?_
                                refine e_next ?_
                                refine c_cond_f rfl ?_
                                refine c_exit ?_
                                refine e_exit_then ?_
                                refine e_exit_then ?_
                                refine e_exit_block ?_
                                refine e_next ?_
                                refine c_seq ?_
                                refine c_region ?_
                                refine r_val .none rfl (p_assign rfl) ?_
                                refine r_nil ?_
                                refine e_next ?_
                                refine c_ret ?_
                                refine e_ret1 Try.results47 (.tmp rfl .nil) (fun w hm => ⟨?_, hm.since⟩)
                                first
                                | (rw [ownI_yes (by omega)]; done)
                                | (rw [ownI_no (by omega)]; done)
                                )
                          )
                    · skip
                      first
                        | (exfalso; omega)
                        | (
                          refine r_skip rfl (.no rfl rfl) ?_
                          refine r_skip rfl (.no rfl rfl) ?_
                          refine r_skip rfl (.no rfl rfl) ?_
                          refine r_skip rfl (.no rfl rfl) ?_
                          refine r_skip rfl (.no rfl rfl) ?_
                          refine r_skip rfl (.no rfl rfl) ?_
                          refine r_val .none rfl (p_pick_f rfl rfl) ?_
                          refine r_val .none rfl (p_move rfl) ?_
                          refine r_skip rfl (.no rfl rfl) ?_
                          refine r_skip rfl (.no rfl rfl) ?_
                          refine r_skip rfl (.no rfl rfl) ?_
                          refine r_skip rfl (.no rfl rfl) ?_
                          refine r_skip rfl (.no rfl rfl) ?_
                          refine r_skip rfl (.no rfl rfl) ?_
                          refine r_skip rfl (.no rfl rfl) ?_
                          refine r_val .none rfl (p_pick_f rfl rfl) ?_
                          refine r_nil ?_
                          refine e_next ?_
                          refine c_cond_f rfl ?_
                          refine c_skip ?_
                          refine e_norm_block ?_
                          refine e_next ?_
                          refine c_region ?_
                          refine r_val .none rfl (p_move rfl) ?_
                          refine r_val .none rfl (p_add rfl rfl (by omega)) ?_
                          refine r_val .none rfl (p_assign rfl) ?_
                          refine r_nil ?_
                          refine e_again ?_
                          refine l_round (n := 0) ?_
                          refine c_seq ?_
                          refine c_seq ?_
                          refine c_region ?_
                          refine r_val .none rfl (p_move rfl) ?_
                          refine r_val .none rfl (p_lt rfl rfl) ?_
                          refine r_say (d := 7) (v := Value.bool false) rfl ?_
                          refine r_nil ?_
                          refine e_next ?_
                          refine c_cond_f rfl ?_
                          refine c_exit ?_
                          refine e_exit_then ?_
                          refine e_exit_then ?_
                          refine e_exit_block ?_
                          refine e_next ?_
                          refine c_seq ?_
                          refine c_region ?_
                          refine r_val .none rfl (p_assign rfl) ?_
                          refine r_nil ?_
                          refine e_next ?_
                          refine c_ret ?_
                          refine e_ret1 Try.results47 (.tmp rfl .nil) (fun w hm => ⟨?_, hm.since⟩)
                          first
                          | (rw [ownI_yes (by omega)]; done)
                          | (rw [ownI_no (by omega)]; done)
                          )
                    )
              )
        · skip
          first
            | (exfalso; omega)
            | (
              refine r_skip rfl (.no rfl rfl) ?_
              refine r_skip rfl (.no rfl rfl) ?_
              refine r_skip rfl (.no rfl rfl) ?_
              refine r_skip rfl (.no rfl rfl) ?_
              refine r_skip rfl (.no rfl rfl) ?_
              refine r_skip rfl (.no rfl rfl) ?_
              refine r_val .none rfl (p_pick_f rfl rfl) ?_
              refine r_val .none rfl (p_move rfl) ?_
              refine r_skip rfl (.no rfl rfl) ?_
              refine r_skip rfl (.no rfl rfl) ?_
              refine r_skip rfl (.no rfl rfl) ?_
              refine r_skip rfl (.no rfl rfl) ?_
              refine r_skip rfl (.no rfl rfl) ?_
              refine r_skip rfl (.no rfl rfl) ?_
              refine r_skip rfl (.no rfl rfl) ?_
              refine r_val .none rfl (p_pick_f rfl rfl) ?_
              refine r_nil ?_
              refine e_next ?_
              refine c_cond_f rfl ?_
              refine c_skip ?_
              refine e_norm_block ?_
              refine e_next ?_
              refine c_region ?_
              refine r_val .none rfl (p_move rfl) ?_
              refine r_val .none rfl (p_add rfl rfl (by omega)) ?_
              refine r_val .none rfl (p_assign rfl) ?_
              refine r_nil ?_
              refine e_again ?_
              refine l_round (n := 1) ?_
              refine c_seq ?_
              refine c_seq ?_
              refine c_region ?_
              refine r_val .none rfl (p_move rfl) ?_
              refine r_val .none rfl (p_lt rfl rfl) ?_
              refine r_say (d := 7) (v := Value.bool true) rfl ?_
              refine r_nil ?_
              refine e_next ?_
              refine c_cond_t rfl ?_
              refine c_skip ?_
              refine e_next ?_
              refine c_seq ?_
              refine c_block ?_
              refine c_seq ?_
              refine c_region ?_
              refine r_val .none rfl (p_field Try.underlying38 rfl sz3 rfl) ?_
              refine r_val .none rfl (p_ld (k := 0) Try.underlying3 rfl rfl rfl (by first | exact of_decide_eq_true rfl | omega) (rfl : _ = Value.int _ _)) ?_
              refine r_val .none rfl (p_lt rfl rfl) ?_
              refine r_val .none rfl (p_move rfl) ?_
              refine r_splitd (d := 13) rfl (fun h_19 => ?_) (fun h_19 => ?_)
              · skip
                first
                  | (exfalso; omega)
                  | (
                    refine r_val (.some rfl rfl) rfl (p_move rfl) ?_
                    refine r_val (.some rfl rfl) rfl (p_field Try.underlying38 rfl sz35 rfl) ?_
                    refine r_val (.some rfl rfl) rfl (p_iaddr (k := 2) Try.underlying35 sz34 rfl rfl (by first | exact of_decide_eq_true rfl | omega)) ?_
                    refine r_val (.some rfl rfl) rfl (p_field Try.underlying34 rfl sz3 rfl) ?_
                    refine r_val (.some rfl rfl) rfl (p_ld (k := 0) Try.underlying3 rfl rfl rfl (by first | exact of_decide_eq_true rfl | omega) (rfl : _ = Value.int _ _)) ?_
                    refine r_val (.some rfl rfl) rfl (p_eq rfl rfl) ?_
                    refine r_val .none rfl (p_pick_t rfl rfl) ?_
                    refine r_val .none rfl (p_move rfl) ?_
                    refine r_splitd (d := 21) rfl (fun h_20 => ?_) (fun h_20 => ?_)
                    · skip
                      first
                        | (exfalso; omega)
                        | (
                          refine r_val (.some rfl rfl) rfl (p_move rfl) ?_
                          refine r_val (.some rfl rfl) rfl (p_field Try.underlying38 rfl sz35 rfl) ?_
                          refine r_val (.some rfl rfl) rfl (p_iaddr (k := 2) Try.underlying35 sz34 rfl rfl (by first | exact of_decide_eq_true rfl | omega)) ?_
                          refine r_val (.some rfl rfl) rfl (p_field Try.underlying34 rfl sz3 rfl) ?_
                          refine r_val (.some rfl rfl) rfl (p_ld (k := 0) Try.underlying3 rfl rfl rfl (by first | exact of_decide_eq_true rfl | omega) (rfl : _ = Value.int _ _)) ?_
                          refine r_val (.some rfl rfl) rfl (p_move rfl) ?_
                          refine r_val (.some rfl rfl) rfl (p_eq rfl rfl) ?_
                          refine r_val .none rfl (p_pick_t rfl rfl) ?_
                          refine r_nil ?_
                          refine e_next ?_
                          refine c_splitd (d := 29) rfl (fun h_21 => ?_) (fun h_21 => ?_)
                          · skip
                            first
                              | (exfalso; omega)
                              | (
                                refine c_cond_t rfl ?_
                                refine c_seq ?_
                                refine c_region ?_
                                refine r_val .none rfl (p_assign rfl) ?_
                                refine r_nil ?_
                                refine e_next ?_
                                refine c_ret ?_
                                refine e_ret_block ?_
                                refine e_ret_then ?_
                                refine e_ret_then ?_
                                refine e_ret_block ?_
                                refine e_ret_then ?_
                                refine e_ret1 Try.results47 (.tmp rfl .nil) (fun w hm => ⟨?_, hm.since⟩)
                                first
                                | (rw [ownI_yes (by omega)]; done)
                                | (rw [ownI_no (by omega)]; done)
                                )
                          · skip
                            first
                              | (exfalso; omega)
                              | (
                                refine c_cond_f rfl ?_
                                refine c_skip ?_
                                refine e_norm_block ?_
                                refine e_next ?_
                                refine c_region ?_
                                refine r_val .none rfl (p_move rfl) ?_
                                refine r_val .none rfl (p_add rfl rfl (by omega)) ?_
                                refine r_val .none rfl (p_assign rfl) ?_
                                refine r_nil ?_
                                refine e_again ?_
                                refine l_round (n := 0) ?_
                                refine c_seq ?_
                                refine c_seq ?_
                                refine c_region ?_
                                refine r_val .none rfl (p_move rfl) ?_
                                refine r_val .none rfl (p_lt rfl rfl) ?_
                                refine r_say (d := 7) (v := Value.bool false) rfl ?_
                                refine r_nil ?_
                                refine e_next ?_
                                refine c_cond_f rfl ?_
                                refine c_exit ?_
                                refine e_exit_then ?_
                                refine e_exit_then ?_
                                refine e_exit_block ?_
                                refine e_next ?_
                                refine c_seq ?_
                                refine c_region ?_
                                refine r_val .none rfl (p_assign rfl) ?_
                                refine r_nil ?_
                                refine e_next ?_
                                refine c_ret ?_
                                refine e_ret1 Try.results47 (.tmp rfl .nil) (fun w hm => ⟨?_, hm.since⟩)
                                first
                                | (rw [ownI_yes (by omega)]; done)
                                | (rw [ownI_no (by omega)]; done)
                                )
                          )
                    · skip
                      first
                        | (exfalso; omega)
                        | (
                          refine r_skip rfl (.no rfl rfl) ?_
                          refine r_skip rfl (.no rfl rfl) ?_
                          refine r_skip rfl (.no rfl rfl) ?_
                          refine r_skip rfl (.no rfl rfl) ?_
                          refine r_skip rfl (.no rfl rfl) ?_
                          refine r_skip rfl (.no rfl rfl) ?_
                          refine r_skip rfl (.no rfl rfl) ?_
                          refine r_val .none rfl (p_pick_f rfl rfl) ?_
                          refine r_nil ?_
                          refine e_next ?_
                          refine c_cond_f rfl ?_
                          refine c_skip ?_
                          refine e_norm_block ?_
                          refine e_next ?_
                          refine c_region ?_
                          refine r_val .none rfl (p_move rfl) ?_
                          refine r_val .none rfl (p_add rfl rfl (by omega)) ?_
                          refine r_val .none rfl (p_assign rfl) ?_
                          refine r_nil ?_
                          refine e_again ?_
                          refine l_round (n := 0) ?_
                          refine c_seq ?_
                          refine c_seq ?_
                          refine c_region ?_
                          refine r_val .none rfl (p_move rfl) ?_
                          refine r_val .none rfl (p_lt rfl rfl) ?_
                          refine r_say (d := 7) (v := Value.bool false) rfl ?_
                          refine r_nil ?_
                          refine e_next ?_
                          refine c_cond_f rfl ?_
                          refine c_exit ?_
                          refine e_exit_then ?_
                          refine e_exit_then ?_
                          refine e_exit_block ?_
                          refine e_next ?_
                          refine c_seq ?_
                          refine c_region ?_
                          refine r_val .none rfl (p_assign rfl) ?_
                          refine r_nil ?_
                          refine e_next ?_
                          refine c_ret ?_
                          refine e_ret1 Try.results47 (.tmp rfl .nil) (fun w hm => ⟨?_, hm.since⟩)
                          first
                          | (rw [ownI_yes (by omega)]; done)
                          | (rw [ownI_no (by omega)]; done)
                          )
                    )
              · skip
                first
                  | (exfalso; omega)
                  | (
                    refine r_skip rfl (.no rfl rfl) ?_
                    refine r_skip rfl (.no rfl rfl) ?_
                    refine r_skip rfl (.no rfl rfl) ?_
                    refine r_skip rfl (.no rfl rfl) ?_
                    refine r_skip rfl (.no rfl rfl) ?_
                    refine r_skip rfl (.no rfl rfl) ?_
                    refine r_val .none rfl (p_pick_f rfl rfl) ?_
                    refine r_val .none rfl (p_move rfl) ?_
                    refine r_skip rfl (.no rfl rfl) ?_
                    refine r_skip rfl (.no rfl rfl) ?_
                    refine r_skip rfl (.no rfl rfl) ?_
                    refine r_skip rfl (.no rfl rfl) ?_
                    refine r_skip rfl (.no rfl rfl) ?_
                    refine r_skip rfl (.no rfl rfl) ?_
                    refine r_skip rfl (.no rfl rfl) ?_
                    refine r_val .none rfl (p_pick_f rfl rfl) ?_
                    refine r_nil ?_
                    refine e_next ?_
                    refine c_cond_f rfl ?_
                    refine c_skip ?_
                    refine e_norm_block ?_
                    refine e_next ?_
                    refine c_region ?_
                    refine r_val .none rfl (p_move rfl) ?_
                    refine r_val .none rfl (p_add rfl rfl (by omega)) ?_
                    refine r_val .none rfl (p_assign rfl) ?_
                    refine r_nil ?_
                    refine e_again ?_
                    refine l_round (n := 0) ?_
                    refine c_seq ?_
                    refine c_seq ?_
                    refine c_region ?_
                    refine r_val .none rfl (p_move rfl) ?_
                    refine r_val .none rfl (p_lt rfl rfl) ?_
                    refine r_say (d := 7) (v := Value.bool false) rfl ?_
                    refine r_nil ?_
                    refine e_next ?_
                    refine c_cond_f rfl ?_
                    refine c_exit ?_
                    refine e_exit_then ?_
                    refine e_exit_then ?_
                    refine e_exit_block ?_
                    refine e_next ?_
                    refine c_seq ?_
                    refine c_region ?_
                    refine r_val .none rfl (p_assign rfl) ?_
                    refine r_nil ?_
                    refine e_next ?_
                    refine c_ret ?_
                    refine e_ret1 Try.results47 (.tmp rfl .nil) (fun w hm => ⟨?_, hm.since⟩)
                    first
                    | (rw [ownI_yes (by omega)]; done)
                    | (rw [ownI_no (by omega)]; done)
                    )
              )
        )
theorem c_rpl_s (n : Nat) (ih : RPlIs n) (va : Value) (l : List CT) (v : Int) (way : List Int) {G : Ghost} (hz : SizeOf.sizeOf l ≤ n + 1) (hsz : way.length + sizeL l ≤ 100) (hs : Rs G va l) (w : World) (hG : Has G w) :
    Calls Try.prog 27 #[va, Value.int .i64 v, Value.string (strW way)] w (Ret fun r w' => ∃ G', GNew w nX G G' ∧ Has G' w' ∧ SlL G' r 1 sc ByteArray.empty (strs l v way) ∧ Since nX w w') := by
  refine enter (args := [_, _, _]) (X := nX) (G := G) (l := [(0, va), (1, Value.int .i64 v), (2, Value.string (strW way))]) Try.func27 rfl Try.ntmps27 hG ⟨rfl, rfl, rfl, trivial⟩ (Nat.le_of_ble_eq_true rfl) ?_
  obtain ⟨rs, hr, hp, hl⟩ := hs.inv
  have hll := sizeL_len (rs.map Prod.fst)
  rw [List.length_map] at hll
  rw [← hl] at hll
  refine c_seq ?_
  refine c_region ?_
  refine r_val .none rfl (p_assign rfl) ?_
  refine r_nil ?_
  refine e_next ?_
  refine c_seq ?_
  refine c_region ?_
  refine r_val .none rfl (p_assign rfl) ?_
  refine r_nil ?_
  refine e_next ?_
  refine c_seq ?_
  refine c_seq ?_
  refine c_region ?_
  refine r_val .none rfl (p_move rfl) ?_
  refine r_val .none rfl (p_leng Try.underlying36 rfl hr) ?_
  have bd_1 := (hr).bound
  refine r_val .none rfl (p_move rfl) ?_
  refine r_nil ?_
  refine e_next ?_
  refine c_block ?_
  refine c_nilrow 9 1 ?_
  refine c_name (d := 1) rfl (fun u_2 hu_2 => ?_)
  refine c_name (d := 2) rfl (fun u_3 hu_3 => ?_)
  refine c_name (d := 6) rfl (fun u_4 hu_4 => ?_)
  refine c_name (d := 11) rfl (fun u_5 hu_5 => ?_)
  refine c_name (d := 12) rfl (fun u_6 hu_6 => ?_)
  refine c_loop (σ := Nat × Value × Ghost) (fun s => [(13, Value.int .i64 (s.1 : Nat)), (7, s.2.1), (1, u_2), (2, u_3), (6, u_4), (11, u_5), (12, u_6)]) (fun s => [rowA (s.2.1) 9 1 ((strs ((rs.map Prod.fst).take s.1) v way)).length (((strs ((rs.map Prod.fst).take s.1) v way)).flatMap sc)]) (fun s => s.2.2) (fun s => s.1 ≤ rs.length ∧ GNew w nX G s.2.2) (fun s => rs.length - s.1) ((0, _, _)) ⟨Nat.zero_le _, GNew.refl _ _ _⟩ rfl ⟨rfl, rfl, rfl, rfl, rfl, rfl, rfl, trivial⟩ (.keep (fun _ _ h => rowA_nil rfl _ _ h) (.nil)) (fun s hphi => ?_)
  subst hu_2
  subst hu_3
  subst hu_4
  subst hu_5
  subst hu_6
  obtain ⟨k, ov, H⟩ := s
  obtain ⟨hk, hgn⟩ := hphi
  dsimp only at hk hgn ⊢
  replace hr := hr.mono hgn.le
  replace hp := fun p hm0 => (hp p hm0).mono hgn.le
  refine c_seq ?_
  refine c_region ?_
  refine r_val .none rfl (p_lt rfl rfl) ?_
  refine r_nil ?_
  refine e_next ?_
  refine c_seq ?_
  refine c_splitd (d := 14) rfl (fun h_7 => ?_) (fun h_7 => ?_)
  · skip
    first
      | (exfalso; omega)
      | (
        refine c_cond_t rfl ?_
        refine c_skip ?_
        refine e_next ?_
        refine c_seq ?_
        refine c_block ?_
        refine c_seq ?_
        refine c_region ?_
        refine r_val .none rfl (p_move rfl) ?_
        refine r_iaddr_g .none rfl Try.underlying36 sz38 rfl hr rfl (by first | exact of_decide_eq_true rfl | omega) (fun p_9 o_10 R_8 => ?_)
        have hc_11 := hp _ (getD_mem (i := k) (d := d0) (by omega))
        refine r_val .none rfl (p_ldga0 Try.underlying38 rfl sz38 rfl R_8 (by first | exact of_decide_eq_true rfl | omega) (rfl : _ = Value.agg #[_, _, _, _, _, _, _, _])) ?_
        have hsq : size (rs.getD k d0).1 ≤ sizeL l := by rw [hl]; exact sizeL_mem (List.mem_map.2 ⟨_, getD_mem (i := k) (d := d0) (by omega), rfl⟩)
        have hsx := size_eq (rs.getD k d0).1
        have hsl := strs_len ((rs.map Prod.fst).take k) v way
        have hst : sizeL ((rs.map Prod.fst).take k) ≤ sizeL l := by rw [hl]; exact sizeL_take_le _ _
        have hsb := strs_len (rs.getD k d0).1.subs v (way ++ [(k : Int)])
        refine r_alloc .none rfl zr38 (IsRow.lit _) (fun b_1 => ?_)
        refine r_val .none rfl (p_assign rfl) ?_
        refine r_stw (k := 0) .none sz38 rfl rfl (IsRow.lit _) (one_lit rfl (all_cons rfl (all_cons rfl (all_cons rfl (all_cons rfl (all_cons rfl (all_cons rfl (all_cons rfl (all_cons (hc_11).one rfl))))))))) rfl ?_
        refine r_nil ?_
        refine e_next ?_
        refine c_seq ?_
        refine c_region ?_
        refine r_val .none rfl (p_move rfl) ?_
        refine r_val .none rfl (p_move rfl) ?_
        refine r_val .none rfl (p_add rfl rfl (by omega)) ?_
        refine r_val .none rfl (p_conv Try.underlying3 Try.underlying5 rfl (IntWalk.u8_in _ (by omega))) ?_
        refine r_bslice (vs := [(0, Value.int _ _)]) (c := #[_]) .none rfl Try.underlying58 el5 rfl rfl rfl (bs5_10i2 _ _) (IsRow.lit _) (fun b_2 => ?_)
        refine r_val .none rfl (p_conv_bytes1 (k := 0) Try.underlying58 Try.underlying5 Try.underlying9 rfl rfl rfl) ?_
        refine r_val .none rfl (p_adds rfl rfl (by have q := strW_size way; rw [q]; show way.length + 1 ≤ _; omega)) ?_
        refine r_say (d := 24) (v := Value.string (strW (way ++ [(k : Int)]))) (congrArg (fun x => some (Value.string x)) (strW_snoc way k)) ?_
        refine r_val .none rfl (p_assign rfl) ?_
        refine r_nil ?_
        refine e_next ?_
        refine c_seq ?_
        refine c_seq ?_
        refine c_region ?_
        refine r_val .none rfl (p_ldw (k := 1) Try.underlying38 rfl sz38 rfl rfl (rfl : _ = Value.agg #[_, _, _, _, _, _, _, _])) ?_
        refine r_val .none rfl (p_move rfl) ?_
        refine r_call (vs := [_, _]) .none rfl cl47 rfl (fun w hw => c_own5 (rs.getD k d0).1 _ v hc_11 w hw) ?_
        refine r_nil ?_
        refine e_next ?_
        refine c_split (d := 27) rfl (fun h_12 => ?_) (fun h_12 => ?_)
        · skip
          have hO0 := h_12
          have hO : (rs.getD k d0).1.h.k < 3 ∧ ownI (rs.getD k d0).1.h v = true := by simpa using hO0
          skip
          first
            | (exfalso; omega)
            | (
              refine c_cond_t rfl ?_
              refine c_region ?_
              refine r_val .none rfl (p_move rfl) ?_
              refine r_val .none rfl (p_move rfl) ?_
              refine r_bslice (vs := [(0, Value.string _)]) (c := #[_]) .none rfl Try.underlying54 el9 rfl rfl rfl (bs9_10s1 _) (IsRow.lit _) (fun b_3 => ?_)
              refine r_append (k := 3) (k2 := 0) .none rfl Try.underlying54 el9 rfl (by decide) rfl rfl rfl rfl rfl (one_lit rfl rfl) (by simp only [maxLen]; omega) (by omega) (fun v_13 => ?_)
              refine r_row1 (k := 3) rfl (fun o_14 => ?_)
              refine r_val .none rfl (p_assign rfl) ?_
              refine r_nil ?_
              refine e_next ?_
              refine c_region ?_
              refine r_val .none rfl (p_move rfl) ?_
              refine r_val .none rfl (p_field Try.underlying38 rfl sz36 rfl) ?_
              refine r_val .none rfl (p_ld (k := 2) Try.underlying36 rfl rfl rfl (by first | exact of_decide_eq_true rfl | omega) rfl) ?_
              refine r_val .none rfl (p_move rfl) ?_
              refine r_val .none rfl (p_move rfl) ?_
              refine r_callm (vs := [_, _, _]) .none rfl cl27 rfl (fun w hw => ih _ (rs.getD k d0).1.subs v (way ++ [(k : Int)]) _ w (by have q1 := List.sizeOf_lt_of_mem (show (rs.getD k d0).1 ∈ l by rw [hl]; exact List.mem_map.2 ⟨_, getD_mem (i := k) (d := d0) (by omega), rfl⟩); have q2 := size_subs (rs.getD k d0).1; omega) (by rw [List.length_append, List.length_singleton]; omega) hc_11 hw) (fun G_15 v_18 hn_16 hr_17 => ?_)
              replace hr := hr.mono hn_16.le
              replace hp := fun p hm0 => (hp p hm0).mono hn_16.le
              replace R_8 := R_8.mono hn_16.le
              replace hc_11 := hc_11.mono hn_16.le
              have u_19 := hr_17
              refine r_append_g (k := 3) .none rfl Try.underlying54 el9 rfl (by decide) rfl rfl rfl u_19 (fun _ _ _ hj => one_lit rfl rfl _ hj) (by simp only [maxLen]; omega) (by omega) (fun v_20 => ?_)
              refine r_row1 (k := 3) rfl (fun o_21 => ?_)
              refine r_conv (B := rowA v_20 _ 1 (strs ((rs.map Prod.fst).take (k + 1)) v way).length ((strs ((rs.map Prod.fst).take (k + 1)) v way).flatMap sc)) (k := 3) rfl (fun _ _ h => rowA_congr (by rw [strs_take (by omega), if_pos hO]; simp [List.length_append, Nat.add_assoc] <;> omega) (by rw [strs_take (by omega), if_pos hO, flat_all (cells := sc) (fun _ => rfl)]; simp [List.flatMap_append, sc] <;> rfl) _ _ h) ?_
              refine r_val .none rfl (p_assign rfl) ?_
              refine r_nil ?_
              refine e_norm_block ?_
              refine e_next ?_
              refine c_region ?_
              refine r_val .none rfl (p_add rfl rfl (by omega)) ?_
              refine r_val .none rfl (p_move rfl) ?_
              refine r_nil ?_
              refine e_round ((k + 1, _, _)) ⟨⟨by dsimp only; omega, (hgn.trans hn_16)⟩, by dsimp only; omega⟩ rfl ⟨rfl, rfl, rfl, rfl, rfl, rfl, rfl, trivial⟩ (.drop (.drop (.drop (.keep (fun _ _ h => h) (.nil)))))
              )
        · skip
          have hO0 := h_12
          have hO : ¬ ((rs.getD k d0).1.h.k < 3 ∧ ownI (rs.getD k d0).1.h v = true) := by intro e; rw [decide_eq_true e.1, e.2] at hO0; cases hO0
          first
            | (exfalso; omega)
            | (
              refine c_cond_f rfl ?_
              refine c_skip ?_
              refine e_next ?_
              refine c_region ?_
              refine r_val .none rfl (p_move rfl) ?_
              refine r_val .none rfl (p_field Try.underlying38 rfl sz36 rfl) ?_
              refine r_val .none rfl (p_ld (k := 1) Try.underlying36 rfl rfl rfl (by first | exact of_decide_eq_true rfl | omega) rfl) ?_
              refine r_val .none rfl (p_move rfl) ?_
              refine r_val .none rfl (p_move rfl) ?_
              refine r_callm (vs := [_, _, _]) .none rfl cl27 rfl (fun w hw => ih _ (rs.getD k d0).1.subs v (way ++ [(k : Int)]) _ w (by have q1 := List.sizeOf_lt_of_mem (show (rs.getD k d0).1 ∈ l by rw [hl]; exact List.mem_map.2 ⟨_, getD_mem (i := k) (d := d0) (by omega), rfl⟩); have q2 := size_subs (rs.getD k d0).1; omega) (by rw [List.length_append, List.length_singleton]; omega) hc_11 hw) (fun G_22 v_25 hn_23 hr_24 => ?_)
              replace hr := hr.mono hn_23.le
              replace hp := fun p hm0 => (hp p hm0).mono hn_23.le
              replace R_8 := R_8.mono hn_23.le
              replace hc_11 := hc_11.mono hn_23.le
              have u_26 := hr_24
              refine r_append_g (k := 2) .none rfl Try.underlying54 el9 rfl (by decide) rfl rfl rfl u_26 (fun _ _ _ hj => one_lit rfl rfl _ hj) (by simp only [maxLen]; omega) (by omega) (fun v_27 => ?_)
              refine r_row1 (k := 2) rfl (fun o_28 => ?_)
              refine r_conv (B := rowA v_27 _ 1 (strs ((rs.map Prod.fst).take (k + 1)) v way).length ((strs ((rs.map Prod.fst).take (k + 1)) v way).flatMap sc)) (k := 2) rfl (fun _ _ h => rowA_congr (by rw [strs_take (by omega), if_neg hO]; simp [List.length_append, Nat.add_assoc] <;> omega) (by rw [strs_take (by omega), if_neg hO, flat_all (cells := sc) (fun _ => rfl)]; simp [List.flatMap_append, sc] <;> rfl) _ _ h) ?_
              refine r_val .none rfl (p_assign rfl) ?_
              refine r_nil ?_
              refine e_norm_block ?_
              refine e_next ?_
              refine c_region ?_
              refine r_val .none rfl (p_add rfl rfl (by omega)) ?_
              refine r_val .none rfl (p_move rfl) ?_
              refine r_nil ?_
              refine e_round ((k + 1, _, _)) ⟨⟨by dsimp only; omega, (hgn.trans hn_23)⟩, by dsimp only; omega⟩ rfl ⟨rfl, rfl, rfl, rfl, rfl, rfl, rfl, trivial⟩ (.drop (.drop (.keep (fun _ _ h => h) (.nil))))
              )
        )
  · skip
    first
      | (exfalso; omega)
      | (
        refine c_cond_f rfl ?_
        refine c_exit ?_
        refine e_exit_then ?_
        refine e_exit_then ?_
        refine e_exit_block ?_
        refine e_next ?_
        refine c_seq ?_
        refine c_region ?_
        refine r_val .none rfl (p_move rfl) ?_
        refine r_val .none rfl (p_assign rfl) ?_
        refine r_nil ?_
        refine e_next ?_
        refine c_ret ?_
        refine e_freeze (k := 0) rfl (fun G_29 hn_30 hs_31 => ?_)
        replace hr := hr.mono hn_30.le
        replace hp := fun p hm0 => (hp p hm0).mono hn_30.le
        refine e_ret1 Try.results27 (.tmp rfl .nil) (fun w hm => ⟨_, (hgn.trans hn_30), hm.has, ?_, hm.since⟩)
        have hk9 : (rs.map Prod.fst).take k = l := by rw [hl, List.take_of_length_le (by simp; omega)]
        exact SlL.of2 ByteArray.empty (fun _ => rfl) (by rw [hk9]) (by rw [hk9]) hs_31
        )
theorem c_rpl_n : ∀ n, RPlIs n
  | 0 => fun va l v way G w hz _ _ _ => absurd hz (by cases l <;> simp)
  | n + 1 => fun va l v way G w hz hsz hs hG => c_rpl_s n (c_rpl_n n) va l v way hz hsz hs w hG
end Go.Proofs.Ytpcpbfajadgmpaa

/- Plain laws of the statement on places; no program in sight. -/
namespace Go.Gx.T5
open Go.Gx Go.Gx.T3 Go.Gx.T4 Go.Gx.T8 Go.Gx.T6
mutual
theorem wi1_rng : ∀ (c : CT) (v i : Int), 0 ≤ i → ∀ p ∈ wi1 c v i, ∀ x ∈ p, 0 ≤ x ∧ x < i + size c
  | .mk h s, v, i, hi, p, hp, x, hx => by
    rw [size]
    rw [wi1] at hp
    split at hp
    · obtain ⟨q, hq, rfl⟩ := List.mem_map.1 hp
      rcases List.mem_cons.1 hx with rfl | hx
      · omega
      · have := wi_rng s v 0 (Int.le_refl 0) q hq x hx
        omega
    · split at hp
      · rw [List.mem_singleton.1 hp] at hx
        rw [List.mem_singleton.1 hx]; omega
      · cases hp
theorem wi_rng : ∀ (l : List CT) (v i : Int), 0 ≤ i → ∀ p ∈ wi l v i, ∀ x ∈ p, 0 ≤ x ∧ x < i + sizeL l
  | [], _, _, _, p, hp, _, _ => by rw [wi] at hp; cases hp
  | c :: t, v, i, hi, p, hp, x, hx => by
    have hs := size_pos c
    rw [wi] at hp
    rw [sizeL]
    rcases List.mem_append.1 hp with hp | hp
    · have := wi1_rng c v i hi p hp x hx
      omega
    · have := wi_rng t v (i + 1) (by omega) p hp x hx
      omega
end
theorem way_rng {l : List CT} {v : Int} {qs : List (List Int × Value)} {j i : Nat} (hq : wysI l v [] = qs.map Prod.fst) (hs : sizeL l ≤ 16) (hj : j < qs.length) (hi : i < (qs.getD j es5).1.length) : 0 ≤ (qs.getD j es5).1.getD i 0 ∧ (qs.getD j es5).1.getD i 0 ≤ 20 := by
  have hm : (qs.getD j es5).1 ∈ qs.map Prod.fst := List.mem_map_of_mem (getD_mem hj)
  rw [← hq] at hm
  unfold wysI at hm
  obtain ⟨p, hp, e⟩ := List.mem_map.1 hm
  have hx : (qs.getD j es5).1.getD i 0 ∈ p := by
    rw [← e] at hi ⊢
    rw [List.nil_append] at hi ⊢
    have e2 : p.getD i 0 = p[i] := by simp [List.getD, hi]
    rw [e2]; exact List.getElem_mem hi
  have := wi_rng l v 0 (Int.le_refl 0) p hp _ hx
  omega
theorem strW_take {m : List Int} {i : Nat} (hi : i < m.length) : strW (m.take i) ++ ⟨#[UInt8.ofNat (97 + m.getD i 0).toNat]⟩ = strW (m.take (i + 1)) := by
  have e : m.getD i 0 = m[i] := by simp [List.getD, hi]
  rw [strW_snoc, e, ← List.take_succ_eq_append_getElem hi]
theorem str_next {qs : List (List Int × Value)} {j : Nat} (hj : j < qs.length) : ((qs.map Prod.fst).take (j + 1)).map strW = ((qs.map Prod.fst).take j).map strW ++ [strW (qs.getD j es5).1] := by
  have hlt : j < (qs.map Prod.fst).length := by simpa using hj
  rw [List.take_succ_eq_append_getElem hlt, List.map_append]
  simp [List.getD, hj]
theorem places_eq {l : List CT} {v : Int} {qs : List (List Int × Value)} {k : Nat} (hc : checkL l 1 = 0) (hq : wysI l v [] = qs.map Prod.fst) (hk : qs.length ≤ k) : ((qs.map Prod.fst).take k).map strW = strs l v [] := by
  rw [List.take_of_length_le (by simpa using hk), ← hq]
  unfold wysI strs
  rw [wr_wi l v 0 1 hc, List.map_map]; rfl
end Go.Gx.T5

/- Walks: what Go functions of this chapter come to, each as a function on plain data; no condition but those that each theorem names. Printed by a program of this work (gen.py). -/
namespace Go.Proofs.Ytpcpbfajadgmpaa
open Go.Gx Go.Gx.T1 Go.Gx.T3 Go.Gx.T4 Go.Gx.T3 Go.Gx.T5 Go.Gx.T1 Go.Gx.T8 Go.Gx.T6 Go.Gx.T4 Go.Gx.T3 Go.Gx.T6 Go.Gx.T8 Go.Gx.T4 Go.Gx.T3 Go.Gx.T8 Go.Gx.T4 Go.Gx.T3 Go.Gx.T8 Go.Gx.T6 Go.Gx.T4 Go.Gx.T3
theorem zr46 : ZeroIs Try.prog 46 (Value.agg #[Value.string ⟨#[]⟩, Value.slice none 0 0]) := by
  unfold ZeroIs
  kernel_rfl
theorem cl21 : Callable Try.prog 21 := callable Try.func21 (by kernel_rfl) rfl
theorem cl22 : Callable Try.prog 22 := callable Try.func22 (by kernel_rfl) rfl
theorem cl25 : Callable Try.prog 25 := callable Try.func25 (by kernel_rfl) rfl
theorem cl28 : Callable Try.prog 28 := callable Try.func28 (by kernel_rfl) rfl
theorem cl40 : Callable Try.prog 40 := callable Try.func40 (by kernel_rfl) rfl
theorem cl41 : Callable Try.prog 41 := callable Try.func41 (by kernel_rfl) rfl
theorem bl46_0s1_1s3 (x0 : ByteArray) (x1 : Option Addr) (x2 : Nat) (x3 : Nat) : Program.built Try.prog 46 [(0, Value.string x0), (1, Value.slice x1 x2 x3)] = some #[Value.string x0, Value.slice x1 x2 x3] := by
  kernel_rfl
theorem bs27_30a8_1a8_2a8 (a0 a1 a2 a3 a4 a5 a6 a7 : Value) (a8 a9 a10 a11 a12 a13 a14 a15 : Value) (a16 a17 a18 a19 a20 a21 a22 a23 : Value) : Instr.fill (fun i => some (i * 8, 8)) ((Array.range (3 * 8)).map ((Value.agg #[Value.int .i64 0, Value.bool false, Value.int .i64 0, Value.bool false, Value.int .i64 0, Value.bool false, Value.int .i64 0, Value.slice none 0 0]).cells[· % (Value.agg #[Value.int .i64 0, Value.bool false, Value.int .i64 0, Value.bool false, Value.int .i64 0, Value.bool false, Value.int .i64 0, Value.slice none 0 0]).cells.size]!)) [(0, Value.agg #[a0, a1, a2, a3, a4, a5, a6, a7]), (1, Value.agg #[a8, a9, a10, a11, a12, a13, a14, a15]), (2, Value.agg #[a16, a17, a18, a19, a20, a21, a22, a23])] = some #[a0, a1, a2, a3, a4, a5, a6, a7, a8, a9, a10, a11, a12, a13, a14, a15, a16, a17, a18, a19, a20, a21, a22, a23] := by
  kernel_rfl
theorem c_v5 (n : Int)  (w : World)  :
    Calls Try.prog 40 #[Value.int .i64 n] w (Ret fun r w' => r = Value.agg #[Value.bool true, Value.int .i64 n] ∧ Since nX w w') := by
  refine enter (args := [_]) (X := nX) (G := (fun _ => none)) (l := [(0, Value.int .i64 n)]) Try.func40 rfl Try.ntmps40 (fun _ _ h => by cases h) ⟨rfl, trivial⟩ (Nat.le_of_ble_eq_true rfl) ?_
  refine c_seq ?_
  refine c_region ?_
  refine r_alloc .none rfl zr23 (IsRow.lit _) (fun b_1 => ?_)
  refine r_nil ?_
  refine e_next ?_
  refine c_seq ?_
  refine c_region ?_
  refine r_val .none rfl (p_move rfl) ?_
  refine r_val .none rfl (p_build (vs := [(0, Value.bool _), (1, Value.int _ _)]) rfl (bl23_0b1_1i1 _ _)) ?_
  refine r_stw (k := 0) .none sz23 rfl rfl (IsRow.lit _) (one_lit rfl rfl) rfl ?_
  refine r_nil ?_
  refine e_next ?_
  refine c_ret ?_
  refine e_ret1 Try.results40 (.cell (k := 0) rfl Try.underlying23 rfl sz23 rfl (rfl : _ = Value.agg #[_, _]) .nil) (fun w hm => ⟨?_, hm.since⟩)
  rfl
theorem c_s5 (n : Int)  (w : World)  :
    Calls Try.prog 41 #[Value.int .i64 n] w (Ret fun r w' => r = Value.agg #[Value.bool false, Value.int .i64 n] ∧ Since nX w w') := by
  refine enter (args := [_]) (X := nX) (G := (fun _ => none)) (l := [(0, Value.int .i64 n)]) Try.func41 rfl Try.ntmps41 (fun _ _ h => by cases h) ⟨rfl, trivial⟩ (Nat.le_of_ble_eq_true rfl) ?_
  refine c_seq ?_
  refine c_region ?_
  refine r_alloc .none rfl zr23 (IsRow.lit _) (fun b_1 => ?_)
  refine r_nil ?_
  refine e_next ?_
  refine c_seq ?_
  refine c_region ?_
  refine r_val .none rfl (p_move rfl) ?_
  refine r_val .none rfl (p_build (vs := [(1, Value.int _ _)]) rfl (bl23_1i1 _)) ?_
  refine r_stw (k := 0) .none sz23 rfl rfl (IsRow.lit _) (one_lit rfl rfl) rfl ?_
  refine r_nil ?_
  refine e_next ?_
  refine c_ret ?_
  refine e_ret1 Try.results41 (.cell (k := 0) rfl Try.underlying23 rfl sz23 rfl (rfl : _ = Value.agg #[_, _]) .nil) (fun w hm => ⟨?_, hm.since⟩)
  rfl
theorem c_awake5   (w : World)  :
    Calls Try.prog 21 #[] w (Ret fun r w' => r = Value.bool true ∧ Since nX w w') := by
  refine enter (args := []) (X := nX) (G := (fun _ => none)) (l := []) Try.func21 rfl Try.ntmps21 (fun _ _ h => by cases h) trivial (Nat.le_of_ble_eq_true rfl) ?_
  refine c_seq ?_
  refine c_region ?_
  refine r_val .none rfl (p_assign rfl) ?_
  refine r_nil ?_
  refine e_next ?_
  refine c_seq ?_
  refine c_region ?_
  refine r_call (vs := [_]) .none rfl cl40 rfl (fun w hw => c_v5 _ w) ?_
  refine r_call (vs := [_]) .none rfl cl41 rfl (fun w hw => c_s5 _ w) ?_
  refine r_call (vs := [_]) .none rfl cl41 rfl (fun w hw => c_s5 _ w) ?_
  refine r_val .none rfl (p_build (vs := [(0, Value.agg #[_, _]), (1, Value.agg #[_, _]), (2, Value.agg #[_, _])]) rfl (bl24_0a2_1a2_2a2 _ _ _ _ _ _)) ?_
  refine r_val .none rfl (p_build (vs := [(0, Value.int _ _), (1, Value.agg #[_, _, _, _, _, _])]) rfl (bl27_0i1_1a6 _ _ _ _ _ _ _)) ?_
  refine r_call (vs := [_]) .none rfl cl40 rfl (fun w hw => c_v5 _ w) ?_
  refine r_call (vs := [_]) .none rfl cl41 rfl (fun w hw => c_s5 _ w) ?_
  refine r_call (vs := [_]) .none rfl cl40 rfl (fun w hw => c_v5 _ w) ?_
  refine r_val .none rfl (p_build (vs := [(0, Value.agg #[_, _]), (1, Value.agg #[_, _]), (2, Value.agg #[_, _])]) rfl (bl24_0a2_1a2_2a2 _ _ _ _ _ _)) ?_
  refine r_val .none rfl (p_build (vs := [(0, Value.int _ _), (1, Value.agg #[_, _, _, _, _, _])]) rfl (bl27_0i1_1a6 _ _ _ _ _ _ _)) ?_
  refine r_call (vs := [_]) .none rfl cl40 rfl (fun w hw => c_v5 _ w) ?_
  refine r_call (vs := [_]) .none rfl cl41 rfl (fun w hw => c_s5 _ w) ?_
  refine r_call (vs := [_]) .none rfl cl41 rfl (fun w hw => c_s5 _ w) ?_
  refine r_val .none rfl (p_build (vs := [(0, Value.agg #[_, _]), (1, Value.agg #[_, _]), (2, Value.agg #[_, _])]) rfl (bl24_0a2_1a2_2a2 _ _ _ _ _ _)) ?_
  refine r_val .none rfl (p_build (vs := [(0, Value.int _ _), (1, Value.agg #[_, _, _, _, _, _])]) rfl (bl27_0i1_1a6 _ _ _ _ _ _ _)) ?_
  refine r_bslice (vs := [(0, Value.agg #[_, _, _, _, _, _, _, _]), (1, Value.agg #[_, _, _, _, _, _, _, _]), (2, Value.agg #[_, _, _, _, _, _, _, _])]) (c := #[_, _, _, _, _, _, _, _, _, _, _, _, _, _, _, _, _, _, _, _, _, _, _, _]) .none rfl Try.underlying25 el27 rfl rfl rfl (bs27_30a8_1a8_2a8 _ _ _ _ _ _ _ _ _ _ _ _ _ _ _ _ _ _ _ _ _ _ _ _) (IsRow.lit _) (fun b_1 => ?_)
  refine r_freezeB (k := 0) 3 8 rfl rfl (by decide) (fun G_1 hn_2 hs_3 => ?_)
  have h18 : SlL G_1 (Value.slice (some ⟨b_1, 0, none⟩) 3 3) 8 cvC d0 [(.mk ⟨1, true, 1, false, 1, false, 2⟩ [], (Value.slice none 0 0)), (.mk ⟨2, true, 1, false, 3, true, 2⟩ [], (Value.slice none 0 0)), (.mk ⟨1, true, 2, false, 1, false, 4⟩ [], (Value.slice none 0 0))] := SlG.congr hs_3 (fun i hi j hj => by match i, hi with | 0, _ => (match j, hj with | 0, _ => rfl | 1, _ => rfl | 2, _ => rfl | 3, _ => rfl | 4, _ => rfl | 5, _ => rfl | 6, _ => rfl | 7, _ => rfl) | 1, _ => (match j, hj with | 0, _ => rfl | 1, _ => rfl | 2, _ => rfl | 3, _ => rfl | 4, _ => rfl | 5, _ => rfl | 6, _ => rfl | 7, _ => rfl) | 2, _ => (match j, hj with | 0, _ => rfl | 1, _ => rfl | 2, _ => rfl | 3, _ => rfl | 4, _ => rfl | 5, _ => rfl | 6, _ => rfl | 7, _ => rfl))
  have th18 : Cs G_1 (Value.slice (some ⟨b_1, 0, none⟩) 3 3) (L53) := Tr.mk _ h18 (by intro p hm0; simp only [List.mem_cons, List.not_mem_nil, or_false] at hm0; rcases hm0 with rfl | rfl | rfl; exact Tr.nil; exact Tr.nil; exact Tr.nil)
  refine r_val .none rfl (p_build (vs := [(0, Value.string _), (1, Value.slice _ _ _)]) rfl (bl46_0s1_1s3 _ _ _ _)) ?_
  refine r_alloc .none rfl zr46 (IsRow.lit _) (fun b_2 => ?_)
  refine r_stw (k := 0) .none sz46 rfl rfl (IsRow.lit _) (one_lit rfl (all_cons rfl (all_cons (h18).one rfl))) rfl ?_
  refine r_nil ?_
  refine e_next ?_
  refine c_seq ?_
  refine c_region ?_
  refine r_val .none rfl (p_ldw (k := 0) Try.underlying46 rfl sz46 rfl rfl (rfl : _ = Value.agg #[_, _])) ?_
  refine r_call (vs := [_]) .none rfl cl22 rfl (fun w hw => c_check5 nmr _ L53 (by decide) th18 w hw) ?_
  refine r_val .none rfl (p_assign rfl) ?_
  refine r_nil ?_
  refine e_next ?_
  refine c_seq ?_
  refine c_region ?_
  refine r_val .none rfl (p_field Try.underlying46 rfl sz25 rfl) ?_
  refine r_val .none rfl (p_ld (k := 0) Try.underlying25 rfl rfl rfl (by first | exact of_decide_eq_true rfl | omega) rfl) ?_
  refine r_slice0 (2) .none rfl Try.underlying25 sz27 rfl h18 rfl (by first | exact of_decide_eq_true rfl | omega) (fun v_4 hs_5 => ?_)
  have h2 := sl_take (cells := cvC) (d := d0) (by decide) hs_5
  have th2 : Cs _ _ L52 := Tr.mk _ h2 (by intro p hm0; simp only [List.take_succ_cons, List.take_zero, List.mem_cons, List.not_mem_nil, or_false] at hm0; rcases hm0 with rfl | rfl; exact Tr.nil; exact Tr.nil)
  refine r_val .none rfl (p_field Try.underlying46 rfl sz25 rfl) ?_
  refine r_st (k := 0) .none sz25 rfl rfl (th2).one rfl (by first | exact of_decide_eq_true rfl | omega) ?_
  refine r_nil ?_
  refine e_next ?_
  refine c_seq ?_
  refine c_region ?_
  refine r_val .none rfl (p_move rfl) ?_
  refine r_val .none rfl (p_eq rfl rfl) ?_
  refine r_val .none rfl (p_move rfl) ?_
  refine' r_and (c := 28) (d := 32) [_, _, _, _] rfl (fun h_7 Q_8 hQ_9 => ?_) (fun h_7 Q_8 hQ_9 => ?_) ?_
  rotate_left 1
  · skip
    replace h_7 := of_decide_eq_true h_7
    refine r_val (.some rfl rfl) rfl (p_ldw (k := 0) Try.underlying46 rfl sz46 rfl rfl (rfl : _ = Value.agg #[_, _])) ?_
    refine r_call (vs := [_]) (.some rfl rfl) rfl cl22 rfl (fun w hw => c_check5 nmr _ L52 (by decide) th2 w hw) ?_
    refine r_val (.some rfl rfl) rfl (p_eq rfl rfl) ?_
    refine r_val .none rfl (p_pick_t rfl rfl) ?_
    refine r_nil (e_fin (d := 32) hQ_9 rfl (by repeat (first | exact .refl | refine .put rfl ?_ | refine .say rfl ?_ | refine .say2 rfl (by first | assumption | simp_all) ?_)))
  · skip
    repeat (first | refine r_skip rfl (.no rfl rfl) ?_ | refine r_skip rfl (.un rfl rfl) ?_)
    refine r_val (by first | exact .none | exact .some rfl rfl) rfl (p_pick_f rfl rfl) ?_
    refine r_nil (e_fin (d := 32) hQ_9 rfl (by repeat (first | exact .refl | refine .put rfl ?_ | refine .say rfl ?_ | refine .say2 rfl (by first | assumption | simp_all) ?_)))
  refine r_val .none rfl (p_move rfl) ?_
  refine' r_and (c := 33) (d := 37) [_, _, _, _] rfl (fun h_11 Q_12 hQ_13 => ?_) (fun h_11 Q_12 hQ_13 => ?_) ?_
  rotate_left 1
  · skip
    try simp only [norms] at h_11
    refine r_val (.some rfl rfl) rfl (p_ldw (k := 0) Try.underlying46 rfl sz46 rfl rfl (rfl : _ = Value.agg #[_, _])) ?_
    refine r_call (vs := [_]) (.some rfl rfl) rfl cl28 rfl (fun w hw => c_ids nmr _ L52 th2 w hw) ?_
    refine r_val (.some rfl rfl) rfl (p_eq rfl rfl) ?_
    refine r_val .none rfl (p_pick_t rfl rfl) ?_
    refine r_nil (e_fin (d := 37) hQ_13 rfl (by repeat (first | exact .refl | refine .put rfl ?_ | refine .say rfl ?_ | refine .say2 rfl (by first | assumption | simp_all) ?_)))
  · skip
    repeat (first | refine r_skip rfl (.no rfl rfl) ?_ | refine r_skip rfl (.un rfl rfl) ?_)
    refine r_val (by first | exact .none | exact .some rfl rfl) rfl (p_pick_f rfl rfl) ?_
    refine r_nil (e_fin (d := 37) hQ_13 rfl (by repeat (first | exact .refl | refine .put rfl ?_ | refine .say rfl ?_ | refine .say2 rfl (by first | assumption | simp_all) ?_)))
  refine r_val .none rfl (p_assign rfl) ?_
  refine r_nil ?_
  refine e_next ?_
  refine c_ret ?_
  refine e_ret1 Try.results21 (.tmp rfl .nil) (fun w hm => ⟨?_, hm.since⟩)
  exact congrArg Value.bool (by rw [L53_chk, L52_chk, L52_ids]; rfl)
theorem c_RulePlaces (nm : ByteArray) (cv : Value) (l : List CT) (kn : Int) {G : Ghost} (hs : Cs G cv l) (w : World) (hG : Has G w) :
    Calls Try.prog 7 #[Value.agg #[Value.string nm, cv], Value.int .i64 kn] w (Ret fun r w' => r = Value.bool true ∧ Since nX w w') := by
  refine enter (args := [_, _]) (X := nX) (G := G) (l := [(0, Value.agg #[Value.string nm, cv]), (1, Value.int .i64 kn)]) Try.func7 rfl Try.ntmps7 hG ⟨rfl, rfl, trivial⟩ (Nat.le_of_ble_eq_true rfl) ?_
  obtain ⟨rs, hr, hp, hl⟩ := hs.inv
  have hlr : l.length = rs.length := by rw [hl]; simp
  refine c_seq ?_
  refine c_region ?_
  refine r_box .none rfl rfl (IsRow.lit _) (fun b_1 => ?_)
  refine r_val .none rfl (p_assign rfl) ?_
  refine r_nil ?_
  refine e_next ?_
  refine c_seq ?_
  refine c_seq ?_
  refine c_region ?_
  refine r_val .none rfl (p_ldw (k := 0) Try.underlying46 rfl sz46 rfl rfl (rfl : _ = Value.agg #[_, _])) ?_
  refine r_call (vs := [_]) .none rfl cl25 rfl (fun w hw => c_fine5 nm _ l hs w hw) ?_
  refine r_val .none rfl (p_not rfl) ?_
  refine r_nil ?_
  refine e_next ?_
  refine c_splitn (d := 18) rfl (fun h_1 => ?_) (fun h_1 => ?_)
  · skip
    first
      | (exfalso; first | omega | assumption)
      | (
        refine c_cond_t rfl ?_
        refine c_seq ?_
        refine c_region ?_
        refine r_call (vs := []) .none rfl cl21 rfl (fun w hw => c_awake5 w) ?_
        refine r_val .none rfl (p_assign rfl) ?_
        refine r_nil ?_
        refine e_next ?_
        refine c_ret ?_
        refine e_ret_then ?_
        refine e_ret1 Try.results7 (.tmp rfl .nil) (fun w hm => ⟨?_, hm.since⟩)
        rfl
        )
  · skip
    have hfr := fine_yes (h_1)
    have hsz : sizeL l ≤ 1000 := by omega
    have hz5 := chk_zero hfr.2
    have hck := hz5.2.2.1
    have hs16 := hz5.2.2.2.1
    have hll := sizeL_len l
    first
      | (exfalso; first | omega | assumption)
      | (
        refine c_cond_f rfl ?_
        refine c_skip ?_
        refine e_next ?_
        refine c_seq ?_
        refine c_region ?_
        refine r_val .none rfl (p_assign rfl) ?_
        refine r_nil ?_
        refine e_next ?_
        refine c_seq ?_
        refine c_seq ?_
        refine c_region ?_
        refine r_val .none rfl (p_ldw (k := 0) Try.underlying46 rfl sz46 rfl rfl (rfl : _ = Value.agg #[_, _])) ?_
        refine r_val .none rfl (p_move rfl) ?_
        refine r_callm (vs := [_, _]) .none rfl cl26 rfl (fun w hw => c_placesI nm _ l kn hsz hs w hw) (fun G_2 v_5 hn_3 hr_4 => ?_)
        replace hs := hs.mono hn_3.le
        replace hr := hr.mono hn_3.le
        replace hp := fun p hm0 => (hp p hm0).mono hn_3.le
        obtain ⟨qs, hq, hqp, hql⟩ := hr_4
        refine r_val .none rfl (p_leng Try.underlying55 rfl hq) ?_
        have bd_7 := (hq).bound
        refine r_val .none rfl (p_move rfl) ?_
        refine r_nil ?_
        refine e_next ?_
        refine c_block ?_
        refine c_nilrow 9 1 ?_
        refine c_name (d := 1) rfl (fun u_8 hu_8 => ?_)
        refine c_name (d := 2) rfl (fun u_9 hu_9 => ?_)
        refine c_name (d := 22) rfl (fun u_10 hu_10 => ?_)
        refine c_name (d := 23) rfl (fun u_11 hu_11 => ?_)
        refine c_nameL (k := 1) rfl (fun A_12 hA_12 => ?_)
        refine c_loop (σ := Nat × Value) (fun s => [(24, Value.int .i64 (s.1 : Nat)), (5, s.2), (1, u_8), (2, u_9), (22, u_10), (23, u_11)]) (fun s => [rowA (s.2) 9 1 ((((qs.map Prod.fst).take s.1).map strW)).length (((((qs.map Prod.fst).take s.1).map strW)).flatMap sc), A_12]) (fun _ => _) (fun s => s.1 ≤ qs.length) (fun s => qs.length - s.1) ((0, _)) (Nat.zero_le _) rfl ⟨rfl, rfl, rfl, rfl, rfl, rfl, trivial⟩ (.keep (fun _ _ h => rowA_nil rfl _ _ h) (.keep (fun _ _ h => h) (.nil))) (fun s hphi => ?_)
        subst hu_8
        subst hu_9
        subst hu_10
        subst hu_11
        subst hA_12
        obtain ⟨j, lv⟩ := s
        dsimp only at hphi ⊢
        have hqle : qs.length ≤ sizeL l := by have h := congrArg List.length hql; rw [List.length_map] at h; rw [← h]; exact waysI_len l kn []
        refine c_seq ?_
        refine c_region ?_
        refine r_val .none rfl (p_lt rfl rfl) ?_
        refine r_nil ?_
        refine e_next ?_
        refine c_seq ?_
        refine c_splitd (d := 25) rfl (fun h_13 => ?_) (fun h_13 => ?_)
        · skip
          first
            | (exfalso; first | omega | assumption)
            | (
              refine c_cond_t rfl ?_
              refine c_skip ?_
              refine e_next ?_
              refine c_seq ?_
              refine c_block ?_
              refine c_seq ?_
              refine c_region ?_
              refine r_iaddr_g .none rfl Try.underlying55 sz57 rfl hq rfl (by first | exact of_decide_eq_true rfl | omega) (fun p_15 o_16 R_14 => ?_)
              have hq_17 := hqp _ (getD_mem (i := j) (d := es5) (by omega))
              refine r_val .none rfl (p_ldg0 Try.underlying57 rfl rfl R_14 (by first | exact of_decide_eq_true rfl | omega) rfl) ?_
              refine r_val .none rfl (p_assign rfl) ?_
              refine r_nil ?_
              refine e_next ?_
              refine c_seq ?_
              refine c_region ?_
              refine r_val .none rfl (p_assign rfl) ?_
              refine r_nil ?_
              refine e_next ?_
              refine c_seq ?_
              refine c_seq ?_
              refine c_region ?_
              refine r_val .none rfl (p_move rfl) ?_
              refine r_val .none rfl (p_leng Try.underlying57 rfl hq_17) ?_
              have bd_18 := (hq_17).bound
              refine r_val .none rfl (p_move rfl) ?_
              refine r_nil ?_
              refine e_next ?_
              refine c_block ?_
              refine c_name (d := 1) rfl (fun u_19 hu_19 => ?_)
              refine c_name (d := 2) rfl (fun u_20 hu_20 => ?_)
              refine c_name (d := 5) rfl (fun u_21 hu_21 => ?_)
              refine c_name (d := 7) rfl (fun u_22 hu_22 => ?_)
              refine c_name (d := 22) rfl (fun u_23 hu_23 => ?_)
              refine c_name (d := 23) rfl (fun u_24 hu_24 => ?_)
              refine c_name (d := 24) rfl (fun u_25 hu_25 => ?_)
              refine c_name (d := 25) rfl (fun u_26 hu_26 => ?_)
              refine c_name (d := 26) rfl (fun u_27 hu_27 => ?_)
              refine c_name (d := 27) rfl (fun u_28 hu_28 => ?_)
              refine c_name (d := 28) rfl (fun u_29 hu_29 => ?_)
              refine c_name (d := 29) rfl (fun u_30 hu_30 => ?_)
              refine c_nameL (k := 0) rfl (fun A_31 hA_31 => ?_)
              refine c_nameL (k := 1) rfl (fun A_32 hA_32 => ?_)
              refine c_loop (σ := Nat) (fun i => [(30, Value.int .i64 (i : Nat)), (8, Value.string (strW ((qs.getD j es5).1.take i))), (1, u_19), (2, u_20), (5, u_21), (7, u_22), (22, u_23), (23, u_24), (24, u_25), (25, u_26), (26, u_27), (27, u_28), (28, u_29), (29, u_30)]) (fun i => [A_31, A_32]) (fun _ => _) (fun i => i ≤ (qs.getD j es5).1.length) (fun i => (qs.getD j es5).1.length - i) (0) (Nat.zero_le _) rfl ⟨rfl, rfl, rfl, rfl, rfl, rfl, rfl, rfl, rfl, rfl, rfl, rfl, rfl, rfl, trivial⟩ (.keep (fun _ _ h => h) (.keep (fun _ _ h => h) (.nil))) (fun i hphi => ?_)
              subst hu_19
              subst hu_20
              subst hu_21
              subst hu_22
              subst hu_23
              subst hu_24
              subst hu_25
              subst hu_26
              subst hu_27
              subst hu_28
              subst hu_29
              subst hu_30
              subst hA_31
              subst hA_32
              refine c_seq ?_
              refine c_region ?_
              refine r_val .none rfl (p_lt rfl rfl) ?_
              refine r_nil ?_
              refine e_next ?_
              refine c_seq ?_
              refine c_splitd (d := 31) rfl (fun h_33 => ?_) (fun h_33 => ?_)
              · skip
                first
                  | (exfalso; first | omega | assumption)
                  | (
                    refine c_cond_t rfl ?_
                    refine c_skip ?_
                    refine e_next ?_
                    refine c_seq ?_
                    refine c_block ?_
                    refine c_seq ?_
                    refine c_region ?_
                    refine r_iaddr_g .none rfl Try.underlying57 sz3 rfl hq_17 rfl (by first | exact of_decide_eq_true rfl | omega) (fun p_35 o_36 R_34 => ?_)
                    refine r_val .none rfl (p_ldg0 Try.underlying3 rfl rfl R_34 (by first | exact of_decide_eq_true rfl | omega) (rfl : _ = Value.int _ _)) ?_
                    have hwr := way_rng hql hs16 (by omega) (show i < (qs.getD j es5).1.length by omega)
                    refine r_val .none rfl (p_assign rfl) ?_
                    refine r_nil ?_
                    refine e_next ?_
                    refine c_seq ?_
                    refine c_seq ?_
                    refine c_region ?_
                    refine r_val .none rfl (p_move rfl) ?_
                    refine r_val .none rfl (p_lt rfl rfl) ?_
                    refine r_val .none rfl (p_move rfl) ?_
                    refine r_splitd (d := 36) rfl (fun h_37 => ?_) (fun h_37 => ?_)
                    · skip
                      first
                        | (exfalso; first | omega | assumption)
                        | (
                          refine r_skip rfl (.no rfl rfl) ?_
                          refine r_skip rfl (.no rfl rfl) ?_
                          refine r_val .none rfl (p_pick_t rfl rfl) ?_
                          refine r_nil ?_
                          refine e_next ?_
                          refine c_cond_t rfl ?_
                          refine c_seq ?_
                          refine c_region ?_
                          refine r_val .none rfl (p_assign rfl) ?_
                          refine r_nil ?_
                          refine e_next ?_
                          refine c_ret ?_
                          refine e_ret_then ?_
                          refine e_ret_block ?_
                          refine e_ret_then ?_
                          refine e_ret_then ?_
                          refine e_ret_block ?_
                          refine e_ret_then ?_
                          refine e_ret_block ?_
                          refine e_ret_then ?_
                          refine e_ret_then ?_
                          refine e_ret_block ?_
                          refine e_ret_then ?_
                          refine e_ret1 Try.results7 (.tmp rfl .nil) (fun w hm => ⟨?_, hm.since⟩)
                          rfl
                          )
                    · skip
                      first
                        | (exfalso; first | omega | assumption)
                        | (
                          refine r_val (.some rfl rfl) rfl (p_move rfl) ?_
                          refine r_val (.some rfl rfl) rfl (p_gt rfl rfl) ?_
                          refine r_val .none rfl (p_pick_f rfl rfl) ?_
                          refine r_nil ?_
                          refine e_next ?_
                          refine c_splitd (d := 39) rfl (fun h_38 => ?_) (fun h_38 => ?_)
                          · skip
                            first
                              | (exfalso; first | omega | assumption)
                              | (
                                refine c_cond_t rfl ?_
                                refine c_seq ?_
                                refine c_region ?_
                                refine r_val .none rfl (p_assign rfl) ?_
                                refine r_nil ?_
                                refine e_next ?_
                                refine c_ret ?_
                                refine e_ret_then ?_
                                refine e_ret_block ?_
                                refine e_ret_then ?_
                                refine e_ret_then ?_
                                refine e_ret_block ?_
                                refine e_ret_then ?_
                                refine e_ret_block ?_
                                refine e_ret_then ?_
                                refine e_ret_then ?_
                                refine e_ret_block ?_
                                refine e_ret_then ?_
                                refine e_ret1 Try.results7 (.tmp rfl .nil) (fun w hm => ⟨?_, hm.since⟩)
                                rfl
                                )
                          · skip
                            first
                              | (exfalso; first | omega | assumption)
                              | (
                                refine c_cond_f rfl ?_
                                refine c_skip ?_
                                refine e_next ?_
                                refine c_region ?_
                                refine r_val .none rfl (p_move rfl) ?_
                                refine r_val .none rfl (p_move rfl) ?_
                                refine r_val .none rfl (p_add rfl rfl (by have q := way_rng hql hs16 (by omega) (show i < (qs.getD j es5).1.length by omega); omega)) ?_
                                refine r_val .none rfl (p_conv Try.underlying3 Try.underlying5 rfl (IntWalk.u8_in _ (by have q := way_rng hql hs16 (by omega) (show i < (qs.getD j es5).1.length by omega); omega))) ?_
                                refine r_bslice (vs := [(0, Value.int _ _)]) (c := #[_]) .none rfl Try.underlying58 el5 rfl rfl rfl (bs5_10i2 _ _) (IsRow.lit _) (fun b_2 => ?_)
                                refine r_val .none rfl (p_conv_bytes1 (k := 0) Try.underlying58 Try.underlying5 Try.underlying9 rfl rfl rfl) ?_
                                refine r_val .none rfl (p_adds rfl rfl (by rw [strW_size, List.length_take]; show min i (qs.getD j es5).1.length + 1 ≤ _; omega)) ?_
                                refine r_say (d := 46) (v := Value.string (strW ((qs.getD j es5).1.take (i + 1)))) (congrArg (fun x => some (Value.string x)) (strW_take (by omega))) ?_
                                refine r_val .none rfl (p_assign rfl) ?_
                                refine r_nil ?_
                                refine e_norm_block ?_
                                refine e_next ?_
                                refine c_region ?_
                                refine r_val .none rfl (p_add rfl rfl (by omega)) ?_
                                refine r_val .none rfl (p_move rfl) ?_
                                refine r_nil ?_
                                refine e_round (i + 1) ⟨by omega, by omega⟩ rfl ⟨rfl, rfl, rfl, rfl, rfl, rfl, rfl, rfl, rfl, rfl, rfl, rfl, rfl, rfl, trivial⟩ (.drop (.keep (fun _ _ h => h) (.keep (fun _ _ h => h) (.nil))))
                                )
                          )
                    )
              · skip
                first
                  | (exfalso; first | omega | assumption)
                  | (
                    refine c_cond_f rfl ?_
                    refine c_exit ?_
                    refine e_exit_then ?_
                    refine e_exit_then ?_
                    refine e_exit_block ?_
                    refine e_next ?_
                    refine c_region ?_
                    refine r_val .none rfl (p_move rfl) ?_
                    refine r_val .none rfl (p_move rfl) ?_
                    refine r_say (d := 49) (v := Value.string (strW (qs.getD j es5).1)) (congrArg (fun x => some (Value.string x)) (by rw [show (qs.getD j es5).1.take i = (qs.getD j es5).1 from List.take_of_length_le (by omega)])) ?_
                    refine r_bslice (vs := [(0, Value.string _)]) (c := #[_]) .none rfl Try.underlying54 el9 rfl rfl rfl (bs9_10s1 _) (IsRow.lit _) (fun b_3 => ?_)
                    refine r_append (k := 1) (k2 := 0) .none rfl Try.underlying54 el9 rfl (by decide) rfl rfl rfl rfl rfl (one_lit rfl rfl) (by rw [List.length_map, List.length_take, List.length_map]; simp only [maxLen]; omega) (by rw [List.length_map, List.length_take, List.length_map]; omega) (fun v_39 => ?_)
                    refine r_row1 (k := 1) rfl (fun o_40 => ?_)
                    refine r_val .none rfl (p_assign rfl) ?_
                    refine r_nil ?_
                    refine e_norm_block ?_
                    refine e_next ?_
                    refine c_region ?_
                    refine r_val .none rfl (p_add rfl rfl (by omega)) ?_
                    refine r_val .none rfl (p_move rfl) ?_
                    refine r_nil ?_
                    refine e_round ((j + 1, _)) ⟨by dsimp only; omega, by dsimp only; omega⟩ rfl ⟨rfl, rfl, rfl, rfl, rfl, rfl, trivial⟩ (.drop (.keep (fun _ _ h => rowA_snoc (str_next (by omega)) rfl rfl rfl _ _ h) (.keep (fun _ _ h => h) (.nil))))
                    )
              )
        · skip
          first
            | (exfalso; first | omega | assumption)
            | (
              refine c_cond_f rfl ?_
              refine c_exit ?_
              refine e_exit_then ?_
              refine e_exit_then ?_
              refine e_exit_block ?_
              refine e_next ?_
              refine c_seq ?_
              refine c_region ?_
              have hPE := places_eq (k := j) hck hql (by omega)
              have hPl : (strs l kn []).length = qs.length := by rw [← hPE, List.length_map, List.length_take, List.length_map]; omega
              refine r_conv (B := rowA lv _ 1 (strs l kn []).length ((strs l kn []).flatMap sc)) (k := 0) rfl (fun _ _ h => rowA_same hPE.symm _ _ h) ?_
              refine r_val .none rfl (p_ldw (k := 1) Try.underlying46 rfl sz46 rfl rfl (rfl : _ = Value.agg #[_, _])) ?_
              refine r_callm (vs := [_]) .none rfl cl24 rfl (fun w hw => c_ref5 nm _ l hsz hs w hw) (fun G_41 v_44 hn_42 hr_43 => ?_)
              replace hs := hs.mono hn_42.le
              replace hr := hr.mono hn_42.le
              replace hp := fun p hm0 => (hp p hm0).mono hn_42.le
              replace hq := hq.mono hn_42.le
              replace hqp := fun p hm0 => (hqp p hm0).mono hn_42.le
              obtain ⟨u_45, rfl, u_45s⟩ := hr_43
              obtain ⟨u_45a, u_45c, rfl⟩ := Tr.len u_45s
              refine r_val .none rfl (p_field1 Try.underlying51 rfl Try.underlying36 rfl sz36 rfl (IsRow.lit _) rfl (by first | exact of_decide_eq_true rfl | omega) (rfl : _ = Value.slice _ _ _)) ?_
              refine r_val .none rfl (p_move rfl) ?_
              refine r_callm (vs := [_, _, _]) .none rfl cl27 rfl (fun w hw => c_rpl_n _ _ l kn [] _ w (Nat.le_refl _) (by rw [List.length_nil]; omega) u_45s hw) (fun G_46 v_49 hn_47 hr_48 => ?_)
              replace hs := hs.mono hn_47.le
              replace hr := hr.mono hn_47.le
              replace hp := fun p hm0 => (hp p hm0).mono hn_47.le
              replace hq := hq.mono hn_47.le
              replace hqp := fun p hm0 => (hqp p hm0).mono hn_47.le
              replace u_45s := u_45s.mono hn_47.le
              have hst := hr_48
              refine r_val .none rfl (p_assign rfl) ?_
              refine r_nil ?_
              refine e_next ?_
              refine c_seq ?_
              refine c_seq ?_
              refine c_region ?_
              refine r_val .none rfl (p_move rfl) ?_
              refine r_val .none rfl (p_leno (k := 0) Try.underlying54 rfl rfl) ?_
              refine r_val .none rfl (p_move rfl) ?_
              refine r_val .none rfl (p_leng Try.underlying54 rfl hst) ?_
              have bd_51 := (hst).bound
              refine r_val .none rfl (p_ne rfl rfl) ?_
              refine r_nil ?_
              refine e_next ?_
              refine c_splitd (d := 62) rfl (fun h_52 => ?_) (fun h_52 => ?_)
              · skip
                first
                  | (exfalso; first | omega | assumption)
                  | (
                    refine c_cond_t rfl ?_
                    refine c_seq ?_
                    refine c_region ?_
                    refine r_val .none rfl (p_assign rfl) ?_
                    refine r_nil ?_
                    refine e_next ?_
                    refine c_ret ?_
                    refine e_ret_then ?_
                    refine e_ret1 Try.results7 (.tmp rfl .nil) (fun w hm => ⟨?_, hm.since⟩)
                    rfl
                    )
              · skip
                first
                  | (exfalso; first | omega | assumption)
                  | (
                    refine c_cond_f rfl ?_
                    refine c_skip ?_
                    refine e_next ?_
                    refine c_seq ?_
                    refine c_seq ?_
                    refine c_region ?_
                    refine r_val .none rfl (p_move rfl) ?_
                    refine r_val .none rfl (p_leno (k := 0) Try.underlying54 rfl rfl) ?_
                    refine r_val .none rfl (p_move rfl) ?_
                    refine r_nil ?_
                    refine e_next ?_
                    refine c_block ?_
                    refine c_name (d := 2) rfl (fun u_53 hu_53 => ?_)
                    refine c_name (d := 5) rfl (fun u_54 hu_54 => ?_)
                    refine c_name (d := 11) rfl (fun u_55 hu_55 => ?_)
                    refine c_name (d := 64) rfl (fun u_56 hu_56 => ?_)
                    refine c_nameL (k := 0) rfl (fun A_57 hA_57 => ?_)
                    refine c_nameL (k := 1) rfl (fun A_58 hA_58 => ?_)
                    refine c_loop (σ := Nat) (fun i => [(65, Value.int .i64 (i : Nat)), (2, u_53), (5, u_54), (11, u_55), (64, u_56)]) (fun i => [A_57, A_58]) (fun _ => _) (fun i => i ≤ (strs l kn []).length) (fun i => (strs l kn []).length - i) (0) (Nat.zero_le _) rfl ⟨rfl, rfl, rfl, rfl, rfl, trivial⟩ (.keep (fun _ _ h => h) (.keep (fun _ _ h => h) (.nil))) (fun i hphi => ?_)
                    subst hu_53
                    subst hu_54
                    subst hu_55
                    subst hu_56
                    subst hA_57
                    subst hA_58
                    refine c_seq ?_
                    refine c_region ?_
                    refine r_val .none rfl (p_lt rfl rfl) ?_
                    refine r_nil ?_
                    refine e_next ?_
                    refine c_seq ?_
                    refine c_splitd (d := 66) rfl (fun h_59 => ?_) (fun h_59 => ?_)
                    · skip
                      first
                        | (exfalso; first | omega | assumption)
                        | (
                          refine c_cond_t rfl ?_
                          refine c_skip ?_
                          refine e_next ?_
                          refine c_seq ?_
                          refine c_block ?_
                          refine c_seq ?_
                          refine c_region ?_
                          refine r_val .none rfl (p_move rfl) ?_
                          refine r_val .none rfl (p_assign rfl) ?_
                          refine r_nil ?_
                          refine e_next ?_
                          refine c_seq ?_
                          refine c_region_q mixed (by kernel_rfl) ?_
                          refine q_val .none rfl (p_move rfl) ?_
                          refine q_val .none rfl (p_move rfl) ?_
                          refine q_iaddr_o (k := 0) .none rfl Try.underlying54 sz9 rfl rfl rfl (by first | exact of_decide_eq_true rfl | omega) (fun p_60 c_61 hv_62 => ?_)
                          refine q_val .none rfl (p_ldo0 (k := 0) Try.underlying9 rfl rfl hv_62 rfl (by first | exact of_decide_eq_true rfl | omega) (by first | exact of_decide_eq_true rfl | omega) ((flatMap_get (cells := sc) (fun _ => rfl) ByteArray.empty _ _ _ (by first | exact of_decide_eq_true rfl | omega) (by first | exact of_decide_eq_true rfl | omega)).trans (rfl : _ = Value.string _))) ?_
                          refine q_val .none rfl (p_move rfl) ?_
                          refine q_val .none rfl (p_move rfl) ?_
                          refine q_iaddr_g .none rfl Try.underlying54 sz9 rfl hst rfl (by first | exact of_decide_eq_true rfl | omega) (fun p_64 o_65 R_63 => ?_)
                          refine q_val .none rfl (p_ldg0 Try.underlying9 rfl rfl R_63 (by first | exact of_decide_eq_true rfl | omega) (rfl : _ = Value.string _)) ?_
                          refine q_val .none rfl (p_nes rfl rfl) ?_
                          refine q_nil ?_
                          refine e_next ?_
                          refine c_splitn (d := 76) rfl (fun h_66 => ?_) (fun h_66 => ?_)
                          · skip
                            have hx : False := of_decide_eq_false (h_66) rfl
                            first
                              | (exfalso; first | omega | assumption)
                              | (
                                refine c_cond_t rfl ?_
                                refine c_seq ?_
                                refine c_region ?_
                                refine r_val .none rfl (p_assign rfl) ?_
                                refine r_nil ?_
                                refine e_next ?_
                                refine c_ret ?_
                                refine e_ret_block ?_
                                refine e_ret_then ?_
                                refine e_ret_then ?_
                                refine e_ret_block ?_
                                refine e_ret_then ?_
                                refine e_ret1 Try.results7 (.tmp rfl .nil) (fun w hm => ⟨?_, hm.since⟩)
                                rfl
                                )
                          · skip
                            first
                              | (exfalso; first | omega | assumption)
                              | (
                                refine c_cond_f rfl ?_
                                refine c_skip ?_
                                refine e_norm_block ?_
                                refine e_next ?_
                                refine c_region ?_
                                refine r_val .none rfl (p_add rfl rfl (by omega)) ?_
                                refine r_val .none rfl (p_move rfl) ?_
                                refine r_nil ?_
                                refine e_round (i + 1) ⟨by omega, by omega⟩ rfl ⟨rfl, rfl, rfl, rfl, rfl, trivial⟩ (.keep (fun _ _ h => h) (.keep (fun _ _ h => h) (.nil)))
                                )
                          )
                    · skip
                      first
                        | (exfalso; first | omega | assumption)
                        | (
                          refine c_cond_f rfl ?_
                          refine c_exit ?_
                          refine e_exit_then ?_
                          refine e_exit_then ?_
                          refine e_exit_block ?_
                          refine e_next ?_
                          refine c_seq ?_
                          refine c_region ?_
                          refine r_val .none rfl (p_assign rfl) ?_
                          refine r_nil ?_
                          refine e_next ?_
                          refine c_seq ?_
                          refine c_seq ?_
                          refine c_region ?_
                          refine r_val .none rfl (p_field Try.underlying46 rfl sz25 rfl) ?_
                          refine r_val .none rfl (p_ld (k := 1) Try.underlying25 rfl rfl rfl (by first | exact of_decide_eq_true rfl | omega) rfl) ?_
                          refine r_val .none rfl (p_leng Try.underlying25 rfl hr) ?_
                          have bd_67 := (hr).bound
                          refine r_val .none rfl (p_move rfl) ?_
                          refine r_nil ?_
                          refine e_next ?_
                          refine c_block ?_
                          refine c_name (d := 2) rfl (fun u_68 hu_68 => ?_)
                          refine c_name (d := 79) rfl (fun u_69 hu_69 => ?_)
                          refine c_name (d := 80) rfl (fun u_70 hu_70 => ?_)
                          refine c_nameL (k := 0) rfl (fun A_71 hA_71 => ?_)
                          refine c_nameL (k := 1) rfl (fun A_72 hA_72 => ?_)
                          refine c_loop (σ := Nat) (fun q => [(81, Value.int .i64 (q : Nat)), (13, Value.int .i64 (T5.posC ((rs.map Prod.fst).take q) : Nat)), (2, u_68), (79, u_69), (80, u_70)]) (fun q => [A_71, A_72]) (fun _ => _) (fun q => q ≤ rs.length) (fun q => rs.length - q) (0) (Nat.zero_le _) rfl ⟨rfl, rfl, rfl, rfl, rfl, trivial⟩ (.keep (fun _ _ h => h) (.keep (fun _ _ h => h) (.nil))) (fun q hphi => ?_)
                          subst hu_68
                          subst hu_69
                          subst hu_70
                          subst hA_71
                          subst hA_72
                          refine c_seq ?_
                          refine c_region ?_
                          refine r_val .none rfl (p_lt rfl rfl) ?_
                          refine r_nil ?_
                          refine e_next ?_
                          refine c_seq ?_
                          refine c_splitd (d := 82) rfl (fun h_73 => ?_) (fun h_73 => ?_)
                          · skip
                            first
                              | (exfalso; first | omega | assumption)
                              | (
                                refine c_cond_t rfl ?_
                                refine c_skip ?_
                                refine e_next ?_
                                refine c_seq ?_
                                refine c_block ?_
                                refine c_seq ?_
                                refine c_region ?_
                                refine r_iaddr_g .none rfl Try.underlying25 sz27 rfl hr rfl (by first | exact of_decide_eq_true rfl | omega) (fun p_75 o_76 R_74 => ?_)
                                have hc_77 := hp _ (getD_mem (i := q) (d := d0) (by omega))
                                refine r_val .none rfl (p_ldga0 Try.underlying27 rfl sz27 rfl R_74 (by first | exact of_decide_eq_true rfl | omega) (rfl : _ = Value.agg #[_, _, _, _, _, _, _, _])) ?_
                                refine r_alloc .none rfl zr27 (IsRow.lit _) (fun b_4 => ?_)
                                refine r_stw (k := 0) .none sz27 rfl rfl (IsRow.lit _) (one_lit rfl (all_cons rfl (all_cons rfl (all_cons rfl (all_cons rfl (all_cons rfl (all_cons rfl (all_cons rfl (all_cons (hc_77).one rfl))))))))) rfl ?_
                                refine r_nil ?_
                                refine e_next ?_
                                refine c_seq ?_
                                refine c_region ?_
                                refine r_val .none rfl (p_field Try.underlying27 rfl sz3 rfl) ?_
                                refine r_val .none rfl (p_ld (k := 0) Try.underlying3 rfl rfl rfl (by first | exact of_decide_eq_true rfl | omega) (rfl : _ = Value.int _ _)) ?_
                                refine r_val .none rfl (p_eq rfl rfl) ?_
                                refine r_nil ?_
                                refine e_next ?_
                                refine c_splitd (d := 87) rfl (fun h_78 => ?_) (fun h_78 => ?_)
                                · skip
                                  have hk := h_78
                                  first
                                    | (exfalso; first | omega | assumption)
                                    | (
                                      refine c_cond_t rfl ?_
                                      refine c_region ?_
                                      refine r_val .none rfl (p_move rfl) ?_
                                      refine r_val .none rfl (p_add rfl rfl (by have := T5.posC_le ((rs.map Prod.fst).take q); rw [List.length_take, List.length_map] at this; omega)) ?_
                                      refine r_val .none rfl (p_assign rfl) ?_
                                      refine r_nil ?_
                                      refine e_norm_block ?_
                                      refine e_next ?_
                                      refine c_region ?_
                                      refine r_val .none rfl (p_add rfl rfl (by omega)) ?_
                                      refine r_val .none rfl (p_move rfl) ?_
                                      refine r_nil ?_
                                      refine e_round (q + 1) ⟨by omega, by omega⟩ rfl ⟨rfl, (congrArg (fun z => some (Value.int .i64 z)) (by rw [posC_take (by omega)]; first | (rw [if_pos hk]; omega) | (rw [if_neg hk]; omega))), rfl, rfl, rfl, trivial⟩ (.drop (.keep (fun _ _ h => h) (.keep (fun _ _ h => h) (.nil))))
                                      )
                                · skip
                                  have hk := h_78
                                  first
                                    | (exfalso; first | omega | assumption)
                                    | (
                                      refine c_cond_f rfl ?_
                                      refine c_skip ?_
                                      refine e_norm_block ?_
                                      refine e_next ?_
                                      refine c_region ?_
                                      refine r_val .none rfl (p_add rfl rfl (by omega)) ?_
                                      refine r_val .none rfl (p_move rfl) ?_
                                      refine r_nil ?_
                                      refine e_round (q + 1) ⟨by omega, by omega⟩ rfl ⟨rfl, (congrArg (fun z => some (Value.int .i64 z)) (by rw [posC_take (by omega)]; first | (rw [if_pos hk]; omega) | (rw [if_neg hk]; omega))), rfl, rfl, rfl, trivial⟩ (.drop (.keep (fun _ _ h => h) (.keep (fun _ _ h => h) (.nil))))
                                      )
                                )
                          · skip
                            first
                              | (exfalso; first | omega | assumption)
                              | (
                                refine c_cond_f rfl ?_
                                refine c_exit ?_
                                refine e_exit_then ?_
                                refine e_exit_then ?_
                                refine e_exit_block ?_
                                refine e_next ?_
                                refine c_seq ?_
                                refine c_region ?_
                                refine r_val .none rfl (p_ldw (k := 1) Try.underlying46 rfl sz46 rfl rfl (rfl : _ = Value.agg #[_, _])) ?_
                                refine r_call (vs := [_]) .none rfl cl28 rfl (fun w hw => c_ids nm _ l hs w hw) ?_
                                refine r_val .none rfl (p_move rfl) ?_
                                refine r_val .none rfl (p_eq rfl rfl) ?_
                                refine r_val .none rfl (p_move rfl) ?_
                                refine r_splitd (d := 95) rfl (fun h_79 => ?_) (fun h_79 => ?_)
                                · skip
                                  have hI := h_79
                                  first
                                    | (exfalso; first | omega | assumption)
                                    | (
                                      refine r_call (vs := []) (.some rfl rfl) rfl cl21 rfl (fun w hw => c_awake5 w) ?_
                                      refine r_val .none rfl (p_pick_t rfl rfl) ?_
                                      refine r_val .none rfl (p_assign rfl) ?_
                                      refine r_nil ?_
                                      refine e_next ?_
                                      refine c_ret ?_
                                      refine e_ret1 Try.results7 (.tmp rfl .nil) (fun w hm => ⟨?_, hm.since⟩)
                                      rfl
                                      )
                                · skip
                                  have hI := h_79
                                  have hx : False := hI (by rw [hl, List.take_of_length_le (by simp; omega)])
                                  first
                                    | (exfalso; first | omega | assumption)
                                    | (
                                      refine r_skip rfl (.no rfl rfl) ?_
                                      refine r_val .none rfl (p_pick_f rfl rfl) ?_
                                      refine r_val .none rfl (p_assign rfl) ?_
                                      refine r_nil ?_
                                      refine e_next ?_
                                      refine c_ret ?_
                                      refine e_ret1 Try.results7 (.tmp rfl .nil) (fun w hm => ⟨?_, hm.since⟩)
                                      rfl
                                      )
                                )
                          )
                    )
              )
        )
end Go.Proofs.Ytpcpbfajadgmpaa

/- Walks: what Go functions of this chapter come to, each as a function on plain data; no condition but those that each theorem names. Printed by a program of this work (gen.py). -/
namespace Go.Proofs.Ytpcpbfajadgmpaa
open Go.Gx Go.Gx.T1 Go.Gx.T3 Go.Gx.T4 Go.Gx.T3 Go.Gx.T5 Go.Gx.T1 Go.Gx.T8 Go.Gx.T6 Go.Gx.T4 Go.Gx.T3 Go.Gx.T6 Go.Gx.T8 Go.Gx.T4 Go.Gx.T3 Go.Gx.T8 Go.Gx.T4 Go.Gx.T3 Go.Gx.T8 Go.Gx.T6 Go.Gx.T4 Go.Gx.T3

theorem open_rule_l : leafT Try.prog 10 46 = some [9, 25] := by kernel_rfl
set_option maxRecDepth 100000 in
theorem open_rule {H : Type} {enc : TypeId × Value → H} {W : World} {base : Nat} {sp : Nat → Bool} {held : Bool} {r : Reach} {b0 : Nat} {v : Value} {y : DataW H} {ps : List MemPlace} (hv : Value.okWide Try.prog W r b0 46 v) (h : DataW.Trod enc Try.prog W base sp held 46 v y ps) : ∃ (nm : ByteArray) (cv : Value) (l : List CT), v = Value.agg #[Value.string nm, cv] ∧ Cs (GW W) cv l := by
  obtain ⟨cs, rfl⟩ := agg_of_wide Try.underlying46 rfl hv
  obtain ⟨fuel, hf⟩ := h
  cases fuel with
  | zero => simp [DataW.trod] at hf
  | succ B =>
    obtain ⟨n', _, hl⟩ := leavesB_struct 9 Try.underlying46 open_rule_l hf
    obtain ⟨x0, r0, e0, f0, g0⟩ := hl.inv
    obtain ⟨a0, rfl, _⟩ := f0.leaf.string Try.underlying9
    obtain ⟨x1, r1, e1, f1, g1⟩ := g0.inv
    have z := g1.inv0
    obtain ⟨l, h1, h2⟩ := open_slB (cells := cvC) (Qa := fun a => Cs (GW W) a.2 a.1.subs) d0 Try.underlying25 (show Program.cellsOf Try.prog 27 = 8 by kernel_rfl) (by decide) (fun m cs' y hm hy => open_cond_n m m cs' y (Nat.le_refl _) hy) f1
    refine ⟨a0, x1, l.map Prod.fst, ?_, Tr.mk l h1 h2⟩
    have : cs = #[Value.string a0, x1] := by apply Array.ext'; rw [show (Value.agg cs).cells.toList = cs.toList from rfl] at e0; rw [e0, e1, z]
    rw [this]
end Go.Proofs.Ytpcpbfajadgmpaa
