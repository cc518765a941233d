/- Texts of this work, laid together: a logic of steps, plain laws, and walks of Go functions, each without a condition but those that its theorems name. -/
import Derived.Test.YtpcpbfajadgmpaaKRuleFewer4
import Derived.Test.YtpcpbfajadgmpaaRows
/- Walks: what Go functions of this chapter come to, each as a function on plain data; no condition but those that each theorem names. Printed by a program of this work (gen.py). -/
namespace Go.Proofs.Ytpcpbfajadgmpaa
open Go.Gx Go.Gx.T1 Go.Gx.T3 Go.Gx.T4 Go.Gx.T3 Go.Gx.T5 Go.Gx.T1 Go.Gx.T8 Go.Gx.T6 Go.Gx.T4 Go.Gx.T3 Go.Gx.T6 Go.Gx.T8 Go.Gx.T4 Go.Gx.T3 Go.Gx.T8 Go.Gx.T4 Go.Gx.T3 Go.Gx.T8 Go.Gx.T6 Go.Gx.T4 Go.Gx.T3
theorem sz51 : SzIs Try.prog 51 2 := by
  unfold SzIs
  kernel_rfl
theorem zr51 : ZeroIs Try.prog 51 (Value.agg #[Value.string ⟨#[]⟩, Value.slice none 0 0]) := by
  unfold ZeroIs
  kernel_rfl
theorem cl20 : Callable Try.prog 20 := callable Try.func20 (by kernel_rfl) rfl
theorem cl23 : Callable Try.prog 23 := callable Try.func23 (by kernel_rfl) rfl
theorem cl24 : Callable Try.prog 24 := callable Try.func24 (by kernel_rfl) rfl
theorem cl44 : Callable Try.prog 44 := callable Try.func44 (by kernel_rfl) rfl
theorem cl45 : Callable Try.prog 45 := callable Try.func45 (by kernel_rfl) rfl
theorem cl55 : Callable Try.prog 55 := callable Try.func55 (by kernel_rfl) rfl
theorem bl51_0s1 (x0 : ByteArray) : Program.built Try.prog 51 [(0, Value.string x0)] = some #[Value.string x0, Value.slice none 0 0] := by
  kernel_rfl
theorem bl27_2s3 (x0 : Option Addr) (x1 : Nat) (x2 : Nat) : Program.built Try.prog 27 [(2, Value.slice x0 x1 x2)] = some #[Value.int .i64 0, Value.bool false, Value.int .i64 0, Value.bool false, Value.int .i64 0, Value.bool false, Value.int .i64 0, Value.slice x0 x1 x2] := by
  kernel_rfl
def OutIs (n : Nat) : Prop := ∀ (va : Value) (l : List CT) (v : Nat) (G : Ghost) (w : World), SizeOf.sizeOf l ≤ n → Rs G va l → Has G w → Calls Try.prog 45 #[va, Value.int .i64 (v : Nat)] w (Ret fun r w' => r = Value.int .i64 (out l v) ∧ Since nX w w')
theorem c_rsymRight (s : ByteArray)  (w : World)  :
    Calls Try.prog 44 #[Value.string s] w (Ret fun r w' => r = Value.bool (symRight s) ∧ Since nX w w') := by
  refine enter (args := [_]) (X := nX) (G := (fun _ => none)) (l := [(0, Value.string s)]) Try.func44 rfl Try.ntmps44 (fun _ _ h => by cases h) ⟨rfl, trivial⟩ (Nat.le_of_ble_eq_true rfl) ?_
  refine c_seq ?_
  refine c_region ?_
  refine r_val .none rfl (p_assign rfl) ?_
  refine r_nil ?_
  refine e_next ?_
  refine c_seq ?_
  refine c_seq ?_
  refine c_region ?_
  refine r_val .none rfl (p_move rfl) ?_
  refine r_val .none rfl (p_len_str Try.underlying9 rfl) ?_
  refine r_val .none rfl (p_lt rfl rfl) ?_
  refine r_val .none rfl (p_move rfl) ?_
  refine' r_or (c := 8) (d := 12) [_, _, _, _] rfl (fun h_1 Q_2 hQ_3 => ?_) (fun h_1 Q_2 hQ_3 => ?_) ?_
  rotate_left 1
  · skip
    replace h_1 := of_decide_eq_false h_1
    refine r_val (.some rfl rfl) rfl (p_move rfl) ?_
    refine r_val (.some rfl rfl) rfl (p_len_str Try.underlying9 rfl) ?_
    refine r_val (.some rfl rfl) rfl (p_gt rfl rfl) ?_
    refine r_val .none rfl (p_pick_f rfl rfl) ?_
    refine r_nil (e_fin (d := 12) hQ_3 rfl (by repeat (first | exact .refl | refine .put rfl ?_ | refine .say rfl ?_ | refine .say2 rfl (by first | assumption | simp_all) ?_)))
  · skip
    repeat (first | refine r_skip rfl (.no rfl rfl) ?_ | refine r_skip rfl (.un rfl rfl) ?_)
    refine r_val (by first | exact .none | exact .some rfl rfl) rfl (p_pick_t rfl rfl) ?_
    refine r_nil (e_fin (d := 12) hQ_3 rfl (by repeat (first | exact .refl | refine .put rfl ?_ | refine .say rfl ?_ | refine .say2 rfl (by first | assumption | simp_all) ?_)))
  refine r_nil ?_
  refine e_next ?_
  refine c_split (d := 12) rfl (fun h_5 => ?_) (fun h_5 => ?_)
  · skip
    try simp only [norms] at h_5
    first
      | (exfalso; omega)
      | (
        refine c_cond_t rfl ?_
        refine c_seq ?_
        refine c_region ?_
        refine r_val .none rfl (p_assign rfl) ?_
        refine r_nil ?_
        refine e_next ?_
        refine c_ret ?_
        refine e_ret_then ?_
        refine e_ret1 Try.results44 (.tmp rfl .nil) (fun w hm => ⟨?_, hm.since⟩)
        first
        | (rw [symRight_size (by omega)]; done)
        | (rw [symRight_bad (k := k) (by omega) (by simp [okb]; omega)]; done)
        | (have he : k = s.size := (by omega); subst he; rw [symRight_yes (by omega) hphi.2]; done)
        )
  · skip
    try simp only [norms] at h_5
    first
      | (exfalso; omega)
      | (
        refine c_cond_f rfl ?_
        refine c_skip ?_
        refine e_next ?_
        refine c_seq ?_
        refine c_seq ?_
        refine c_region ?_
        refine r_val .none rfl (p_assign rfl) ?_
        refine r_nil ?_
        refine e_next ?_
        refine c_block ?_
        refine c_name (d := 0) rfl (fun u_6 hu_6 => ?_)
        refine c_loop (σ := Nat) (fun k => [(3, Value.int .i64 (k : Int)), (0, u_6)]) (fun k => []) (fun _ => _) (fun k => k ≤ s.size ∧ okTo s k) (fun k => s.size - k) (0) ⟨Nat.zero_le _, okTo_zero s⟩ rfl ⟨rfl, rfl, trivial⟩ (.nil) (fun k hphi => ?_)
        subst hu_6
        refine c_seq ?_
        refine c_seq ?_
        refine c_region ?_
        refine r_val .none rfl (p_move rfl) ?_
        refine r_val .none rfl (p_move rfl) ?_
        refine r_val .none rfl (p_len_str Try.underlying9 rfl) ?_
        refine r_val .none rfl (p_lt rfl rfl) ?_
        refine r_nil ?_
        refine e_next ?_
        refine c_splitd (d := 16) rfl (fun h_7 => ?_) (fun h_7 => ?_)
        · skip
          first
            | (exfalso; omega)
            | (
              refine c_cond_t rfl ?_
              refine c_skip ?_
              refine e_next ?_
              refine c_seq ?_
              refine c_block ?_
              refine c_seq ?_
              refine c_region ?_
              refine r_val .none rfl (p_move rfl) ?_
              refine r_val .none rfl (p_move rfl) ?_
              refine r_val .none rfl (p_index_str Try.underlying9 rfl rfl (by first | exact of_decide_eq_true rfl | omega)) ?_
              refine r_val .none rfl (p_assign rfl) ?_
              refine r_nil ?_
              refine e_next ?_
              refine c_seq ?_
              refine c_region ?_
              refine r_val .none rfl (p_move rfl) ?_
              refine r_val .none rfl (p_ge rfl rfl) ?_
              refine r_val .none rfl (p_move rfl) ?_
              refine' r_and (c := 24) (d := 27) [_, _, _] rfl (fun h_8 Q_9 hQ_10 => ?_) (fun h_8 Q_9 hQ_10 => ?_) ?_
              rotate_left 1
              · skip
                replace h_8 := of_decide_eq_true h_8
                refine r_val (.some rfl rfl) rfl (p_move rfl) ?_
                refine r_val (.some rfl rfl) rfl (p_le rfl rfl) ?_
                refine r_val .none rfl (p_pick_t rfl rfl) ?_
                refine r_nil (e_fin (d := 27) hQ_10 rfl (by repeat (first | exact .refl | refine .put rfl ?_ | refine .say rfl ?_ | refine .say2 rfl (by first | assumption | simp_all) ?_)))
              · skip
                repeat (first | refine r_skip rfl (.no rfl rfl) ?_ | refine r_skip rfl (.un rfl rfl) ?_)
                refine r_val (by first | exact .none | exact .some rfl rfl) rfl (p_pick_f rfl rfl) ?_
                refine r_nil (e_fin (d := 27) hQ_10 rfl (by repeat (first | exact .refl | refine .put rfl ?_ | refine .say rfl ?_ | refine .say2 rfl (by first | assumption | simp_all) ?_)))
              refine r_val .none rfl (p_not rfl) ?_
              refine r_val .none rfl (p_move rfl) ?_
              refine' r_and (c := 29) (d := 37) [_, _, _, _, _, _, _, _] rfl (fun h_12 Q_13 hQ_14 => ?_) (fun h_12 Q_13 hQ_14 => ?_) ?_
              rotate_left 1
              · skip
                try simp only [norms] at h_12
                refine r_val (.some rfl rfl) rfl (p_move rfl) ?_
                refine r_val (.some rfl rfl) rfl (p_ge rfl rfl) ?_
                refine r_val (.some rfl rfl) rfl (p_move rfl) ?_
                refine' r_and (c := 32) (d := 35) [_, _, _] rfl (fun h_16 Q_17 hQ_18 => ?_) (fun h_16 Q_17 hQ_18 => ?_) ?_
                rotate_left 1
                · skip
                  replace h_16 := of_decide_eq_true h_16
                  refine r_val (.some rfl rfl) rfl (p_move rfl) ?_
                  refine r_val (.some rfl rfl) rfl (p_le rfl rfl) ?_
                  refine r_val (.some rfl rfl) rfl (p_pick_t rfl rfl) ?_
                  refine r_nil (e_fin (d := 35) hQ_18 rfl (by repeat (first | exact .refl | refine .put rfl ?_ | refine .say rfl ?_ | refine .say2 rfl (by first | assumption | simp_all) ?_)))
                · skip
                  repeat (first | refine r_skip rfl (.no rfl rfl) ?_ | refine r_skip rfl (.un rfl rfl) ?_)
                  refine r_val (by first | exact .none | exact .some rfl rfl) rfl (p_pick_f rfl rfl) ?_
                  refine r_nil (e_fin (d := 35) hQ_18 rfl (by repeat (first | exact .refl | refine .put rfl ?_ | refine .say rfl ?_ | refine .say2 rfl (by first | assumption | simp_all) ?_)))
                refine r_val (.some rfl rfl) rfl (p_not rfl) ?_
                refine r_val .none rfl (p_pick_t rfl rfl) ?_
                refine r_nil (e_fin (d := 37) hQ_14 rfl (by repeat (first | exact .refl | refine .put rfl ?_ | refine .say rfl ?_ | refine .say2 rfl (by first | assumption | simp_all) ?_)))
              · skip
                repeat (first | refine r_skip rfl (.no rfl rfl) ?_ | refine r_skip rfl (.un rfl rfl) ?_)
                refine r_val (by first | exact .none | exact .some rfl rfl) rfl (p_pick_f rfl rfl) ?_
                refine r_nil (e_fin (d := 37) hQ_14 rfl (by repeat (first | exact .refl | refine .put rfl ?_ | refine .say rfl ?_ | refine .say2 rfl (by first | assumption | simp_all) ?_)))
              refine r_val .none rfl (p_move rfl) ?_
              refine' r_and (c := 38) (d := 46) [_, _, _, _, _, _, _, _] rfl (fun h_20 Q_21 hQ_22 => ?_) (fun h_20 Q_21 hQ_22 => ?_) ?_
              rotate_left 1
              · skip
                try simp only [norms] at h_20
                refine r_val (.some rfl rfl) rfl (p_move rfl) ?_
                refine r_val (.some rfl rfl) rfl (p_ge rfl rfl) ?_
                refine r_val (.some rfl rfl) rfl (p_move rfl) ?_
                refine' r_and (c := 41) (d := 44) [_, _, _] rfl (fun h_24 Q_25 hQ_26 => ?_) (fun h_24 Q_25 hQ_26 => ?_) ?_
                rotate_left 1
                · skip
                  replace h_24 := of_decide_eq_true h_24
                  refine r_val (.some rfl rfl) rfl (p_move rfl) ?_
                  refine r_val (.some rfl rfl) rfl (p_le rfl rfl) ?_
                  refine r_val (.some rfl rfl) rfl (p_pick_t rfl rfl) ?_
                  refine r_nil (e_fin (d := 44) hQ_26 rfl (by repeat (first | exact .refl | refine .put rfl ?_ | refine .say rfl ?_ | refine .say2 rfl (by first | assumption | simp_all) ?_)))
                · skip
                  repeat (first | refine r_skip rfl (.no rfl rfl) ?_ | refine r_skip rfl (.un rfl rfl) ?_)
                  refine r_val (by first | exact .none | exact .some rfl rfl) rfl (p_pick_f rfl rfl) ?_
                  refine r_nil (e_fin (d := 44) hQ_26 rfl (by repeat (first | exact .refl | refine .put rfl ?_ | refine .say rfl ?_ | refine .say2 rfl (by first | assumption | simp_all) ?_)))
                refine r_val (.some rfl rfl) rfl (p_not rfl) ?_
                refine r_val .none rfl (p_pick_t rfl rfl) ?_
                refine r_nil (e_fin (d := 46) hQ_22 rfl (by repeat (first | exact .refl | refine .put rfl ?_ | refine .say rfl ?_ | refine .say2 rfl (by first | assumption | simp_all) ?_)))
              · skip
                repeat (first | refine r_skip rfl (.no rfl rfl) ?_ | refine r_skip rfl (.un rfl rfl) ?_)
                refine r_val (by first | exact .none | exact .some rfl rfl) rfl (p_pick_f rfl rfl) ?_
                refine r_nil (e_fin (d := 46) hQ_22 rfl (by repeat (first | exact .refl | refine .put rfl ?_ | refine .say rfl ?_ | refine .say2 rfl (by first | assumption | simp_all) ?_)))
              refine r_val .none rfl (p_move rfl) ?_
              refine' r_and (c := 47) (d := 50) [_, _, _] rfl (fun h_28 Q_29 hQ_30 => ?_) (fun h_28 Q_29 hQ_30 => ?_) ?_
              rotate_left 1
              · skip
                try simp only [norms] at h_28
                refine r_val (.some rfl rfl) rfl (p_move rfl) ?_
                refine r_val (.some rfl rfl) rfl (p_ne rfl rfl) ?_
                refine r_val .none rfl (p_pick_t rfl rfl) ?_
                refine r_nil (e_fin (d := 50) hQ_30 rfl (by repeat (first | exact .refl | refine .put rfl ?_ | refine .say rfl ?_ | refine .say2 rfl (by first | assumption | simp_all) ?_)))
              · skip
                repeat (first | refine r_skip rfl (.no rfl rfl) ?_ | refine r_skip rfl (.un rfl rfl) ?_)
                refine r_val (by first | exact .none | exact .some rfl rfl) rfl (p_pick_f rfl rfl) ?_
                refine r_nil (e_fin (d := 50) hQ_30 rfl (by repeat (first | exact .refl | refine .put rfl ?_ | refine .say rfl ?_ | refine .say2 rfl (by first | assumption | simp_all) ?_)))
              refine r_val .none rfl (p_move rfl) ?_
              refine' r_and (c := 51) (d := 54) [_, _, _] rfl (fun h_32 Q_33 hQ_34 => ?_) (fun h_32 Q_33 hQ_34 => ?_) ?_
              rotate_left 1
              · skip
                try simp only [norms] at h_32
                refine r_val (.some rfl rfl) rfl (p_move rfl) ?_
                refine r_val (.some rfl rfl) rfl (p_ne rfl rfl) ?_
                refine r_val .none rfl (p_pick_t rfl rfl) ?_
                refine r_nil (e_fin (d := 54) hQ_34 rfl (by repeat (first | exact .refl | refine .put rfl ?_ | refine .say rfl ?_ | refine .say2 rfl (by first | assumption | simp_all) ?_)))
              · skip
                repeat (first | refine r_skip rfl (.no rfl rfl) ?_ | refine r_skip rfl (.un rfl rfl) ?_)
                refine r_val (by first | exact .none | exact .some rfl rfl) rfl (p_pick_f rfl rfl) ?_
                refine r_nil (e_fin (d := 54) hQ_34 rfl (by repeat (first | exact .refl | refine .put rfl ?_ | refine .say rfl ?_ | refine .say2 rfl (by first | assumption | simp_all) ?_)))
              refine r_nil ?_
              refine e_next ?_
              refine c_split (d := 54) rfl (fun h_36 => ?_) (fun h_36 => ?_)
              · skip
                try simp only [norms] at h_36
                first
                  | (exfalso; omega)
                  | (
                    refine c_cond_t rfl ?_
                    refine c_seq ?_
                    refine c_region ?_
                    refine r_val .none rfl (p_assign rfl) ?_
                    refine r_nil ?_
                    refine e_next ?_
                    refine c_ret ?_
                    refine e_ret_block ?_
                    refine e_ret_then ?_
                    refine e_ret_then ?_
                    refine e_ret_block ?_
                    refine e_ret_then ?_
                    refine e_ret1 Try.results44 (.tmp rfl .nil) (fun w hm => ⟨?_, hm.since⟩)
                    first
                    | (rw [symRight_size (by omega)]; done)
                    | (rw [symRight_bad (k := k) (by omega) (by simp [okb]; omega)]; done)
                    | (have he : k = s.size := (by omega); subst he; rw [symRight_yes (by omega) hphi.2]; done)
                    )
              · skip
                try simp only [norms] at h_36
                first
                  | (exfalso; omega)
                  | (
                    refine c_cond_f rfl ?_
                    refine c_skip ?_
                    refine e_norm_block ?_
                    refine e_next ?_
                    refine c_region ?_
                    refine r_val .none rfl (p_move rfl) ?_
                    refine r_val .none rfl (p_add rfl rfl (by omega)) ?_
                    refine r_val .none rfl (p_assign rfl) ?_
                    refine r_nil ?_
                    refine e_round (k + 1) ⟨⟨by omega, okTo_succ hphi.2 (by simp [okb]; omega)⟩, by omega⟩ rfl ⟨rfl, rfl, trivial⟩ (.nil)
                    )
              )
        · skip
          first
            | (exfalso; omega)
            | (
              refine c_cond_f rfl ?_
              refine c_exit ?_
              refine e_exit_then ?_
              refine e_exit_then ?_
              refine e_exit_block ?_
              refine e_next ?_
              refine c_seq ?_
              refine c_region ?_
              refine r_val .none rfl (p_assign rfl) ?_
              refine r_nil ?_
              refine e_next ?_
              refine c_ret ?_
              refine e_ret1 Try.results44 (.tmp rfl .nil) (fun w hm => ⟨?_, hm.since⟩)
              first
              | (rw [symRight_size (by omega)]; done)
              | (rw [symRight_bad (k := k) (by omega) (by simp [okb]; omega)]; done)
              | (have he : k = s.size := (by omega); subst he; rw [symRight_yes (by omega) hphi.2]; done)
              )
        )
theorem c_rest (va : Value) (l : List CT) (f v : Nat) {G : Ghost} (hs : Rs G va l) (hf : f ≤ l.length) (w : World) (hG : Has G w) :
    Calls Try.prog 55 #[va, Value.int .i64 (f : Nat), Value.int .i64 (v : Nat)] w (Ret fun r w' => r = Value.bool (hasL (l.drop f) v) ∧ Since nX w w') := by
  refine enter (args := [_, _, _]) (X := nX) (G := G) (l := [(0, va), (1, Value.int .i64 (f : Nat)), (2, Value.int .i64 (v : Nat))]) Try.func55 rfl Try.ntmps55 hG ⟨rfl, rfl, rfl, trivial⟩ (Nat.le_of_ble_eq_true rfl) ?_
  obtain ⟨rs, hr, hp, hl⟩ := hs.inv
  have hbd := hr.bound
  have hlr : l.length = rs.length := by rw [hl]; simp
  refine c_seq ?_
  refine c_region ?_
  refine r_val .none rfl (p_assign rfl) ?_
  refine r_nil ?_
  refine e_next ?_
  refine c_seq ?_
  refine c_seq ?_
  refine c_region ?_
  refine r_val .none rfl (p_move rfl) ?_
  refine r_val .none rfl (p_assign rfl) ?_
  refine r_nil ?_
  refine e_next ?_
  refine c_block ?_
  refine c_name (d := 0) rfl (fun u_1 hu_1 => ?_)
  refine c_name (d := 2) rfl (fun u_2 hu_2 => ?_)
  refine c_loop (σ := Nat) (fun k => [(7, Value.int .i64 (k : Nat)), (0, u_1), (2, u_2)]) (fun k => []) (fun _ => _) (fun k => k ≤ rs.length ∧ hasL (l.drop k) v = hasL (l.drop f) v) (fun k => rs.length - k) (f) ⟨by omega, rfl⟩ rfl ⟨rfl, rfl, rfl, trivial⟩ (.nil) (fun k hphi => ?_)
  subst hu_1
  subst hu_2
  refine c_seq ?_
  refine c_seq ?_
  refine c_region ?_
  refine r_val .none rfl (p_move rfl) ?_
  refine r_val .none rfl (p_move rfl) ?_
  refine r_val .none rfl (p_leng Try.underlying36 rfl hr) ?_
  have bd_3 := (hr).bound
  refine r_val .none rfl (p_lt rfl rfl) ?_
  refine r_nil ?_
  refine e_next ?_
  refine c_splitd (d := 12) rfl (fun h_4 => ?_) (fun h_4 => ?_)
  · skip
    first
      | (exfalso; omega)
      | (
        refine c_cond_t rfl ?_
        refine c_skip ?_
        refine e_next ?_
        refine c_seq ?_
        refine c_block ?_
        refine c_seq ?_
        refine c_region ?_
        refine r_val .none rfl (p_move rfl) ?_
        refine r_val .none rfl (p_move rfl) ?_
        refine r_iaddr_g .none rfl Try.underlying36 sz38 rfl hr rfl (by first | exact of_decide_eq_true rfl | omega) (fun p_6 o_7 R_5 => ?_)
        have hc_8 := hp _ (getD_mem (i := k) (d := d0) (by omega))
        refine r_val .none rfl (p_ldga0 Try.underlying38 rfl sz38 rfl R_5 (by first | exact of_decide_eq_true rfl | omega) (rfl : _ = Value.agg #[_, _, _, _, _, _, _, _])) ?_
        refine r_val .none rfl (p_move rfl) ?_
        refine r_call (vs := [_, _]) .none rfl cl31 rfl (fun w hw => c_rhas (rs.getD k d0).1 _ v hc_8 w hw) ?_
        refine r_nil ?_
        refine e_next ?_
        refine c_split (d := 20) rfl (fun h_9 => ?_) (fun h_9 => ?_)
        · skip
          have hE := h_9
          first
            | (exfalso; omega)
            | (
              refine c_cond_t rfl ?_
              refine c_seq ?_
              refine c_region ?_
              refine r_val .none rfl (p_assign rfl) ?_
              refine r_nil ?_
              refine e_next ?_
              refine c_ret ?_
              refine e_ret_block ?_
              refine e_ret_then ?_
              refine e_ret_then ?_
              refine e_ret_block ?_
              refine e_ret_then ?_
              refine e_ret1 Try.results55 (.tmp rfl .nil) (fun w hm => ⟨?_, hm.since⟩)
              first
              | (rw [← hphi.2, hl, map_drop (i := k) (d := d0) (by omega), hasL_yes hE]; done)
              | (rw [← hphi.2, List.drop_eq_nil_of_le (by omega)]; rfl)
              )
        · skip
          have hE := h_9
          first
            | (exfalso; omega)
            | (
              refine c_cond_f rfl ?_
              refine c_skip ?_
              refine e_norm_block ?_
              refine e_next ?_
              refine c_region ?_
              refine r_val .none rfl (p_move rfl) ?_
              refine r_val .none rfl (p_add rfl rfl (by omega)) ?_
              refine r_val .none rfl (p_assign rfl) ?_
              refine r_nil ?_
              refine e_round (k + 1) ⟨⟨by omega, by rw [← hphi.2, hl, map_drop (i := k) (d := d0) (by omega), hasL_no hE]⟩, by omega⟩ rfl ⟨rfl, rfl, rfl, trivial⟩ (.nil)
              )
        )
  · skip
    first
      | (exfalso; omega)
      | (
        refine c_cond_f rfl ?_
        refine c_exit ?_
        refine e_exit_then ?_
        refine e_exit_then ?_
        refine e_exit_block ?_
        refine e_next ?_
        refine c_seq ?_
        refine c_region ?_
        refine r_val .none rfl (p_assign rfl) ?_
        refine r_nil ?_
        refine e_next ?_
        refine c_ret ?_
        refine e_ret1 Try.results55 (.tmp rfl .nil) (fun w hm => ⟨?_, hm.since⟩)
        first
        | (rw [← hphi.2, hl, map_drop (i := k) (d := d0) (by omega), hasL_yes hE]; done)
        | (rw [← hphi.2, List.drop_eq_nil_of_le (by omega)]; rfl)
        )
theorem c_out_s (n : Nat) (ih : OutIs n) (va : Value) (l : List CT) (v : Nat) {G : Ghost} (hz : SizeOf.sizeOf l ≤ n + 1) (hs : Rs G va l) (w : World) (hG : Has G w) :
    Calls Try.prog 45 #[va, Value.int .i64 (v : Nat)] w (Ret fun r w' => r = Value.int .i64 (out l v) ∧ Since nX w w') := by
  refine enter (args := [_, _]) (X := nX) (G := G) (l := [(0, va), (1, Value.int .i64 (v : Nat))]) Try.func45 rfl Try.ntmps45 hG ⟨rfl, rfl, trivial⟩ (Nat.le_of_ble_eq_true rfl) ?_
  obtain ⟨rs, hr, hp, hl⟩ := hs.inv
  have hbd := hr.bound
  have hlr : l.length = rs.length := by rw [hl]; simp
  refine c_seq ?_
  refine c_region ?_
  refine r_val .none rfl (p_assign rfl) ?_
  refine r_nil ?_
  refine e_next ?_
  refine c_seq ?_
  refine c_seq ?_
  refine c_region ?_
  refine r_val .none rfl (p_move rfl) ?_
  refine r_val .none rfl (p_leng Try.underlying36 rfl hr) ?_
  have bd_1 := (hr).bound
  refine r_val .none rfl (p_move rfl) ?_
  refine r_nil ?_
  refine e_next ?_
  refine c_block ?_
  refine c_name (d := 0) rfl (fun u_2 hu_2 => ?_)
  refine c_name (d := 1) rfl (fun u_3 hu_3 => ?_)
  refine c_name (d := 7) rfl (fun u_4 hu_4 => ?_)
  refine c_name (d := 8) rfl (fun u_5 hu_5 => ?_)
  refine c_loop (σ := Nat) (fun k => [(9, Value.int .i64 (k : Nat)), (0, u_2), (1, u_3), (7, u_4), (8, u_5)]) (fun k => []) (fun _ => _) (fun k => k ≤ rs.length ∧ out (l.drop k) v = out l v) (fun k => rs.length - k) (0) ⟨Nat.zero_le _, rfl⟩ rfl ⟨rfl, rfl, rfl, rfl, rfl, trivial⟩ (.nil) (fun k hphi => ?_)
  subst hu_2
  subst hu_3
  subst hu_4
  subst hu_5
  refine c_seq ?_
  refine c_region ?_
  refine r_val .none rfl (p_lt rfl rfl) ?_
  refine r_nil ?_
  refine e_next ?_
  refine c_seq ?_
  refine c_splitd (d := 10) rfl (fun h_6 => ?_) (fun h_6 => ?_)
  · skip
    first
      | (exfalso; omega)
      | (
        refine c_cond_t rfl ?_
        refine c_skip ?_
        refine e_next ?_
        refine c_seq ?_
        refine c_block ?_
        refine c_seq ?_
        refine c_region ?_
        refine r_val .none rfl (p_move rfl) ?_
        refine r_iaddr_g .none rfl Try.underlying36 sz38 rfl hr rfl (by first | exact of_decide_eq_true rfl | omega) (fun p_8 o_9 R_7 => ?_)
        have hc_10 := hp _ (getD_mem (i := k) (d := d0) (by omega))
        refine r_val .none rfl (p_ldga0 Try.underlying38 rfl sz38 rfl R_7 (by first | exact of_decide_eq_true rfl | omega) (rfl : _ = Value.agg #[_, _, _, _, _, _, _, _])) ?_
        refine r_alloc .none rfl zr38 (IsRow.lit _) (fun b_1 => ?_)
        refine r_val .none rfl (p_assign rfl) ?_
        refine r_stw (k := 0) .none sz38 rfl rfl (IsRow.lit _) (one_lit rfl (all_cons rfl (all_cons rfl (all_cons rfl (all_cons rfl (all_cons rfl (all_cons rfl (all_cons rfl (all_cons (hc_10).one rfl))))))))) rfl ?_
        refine r_nil ?_
        refine e_next ?_
        refine c_seq ?_
        refine c_seq ?_
        refine c_region ?_
        refine r_val .none rfl (p_ldw (k := 0) Try.underlying38 rfl sz38 rfl rfl (rfl : _ = Value.agg #[_, _, _, _, _, _, _, _])) ?_
        refine r_val .none rfl (p_move rfl) ?_
        refine r_call (vs := [_, _]) .none rfl cl31 rfl (fun w hw => c_rhas (rs.getD k d0).1 _ v hc_10 w hw) ?_
        refine r_val .none rfl (p_not rfl) ?_
        refine r_nil ?_
        refine e_next ?_
        refine c_splitn (d := 17) rfl (fun h_11 => ?_) (fun h_11 => ?_)
        · skip
          have hH := h_11
          first
            | (exfalso; omega)
            | (
              refine c_cond_t rfl ?_
              refine c_exit ?_
              refine e_exit_then ?_
              refine e_exit_block ?_
              refine e_next ?_
              refine c_region ?_
              refine r_val .none rfl (p_add rfl rfl (by omega)) ?_
              refine r_val .none rfl (p_move rfl) ?_
              refine r_nil ?_
              refine e_round (k + 1) ⟨⟨by omega, by rw [← hphi.2, hl, out_skip (k := k) (by omega) (by simpa using hH)]⟩, by omega⟩ rfl ⟨rfl, rfl, rfl, rfl, rfl, trivial⟩ (.drop (.nil))
              )
        · skip
          have hH := h_11
          first
            | (exfalso; omega)
            | (
              refine c_cond_f rfl ?_
              refine c_skip ?_
              refine e_next ?_
              refine c_seq ?_
              refine c_seq ?_
              refine c_region ?_
              refine r_val .none rfl (p_field Try.underlying38 rfl sz3 rfl) ?_
              refine r_val .none rfl (p_ld (k := 0) Try.underlying3 rfl rfl rfl (by first | exact of_decide_eq_true rfl | omega) (rfl : _ = Value.int _ _)) ?_
              refine r_val .none rfl (p_eq rfl rfl) ?_
              refine r_nil ?_
              refine e_next ?_
              refine c_splitd (d := 20) rfl (fun h_12 => ?_) (fun h_12 => ?_)
              · skip
                have h1 := h_12
                first
                  | (exfalso; omega)
                  | (
                    refine c_cond_t rfl ?_
                    refine c_seq ?_
                    refine c_region ?_
                    refine r_val .none rfl (p_assign rfl) ?_
                    refine r_nil ?_
                    refine e_next ?_
                    refine c_ret ?_
                    refine e_ret_then ?_
                    refine e_ret_block ?_
                    refine e_ret_then ?_
                    refine e_ret_then ?_
                    refine e_ret_block ?_
                    refine e_ret_then ?_
                    refine e_ret1 Try.results45 (.tmp rfl .nil) (fun w hm => ⟨?_, hm.since⟩)
                    rw [← hphi.2, hl]
                    first
                    | (rw [out_pos (by omega) (by simpa using hH) h1]; done)
                    | (rw [out_rest (by omega) (by simpa using hH) h1 h2]; done)
                    | (rw [out_in (by omega) (by simpa using hH) h1 h2 h3 h4]; done)
                    | (rw [out_zero (by omega) (by simpa using hH) h1 h2 (fun hx => h3 hx.1)]; done)
                    | (rw [out_zero (by omega) (by simpa using hH) h1 h2 (fun hx => h4 hx.2)]; done)
                    | (rw [List.drop_eq_nil_of_le (by simp; omega)]; rfl)
                    )
              · skip
                have h1 := h_12
                first
                  | (exfalso; omega)
                  | (
                    refine c_cond_f rfl ?_
                    refine c_skip ?_
                    refine e_next ?_
                    refine c_seq ?_
                    refine c_seq ?_
                    refine c_region ?_
                    refine r_val .none rfl (p_move rfl) ?_
                    refine r_val .none rfl (p_move rfl) ?_
                    refine r_val .none rfl (p_add rfl rfl (by omega)) ?_
                    refine r_say (d := 23) (v := Value.int .i64 (((k + 1 : Nat)) : Int)) (congrArg (fun x => some (Value.int .i64 x)) (by omega)) ?_
                    refine r_val .none rfl (p_move rfl) ?_
                    refine r_call (vs := [_, _, _]) .none rfl cl55 rfl (fun w hw => c_rest _ l (k + 1) v hs (by omega) w hw) ?_
                    refine r_nil ?_
                    refine e_next ?_
                    refine c_split (d := 25) rfl (fun h_13 => ?_) (fun h_13 => ?_)
                    · skip
                      have h2 := h_13
                      rw [hl] at h2
                      first
                        | (exfalso; omega)
                        | (
                          refine c_cond_t rfl ?_
                          refine c_seq ?_
                          refine c_region ?_
                          refine r_val .none rfl (p_assign rfl) ?_
                          refine r_nil ?_
                          refine e_next ?_
                          refine c_ret ?_
                          refine e_ret_then ?_
                          refine e_ret_block ?_
                          refine e_ret_then ?_
                          refine e_ret_then ?_
                          refine e_ret_block ?_
                          refine e_ret_then ?_
                          refine e_ret1 Try.results45 (.tmp rfl .nil) (fun w hm => ⟨?_, hm.since⟩)
                          rw [← hphi.2, hl]
                          first
                          | (rw [out_pos (by omega) (by simpa using hH) h1]; done)
                          | (rw [out_rest (by omega) (by simpa using hH) h1 h2]; done)
                          | (rw [out_in (by omega) (by simpa using hH) h1 h2 h3 h4]; done)
                          | (rw [out_zero (by omega) (by simpa using hH) h1 h2 (fun hx => h3 hx.1)]; done)
                          | (rw [out_zero (by omega) (by simpa using hH) h1 h2 (fun hx => h4 hx.2)]; done)
                          | (rw [List.drop_eq_nil_of_le (by simp; omega)]; rfl)
                          )
                    · skip
                      have h2 := h_13
                      rw [hl] at h2
                      first
                        | (exfalso; omega)
                        | (
                          refine c_cond_f rfl ?_
                          refine c_skip ?_
                          refine e_next ?_
                          refine c_seq ?_
                          refine c_seq ?_
                          refine c_region ?_
                          refine r_val .none rfl (p_field Try.underlying38 rfl sz3 rfl) ?_
                          refine r_val .none rfl (p_ld (k := 0) Try.underlying3 rfl rfl rfl (by first | exact of_decide_eq_true rfl | omega) (rfl : _ = Value.int _ _)) ?_
                          refine r_val .none rfl (p_eq rfl rfl) ?_
                          refine r_nil ?_
                          refine e_next ?_
                          refine c_splitd (d := 28) rfl (fun h_14 => ?_) (fun h_14 => ?_)
                          · skip
                            have h3 := h_14
                            first
                              | (exfalso; omega)
                              | (
                                refine c_cond_t rfl ?_
                                refine c_seq ?_
                                refine c_region ?_
                                refine r_val .none rfl (p_field Try.underlying38 rfl sz36 rfl) ?_
                                refine r_val .none rfl (p_ld (k := 0) Try.underlying36 rfl rfl rfl (by first | exact of_decide_eq_true rfl | omega) rfl) ?_
                                refine r_val .none rfl (p_move rfl) ?_
                                refine r_call (vs := [_, _]) .none rfl cl45 rfl (fun w hw => ih _ _ v _ w (Nat.le_of_lt_succ (Nat.lt_of_lt_of_le (sub_size5 (by omega)) (by rw [← hl]; exact hz))) hc_10 hw) ?_
                                refine r_val .none rfl (p_eq rfl rfl) ?_
                                refine r_nil ?_
                                refine e_next ?_
                                refine c_splitd (d := 33) rfl (fun h_15 => ?_) (fun h_15 => ?_)
                                · skip
                                  have h4 := h_15
                                  first
                                    | (exfalso; omega)
                                    | (
                                      refine c_cond_t rfl ?_
                                      refine c_seq ?_
                                      refine c_region ?_
                                      refine r_val .none rfl (p_assign rfl) ?_
                                      refine r_nil ?_
                                      refine e_next ?_
                                      refine c_ret ?_
                                      refine e_ret_then ?_
                                      refine e_ret_block ?_
                                      refine e_ret_then ?_
                                      refine e_ret_then ?_
                                      refine e_ret_block ?_
                                      refine e_ret_then ?_
                                      refine e_ret1 Try.results45 (.tmp rfl .nil) (fun w hm => ⟨?_, hm.since⟩)
                                      rw [← hphi.2, hl]
                                      first
                                      | (rw [out_pos (by omega) (by simpa using hH) h1]; done)
                                      | (rw [out_rest (by omega) (by simpa using hH) h1 h2]; done)
                                      | (rw [out_in (by omega) (by simpa using hH) h1 h2 h3 h4]; done)
                                      | (rw [out_zero (by omega) (by simpa using hH) h1 h2 (fun hx => h3 hx.1)]; done)
                                      | (rw [out_zero (by omega) (by simpa using hH) h1 h2 (fun hx => h4 hx.2)]; done)
                                      | (rw [List.drop_eq_nil_of_le (by simp; omega)]; rfl)
                                      )
                                · skip
                                  have h4 := h_15
                                  first
                                    | (exfalso; omega)
                                    | (
                                      refine c_cond_f rfl ?_
                                      refine c_skip ?_
                                      refine e_next ?_
                                      refine c_seq ?_
                                      refine c_region ?_
                                      refine r_val .none rfl (p_assign rfl) ?_
                                      refine r_nil ?_
                                      refine e_next ?_
                                      refine c_ret ?_
                                      refine e_ret_block ?_
                                      refine e_ret_then ?_
                                      refine e_ret_then ?_
                                      refine e_ret_block ?_
                                      refine e_ret_then ?_
                                      refine e_ret1 Try.results45 (.tmp rfl .nil) (fun w hm => ⟨?_, hm.since⟩)
                                      rw [← hphi.2, hl]
                                      first
                                      | (rw [out_pos (by omega) (by simpa using hH) h1]; done)
                                      | (rw [out_rest (by omega) (by simpa using hH) h1 h2]; done)
                                      | (rw [out_in (by omega) (by simpa using hH) h1 h2 h3 h4]; done)
                                      | (rw [out_zero (by omega) (by simpa using hH) h1 h2 (fun hx => h3 hx.1)]; done)
                                      | (rw [out_zero (by omega) (by simpa using hH) h1 h2 (fun hx => h4 hx.2)]; done)
                                      | (rw [List.drop_eq_nil_of_le (by simp; omega)]; rfl)
                                      )
                                )
                          · skip
                            have h3 := h_14
                            first
                              | (exfalso; omega)
                              | (
                                refine c_cond_f rfl ?_
                                refine c_skip ?_
                                refine e_next ?_
                                refine c_seq ?_
                                refine c_region ?_
                                refine r_val .none rfl (p_assign rfl) ?_
                                refine r_nil ?_
                                refine e_next ?_
                                refine c_ret ?_
                                refine e_ret_block ?_
                                refine e_ret_then ?_
                                refine e_ret_then ?_
                                refine e_ret_block ?_
                                refine e_ret_then ?_
                                refine e_ret1 Try.results45 (.tmp rfl .nil) (fun w hm => ⟨?_, hm.since⟩)
                                rw [← hphi.2, hl]
                                first
                                | (rw [out_pos (by omega) (by simpa using hH) h1]; done)
                                | (rw [out_rest (by omega) (by simpa using hH) h1 h2]; done)
                                | (rw [out_in (by omega) (by simpa using hH) h1 h2 h3 h4]; done)
                                | (rw [out_zero (by omega) (by simpa using hH) h1 h2 (fun hx => h3 hx.1)]; done)
                                | (rw [out_zero (by omega) (by simpa using hH) h1 h2 (fun hx => h4 hx.2)]; done)
                                | (rw [List.drop_eq_nil_of_le (by simp; omega)]; rfl)
                                )
                          )
                    )
              )
        )
  · skip
    first
      | (exfalso; omega)
      | (
        refine c_cond_f rfl ?_
        refine c_exit ?_
        refine e_exit_then ?_
        refine e_exit_then ?_
        refine e_exit_block ?_
        refine e_next ?_
        refine c_seq ?_
        refine c_region ?_
        refine r_val .none rfl (p_assign rfl) ?_
        refine r_nil ?_
        refine e_next ?_
        refine c_ret ?_
        refine e_ret1 Try.results45 (.tmp rfl .nil) (fun w hm => ⟨?_, hm.since⟩)
        rw [← hphi.2, hl]
        first
        | (rw [out_pos (by omega) (by simpa using hH) h1]; done)
        | (rw [out_rest (by omega) (by simpa using hH) h1 h2]; done)
        | (rw [out_in (by omega) (by simpa using hH) h1 h2 h3 h4]; done)
        | (rw [out_zero (by omega) (by simpa using hH) h1 h2 (fun hx => h3 hx.1)]; done)
        | (rw [out_zero (by omega) (by simpa using hH) h1 h2 (fun hx => h4 hx.2)]; done)
        | (rw [List.drop_eq_nil_of_le (by simp; omega)]; rfl)
        )
theorem c_out_n : ∀ n, OutIs n
  | 0 => fun va l v G w hz _ _ => absurd hz (by cases l <;> simp)
  | n + 1 => fun va l v G w hz hs hG => c_out_s n (c_out_n n) va l v hz hs w hG
theorem c_out (va : Value) (l : List CT) (v : Nat) {G : Ghost} (hs : Rs G va l) (w : World) (hG : Has G w) : Calls Try.prog 45 #[va, Value.int .i64 (v : Nat)] w (Ret fun r w' => r = Value.int .i64 (out l v) ∧ Since nX w w') := c_out_n _ va l v G w (Nat.le_refl _) hs hG
theorem c_rcheck5 (nm : ByteArray) (cv : Value) (l : List CT) {G : Ghost} (hsz : sizeL l ≤ 1000) (hs : Rs G cv l) (w : World) (hG : Has G w) :
    Calls Try.prog 23 #[Value.agg #[Value.string nm, cv]] w (Ret fun r w' => r = Value.int .i64 (ruleChk nm l) ∧ Since nX w w') := by
  refine enter (args := [_]) (X := nX) (G := G) (l := [(0, Value.agg #[Value.string nm, cv])]) Try.func23 rfl Try.ntmps23 hG ⟨rfl, trivial⟩ (Nat.le_of_ble_eq_true rfl) ?_
  obtain ⟨rs, hr, hp, hl⟩ := hs.inv
  have hbd := hr.bound
  have hlr : l.length = rs.length := by rw [hl]; simp
  refine c_seq ?_
  refine c_region ?_
  refine r_box .none rfl rfl (IsRow.lit _) (fun b_1 => ?_)
  refine r_val .none rfl (p_assign rfl) ?_
  refine r_nil ?_
  refine e_next ?_
  refine c_seq ?_
  refine c_seq ?_
  refine c_region ?_
  refine r_val .none rfl (p_field Try.underlying51 rfl sz9 rfl) ?_
  refine r_val .none rfl (p_ld (k := 0) Try.underlying9 rfl rfl rfl (by first | exact of_decide_eq_true rfl | omega) (rfl : _ = Value.string _)) ?_
  refine r_call (vs := [_]) .none rfl cl44 rfl (fun w hw => c_rsymRight nm w) ?_
  refine r_val .none rfl (p_not rfl) ?_
  refine r_nil ?_
  refine e_next ?_
  refine c_splitn (d := 11) rfl (fun h_1 => ?_) (fun h_1 => ?_)
  · skip
    have hN : symRight nm = false := by simpa using h_1
    first
      | (exfalso; omega)
      | (
        refine c_cond_t rfl ?_
        refine c_seq ?_
        refine c_region ?_
        refine r_val .none rfl (p_assign rfl) ?_
        refine r_nil ?_
        refine e_next ?_
        refine c_ret ?_
        refine e_ret_then ?_
        refine e_ret1 Try.results23 (.tmp rfl .nil) (fun w hm => ⟨?_, hm.since⟩)
        first
        | (rw [chk_name hN]; done)
        | (rw [chk_empty hN (by omega)]; done)
        | (rw [chk_bad hN (by omega) (by rw [hl, checkL_at (by omega) hphi.2 hE]; exact hE), hl, checkL_at (by omega) hphi.2 hE]; done)
        | (rw [chk_long hN (by omega) hC0 (by omega)]; done)
        | (rw [chk_scope hN (by omega) hC0 (by omega) (anyBad_yes (v := v) (by omega) (by omega) hB)]; done)
        | (rw [chk_ok hN (by omega) hC0 (by omega) (anyBad_no (fun u h1 h2 => hno u h1 (by omega)))]; done)
        )
  · skip
    have hN : symRight nm = true := by simpa using h_1
    first
      | (exfalso; omega)
      | (
        refine c_cond_f rfl ?_
        refine c_skip ?_
        refine e_next ?_
        refine c_seq ?_
        refine c_seq ?_
        refine c_region ?_
        refine r_val .none rfl (p_field Try.underlying51 rfl sz36 rfl) ?_
        refine r_val .none rfl (p_ld (k := 0) Try.underlying36 rfl rfl rfl (by first | exact of_decide_eq_true rfl | omega) rfl) ?_
        refine r_val .none rfl (p_leng Try.underlying36 rfl hr) ?_
        have bd_2 := (hr).bound
        refine r_val .none rfl (p_eq rfl rfl) ?_
        refine r_nil ?_
        refine e_next ?_
        refine c_splitd (d := 15) rfl (fun h_3 => ?_) (fun h_3 => ?_)
        · skip
          first
            | (exfalso; omega)
            | (
              refine c_cond_t rfl ?_
              refine c_seq ?_
              refine c_region ?_
              refine r_val .none rfl (p_assign rfl) ?_
              refine r_nil ?_
              refine e_next ?_
              refine c_ret ?_
              refine e_ret_then ?_
              refine e_ret1 Try.results23 (.tmp rfl .nil) (fun w hm => ⟨?_, hm.since⟩)
              first
              | (rw [chk_name hN]; done)
              | (rw [chk_empty hN (by omega)]; done)
              | (rw [chk_bad hN (by omega) (by rw [hl, checkL_at (by omega) hphi.2 hE]; exact hE), hl, checkL_at (by omega) hphi.2 hE]; done)
              | (rw [chk_long hN (by omega) hC0 (by omega)]; done)
              | (rw [chk_scope hN (by omega) hC0 (by omega) (anyBad_yes (v := v) (by omega) (by omega) hB)]; done)
              | (rw [chk_ok hN (by omega) hC0 (by omega) (anyBad_no (fun u h1 h2 => hno u h1 (by omega)))]; done)
              )
        · skip
          first
            | (exfalso; omega)
            | (
              refine c_cond_f rfl ?_
              refine c_skip ?_
              refine e_next ?_
              refine c_seq ?_
              refine c_region ?_
              refine r_val .none rfl (p_assign rfl) ?_
              refine r_nil ?_
              refine e_next ?_
              refine c_seq ?_
              refine c_seq ?_
              refine c_region ?_
              refine r_val .none rfl (p_field Try.underlying51 rfl sz36 rfl) ?_
              refine r_val .none rfl (p_ld (k := 0) Try.underlying36 rfl rfl rfl (by first | exact of_decide_eq_true rfl | omega) rfl) ?_
              refine r_val .none rfl (p_leng Try.underlying36 rfl hr) ?_
              have bd_4 := (hr).bound
              refine r_val .none rfl (p_move rfl) ?_
              refine r_nil ?_
              refine e_next ?_
              refine c_block ?_
              refine c_name (d := 1) rfl (fun u_5 hu_5 => ?_)
              refine c_name (d := 17) rfl (fun u_6 hu_6 => ?_)
              refine c_name (d := 18) rfl (fun u_7 hu_7 => ?_)
              refine c_nameL (k := 0) rfl (fun A_8 hA_8 => ?_)
              refine c_loop (σ := Nat) (fun k => [(19, Value.int .i64 (k : Nat)), (3, Value.int .i64 (sizeL ((rs.map Prod.fst).take k) : Nat)), (1, u_5), (17, u_6), (18, u_7)]) (fun k => [A_8]) (fun _ => _) (fun k => k ≤ rs.length ∧ ∀ c ∈ (rs.map Prod.fst).take k, check c 1 = 0) (fun k => rs.length - k) (0) ⟨Nat.zero_le _, by simp⟩ rfl ⟨rfl, rfl, rfl, rfl, rfl, trivial⟩ (.keep (fun _ _ h => h) (.nil)) (fun k hphi => ?_)
              subst hu_5
              subst hu_6
              subst hu_7
              subst hA_8
              refine c_seq ?_
              refine c_region ?_
              refine r_val .none rfl (p_lt rfl rfl) ?_
              refine r_nil ?_
              refine e_next ?_
              refine c_seq ?_
              refine c_splitd (d := 20) rfl (fun h_9 => ?_) (fun h_9 => ?_)
              · skip
                first
                  | (exfalso; omega)
                  | (
                    refine c_cond_t rfl ?_
                    refine c_skip ?_
                    refine e_next ?_
                    refine c_seq ?_
                    refine c_block ?_
                    refine c_seq ?_
                    refine c_region ?_
                    refine r_iaddr_g .none rfl Try.underlying36 sz38 rfl hr rfl (by first | exact of_decide_eq_true rfl | omega) (fun p_11 o_12 R_10 => ?_)
                    have hc_13 := hp _ (getD_mem (i := k) (d := d0) (by omega))
                    have hz3 : size (rs.getD k d0).1 ≤ 1000 := Nat.le_trans (sizeL_mem (by rw [hl]; exact List.mem_map.2 ⟨_, getD_mem (i := k) (d := d0) (by omega), rfl⟩)) hsz
                    have hst := sizeL_take (rs := rs) (k := k) (by omega)
                    have hst2 : sizeL ((rs.map Prod.fst).take (k + 1)) ≤ sizeL l := by rw [hl]; exact sizeL_take_le _ _
                    refine r_val .none rfl (p_ldga0 Try.underlying38 rfl sz38 rfl R_10 (by first | exact of_decide_eq_true rfl | omega) (rfl : _ = Value.agg #[_, _, _, _, _, _, _, _])) ?_
                    refine r_alloc .none rfl zr38 (IsRow.lit _) (fun b_2 => ?_)
                    refine r_stw (k := 0) .none sz38 rfl rfl (IsRow.lit _) (one_lit rfl (all_cons rfl (all_cons rfl (all_cons rfl (all_cons rfl (all_cons rfl (all_cons rfl (all_cons rfl (all_cons (hc_13).one rfl))))))))) rfl ?_
                    refine r_nil ?_
                    refine e_next ?_
                    refine c_seq ?_
                    refine c_region ?_
                    refine r_val .none rfl (p_ldw (k := 0) Try.underlying38 rfl sz38 rfl rfl (rfl : _ = Value.agg #[_, _, _, _, _, _, _, _])) ?_
                    refine r_call (vs := [_, _]) .none rfl cl14 rfl (fun w hw => c_rcheck (rs.getD k d0).1 _ 1 (by decide) hc_13 w hw) ?_
                    refine r_val .none rfl (p_assign rfl) ?_
                    refine r_nil ?_
                    refine e_next ?_
                    refine c_seq ?_
                    refine c_seq ?_
                    refine c_region ?_
                    refine r_val .none rfl (p_move rfl) ?_
                    refine r_val .none rfl (p_ne rfl rfl) ?_
                    refine r_nil ?_
                    refine e_next ?_
                    refine c_splitd (d := 26) rfl (fun h_14 => ?_) (fun h_14 => ?_)
                    · skip
                      have hE := h_14
                      first
                        | (exfalso; omega)
                        | (
                          refine c_cond_t rfl ?_
                          refine c_seq ?_
                          refine c_region ?_
                          refine r_val .none rfl (p_move rfl) ?_
                          refine r_val .none rfl (p_assign rfl) ?_
                          refine r_nil ?_
                          refine e_next ?_
                          refine c_ret ?_
                          refine e_ret_then ?_
                          refine e_ret_block ?_
                          refine e_ret_then ?_
                          refine e_ret_then ?_
                          refine e_ret_block ?_
                          refine e_ret_then ?_
                          refine e_ret1 Try.results23 (.tmp rfl .nil) (fun w hm => ⟨?_, hm.since⟩)
                          first
                          | (rw [chk_name hN]; done)
                          | (rw [chk_empty hN (by omega)]; done)
                          | (rw [chk_bad hN (by omega) (by rw [hl, checkL_at (by omega) hphi.2 hE]; exact hE), hl, checkL_at (by omega) hphi.2 hE]; done)
                          | (rw [chk_long hN (by omega) hC0 (by omega)]; done)
                          | (rw [chk_scope hN (by omega) hC0 (by omega) (anyBad_yes (v := v) (by omega) (by omega) hB)]; done)
                          | (rw [chk_ok hN (by omega) hC0 (by omega) (anyBad_no (fun u h1 h2 => hno u h1 (by omega)))]; done)
                          )
                    · skip
                      have hE := Decidable.not_not.1 h_14
                      first
                        | (exfalso; omega)
                        | (
                          refine c_cond_f rfl ?_
                          refine c_skip ?_
                          refine e_next ?_
                          refine c_region ?_
                          refine r_val .none rfl (p_move rfl) ?_
                          refine r_val .none rfl (p_ldw (k := 0) Try.underlying38 rfl sz38 rfl rfl (rfl : _ = Value.agg #[_, _, _, _, _, _, _, _])) ?_
                          refine r_call (vs := [_]) .none rfl cl33 rfl (fun w hw => c_rsize (rs.getD k d0).1 _ hz3 hc_13 w hw) ?_
                          refine r_val .none rfl (p_add rfl rfl (by omega)) ?_
                          refine r_val .none rfl (p_assign rfl) ?_
                          refine r_nil ?_
                          refine e_norm_block ?_
                          refine e_next ?_
                          refine c_region ?_
                          refine r_val .none rfl (p_add rfl rfl (by omega)) ?_
                          refine r_val .none rfl (p_move rfl) ?_
                          refine r_nil ?_
                          refine e_round (k + 1) ⟨⟨by omega, fun c hc => by rw [map_take (d := d0) (by omega)] at hc; rcases List.mem_append.1 hc with h | h; exact hphi.2 c h; rw [List.mem_singleton.1 h]; exact hE⟩, by omega⟩ rfl ⟨rfl, (congrArg (fun z => some (Value.int .i64 z)) (by rw [hst]; omega)), rfl, rfl, rfl, trivial⟩ (.drop (.keep (fun _ _ h => h) (.nil)))
                          )
                    )
              · skip
                first
                  | (exfalso; omega)
                  | (
                    refine c_cond_f rfl ?_
                    refine c_exit ?_
                    refine e_exit_then ?_
                    refine e_exit_then ?_
                    refine e_exit_block ?_
                    refine e_next ?_
                    refine c_seq ?_
                    refine c_seq ?_
                    refine c_region ?_
                    have hlt : (rs.map Prod.fst).take k = l := by rw [List.take_of_length_le (by simp; omega), hl]
                    have hC0 : checkL l 1 = 0 := checkL_all (fun c hc => hphi.2 c (by rw [hlt]; exact hc))
                    rw [hlt] at *
                    refine r_val .none rfl (p_move rfl) ?_
                    refine r_val .none rfl (p_gt rfl rfl) ?_
                    refine r_nil ?_
                    refine e_next ?_
                    refine c_splitd (d := 34) rfl (fun h_15 => ?_) (fun h_15 => ?_)
                    · skip
                      first
                        | (exfalso; omega)
                        | (
                          refine c_cond_t rfl ?_
                          refine c_seq ?_
                          refine c_region ?_
                          refine r_val .none rfl (p_assign rfl) ?_
                          refine r_nil ?_
                          refine e_next ?_
                          refine c_ret ?_
                          refine e_ret_then ?_
                          refine e_ret1 Try.results23 (.tmp rfl .nil) (fun w hm => ⟨?_, hm.since⟩)
                          first
                          | (rw [chk_name hN]; done)
                          | (rw [chk_empty hN (by omega)]; done)
                          | (rw [chk_bad hN (by omega) (by rw [hl, checkL_at (by omega) hphi.2 hE]; exact hE), hl, checkL_at (by omega) hphi.2 hE]; done)
                          | (rw [chk_long hN (by omega) hC0 (by omega)]; done)
                          | (rw [chk_scope hN (by omega) hC0 (by omega) (anyBad_yes (v := v) (by omega) (by omega) hB)]; done)
                          | (rw [chk_ok hN (by omega) hC0 (by omega) (anyBad_no (fun u h1 h2 => hno u h1 (by omega)))]; done)
                          )
                    · skip
                      first
                        | (exfalso; omega)
                        | (
                          refine c_cond_f rfl ?_
                          refine c_skip ?_
                          refine e_next ?_
                          refine c_seq ?_
                          refine c_seq ?_
                          refine c_region ?_
                          refine r_val .none rfl (p_assign rfl) ?_
                          refine r_nil ?_
                          refine e_next ?_
                          refine c_block ?_
                          refine c_name (d := 1) rfl (fun u_16 hu_16 => ?_)
                          refine c_nameL (k := 0) rfl (fun A_17 hA_17 => ?_)
                          refine c_loop (σ := Nat) (fun v => [(7, Value.int .i64 (v : Nat)), (1, u_16)]) (fun v => [A_17]) (fun _ => _) (fun v => (1 ≤ v ∧ v ≤ 33) ∧ (∀ u, 1 ≤ u → u < v → out l u ≠ 1)) (fun v => 33 - v) (1) ⟨⟨Nat.le_refl _, Nat.le_of_ble_eq_true rfl⟩, fun u h1 h2 => absurd (Nat.lt_of_le_of_lt h1 h2) (Nat.lt_irrefl _)⟩ rfl ⟨rfl, rfl, trivial⟩ (.keep (fun _ _ h => h) (.nil)) (fun v hphi => ?_)
                          subst hu_16
                          subst hA_17
                          have hv := hphi.1
                          have hno := hphi.2
                          refine c_seq ?_
                          refine c_seq ?_
                          refine c_region ?_
                          refine r_val .none rfl (p_move rfl) ?_
                          refine r_val .none rfl (p_le rfl rfl) ?_
                          refine r_nil ?_
                          refine e_next ?_
                          refine c_splitd (d := 36) rfl (fun h_18 => ?_) (fun h_18 => ?_)
                          · skip
                            first
                              | (exfalso; omega)
                              | (
                                refine c_cond_t rfl ?_
                                refine c_skip ?_
                                refine e_next ?_
                                refine c_seq ?_
                                refine c_block ?_
                                refine c_seq ?_
                                refine c_region ?_
                                refine r_val .none rfl (p_field Try.underlying51 rfl sz36 rfl) ?_
                                refine r_val .none rfl (p_ld (k := 0) Try.underlying36 rfl rfl rfl (by first | exact of_decide_eq_true rfl | omega) rfl) ?_
                                refine r_val .none rfl (p_move rfl) ?_
                                refine r_call (vs := [_, _]) .none rfl cl45 rfl (fun w hw => c_out _ l v hs w hw) ?_
                                refine r_val .none rfl (p_eq rfl rfl) ?_
                                refine r_nil ?_
                                refine e_next ?_
                                refine c_splitd (d := 43) rfl (fun h_19 => ?_) (fun h_19 => ?_)
                                · skip
                                  have hB := h_19
                                  first
                                    | (exfalso; omega)
                                    | (
                                      refine c_cond_t rfl ?_
                                      refine c_seq ?_
                                      refine c_region ?_
                                      refine r_val .none rfl (p_assign rfl) ?_
                                      refine r_nil ?_
                                      refine e_next ?_
                                      refine c_ret ?_
                                      refine e_ret_block ?_
                                      refine e_ret_then ?_
                                      refine e_ret_then ?_
                                      refine e_ret_block ?_
                                      refine e_ret_then ?_
                                      refine e_ret1 Try.results23 (.tmp rfl .nil) (fun w hm => ⟨?_, hm.since⟩)
                                      first
                                      | (rw [chk_name hN]; done)
                                      | (rw [chk_empty hN (by omega)]; done)
                                      | (rw [chk_bad hN (by omega) (by rw [hl, checkL_at (by omega) hphi.2 hE]; exact hE), hl, checkL_at (by omega) hphi.2 hE]; done)
                                      | (rw [chk_long hN (by omega) hC0 (by omega)]; done)
                                      | (rw [chk_scope hN (by omega) hC0 (by omega) (anyBad_yes (v := v) (by omega) (by omega) hB)]; done)
                                      | (rw [chk_ok hN (by omega) hC0 (by omega) (anyBad_no (fun u h1 h2 => hno u h1 (by omega)))]; done)
                                      )
                                · skip
                                  have hB := h_19
                                  first
                                    | (exfalso; omega)
                                    | (
                                      refine c_cond_f rfl ?_
                                      refine c_skip ?_
                                      refine e_norm_block ?_
                                      refine e_next ?_
                                      refine c_region ?_
                                      refine r_val .none rfl (p_move rfl) ?_
                                      refine r_val .none rfl (p_add rfl rfl (by omega)) ?_
                                      refine r_val .none rfl (p_assign rfl) ?_
                                      refine r_nil ?_
                                      refine e_round (v + 1) ⟨⟨⟨by omega, by omega⟩, fun u h1 h2 => by rcases Nat.lt_or_ge u v with h3 | h3; exact hno u h1 h3; rw [show u = v by omega]; exact hB⟩, by omega⟩ rfl ⟨rfl, rfl, trivial⟩ (.keep (fun _ _ h => h) (.nil))
                                      )
                                )
                          · skip
                            first
                              | (exfalso; omega)
                              | (
                                refine c_cond_f rfl ?_
                                refine c_exit ?_
                                refine e_exit_then ?_
                                refine e_exit_then ?_
                                refine e_exit_block ?_
                                refine e_next ?_
                                refine c_seq ?_
                                refine c_region ?_
                                refine r_val .none rfl (p_assign rfl) ?_
                                refine r_nil ?_
                                refine e_next ?_
                                refine c_ret ?_
                                refine e_ret1 Try.results23 (.tmp rfl .nil) (fun w hm => ⟨?_, hm.since⟩)
                                first
                                | (rw [chk_name hN]; done)
                                | (rw [chk_empty hN (by omega)]; done)
                                | (rw [chk_bad hN (by omega) (by rw [hl, checkL_at (by omega) hphi.2 hE]; exact hE), hl, checkL_at (by omega) hphi.2 hE]; done)
                                | (rw [chk_long hN (by omega) hC0 (by omega)]; done)
                                | (rw [chk_scope hN (by omega) hC0 (by omega) (anyBad_yes (v := v) (by omega) (by omega) hB)]; done)
                                | (rw [chk_ok hN (by omega) hC0 (by omega) (anyBad_no (fun u h1 h2 => hno u h1 (by omega)))]; done)
                                )
                          )
                    )
              )
        )
theorem c_ref5 (nm : ByteArray) (cv : Value) (l : List CT) {G : Ghost} (hsz : sizeL l ≤ 1000) (hs : Cs G cv l) (w : World) (hG : Has G w) :
    Calls Try.prog 24 #[Value.agg #[Value.string nm, cv]] w (Ret fun r w' => ∃ G', GNew w nX G G' ∧ Has G' w' ∧ (∃ u, r = Value.agg #[Value.string nm, u] ∧ Rs G' u l) ∧ Since nX w w') := by
  refine enter (args := [_]) (X := nX) (G := G) (l := [(0, Value.agg #[Value.string nm, cv])]) Try.func24 rfl Try.ntmps24 hG ⟨rfl, trivial⟩ (Nat.le_of_ble_eq_true rfl) ?_
  obtain ⟨rs, hr, hp, hl⟩ := hs.inv
  have hbd := hr.bound
  have hlr : l.length = rs.length := by rw [hl]; simp
  have hll := sizeL_len l
  refine c_seq ?_
  refine c_region ?_
  refine r_box .none rfl rfl (IsRow.lit _) (fun b_1 => ?_)
  refine r_alloc .none rfl zr51 (IsRow.lit _) (fun b_2 => ?_)
  refine r_nil ?_
  refine e_next ?_
  refine c_seq ?_
  refine c_region ?_
  refine r_val .none rfl (p_field Try.underlying46 rfl sz9 rfl) ?_
  refine r_val .none rfl (p_ld (k := 1) Try.underlying9 rfl rfl rfl (by first | exact of_decide_eq_true rfl | omega) (rfl : _ = Value.string _)) ?_
  refine r_val .none rfl (p_build (vs := [(0, Value.string _)]) rfl (bl51_0s1 _)) ?_
  refine r_alloc .none rfl zr51 (IsRow.lit _) (fun b_3 => ?_)
  refine r_stw (k := 0) .none sz51 rfl rfl (IsRow.lit _) (one_lit rfl rfl) rfl ?_
  refine r_nil ?_
  refine e_next ?_
  refine c_seq ?_
  refine c_seq ?_
  refine c_region ?_
  refine r_val .none rfl (p_field Try.underlying46 rfl sz25 rfl) ?_
  refine r_val .none rfl (p_ld (k := 2) Try.underlying25 rfl rfl rfl (by first | exact of_decide_eq_true rfl | omega) rfl) ?_
  refine r_val .none rfl (p_leng Try.underlying25 rfl hr) ?_
  have bd_1 := (hr).bound
  refine r_val .none rfl (p_move rfl) ?_
  refine r_nil ?_
  refine e_next ?_
  refine c_block ?_
  refine c_nilrow 38 8 ?_
  refine c_name (d := 2) rfl (fun u_2 hu_2 => ?_)
  refine c_name (d := 3) rfl (fun u_3 hu_3 => ?_)
  refine c_name (d := 10) rfl (fun u_4 hu_4 => ?_)
  refine c_name (d := 11) rfl (fun u_5 hu_5 => ?_)
  refine c_nameL (k := 2) rfl (fun A_6 hA_6 => ?_)
  refine c_nameL (k := 3) rfl (fun A_7 hA_7 => ?_)
  refine c_loop (σ := Nat × Value × List (CT × Value) × Ghost) (fun s => [(12, Value.int .i64 (s.1 : Nat)), (2, u_2), (3, u_3), (10, u_4), (11, u_5)]) (fun s => [rowA (s.2.1) 38 8 (s.2.2.1).length ((s.2.2.1).flatMap rvC), box b_3 2 51 (at_ [.string nm, s.2.1]), A_6, A_7]) (fun s => s.2.2.2) (fun s => s.1 ≤ rs.length ∧ s.2.2.1.map Prod.fst = (rs.map Prod.fst).take s.1 ∧ (∀ p ∈ s.2.2.1, Rs s.2.2.2 p.2 p.1.subs) ∧ GNew w nX G s.2.2.2) (fun s => rs.length - s.1) ((0, _, [], _)) ⟨Nat.zero_le _, rfl, by simp, GNew.refl _ _ _⟩ rfl ⟨rfl, rfl, rfl, rfl, rfl, trivial⟩ (.keep (fun _ _ h => rowA_nil rfl _ _ h) (.keep (fun _ _ h => box_congr (fun i hi => by match i, hi with | 0, _ => rfl | 1, _ => rfl) _ _ h) (.keep (fun _ _ h => h) (.keep (fun _ _ h => h) (.nil))))) (fun s hphi => ?_)
  subst hu_2
  subst hu_3
  subst hu_4
  subst hu_5
  subst hA_6
  subst hA_7
  obtain ⟨k, v, qs, H⟩ := s
  obtain ⟨hk, hq, hqs, hgn⟩ := hphi
  dsimp only at hk hq hqs hgn ⊢
  have hql : qs.length ≤ k := (by have := congrArg List.length hq; simp at this; omega)
  refine c_row1 (k := 0) rfl (fun ov => ?_)
  refine c_rowlen (k := 0) rfl (fun l63 => ?_)
  replace hp := fun p hm0 => (hp p hm0).mono hgn.le
  replace hr := hr.mono hgn.le
  replace hs := hs.mono hgn.le
  refine c_seq ?_
  refine c_region ?_
  refine r_val .none rfl (p_lt rfl rfl) ?_
  refine r_nil ?_
  refine e_next ?_
  refine c_seq ?_
  refine c_splitd (d := 13) rfl (fun h_8 => ?_) (fun h_8 => ?_)
  · skip
    first
      | (exfalso; omega)
      | (
        refine c_cond_t rfl ?_
        refine c_skip ?_
        refine e_next ?_
        refine c_seq ?_
        refine c_block ?_
        refine c_seq ?_
        refine c_region ?_
        refine r_iaddr_g .none rfl Try.underlying25 sz27 rfl hr rfl (by first | exact of_decide_eq_true rfl | omega) (fun p_10 o_11 R_9 => ?_)
        have hc_12 := hp _ (getD_mem (i := k) (d := d0) (by omega))
        have hz3 : size (rs.getD k d0).1 ≤ 1000 := Nat.le_trans (sizeL_mem (by rw [hl]; exact List.mem_map.2 ⟨_, getD_mem (i := k) (d := d0) (by omega), rfl⟩)) hsz
        refine r_val .none rfl (p_ldga0 Try.underlying27 rfl sz27 rfl R_9 (by first | exact of_decide_eq_true rfl | omega) (rfl : _ = Value.agg #[_, _, _, _, _, _, _, _])) ?_
        refine r_alloc .none rfl zr27 (IsRow.lit _) (fun b_4 => ?_)
        refine r_stw (k := 0) .none sz27 rfl rfl (IsRow.lit _) (one_lit rfl (all_cons rfl (all_cons rfl (all_cons rfl (all_cons rfl (all_cons rfl (all_cons rfl (all_cons rfl (all_cons (hc_12).one rfl))))))))) rfl ?_
        refine r_nil ?_
        refine e_next ?_
        refine c_region_d (fun j => [5, 6, 7].contains j) _ mixed (.keep (fun _ _ h => h) (.keep (fun _ _ h => h) (.keep (fun _ _ h => h) (.keep (fun _ _ h => h) (.keep (fun _ _ h => h) (.nil)))))) ?_
        refine d_val1 0 rfl rfl (by kernel_rfl) (fun j hj => by have h : 7 < j := (Nat.lt_of_lt_of_le (by decide : 7 < 8) hj); simp; omega) .none rfl (p_field Try.underlying51 rfl sz36 rfl) ?_
        refine d_val1 1 rfl rfl (by kernel_rfl) (fun j hj => by have h : 7 < j := (Nat.lt_of_lt_of_le (by decide : 7 < 8) hj); simp; omega) .none rfl (p_ld (k := 2) Try.underlying36 rfl rfl rfl (by first | exact of_decide_eq_true rfl | omega) rfl) ?_
        refine d_val1 2 rfl rfl (by kernel_rfl) (fun j hj => by have h : 7 < j := (Nat.lt_of_lt_of_le (by decide : 7 < 8) hj); simp; omega) .none rfl (p_ldw (k := 0) Try.underlying27 rfl sz27 rfl rfl (rfl : _ = Value.agg #[_, _, _, _, _, _, _, _])) ?_
        refine d_eff 3 rfl (by kernel_rfl) (fun K_13 hKK_13 hcK_13 => ?_)
        refine r_callm (vs := [_]) .none rfl cl15 rfl (fun w hw => c_ref4 (rs.getD k d0).1 _ hz3 hc_12 w hw) (fun G_14 v_17 hn_15 hr_16 => ?_)
        replace hp := fun p hm0 => (hp p hm0).mono hn_15.le
        replace hr := hr.mono hn_15.le
        replace hs := hs.mono hn_15.le
        replace hqs := fun p hm0 => (hqs p hm0).mono hn_15.le
        replace R_9 := R_9.mono hn_15.le
        replace hc_12 := hc_12.mono hn_15.le
        obtain ⟨u_18, rfl, u_18s⟩ := hr_16
        refine r_nil (e_d (i := 3) (brk := (fun j => [5, 6, 7].contains j)) (ph' := true) hKK_13 hcK_13 rfl (fun _ => hn_15.le) (fun _ => .keep (fun _ _ h => h) (.keep (fun _ _ h => h) (.keep (fun _ _ h => h) (.keep (fun _ _ h => h) (.keep (fun _ _ h => h) (.nil)))))) ?_)
        clear hKK_13 hcK_13 K_13
        refine d_eff 4 rfl (by kernel_rfl) (fun K_19 hKK_19 hcK_19 => ?_)
        refine r_bslice (vs := [(0, Value.agg #[_, _, _, _, _, _, _, _])]) (c := #[_, _, _, _, _, _, _, _]) .none rfl Try.underlying36 el38 rfl rfl rfl (bs38_10a8 _ _ _ _ _ _ _ _) (IsRow.lit _) (fun b_5 => ?_)
        refine r_nil (e_d (i := 4) (brk := (fun j => [5, 6, 7].contains j)) (ph' := true) hKK_19 hcK_19 rfl (fun _ => hn_15.le) (fun _ => .drop (.keep (fun _ _ h => h) (.keep (fun _ _ h => h) (.keep (fun _ _ h => h) (.keep (fun _ _ h => h) (.keep (fun _ _ h => h) (.nil))))))) ?_)
        clear hKK_19 hcK_19 K_19
        refine d_eff 5 rfl (by kernel_rfl) (fun K_20 hKK_20 hcK_20 => ?_)
        refine r_append (k := 2) (k2 := 0) .none rfl Try.underlying36 el38 rfl (by decide) rfl rfl rfl rfl rfl (one_lit rfl (all_cons rfl (all_cons rfl (all_cons rfl (all_cons rfl (all_cons rfl (all_cons rfl (all_cons rfl (all_cons (u_18s).one rfl))))))))) (by simp only [maxLen]; omega) (by omega) (fun v_21 => ?_)
        refine r_row1 (k := 2) rfl (fun o_22 => ?_)
        refine r_nil (e_d (i := 5) (brk := (fun j => [5, 6, 7].contains j)) (ph' := false) hKK_20 hcK_20 rfl (fun h => by cases h) (fun h => by cases h) ?_)
        clear hKK_20 hcK_20 K_20
        refine d_val2 6 rfl rfl (by kernel_rfl) .none rfl (fun _ => p_field Try.underlying51 rfl sz36 rfl) ?_
        refine d_eff 7 rfl (by kernel_rfl) (fun K_23 hKK_23 hcK_23 => ?_)
        refine r_st (k := 3) .none sz36 rfl rfl o_22 rfl (by first | exact of_decide_eq_true rfl | omega) ?_
        refine r_nil (e_d (i := 7) (brk := (fun j => [5, 6, 7].contains j)) (ph' := false) hKK_23 hcK_23 rfl (fun h => by cases h) (fun h => by cases h) ?_)
        clear hKK_23 hcK_23 K_23
        refine d_nil (by kernel_rfl) ?_
        refine e_norm_block ?_
        refine e_next ?_
        refine c_region ?_
        refine r_val .none rfl (p_add rfl rfl (by omega)) ?_
        refine r_val .none rfl (p_move rfl) ?_
        refine r_nil ?_
        refine e_round ((k + 1, _, qs ++ [((rs.getD k d0).1, u_18)], _)) ⟨⟨by dsimp only; omega, by rw [map_take (d := d0) (by omega), List.map_append, hq]; rfl, (fun p hp' => by rcases List.mem_append.1 hp' with h | h; exact hqs p h; rw [List.mem_singleton.1 h]; exact u_18s), (hgn.trans hn_15)⟩, by dsimp only; omega⟩ rfl ⟨rfl, rfl, rfl, rfl, rfl, trivial⟩ (.drop (.drop (.keep (fun _ _ h => rowA_snoc (l := qs) (x := ((rs.getD k d0).1, u_18)) rfl rfl rfl rfl _ _ h) (.keep (fun _ _ h => box_congr (fun i hi => by match i, hi with | 0, _ => rfl | 1, _ => rfl) _ _ h) (.keep (fun _ _ h => h) (.keep (fun _ _ h => h) (.nil)))))))
        )
  · skip
    first
      | (exfalso; omega)
      | (
        refine c_cond_f rfl ?_
        refine c_exit ?_
        refine e_exit_then ?_
        refine e_exit_then ?_
        refine e_exit_block ?_
        refine e_next ?_
        refine c_seq ?_
        refine c_region ?_
        refine r_val .none rfl (p_ldw (k := 1) Try.underlying51 rfl sz51 rfl rfl (rfl : _ = Value.agg #[_, _])) ?_
        refine r_stw (k := 2) .none sz51 rfl rfl (IsRow.lit _) (one_lit rfl (all_cons rfl (all_cons ov rfl))) rfl ?_
        refine r_nil ?_
        refine e_next ?_
        refine c_ret ?_
        refine e_freeze (k := 0) rfl (fun G_24 hn_25 hs_26 => ?_)
        replace hp := fun p hm0 => (hp p hm0).mono hn_25.le
        replace hr := hr.mono hn_25.le
        replace hs := hs.mono hn_25.le
        replace hqs := fun p hm0 => (hqs p hm0).mono hn_25.le
        refine e_ret1 Try.results24 (.cell (k := 1) rfl Try.underlying51 rfl sz51 rfl (rfl : _ = Value.agg #[_, _]) .nil) (fun w hm => ⟨_, (hgn.trans hn_25), hm.has, ?_, hm.since⟩)
        refine ⟨v, rfl, ?_⟩
        rw [show l = qs.map Prod.fst by rw [hq, hl, List.take_of_length_le (by simp; omega)]]
        exact Tr.mk qs (SlL.of d0 (fun _ => rfl) rfl hs_26) hqs
        )
theorem c_Small5 (nm : ByteArray) (cv : Value) (l : List CT) (m : Int) {G : Ghost} (hm : 0 ≤ m ∧ m ≤ 900) (hs : Cs G cv l) (w : World) (hG : Has G w) :
    Calls Try.prog 20 #[Value.agg #[Value.string nm, cv], Value.int .i64 m] w (Ret fun r w' => r = Value.bool ((small (m + 1) (.mk h0 l) 5 0).1 && decide ((nm.size : Int) ≤ 200)) ∧ Since nX w w') := by
  refine enter (args := [_, _]) (X := nX) (G := G) (l := [(0, Value.agg #[Value.string nm, cv]), (1, Value.int .i64 m)]) Try.func20 rfl Try.ntmps20 hG ⟨rfl, rfl, trivial⟩ (Nat.le_of_ble_eq_true rfl) ?_
  obtain ⟨rs, hr, hp, hl⟩ := hs.inv
  have hbd := hr.bound
  have hlr : l.length = rs.length := by rw [hl]; simp
  refine c_seq ?_
  refine c_region ?_
  refine r_box .none rfl rfl (IsRow.lit _) (fun b_1 => ?_)
  refine r_val .none rfl (p_assign rfl) ?_
  refine r_nil ?_
  refine e_next ?_
  refine c_seq ?_
  refine c_region ?_
  refine r_val .none rfl (p_field Try.underlying46 rfl sz25 rfl) ?_
  refine r_val .none rfl (p_ld (k := 0) Try.underlying25 rfl rfl rfl (by first | exact of_decide_eq_true rfl | omega) rfl) ?_
  obtain ⟨a_1, c_2, rfl⟩ := SlG.len hr
  refine r_val .none rfl (p_build (vs := [(2, Value.slice _ _ _)]) rfl (bl27_2s3 _ _ _)) ?_
  refine r_val .none rfl (p_move rfl) ?_
  refine r_val .none rfl (p_add rfl rfl (by omega)) ?_
  refine r_call (vs := [_, _]) .none rfl cl11 rfl (fun w hw => c_Small (.mk h0 l) _ (m + 1) (by omega) hs w hw) ?_
  refine r_val .none rfl (p_move rfl) ?_
  refine' r_and (c := 11) (d := 16) [_, _, _, _, _] rfl (fun h_3 Q_4 hQ_5 => ?_) (fun h_3 Q_4 hQ_5 => ?_) ?_
  rotate_left 1
  · skip
    refine r_val (.some rfl rfl) rfl (p_field Try.underlying46 rfl sz9 rfl) ?_
    refine r_val (.some rfl rfl) rfl (p_ld (k := 0) Try.underlying9 rfl rfl rfl (by first | exact of_decide_eq_true rfl | omega) (rfl : _ = Value.string _)) ?_
    refine r_val (.some rfl rfl) rfl (p_len_str Try.underlying9 rfl) ?_
    refine r_val (.some rfl rfl) rfl (p_le rfl rfl) ?_
    refine r_val .none rfl (p_pick_t rfl rfl) ?_
    refine r_nil (e_fin (d := 16) hQ_5 rfl (by repeat (first | exact .refl | refine .put rfl ?_ | refine .say rfl ?_ | refine .say2 rfl (by first | assumption | simp_all) ?_)))
  · skip
    repeat (first | refine r_skip rfl (.no rfl rfl) ?_ | refine r_skip rfl (.un rfl rfl) ?_)
    refine r_val (by first | exact .none | exact .some rfl rfl) rfl (p_pick_f rfl rfl) ?_
    refine r_nil (e_fin (d := 16) hQ_5 rfl (by repeat (first | exact .refl | refine .put rfl ?_ | refine .say rfl ?_ | refine .say2 rfl (by first | assumption | simp_all) ?_)))
  refine r_val .none rfl (p_assign rfl) ?_
  refine r_nil ?_
  refine e_next ?_
  refine c_ret ?_
  refine e_ret1 Try.results20 (.tmp rfl .nil) (fun w hm => ⟨?_, hm.since⟩)
  rfl
theorem c_fine5 (nm : ByteArray) (cv : Value) (l : List CT) {G : Ghost} (hs : Cs G cv l) (w : World) (hG : Has G w) :
    Calls Try.prog 25 #[Value.agg #[Value.string nm, cv]] w (Ret fun r w' => r = Value.bool (fineR nm l) ∧ Since nX w w') := by
  refine enter (args := [_]) (X := nX) (G := G) (l := [(0, Value.agg #[Value.string nm, cv])]) Try.func25 rfl Try.ntmps25 hG ⟨rfl, trivial⟩ (Nat.le_of_ble_eq_true rfl) ?_
  refine c_seq ?_
  refine c_region ?_
  refine r_box .none rfl rfl (IsRow.lit _) (fun b_1 => ?_)
  refine r_val .none rfl (p_assign rfl) ?_
  refine r_nil ?_
  refine e_next ?_
  refine c_seq ?_
  refine c_region ?_
  refine r_val .none rfl (p_ldw (k := 0) Try.underlying46 rfl sz46 rfl rfl (rfl : _ = Value.agg #[_, _])) ?_
  refine r_call (vs := [_, _]) .none rfl cl20 rfl (fun w hw => c_Small5 nm _ l 20 (by decide) hs w hw) ?_
  refine r_val .none rfl (p_move rfl) ?_
  refine r_split (d := 5) rfl (fun h_1 => ?_) (fun h_1 => ?_)
  · skip
    have hS := h_1
    have hsz : sizeL l ≤ 1000 := by have h9 := (Bool.and_eq_true _ _).mp hS; have := small_sz (m := 21) h9.1; omega
    first
      | (exfalso; omega)
      | (
        refine r_val (.some rfl rfl) rfl (p_ldw (k := 0) Try.underlying46 rfl sz46 rfl rfl (rfl : _ = Value.agg #[_, _])) ?_
        refine r_callm (vs := [_]) (.some rfl rfl) rfl cl24 rfl (fun w hw => c_ref5 nm _ l hsz hs w hw) (fun G_2 v_5 hn_3 hr_4 => ?_)
        replace hs := hs.mono hn_3.le
        obtain ⟨u_6, rfl, u_6s⟩ := hr_4
        refine r_call (vs := [_]) (.some rfl rfl) rfl cl23 rfl (fun w hw => c_rcheck5 nm _ l hsz u_6s w hw) ?_
        refine r_val (.some rfl rfl) rfl (p_eq rfl rfl) ?_
        refine r_val .none rfl (p_pick_t rfl rfl) ?_
        refine r_val .none rfl (p_assign rfl) ?_
        refine r_nil ?_
        refine e_next ?_
        refine c_ret ?_
        refine e_ret1 Try.results25 (.tmp rfl .nil) (fun w hm => ⟨?_, hm.since⟩)
        first
        | (have e : fineR nm l = false := (by unfold fineR; rw [show ((small 21 (.mk h0 l) 5 0).1 && decide ((nm.size : Int) ≤ 200)) = false from hS, Bool.false_and]); rw [e]; done)
        | (have e : fineR nm l = decide (ruleChk nm l = 0) := (by unfold fineR; rw [show ((small 21 (.mk h0 l) 5 0).1 && decide ((nm.size : Int) ≤ 200)) = true from hS, Bool.true_and]); rw [e]; done)
        )
  · skip
    have hS := h_1
    first
      | (exfalso; omega)
      | (
        refine r_skip rfl (.no rfl rfl) ?_
        refine r_skip rfl (.no rfl rfl) ?_
        refine r_skip rfl (.no rfl rfl) ?_
        refine r_skip rfl (.no rfl rfl) ?_
        refine r_val .none rfl (p_pick_f rfl rfl) ?_
        refine r_val .none rfl (p_assign rfl) ?_
        refine r_nil ?_
        refine e_next ?_
        refine c_ret ?_
        refine e_ret1 Try.results25 (.tmp rfl .nil) (fun w hm => ⟨?_, hm.since⟩)
        first
        | (have e : fineR nm l = false := (by unfold fineR; rw [show ((small 21 (.mk h0 l) 5 0).1 && decide ((nm.size : Int) ≤ 200)) = false from hS, Bool.false_and]); rw [e]; done)
        | (have e : fineR nm l = decide (ruleChk nm l = 0) := (by unfold fineR; rw [show ((small 21 (.mk h0 l) 5 0).1 && decide ((nm.size : Int) ≤ 200)) = true from hS, Bool.true_and]); rw [e]; done)
        )
end Go.Proofs.Ytpcpbfajadgmpaa

/- Walks: what Go functions of this chapter come to, each as a function on plain data; no condition but those that each theorem names. Printed by a program of this work (gen.py). -/
namespace Go.Proofs.Ytpcpbfajadgmpaa
open Go.Gx Go.Gx.T1 Go.Gx.T3 Go.Gx.T4 Go.Gx.T3 Go.Gx.T5 Go.Gx.T1 Go.Gx.T8 Go.Gx.T6 Go.Gx.T4 Go.Gx.T3 Go.Gx.T6 Go.Gx.T8 Go.Gx.T4 Go.Gx.T3 Go.Gx.T8 Go.Gx.T4 Go.Gx.T3 Go.Gx.T8 Go.Gx.T6 Go.Gx.T4 Go.Gx.T3
theorem zr46 : ZeroIs Try.prog 46 (Value.agg #[Value.string ⟨#[]⟩, Value.slice none 0 0]) := by
  unfold ZeroIs
  kernel_rfl
theorem cl21 : Callable Try.prog 21 := callable Try.func21 (by kernel_rfl) rfl
theorem cl22 : Callable Try.prog 22 := callable Try.func22 (by kernel_rfl) rfl
theorem cl25 : Callable Try.prog 25 := callable Try.func25 (by kernel_rfl) rfl
theorem cl28 : Callable Try.prog 28 := callable Try.func28 (by kernel_rfl) rfl
theorem cl40 : Callable Try.prog 40 := callable Try.func40 (by kernel_rfl) rfl
theorem cl41 : Callable Try.prog 41 := callable Try.func41 (by kernel_rfl) rfl
theorem bl46_0s1_1s3 (x0 : ByteArray) (x1 : Option Addr) (x2 : Nat) (x3 : Nat) : Program.built Try.prog 46 [(0, Value.string x0), (1, Value.slice x1 x2 x3)] = some #[Value.string x0, Value.slice x1 x2 x3] := by
  kernel_rfl
theorem bs27_30a8_1a8_2a8 (a0 a1 a2 a3 a4 a5 a6 a7 : Value) (a8 a9 a10 a11 a12 a13 a14 a15 : Value) (a16 a17 a18 a19 a20 a21 a22 a23 : Value) : Instr.fill (fun i => some (i * 8, 8)) ((Array.range (3 * 8)).map ((Value.agg #[Value.int .i64 0, Value.bool false, Value.int .i64 0, Value.bool false, Value.int .i64 0, Value.bool false, Value.int .i64 0, Value.slice none 0 0]).cells[· % (Value.agg #[Value.int .i64 0, Value.bool false, Value.int .i64 0, Value.bool false, Value.int .i64 0, Value.bool false, Value.int .i64 0, Value.slice none 0 0]).cells.size]!)) [(0, Value.agg #[a0, a1, a2, a3, a4, a5, a6, a7]), (1, Value.agg #[a8, a9, a10, a11, a12, a13, a14, a15]), (2, Value.agg #[a16, a17, a18, a19, a20, a21, a22, a23])] = some #[a0, a1, a2, a3, a4, a5, a6, a7, a8, a9, a10, a11, a12, a13, a14, a15, a16, a17, a18, a19, a20, a21, a22, a23] := by
  kernel_rfl
theorem c_v5 (n : Int)  (w : World)  :
    Calls Try.prog 40 #[Value.int .i64 n] w (Ret fun r w' => r = Value.agg #[Value.bool true, Value.int .i64 n] ∧ Since nX w w') := by
  refine enter (args := [_]) (X := nX) (G := (fun _ => none)) (l := [(0, Value.int .i64 n)]) Try.func40 rfl Try.ntmps40 (fun _ _ h => by cases h) ⟨rfl, trivial⟩ (Nat.le_of_ble_eq_true rfl) ?_
  refine c_seq ?_
  refine c_region ?_
  refine r_alloc .none rfl zr23 (IsRow.lit _) (fun b_1 => ?_)
  refine r_nil ?_
  refine e_next ?_
  refine c_seq ?_
  refine c_region ?_
  refine r_val .none rfl (p_move rfl) ?_
  refine r_val .none rfl (p_build (vs := [(0, Value.bool _), (1, Value.int _ _)]) rfl (bl23_0b1_1i1 _ _)) ?_
  refine r_stw (k := 0) .none sz23 rfl rfl (IsRow.lit _) (one_lit rfl rfl) rfl ?_
  refine r_nil ?_
  refine e_next ?_
  refine c_ret ?_
  refine e_ret1 Try.results40 (.cell (k := 0) rfl Try.underlying23 rfl sz23 rfl (rfl : _ = Value.agg #[_, _]) .nil) (fun w hm => ⟨?_, hm.since⟩)
  rfl
theorem c_s5 (n : Int)  (w : World)  :
    Calls Try.prog 41 #[Value.int .i64 n] w (Ret fun r w' => r = Value.agg #[Value.bool false, Value.int .i64 n] ∧ Since nX w w') := by
  refine enter (args := [_]) (X := nX) (G := (fun _ => none)) (l := [(0, Value.int .i64 n)]) Try.func41 rfl Try.ntmps41 (fun _ _ h => by cases h) ⟨rfl, trivial⟩ (Nat.le_of_ble_eq_true rfl) ?_
  refine c_seq ?_
  refine c_region ?_
  refine r_alloc .none rfl zr23 (IsRow.lit _) (fun b_1 => ?_)
  refine r_nil ?_
  refine e_next ?_
  refine c_seq ?_
  refine c_region ?_
  refine r_val .none rfl (p_move rfl) ?_
  refine r_val .none rfl (p_build (vs := [(1, Value.int _ _)]) rfl (bl23_1i1 _)) ?_
  refine r_stw (k := 0) .none sz23 rfl rfl (IsRow.lit _) (one_lit rfl rfl) rfl ?_
  refine r_nil ?_
  refine e_next ?_
  refine c_ret ?_
  refine e_ret1 Try.results41 (.cell (k := 0) rfl Try.underlying23 rfl sz23 rfl (rfl : _ = Value.agg #[_, _]) .nil) (fun w hm => ⟨?_, hm.since⟩)
  rfl
theorem c_awake5   (w : World)  :
    Calls Try.prog 21 #[] w (Ret fun r w' => r = Value.bool true ∧ Since nX w w') := by
  refine enter (args := []) (X := nX) (G := (fun _ => none)) (l := []) Try.func21 rfl Try.ntmps21 (fun _ _ h => by cases h) trivial (Nat.le_of_ble_eq_true rfl) ?_
  refine c_seq ?_
  refine c_region ?_
  refine r_val .none rfl (p_assign rfl) ?_
  refine r_nil ?_
  refine e_next ?_
  refine c_seq ?_
  refine c_region ?_
  refine r_call (vs := [_]) .none rfl cl40 rfl (fun w hw => c_v5 _ w) ?_
  refine r_call (vs := [_]) .none rfl cl41 rfl (fun w hw => c_s5 _ w) ?_
  refine r_call (vs := [_]) .none rfl cl41 rfl (fun w hw => c_s5 _ w) ?_
  refine r_val .none rfl (p_build (vs := [(0, Value.agg #[_, _]), (1, Value.agg #[_, _]), (2, Value.agg #[_, _])]) rfl (bl24_0a2_1a2_2a2 _ _ _ _ _ _)) ?_
  refine r_val .none rfl (p_build (vs := [(0, Value.int _ _), (1, Value.agg #[_, _, _, _, _, _])]) rfl (bl27_0i1_1a6 _ _ _ _ _ _ _)) ?_
  refine r_call (vs := [_]) .none rfl cl40 rfl (fun w hw => c_v5 _ w) ?_
  refine r_call (vs := [_]) .none rfl cl41 rfl (fun w hw => c_s5 _ w) ?_
  refine r_call (vs := [_]) .none rfl cl40 rfl (fun w hw => c_v5 _ w) ?_
  refine r_val .none rfl (p_build (vs := [(0, Value.agg #[_, _]), (1, Value.agg #[_, _]), (2, Value.agg #[_, _])]) rfl (bl24_0a2_1a2_2a2 _ _ _ _ _ _)) ?_
  refine r_val .none rfl (p_build (vs := [(0, Value.int _ _), (1, Value.agg #[_, _, _, _, _, _])]) rfl (bl27_0i1_1a6 _ _ _ _ _ _ _)) ?_
  refine r_call (vs := [_]) .none rfl cl40 rfl (fun w hw => c_v5 _ w) ?_
  refine r_call (vs := [_]) .none rfl cl41 rfl (fun w hw => c_s5 _ w) ?_
  refine r_call (vs := [_]) .none rfl cl41 rfl (fun w hw => c_s5 _ w) ?_
  refine r_val .none rfl (p_build (vs := [(0, Value.agg #[_, _]), (1, Value.agg #[_, _]), (2, Value.agg #[_, _])]) rfl (bl24_0a2_1a2_2a2 _ _ _ _ _ _)) ?_
  refine r_val .none rfl (p_build (vs := [(0, Value.int _ _), (1, Value.agg #[_, _, _, _, _, _])]) rfl (bl27_0i1_1a6 _ _ _ _ _ _ _)) ?_
  refine r_bslice (vs := [(0, Value.agg #[_, _, _, _, _, _, _, _]), (1, Value.agg #[_, _, _, _, _, _, _, _]), (2, Value.agg #[_, _, _, _, _, _, _, _])]) (c := #[_, _, _, _, _, _, _, _, _, _, _, _, _, _, _, _, _, _, _, _, _, _, _, _]) .none rfl Try.underlying25 el27 rfl rfl rfl (bs27_30a8_1a8_2a8 _ _ _ _ _ _ _ _ _ _ _ _ _ _ _ _ _ _ _ _ _ _ _ _) (IsRow.lit _) (fun b_1 => ?_)
  refine r_freezeB (k := 0) 3 8 rfl rfl (by decide) (fun G_1 hn_2 hs_3 => ?_)
  have h18 : SlL G_1 (Value.slice (some ⟨b_1, 0, none⟩) 3 3) 8 cvC d0 [(.mk ⟨1, true, 1, false, 1, false, 2⟩ [], (Value.slice none 0 0)), (.mk ⟨2, true, 1, false, 3, true, 2⟩ [], (Value.slice none 0 0)), (.mk ⟨1, true, 2, false, 1, false, 4⟩ [], (Value.slice none 0 0))] := SlG.congr hs_3 (fun i hi j hj => by match i, hi with | 0, _ => (match j, hj with | 0, _ => rfl | 1, _ => rfl | 2, _ => rfl | 3, _ => rfl | 4, _ => rfl | 5, _ => rfl | 6, _ => rfl | 7, _ => rfl) | 1, _ => (match j, hj with | 0, _ => rfl | 1, _ => rfl | 2, _ => rfl | 3, _ => rfl | 4, _ => rfl | 5, _ => rfl | 6, _ => rfl | 7, _ => rfl) | 2, _ => (match j, hj with | 0, _ => rfl | 1, _ => rfl | 2, _ => rfl | 3, _ => rfl | 4, _ => rfl | 5, _ => rfl | 6, _ => rfl | 7, _ => rfl))
  have th18 : Cs G_1 (Value.slice (some ⟨b_1, 0, none⟩) 3 3) (L53) := Tr.mk _ h18 (by intro p hm0; simp only [List.mem_cons, List.not_mem_nil, or_false] at hm0; rcases hm0 with rfl | rfl | rfl; exact Tr.nil; exact Tr.nil; exact Tr.nil)
  refine r_val .none rfl (p_build (vs := [(0, Value.string _), (1, Value.slice _ _ _)]) rfl (bl46_0s1_1s3 _ _ _ _)) ?_
  refine r_alloc .none rfl zr46 (IsRow.lit _) (fun b_2 => ?_)
  refine r_stw (k := 0) .none sz46 rfl rfl (IsRow.lit _) (one_lit rfl (all_cons rfl (all_cons (h18).one rfl))) rfl ?_
  refine r_nil ?_
  refine e_next ?_
  refine c_seq ?_
  refine c_region ?_
  refine r_val .none rfl (p_ldw (k := 0) Try.underlying46 rfl sz46 rfl rfl (rfl : _ = Value.agg #[_, _])) ?_
  refine r_call (vs := [_]) .none rfl cl22 rfl (fun w hw => c_check5 nmr _ L53 (by decide) th18 w hw) ?_
  refine r_val .none rfl (p_assign rfl) ?_
  refine r_nil ?_
  refine e_next ?_
  refine c_seq ?_
  refine c_region ?_
  refine r_val .none rfl (p_field Try.underlying46 rfl sz25 rfl) ?_
  refine r_val .none rfl (p_ld (k := 0) Try.underlying25 rfl rfl rfl (by first | exact of_decide_eq_true rfl | omega) rfl) ?_
  refine r_slice0 (2) .none rfl Try.underlying25 sz27 rfl h18 rfl (by first | exact of_decide_eq_true rfl | omega) (fun v_4 hs_5 => ?_)
  have h2 := sl_take (cells := cvC) (d := d0) (by decide) hs_5
  have th2 : Cs _ _ L52 := Tr.mk _ h2 (by intro p hm0; simp only [List.take_succ_cons, List.take_zero, List.mem_cons, List.not_mem_nil, or_false] at hm0; rcases hm0 with rfl | rfl; exact Tr.nil; exact Tr.nil)
  refine r_val .none rfl (p_field Try.underlying46 rfl sz25 rfl) ?_
  refine r_st (k := 0) .none sz25 rfl rfl (th2).one rfl (by first | exact of_decide_eq_true rfl | omega) ?_
  refine r_nil ?_
  refine e_next ?_
  refine c_seq ?_
  refine c_region ?_
  refine r_val .none rfl (p_move rfl) ?_
  refine r_val .none rfl (p_eq rfl rfl) ?_
  refine r_val .none rfl (p_move rfl) ?_
  refine' r_and (c := 28) (d := 32) [_, _, _, _] rfl (fun h_7 Q_8 hQ_9 => ?_) (fun h_7 Q_8 hQ_9 => ?_) ?_
  rotate_left 1
  · skip
    replace h_7 := of_decide_eq_true h_7
    refine r_val (.some rfl rfl) rfl (p_ldw (k := 0) Try.underlying46 rfl sz46 rfl rfl (rfl : _ = Value.agg #[_, _])) ?_
    refine r_call (vs := [_]) (.some rfl rfl) rfl cl22 rfl (fun w hw => c_check5 nmr _ L52 (by decide) th2 w hw) ?_
    refine r_val (.some rfl rfl) rfl (p_eq rfl rfl) ?_
    refine r_val .none rfl (p_pick_t rfl rfl) ?_
    refine r_nil (e_fin (d := 32) hQ_9 rfl (by repeat (first | exact .refl | refine .put rfl ?_ | refine .say rfl ?_ | refine .say2 rfl (by first | assumption | simp_all) ?_)))
  · skip
    repeat (first | refine r_skip rfl (.no rfl rfl) ?_ | refine r_skip rfl (.un rfl rfl) ?_)
    refine r_val (by first | exact .none | exact .some rfl rfl) rfl (p_pick_f rfl rfl) ?_
    refine r_nil (e_fin (d := 32) hQ_9 rfl (by repeat (first | exact .refl | refine .put rfl ?_ | refine .say rfl ?_ | refine .say2 rfl (by first | assumption | simp_all) ?_)))
  refine r_val .none rfl (p_move rfl) ?_
  refine' r_and (c := 33) (d := 37) [_, _, _, _] rfl (fun h_11 Q_12 hQ_13 => ?_) (fun h_11 Q_12 hQ_13 => ?_) ?_
  rotate_left 1
  · skip
    try simp only [norms] at h_11
    refine r_val (.some rfl rfl) rfl (p_ldw (k := 0) Try.underlying46 rfl sz46 rfl rfl (rfl : _ = Value.agg #[_, _])) ?_
    refine r_call (vs := [_]) (.some rfl rfl) rfl cl28 rfl (fun w hw => c_ids nmr _ L52 th2 w hw) ?_
    refine r_val (.some rfl rfl) rfl (p_eq rfl rfl) ?_
    refine r_val .none rfl (p_pick_t rfl rfl) ?_
    refine r_nil (e_fin (d := 37) hQ_13 rfl (by repeat (first | exact .refl | refine .put rfl ?_ | refine .say rfl ?_ | refine .say2 rfl (by first | assumption | simp_all) ?_)))
  · skip
    repeat (first | refine r_skip rfl (.no rfl rfl) ?_ | refine r_skip rfl (.un rfl rfl) ?_)
    refine r_val (by first | exact .none | exact .some rfl rfl) rfl (p_pick_f rfl rfl) ?_
    refine r_nil (e_fin (d := 37) hQ_13 rfl (by repeat (first | exact .refl | refine .put rfl ?_ | refine .say rfl ?_ | refine .say2 rfl (by first | assumption | simp_all) ?_)))
  refine r_val .none rfl (p_assign rfl) ?_
  refine r_nil ?_
  refine e_next ?_
  refine c_ret ?_
  refine e_ret1 Try.results21 (.tmp rfl .nil) (fun w hm => ⟨?_, hm.since⟩)
  exact congrArg Value.bool (by rw [L53_chk, L52_chk, L52_ids]; rfl)
theorem c_RuleFewer (nm : ByteArray) (cv : Value) (l : List CT) (kk : Int) {G : Ghost} (hs : Cs G cv l) (hkk : 0 ≤ kk ∧ kk ≤ 255) (w : World) (hG : Has G w) :
    Calls Try.prog 8 #[Value.agg #[Value.string nm, cv], Value.int .u8 kk] w (Ret fun r w' => r = Value.bool true ∧ Since nX w w') := by
  refine enter (args := [_, _]) (X := nX) (G := G) (l := [(0, Value.agg #[Value.string nm, cv]), (1, Value.int .u8 kk)]) Try.func8 rfl Try.ntmps8 hG ⟨rfl, rfl, trivial⟩ (Nat.le_of_ble_eq_true rfl) ?_
  obtain ⟨rs, hr, hp, hl⟩ := hs.inv
  have hbd := hr.bound
  have hlr : l.length = rs.length := by rw [hl]; simp
  refine c_seq ?_
  refine c_region ?_
  refine r_box .none rfl rfl (IsRow.lit _) (fun b_1 => ?_)
  refine r_val .none rfl (p_assign rfl) ?_
  refine r_nil ?_
  refine e_next ?_
  refine c_seq ?_
  refine c_seq ?_
  refine c_region ?_
  refine r_val .none rfl (p_ldw (k := 0) Try.underlying46 rfl sz46 rfl rfl (rfl : _ = Value.agg #[_, _])) ?_
  refine r_call (vs := [_]) .none rfl cl25 rfl (fun w hw => c_fine5 nm _ l hs w hw) ?_
  refine r_val .none rfl (p_not rfl) ?_
  refine r_nil ?_
  refine e_next ?_
  refine c_splitn (d := 8) rfl (fun h_1 => ?_) (fun h_1 => ?_)
  · skip
    first
      | (exfalso; first | omega | assumption)
      | (
        refine c_cond_t rfl ?_
        refine c_seq ?_
        refine c_region ?_
        refine r_call (vs := []) .none rfl cl21 rfl (fun w hw => c_awake5 w) ?_
        refine r_val .none rfl (p_assign rfl) ?_
        refine r_nil ?_
        refine e_next ?_
        refine c_ret ?_
        refine e_ret_then ?_
        refine e_ret1 Try.results8 (.tmp rfl .nil) (fun w hm => ⟨?_, hm.since⟩)
        first
        | rfl
        | exact congrArg Value.bool (by simp [hchn, hps])
        )
  · skip
    have hF : fineR nm l = true := by simpa using h_1
    obtain ⟨hF0, hchk⟩ := fine_yes hF
    have hcz := chk_zero hchk
    have hsz : sizeL l ≤ 1000 := by omega
    first
      | (exfalso; first | omega | assumption)
      | (
        refine c_cond_f rfl ?_
        refine c_skip ?_
        refine e_next ?_
        refine c_seq ?_
        refine c_region ?_
        refine r_val .none rfl (p_ldw (k := 0) Try.underlying46 rfl sz46 rfl rfl (rfl : _ = Value.agg #[_, _])) ?_
        refine r_alloc .none rfl zr46 (IsRow.lit _) (fun b_2 => ?_)
        refine r_stw (k := 0) .none sz46 rfl rfl (IsRow.lit _) (one_lit rfl (all_cons rfl (all_cons hs.one rfl))) rfl ?_
        refine r_nil ?_
        refine e_next ?_
        refine c_seq ?_
        refine c_region_d (fun j => [11].contains j) _ mixed (.keep (fun _ _ h => h) (.keep (fun _ _ h => h) (.nil))) ?_
        refine d_val1 0 rfl rfl (by kernel_rfl) (fun j hj => by have h : 11 < j := (Nat.lt_of_lt_of_le (by decide : 11 < 12) hj); simp; omega) .none rfl (p_field Try.underlying46 rfl sz25 rfl) ?_
        refine d_val1 1 rfl rfl (by kernel_rfl) (fun j hj => by have h : 11 < j := (Nat.lt_of_lt_of_le (by decide : 11 < 12) hj); simp; omega) .none rfl (p_ld (k := 1) Try.underlying25 rfl rfl rfl (by first | exact of_decide_eq_true rfl | omega) rfl) ?_
        refine d_val1 2 rfl rfl (by kernel_rfl) (fun j hj => by have h : 11 < j := (Nat.lt_of_lt_of_le (by decide : 11 < 12) hj); simp; omega) .none rfl (p_move rfl) ?_
        refine d_val1 3 rfl rfl (by kernel_rfl) (fun j hj => by have h : 11 < j := (Nat.lt_of_lt_of_le (by decide : 11 < 12) hj); simp; omega) .none rfl (p_conv Try.underlying5 Try.underlying3 rfl (IntWalk.i64_in _ (by omega))) ?_
        refine d_val1 4 rfl rfl (by kernel_rfl) (fun j hj => by have h : 11 < j := (Nat.lt_of_lt_of_le (by decide : 11 < 12) hj); simp; omega) .none rfl (p_field Try.underlying46 rfl sz25 rfl) ?_
        refine d_val1 5 rfl rfl (by kernel_rfl) (fun j hj => by have h : 11 < j := (Nat.lt_of_lt_of_le (by decide : 11 < 12) hj); simp; omega) .none rfl (p_ld (k := 1) Try.underlying25 rfl rfl rfl (by first | exact of_decide_eq_true rfl | omega) rfl) ?_
        refine d_val1 6 rfl rfl (by kernel_rfl) (fun j hj => by have h : 11 < j := (Nat.lt_of_lt_of_le (by decide : 11 < 12) hj); simp; omega) .none rfl (p_leng Try.underlying25 rfl hr) ?_
        have bd_2 := (hr).bound
        have hrl : 0 < rs.length := by omega
        refine d_val1 7 rfl rfl (by kernel_rfl) (fun j hj => by have h : 11 < j := (Nat.lt_of_lt_of_le (by decide : 11 < 12) hj); simp; omega) .none rfl (p_rem rfl rfl (by omega)) ?_
        refine d_val1 8 rfl rfl (by kernel_rfl) (fun j hj => by have h : 11 < j := (Nat.lt_of_lt_of_le (by decide : 11 < 12) hj); simp; omega) .none rfl (p_add rfl rfl (by have h1 := Int.emod_lt_of_pos kk (show (0 : Int) < (rs.length : Int) by omega); have h2 := Int.emod_nonneg kk (b := (rs.length : Int)) (by omega); omega)) ?_
        obtain ⟨n, hn⟩ : ∃ n : Nat, 1 + kk % (rs.length : Int) = (n : Int) := ⟨(1 + kk % (rs.length : Int)).toNat, by have := Int.emod_nonneg kk (b := (rs.length : Int)) (by omega); omega⟩
        have hnl : n ≤ rs.length ∧ 1 ≤ n := by have h1 := Int.emod_lt_of_pos kk (show (0 : Int) < (rs.length : Int) by omega); have h2 := Int.emod_nonneg kk (b := (rs.length : Int)) (by omega); omega
        refine d_say (d := 19) (v := Value.int .i64 ((n : Nat) : Int)) (congrArg (fun x => some (Value.int .i64 x)) hn) ?_
        refine d_slice0 9 n rfl rfl (by kernel_rfl) (fun j hj => by have h : 11 < j := (Nat.lt_of_lt_of_le (by decide : 11 < 12) hj); simp; omega) .none rfl Try.underlying25 sz27 rfl hr rfl (by first | exact of_decide_eq_true rfl | omega) (fun v_3 hs_4 => ?_)
        have hTn : Cs G v_3 (l.take n) := by rw [hl]; exact Tr.take2 (by omega) hs_4 hp
        have htz : sizeL (l.take n) ≤ 1000 := Nat.le_trans (sizeL_take_le _ _) hsz
        have hps := posC_some l n
        have hchn := chk_take (s := nm) (n := n) hchk (by omega)
        refine d_val1 10 rfl rfl (by kernel_rfl) (fun j hj => by have h : 11 < j := (Nat.lt_of_lt_of_le (by decide : 11 < 12) hj); simp; omega) .none rfl (p_field Try.underlying46 rfl sz25 rfl) ?_
        refine d_eff 11 rfl (by kernel_rfl) (fun K_6 hKK_6 hcK_6 => ?_)
        refine r_st (k := 0) .none sz25 rfl rfl (hTn).one rfl (by first | exact of_decide_eq_true rfl | omega) ?_
        refine r_nil (e_d (i := 11) (brk := (fun j => [11].contains j)) (ph' := false) hKK_6 hcK_6 rfl (fun h => by cases h) (fun h => by cases h) ?_)
        clear hKK_6 hcK_6 K_6
        refine d_nil (by kernel_rfl) ?_
        refine e_next ?_
        refine c_seq ?_
        refine c_region_q mixed (by kernel_rfl) ?_
        refine q_val .none rfl (p_ldw (k := 0) Try.underlying46 rfl sz46 rfl rfl (rfl : _ = Value.agg #[_, _])) ?_
        refine q_call (vs := [_]) .none rfl cl22 rfl (fun w hw => c_check5 nm _ (l.take n) htz hTn w hw) ?_
        refine q_val .none rfl (p_eq rfl rfl) ?_
        refine q_val .none rfl (p_move rfl) ?_
        refine' q_and (c := 25) (d := 31) [_, _, _, _, _, _] rfl (fun h_7 Q_8 hQ_9 => ?_) (fun h_7 Q_8 hQ_9 => ?_) ?_
        rotate_left 1
        · skip
          replace h_7 := of_decide_eq_true h_7
          refine q_val (.some rfl rfl) rfl (p_ldw (k := 0) Try.underlying46 rfl sz46 rfl rfl (rfl : _ = Value.agg #[_, _])) ?_
          refine q_call (vs := [_]) (.some rfl rfl) rfl cl28 rfl (fun w hw => c_ids nm _ (l.take n) hTn w hw) ?_
          refine q_val (.some rfl rfl) rfl (p_ldw (k := 1) Try.underlying46 rfl sz46 rfl rfl (rfl : _ = Value.agg #[_, _])) ?_
          refine q_call (vs := [_]) (.some rfl rfl) rfl cl28 rfl (fun w hw => c_ids nm _ l hs w hw) ?_
          refine q_val (.some rfl rfl) rfl (p_le rfl rfl) ?_
          refine q_val .none rfl (p_pick_t rfl rfl) ?_
          refine q_nil (e_fin (d := 31) hQ_9 rfl (by repeat (first | exact .refl | refine .put rfl ?_ | refine .say rfl ?_ | refine .say2 rfl (by first | assumption | simp_all) ?_)))
        · skip
          repeat (first | refine q_skip rfl (.no rfl rfl) ?_ | refine q_skip rfl (.un rfl rfl) ?_)
          refine q_val (by first | exact .none | exact .some rfl rfl) rfl (p_pick_f rfl rfl) ?_
          refine q_nil (e_fin (d := 31) hQ_9 rfl (by repeat (first | exact .refl | refine .put rfl ?_ | refine .say rfl ?_ | refine .say2 rfl (by first | assumption | simp_all) ?_)))
        refine q_val .none rfl (p_move rfl) ?_
        refine' q_and (c := 32) (d := 34) [_, _] rfl (fun h_11 Q_12 hQ_13 => ?_) (fun h_11 Q_12 hQ_13 => ?_) ?_
        rotate_left 1
        · skip
          try simp only [norms] at h_11
          refine q_call (vs := []) (.some rfl rfl) rfl cl21 rfl (fun w hw => c_awake5 w) ?_
          refine q_val .none rfl (p_pick_t rfl rfl) ?_
          refine q_nil (e_fin (d := 34) hQ_13 rfl (by repeat (first | exact .refl | refine .put rfl ?_ | refine .say rfl ?_ | refine .say2 rfl (by first | assumption | simp_all) ?_)))
        · skip
          repeat (first | refine q_skip rfl (.no rfl rfl) ?_ | refine q_skip rfl (.un rfl rfl) ?_)
          refine q_val (by first | exact .none | exact .some rfl rfl) rfl (p_pick_f rfl rfl) ?_
          refine q_nil (e_fin (d := 34) hQ_13 rfl (by repeat (first | exact .refl | refine .put rfl ?_ | refine .say rfl ?_ | refine .say2 rfl (by first | assumption | simp_all) ?_)))
        refine q_val .none rfl (p_assign rfl) ?_
        refine q_nil ?_
        refine e_next ?_
        refine c_ret ?_
        refine e_ret1 Try.results8 (.tmp rfl .nil) (fun w hm => ⟨?_, hm.since⟩)
        first
        | rfl
        | exact congrArg Value.bool (by simp [hchn, hps])
        )
end Go.Proofs.Ytpcpbfajadgmpaa

/- Walks: what Go functions of this chapter come to, each as a function on plain data; no condition but those that each theorem names. Printed by a program of this work (gen.py). -/
namespace Go.Proofs.Ytpcpbfajadgmpaa
open Go.Gx Go.Gx.T1 Go.Gx.T3 Go.Gx.T4 Go.Gx.T3 Go.Gx.T5 Go.Gx.T1 Go.Gx.T8 Go.Gx.T6 Go.Gx.T4 Go.Gx.T3 Go.Gx.T6 Go.Gx.T8 Go.Gx.T4 Go.Gx.T3 Go.Gx.T8 Go.Gx.T4 Go.Gx.T3 Go.Gx.T8 Go.Gx.T6 Go.Gx.T4 Go.Gx.T3

theorem open_rule_l : leafT Try.prog 10 46 = some [9, 25] := by kernel_rfl
set_option maxRecDepth 100000 in
theorem open_rule {H : Type} {enc : TypeId × Value → H} {W : World} {base : Nat} {sp : Nat → Bool} {held : Bool} {r : Reach} {b0 : Nat} {v : Value} {y : DataW H} {ps : List MemPlace} (hv : Value.okWide Try.prog W r b0 46 v) (h : DataW.Trod enc Try.prog W base sp held 46 v y ps) : ∃ (nm : ByteArray) (cv : Value) (l : List CT), v = Value.agg #[Value.string nm, cv] ∧ Cs (GW W) cv l := by
  obtain ⟨cs, rfl⟩ := agg_of_wide Try.underlying46 rfl hv
  obtain ⟨fuel, hf⟩ := h
  cases fuel with
  | zero => simp [DataW.trod] at hf
  | succ B =>
    obtain ⟨n', _, hl⟩ := leavesB_struct 9 Try.underlying46 open_rule_l hf
    obtain ⟨x0, r0, e0, f0, g0⟩ := hl.inv
    obtain ⟨a0, rfl, _⟩ := f0.leaf.string Try.underlying9
    obtain ⟨x1, r1, e1, f1, g1⟩ := g0.inv
    have z := g1.inv0
    obtain ⟨l, h1, h2⟩ := open_slB (cells := cvC) (Qa := fun a => Cs (GW W) a.2 a.1.subs) d0 Try.underlying25 (show Program.cellsOf Try.prog 27 = 8 by kernel_rfl) (by decide) (fun m cs' y hm hy => open_cond_n m m cs' y (Nat.le_refl _) hy) f1
    refine ⟨a0, x1, l.map Prod.fst, ?_, Tr.mk l h1 h2⟩
    have : cs = #[Value.string a0, x1] := by apply Array.ext'; rw [show (Value.agg cs).cells.toList = cs.toList from rfl] at e0; rw [e0, e1, z]
    rw [this]
end Go.Proofs.Ytpcpbfajadgmpaa
