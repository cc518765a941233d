/- Walks: what Go functions of this chapter come to, each as a function on plain data; no condition but those that each theorem names. Printed by a program of this work (gen.py). -/
import Derived.Test.YtjgdkahblhpinaaW01b
import Derived.Test.YtjgdkahblhpinaaRows
namespace Go.Proofs.Ytjgdkahblhpinaa
open Go.Gx Go.Gx.T1
theorem cl18 : Callable Try.prog 18 := callable Try.func18 (by kernel_rfl) rfl
theorem cl26 : Callable Try.prog 26 := callable Try.func26 (by kernel_rfl) rfl
theorem cl27 : Callable Try.prog 27 := callable Try.func27 (by kernel_rfl) rfl
theorem cl28 : Callable Try.prog 28 := callable Try.func28 (by kernel_rfl) rfl
theorem cl29 : Callable Try.prog 29 := callable Try.func29 (by kernel_rfl) rfl
theorem c_awake1   (w : World)  :
    Calls Try.prog 18 #[] w (Ret fun r w' => r = Value.bool true ∧ Since nX w w') := by
  refine enter (args := []) (X := nX) (G := (fun _ => none)) (l := []) Try.func18 rfl Try.ntmps18 (fun _ _ h => by cases h) trivial (Nat.le_of_ble_eq_true rfl) ?_
  refine c_seq ?_
  refine c_region ?_
  refine r_val .none rfl (p_assign rfl) ?_
  refine r_nil ?_
  refine e_next ?_
  refine c_seq ?_
  refine c_region ?_
  refine r_callnew (vs := []) .none rfl cl26 rfl (fun w hw => c_tnew w hw) (fun p_1 => ?_)
  refine r_val .none rfl (p_assign rfl) ?_
  refine r_nil ?_
  refine e_next ?_
  refine c_seq ?_
  refine c_seq ?_
  refine c_region ?_
  refine r_val .none rfl (p_move rfl) ?_
  refine r_val .none rfl (p_eq_ptr Try.underlying45 (by first | exact .inr rfl | exact .inl rfl) rfl rfl) ?_
  refine r_say (d := 10) (v := Value.bool false) rfl ?_
  refine r_nil ?_
  refine e_next ?_
  refine c_cond_f rfl ?_
  refine c_skip ?_
  refine e_next ?_
  refine c_seq ?_
  refine c_region ?_
  refine r_val .none rfl (p_move rfl) ?_
  refine r_callo (k := 0) (vs := [_, _]) .none rfl cl27 rfl rfl (fun w F hw hA hFG => c_intern _ _ _ w hw hA hFG) ?_
  refine r_val .none rfl (p_move rfl) ?_
  refine r_val .none rfl (p_extract rfl rfl) ?_
  refine r_val .none rfl (p_extract rfl rfl) ?_
  refine r_val .none rfl (p_assign rfl) ?_
  refine r_val .none rfl (p_assign rfl) ?_
  refine r_nil ?_
  refine e_next ?_
  refine c_seq ?_
  refine c_region ?_
  refine r_val .none rfl (p_move rfl) ?_
  refine r_callo (k := 0) (vs := [_, _]) .none rfl cl27 rfl rfl (fun w F hw hA hFG => c_intern _ _ _ w hw hA hFG) ?_
  refine r_val .none rfl (p_move rfl) ?_
  refine r_val .none rfl (p_extract rfl rfl) ?_
  refine r_val .none rfl (p_extract rfl rfl) ?_
  refine r_val .none rfl (p_assign rfl) ?_
  refine r_val .none rfl (p_assign rfl) ?_
  refine r_nil ?_
  refine e_next ?_
  refine c_seq ?_
  refine c_region ?_
  refine r_val .none rfl (p_move rfl) ?_
  refine r_callo (k := 0) (vs := [_, _]) .none rfl cl27 rfl rfl (fun w F hw hA hFG => c_intern _ _ _ w hw hA hFG) ?_
  refine r_val .none rfl (p_move rfl) ?_
  refine r_val .none rfl (p_extract rfl rfl) ?_
  refine r_val .none rfl (p_extract rfl rfl) ?_
  refine r_val .none rfl (p_assign rfl) ?_
  refine r_val .none rfl (p_assign rfl) ?_
  refine r_nil ?_
  refine e_next ?_
  refine c_seq ?_
  refine c_region ?_
  refine r_val .none rfl (p_move rfl) ?_
  refine r_val .none rfl (p_eq rfl rfl) ?_
  refine r_val .none rfl (p_move rfl) ?_
  refine' r_and (c := 28) (d := 31) [_, _, _] rfl (fun h_2 Q_3 hQ_4 => ?_) (fun h_2 Q_3 hQ_4 => ?_) ?_
  rotate_left 1
  · skip
    replace h_2 := of_decide_eq_true h_2
    refine r_val (.some rfl rfl) rfl (p_move rfl) ?_
    refine r_val (.some rfl rfl) rfl (p_eq rfl rfl) ?_
    refine r_val .none rfl (p_pick_t rfl rfl) ?_
    refine r_nil (e_fin (d := 31) hQ_4 rfl (by repeat (first | exact .refl | refine .put rfl ?_ | refine .say rfl ?_ | refine .say2 rfl (by first | assumption | simp_all) ?_)))
  · skip
    repeat (first | refine r_skip rfl (.no rfl rfl) ?_ | refine r_skip rfl (.un rfl rfl) ?_)
    refine r_val (by first | exact .none | exact .some rfl rfl) rfl (p_pick_f rfl rfl) ?_
    refine r_nil (e_fin (d := 31) hQ_4 rfl (by repeat (first | exact .refl | refine .put rfl ?_ | refine .say rfl ?_ | refine .say2 rfl (by first | assumption | simp_all) ?_)))
  refine r_val .none rfl (p_move rfl) ?_
  refine' r_and (c := 32) (d := 35) [_, _, _] rfl (fun h_6 Q_7 hQ_8 => ?_) (fun h_6 Q_7 hQ_8 => ?_) ?_
  rotate_left 1
  · skip
    try simp only [norms] at h_6
    refine r_val (.some rfl rfl) rfl (p_move rfl) ?_
    refine r_val (.some rfl rfl) rfl (p_eq rfl rfl) ?_
    refine r_val .none rfl (p_pick_t rfl rfl) ?_
    refine r_nil (e_fin (d := 35) hQ_8 rfl (by repeat (first | exact .refl | refine .put rfl ?_ | refine .say rfl ?_ | refine .say2 rfl (by first | assumption | simp_all) ?_)))
  · skip
    repeat (first | refine r_skip rfl (.no rfl rfl) ?_ | refine r_skip rfl (.un rfl rfl) ?_)
    refine r_val (by first | exact .none | exact .some rfl rfl) rfl (p_pick_f rfl rfl) ?_
    refine r_nil (e_fin (d := 35) hQ_8 rfl (by repeat (first | exact .refl | refine .put rfl ?_ | refine .say rfl ?_ | refine .say2 rfl (by first | assumption | simp_all) ?_)))
  refine r_val .none rfl (p_move rfl) ?_
  refine' r_and (c := 36) (d := 39) [_, _, _] rfl (fun h_10 Q_11 hQ_12 => ?_) (fun h_10 Q_11 hQ_12 => ?_) ?_
  rotate_left 1
  · skip
    try simp only [norms] at h_10
    refine r_val (.some rfl rfl) rfl (p_move rfl) ?_
    refine r_val (.some rfl rfl) rfl (p_eq rfl rfl) ?_
    refine r_val .none rfl (p_pick_t rfl rfl) ?_
    refine r_nil (e_fin (d := 39) hQ_12 rfl (by repeat (first | exact .refl | refine .put rfl ?_ | refine .say rfl ?_ | refine .say2 rfl (by first | assumption | simp_all) ?_)))
  · skip
    repeat (first | refine r_skip rfl (.no rfl rfl) ?_ | refine r_skip rfl (.un rfl rfl) ?_)
    refine r_val (by first | exact .none | exact .some rfl rfl) rfl (p_pick_f rfl rfl) ?_
    refine r_nil (e_fin (d := 39) hQ_12 rfl (by repeat (first | exact .refl | refine .put rfl ?_ | refine .say rfl ?_ | refine .say2 rfl (by first | assumption | simp_all) ?_)))
  refine r_val .none rfl (p_move rfl) ?_
  refine' r_and (c := 40) (d := 43) [_, _, _] rfl (fun h_14 Q_15 hQ_16 => ?_) (fun h_14 Q_15 hQ_16 => ?_) ?_
  rotate_left 1
  · skip
    try simp only [norms] at h_14
    refine r_val (.some rfl rfl) rfl (p_move rfl) ?_
    refine r_val (.some rfl rfl) rfl (p_eq rfl rfl) ?_
    refine r_val .none rfl (p_pick_t rfl rfl) ?_
    refine r_nil (e_fin (d := 43) hQ_16 rfl (by repeat (first | exact .refl | refine .put rfl ?_ | refine .say rfl ?_ | refine .say2 rfl (by first | assumption | simp_all) ?_)))
  · skip
    repeat (first | refine r_skip rfl (.no rfl rfl) ?_ | refine r_skip rfl (.un rfl rfl) ?_)
    refine r_val (by first | exact .none | exact .some rfl rfl) rfl (p_pick_f rfl rfl) ?_
    refine r_nil (e_fin (d := 43) hQ_16 rfl (by repeat (first | exact .refl | refine .put rfl ?_ | refine .say rfl ?_ | refine .say2 rfl (by first | assumption | simp_all) ?_)))
  refine r_val .none rfl (p_move rfl) ?_
  refine' r_and (c := 44) (d := 47) [_, _, _] rfl (fun h_18 Q_19 hQ_20 => ?_) (fun h_18 Q_19 hQ_20 => ?_) ?_
  rotate_left 1
  · skip
    try simp only [norms] at h_18
    refine r_val (.some rfl rfl) rfl (p_move rfl) ?_
    refine r_val (.some rfl rfl) rfl (p_eq rfl rfl) ?_
    refine r_val .none rfl (p_pick_t rfl rfl) ?_
    refine r_nil (e_fin (d := 47) hQ_20 rfl (by repeat (first | exact .refl | refine .put rfl ?_ | refine .say rfl ?_ | refine .say2 rfl (by first | assumption | simp_all) ?_)))
  · skip
    repeat (first | refine r_skip rfl (.no rfl rfl) ?_ | refine r_skip rfl (.un rfl rfl) ?_)
    refine r_val (by first | exact .none | exact .some rfl rfl) rfl (p_pick_f rfl rfl) ?_
    refine r_nil (e_fin (d := 47) hQ_20 rfl (by repeat (first | exact .refl | refine .put rfl ?_ | refine .say rfl ?_ | refine .say2 rfl (by first | assumption | simp_all) ?_)))
  refine r_val .none rfl (p_move rfl) ?_
  refine' r_and (c := 48) (d := 52) [_, _, _, _] rfl (fun h_22 Q_23 hQ_24 => ?_) (fun h_22 Q_23 hQ_24 => ?_) ?_
  rotate_left 1
  · skip
    try simp only [norms] at h_22
    refine r_val (.some rfl rfl) rfl (p_move rfl) ?_
    refine r_callo (k := 0) (vs := [_]) (.some rfl rfl) rfl cl29 rfl rfl (fun w F hw hA hFG => c_tlen _ _ w hw hA hFG) ?_
    refine r_val (.some rfl rfl) rfl (p_eq rfl rfl) ?_
    refine r_val .none rfl (p_pick_t rfl rfl) ?_
    refine r_nil (e_fin (d := 52) hQ_24 rfl (by repeat (first | exact .refl | refine .put rfl ?_ | refine .say rfl ?_ | refine .say2 rfl (by first | assumption | simp_all) ?_)))
  · skip
    repeat (first | refine r_skip rfl (.no rfl rfl) ?_ | refine r_skip rfl (.un rfl rfl) ?_)
    refine r_val (by first | exact .none | exact .some rfl rfl) rfl (p_pick_f rfl rfl) ?_
    refine r_nil (e_fin (d := 52) hQ_24 rfl (by repeat (first | exact .refl | refine .put rfl ?_ | refine .say rfl ?_ | refine .say2 rfl (by first | assumption | simp_all) ?_)))
  refine r_val .none rfl (p_assign rfl) ?_
  refine r_nil ?_
  refine e_next ?_
  refine c_ret ?_
  refine e_ret1 Try.results18 (.tmp rfl .nil) (fun w hm => ⟨?_, hm.since⟩)
  first
  | rfl
  | exact congrArg Value.bool (by decide +kernel)
theorem c_SymRight (s : ByteArray)  (w : World)  :
    Calls Try.prog 4 #[Value.string s] w (Ret fun r w' => r = Value.bool true ∧ Since nX w w') := by
  refine enter (args := [_]) (X := nX) (G := (fun _ => none)) (l := [(0, Value.string s)]) Try.func4 rfl Try.ntmps4 (fun _ _ h => by cases h) ⟨rfl, trivial⟩ (Nat.le_of_ble_eq_true rfl) ?_
  refine c_seq ?_
  refine c_region ?_
  refine r_val .none rfl (p_assign rfl) ?_
  refine r_nil ?_
  refine e_next ?_
  refine c_seq ?_
  refine c_region ?_
  refine r_val .none rfl (p_move rfl) ?_
  refine r_val .none rfl (p_len_str Try.underlying9 rfl) ?_
  refine r_val .none rfl (p_gt rfl rfl) ?_
  refine r_val .none rfl (p_move rfl) ?_
  refine' r_and (c := 6) (d := 8) [_, _] rfl (fun h_1 Q_2 hQ_3 => ?_) (fun h_1 Q_2 hQ_3 => ?_) ?_
  rotate_left 1
  · skip
    replace h_1 := of_decide_eq_true h_1
    refine r_call (vs := []) (.some rfl rfl) rfl cl18 rfl (fun w hw => c_awake1 w) ?_
    refine r_val .none rfl (p_pick_t rfl rfl) ?_
    refine r_nil (e_fin (d := 8) hQ_3 rfl (by repeat (first | exact .refl | refine .put rfl ?_ | refine .say rfl ?_ | refine .say2 rfl (by first | assumption | simp_all) ?_)))
  · skip
    repeat (first | refine r_skip rfl (.no rfl rfl) ?_ | refine r_skip rfl (.un rfl rfl) ?_)
    refine r_val (by first | exact .none | exact .some rfl rfl) rfl (p_pick_f rfl rfl) ?_
    refine r_nil (e_fin (d := 8) hQ_3 rfl (by repeat (first | exact .refl | refine .put rfl ?_ | refine .say rfl ?_ | refine .say2 rfl (by first | assumption | simp_all) ?_)))
  refine r_val .none rfl (p_move rfl) ?_
  refine' r_or (c := 9) (d := 23) [_, _, _, _, _, _, _, _, _, _, _, _, _, _] rfl (fun h_5 Q_6 hQ_7 => ?_) (fun h_5 Q_6 hQ_7 => ?_) ?_
  rotate_left 1
  · skip
    try simp only [norms] at h_5
    refine r_val (.some rfl rfl) rfl (p_move rfl) ?_
    refine r_val (.some rfl rfl) rfl (p_len_str Try.underlying9 rfl) ?_
    refine r_val (.some rfl rfl) rfl (p_le rfl rfl) ?_
    refine r_val (.some rfl rfl) rfl (p_move rfl) ?_
    refine' r_and (c := 13) (d := 19) [_, _, _, _, _, _] rfl (fun h_9 Q_10 hQ_11 => ?_) (fun h_9 Q_10 hQ_11 => ?_) ?_
    rotate_left 1
    · skip
      replace h_9 := of_decide_eq_true h_9
      refine r_val (.some rfl rfl) rfl (p_move rfl) ?_
      refine r_call (vs := [_]) (.some rfl rfl) rfl cl19 rfl (fun w hw => c_symRight _ w) ?_
      refine r_val (.some rfl rfl) rfl (p_move rfl) ?_
      refine r_call (vs := [_]) (.some rfl rfl) rfl cl20 rfl (fun w hw => c_rsymRight _ w) ?_
      refine r_val (.some rfl rfl) rfl (p_eqb Try.underlying4 rfl rfl) ?_
      refine r_val (.some rfl rfl) rfl (p_pick_t rfl rfl) ?_
      refine r_nil (e_fin (d := 19) hQ_11 rfl (by repeat (first | exact .refl | refine .put rfl ?_ | refine .say rfl ?_ | refine .say2 rfl (by first | assumption | simp_all) ?_)))
    · skip
      repeat (first | refine r_skip rfl (.no rfl rfl) ?_ | refine r_skip rfl (.un rfl rfl) ?_)
      refine r_val (by first | exact .none | exact .some rfl rfl) rfl (p_pick_f rfl rfl) ?_
      refine r_nil (e_fin (d := 19) hQ_11 rfl (by repeat (first | exact .refl | refine .put rfl ?_ | refine .say rfl ?_ | refine .say2 rfl (by first | assumption | simp_all) ?_)))
    refine r_val (.some rfl rfl) rfl (p_move rfl) ?_
    refine' r_and (c := 20) (d := 22) [_, _] rfl (fun h_13 Q_14 hQ_15 => ?_) (fun h_13 Q_14 hQ_15 => ?_) ?_
    rotate_left 1
    · skip
      try simp only [norms] at h_13
      refine r_call (vs := []) (.some rfl rfl) rfl cl18 rfl (fun w hw => c_awake1 w) ?_
      refine r_val (.some rfl rfl) rfl (p_pick_t rfl rfl) ?_
      refine r_nil (e_fin (d := 22) hQ_15 rfl (by repeat (first | exact .refl | refine .put rfl ?_ | refine .say rfl ?_ | refine .say2 rfl (by first | assumption | simp_all) ?_)))
    · skip
      repeat (first | refine r_skip rfl (.no rfl rfl) ?_ | refine r_skip rfl (.un rfl rfl) ?_)
      refine r_val (by first | exact .none | exact .some rfl rfl) rfl (p_pick_f rfl rfl) ?_
      refine r_nil (e_fin (d := 22) hQ_15 rfl (by repeat (first | exact .refl | refine .put rfl ?_ | refine .say rfl ?_ | refine .say2 rfl (by first | assumption | simp_all) ?_)))
    refine r_val .none rfl (p_pick_f rfl rfl) ?_
    refine r_nil (e_fin (d := 23) hQ_7 rfl (by repeat (first | exact .refl | refine .put rfl ?_ | refine .say rfl ?_ | refine .say2 rfl (by first | assumption | simp_all) ?_)))
  · skip
    repeat (first | refine r_skip rfl (.no rfl rfl) ?_ | refine r_skip rfl (.un rfl rfl) ?_)
    refine r_val (by first | exact .none | exact .some rfl rfl) rfl (p_pick_t rfl rfl) ?_
    refine r_nil (e_fin (d := 23) hQ_7 rfl (by repeat (first | exact .refl | refine .put rfl ?_ | refine .say rfl ?_ | refine .say2 rfl (by first | assumption | simp_all) ?_)))
  refine r_val .none rfl (p_assign rfl) ?_
  refine r_nil ?_
  refine e_next ?_
  refine c_ret ?_
  refine e_ret1 Try.results4 (.tmp rfl .nil) (fun w hm => ⟨?_, hm.since⟩)
  simp
  omega
theorem c_SymOrder (v : Value) (ns : List ByteArray) {G : Ghost} (hs : SlL G v 1 sc ByteArray.empty ns) (w : World) (hG : Has G w) :
    Calls Try.prog 7 #[v] w (Ret fun r w' => r = Value.bool true ∧ Since nX w w') := by
  refine enter (args := [_]) (X := nX) (G := G) (l := [(0, v)]) Try.func7 rfl Try.ntmps7 hG ⟨rfl, trivial⟩ (Nat.le_of_ble_eq_true rfl) ?_
  refine c_seq ?_
  refine c_region ?_
  refine r_val .none rfl (p_assign rfl) ?_
  refine r_nil ?_
  refine e_next ?_
  refine c_seq ?_
  refine c_region ?_
  refine r_callnew (vs := []) .none rfl cl26 rfl (fun w hw => c_tnew w hw) (fun p_1 => ?_)
  refine r_val .none rfl (p_assign rfl) ?_
  refine r_nil ?_
  refine e_next ?_
  refine c_seq ?_
  refine c_seq ?_
  refine c_region ?_
  refine r_val .none rfl (p_move rfl) ?_
  refine r_val .none rfl (p_leng Try.underlying54 rfl hs) ?_
  have bd_2 := (hs).bound
  refine r_val .none rfl (p_gt rfl rfl) ?_
  refine r_val .none rfl (p_move rfl) ?_
  refine' r_or (c := 15) (d := 18) [_, _, _] rfl (fun h_3 Q_4 hQ_5 => ?_) (fun h_3 Q_4 hQ_5 => ?_) ?_
  rotate_left 1
  · skip
    replace h_3 := of_decide_eq_false h_3
    refine r_val (.some rfl rfl) rfl (p_move rfl) ?_
    refine r_val (.some rfl rfl) rfl (p_eq_ptr Try.underlying45 (by first | exact .inr rfl | exact .inl rfl) rfl rfl) ?_
    refine r_say (d := 17) (v := Value.bool false) rfl ?_
    refine r_val .none rfl (p_pick_f rfl rfl) ?_
    refine r_nil (e_fin (d := 18) hQ_5 rfl (by repeat (first | exact .refl | refine .put rfl ?_ | refine .say rfl ?_ | refine .say2 rfl (by first | assumption | simp_all) ?_)))
  · skip
    repeat (first | refine r_skip rfl (.no rfl rfl) ?_ | refine r_skip rfl (.un rfl rfl) ?_)
    refine r_val (by first | exact .none | exact .some rfl rfl) rfl (p_pick_t rfl rfl) ?_
    refine r_nil (e_fin (d := 18) hQ_5 rfl (by repeat (first | exact .refl | refine .put rfl ?_ | refine .say rfl ?_ | refine .say2 rfl (by first | assumption | simp_all) ?_)))
  refine r_nil ?_
  refine e_next ?_
  refine c_split (d := 18) rfl (fun h_7 => ?_) (fun h_7 => ?_)
  · skip
    try simp only [norms] at h_7
    first
      | (exfalso; omega)
      | (
        refine c_cond_t rfl ?_
        refine c_seq ?_
        refine c_region ?_
        refine r_val .none rfl (p_move rfl) ?_
        refine r_val .none rfl (p_ne_ptr Try.underlying45 (by first | exact .inr rfl | exact .inl rfl) rfl rfl) ?_
        refine r_say (d := 20) (v := Value.bool true) rfl ?_
        refine r_val .none rfl (p_move rfl) ?_
        refine r_call (vs := []) (.some rfl rfl) rfl cl18 rfl (fun w hw => c_awake1 w) ?_
        refine r_val .none rfl (p_pick_t rfl rfl) ?_
        refine r_val .none rfl (p_assign rfl) ?_
        refine r_nil ?_
        refine e_next ?_
        refine c_ret ?_
        refine e_ret_then ?_
        refine e_ret1 Try.results7 (.tmp rfl .nil) (fun w hm => ⟨?_, hm.since⟩)
        first
        | rfl
        | (exfalso; rw [intern_4 hr hf (by omega)] at hE; simp at hE; done)
        | (exfalso; rw [intern_4 hr hf (by omega)] at hE; simp at hE; omega)
        )
  · skip
    try simp only [norms] at h_7
    first
      | (exfalso; omega)
      | (
        refine c_cond_f rfl ?_
        refine c_skip ?_
        refine e_next ?_
        refine c_seq ?_
        refine c_region ?_
        refine r_val .none rfl (p_assign rfl) ?_
        refine r_nil ?_
        refine e_next ?_
        refine c_seq ?_
        refine c_seq ?_
        refine c_region ?_
        refine r_val .none rfl (p_move rfl) ?_
        refine r_val .none rfl (p_leng Try.underlying54 rfl hs) ?_
        have bd_8 := (hs).bound
        refine r_val .none rfl (p_move rfl) ?_
        refine r_nil ?_
        refine e_next ?_
        refine c_block ?_
        refine c_name (d := 3) rfl (fun u_9 hu_9 => ?_)
        refine c_name (d := 24) rfl (fun u_10 hu_10 => ?_)
        refine c_name (d := 25) rfl (fun u_11 hu_11 => ?_)
        refine c_loop (σ := Nat × List ByteArray) (fun s => [(26, Value.int .i64 (s.1 : Nat)), (4, Value.int .i64 (s.2.length : Nat)), (3, u_9), (24, u_10), (25, u_11)]) (fun s => [tabA p_1 s.2]) (fun _ => _) (fun s => s.1 ≤ ns.length ∧ s.2.length ≤ s.1) (fun s => ns.length - s.1) ((0, [])) ⟨Nat.zero_le _, Nat.le_refl _⟩ rfl ⟨rfl, rfl, rfl, rfl, rfl, trivial⟩ (.keep (fun _ _ h => h) (.nil)) (fun s hphi => ?_)
        subst hu_9
        subst hu_10
        subst hu_11
        obtain ⟨k, l⟩ := s
        obtain ⟨hk, hlen⟩ := hphi
        dsimp only at hk hlen ⊢
        refine c_seq ?_
        refine c_region ?_
        refine r_val .none rfl (p_lt rfl rfl) ?_
        refine r_nil ?_
        refine e_next ?_
        refine c_seq ?_
        refine c_splitd (d := 27) rfl (fun h_12 => ?_) (fun h_12 => ?_)
        · skip
          first
            | (exfalso; omega)
            | (
              refine c_cond_t rfl ?_
              refine c_skip ?_
              refine e_next ?_
              refine c_seq ?_
              refine c_block ?_
              refine c_seq ?_
              refine c_region ?_
              refine r_iaddr_g .none rfl Try.underlying54 sz9 rfl hs rfl (by first | exact of_decide_eq_true rfl | omega) (fun p_14 o_15 R_13 => ?_)
              refine r_val .none rfl (p_ldg0 Try.underlying9 rfl rfl R_13 (by first | exact of_decide_eq_true rfl | omega) (rfl : _ = Value.string _)) ?_
              refine r_val .none rfl (p_assign rfl) ?_
              refine r_nil ?_
              refine e_next ?_
              refine c_seq ?_
              refine c_seq ?_
              refine c_region ?_
              refine r_val .none rfl (p_move rfl) ?_
              refine r_val .none rfl (p_len_str Try.underlying9 rfl) ?_
              refine r_val .none rfl (p_gt rfl rfl) ?_
              refine r_nil ?_
              refine e_next ?_
              refine c_splitd (d := 32) rfl (fun h_16 => ?_) (fun h_16 => ?_)
              · skip
                first
                  | (exfalso; omega)
                  | (
                    refine c_cond_t rfl ?_
                    refine c_seq ?_
                    refine c_region ?_
                    refine r_call (vs := []) .none rfl cl18 rfl (fun w hw => c_awake1 w) ?_
                    refine r_val .none rfl (p_assign rfl) ?_
                    refine r_nil ?_
                    refine e_next ?_
                    refine c_ret ?_
                    refine e_ret_then ?_
                    refine e_ret_block ?_
                    refine e_ret_then ?_
                    refine e_ret_then ?_
                    refine e_ret_block ?_
                    refine e_ret_then ?_
                    refine e_ret1 Try.results7 (.tmp rfl .nil) (fun w hm => ⟨?_, hm.since⟩)
                    first
                    | rfl
                    | (exfalso; rw [intern_4 hr hf (by omega)] at hE; simp at hE; done)
                    | (exfalso; rw [intern_4 hr hf (by omega)] at hE; simp at hE; omega)
                    )
              · skip
                first
                  | (exfalso; omega)
                  | (
                    refine c_cond_f rfl ?_
                    refine c_skip ?_
                    refine e_next ?_
                    refine c_seq ?_
                    refine c_seq ?_
                    refine c_region ?_
                    refine r_val .none rfl (p_move rfl) ?_
                    refine r_val .none rfl (p_move rfl) ?_
                    refine r_callo (k := 0) (vs := [_, _]) .none rfl cl28 rfl rfl (fun w F hw hA hFG => c_find _ _ _ w hw hA hFG) ?_
                    refine r_val .none rfl (p_move rfl) ?_
                    refine r_val .none rfl (p_extract rfl rfl) ?_
                    refine r_val .none rfl (p_extract rfl rfl) ?_
                    refine r_val .none rfl (p_assign rfl) ?_
                    refine r_val .none rfl (p_assign rfl) ?_
                    refine r_nil ?_
                    refine e_next ?_
                    refine c_seq ?_
                    refine c_region ?_
                    refine r_val .none rfl (p_move rfl) ?_
                    refine r_val .none rfl (p_move rfl) ?_
                    refine' r_or (c := 41) (d := 45) [_, _, _, _] rfl (fun h_17 Q_18 hQ_19 => ?_) (fun h_17 Q_18 hQ_19 => ?_) ?_
                    rotate_left 1
                    · skip
                      refine r_val (.some rfl rfl) rfl (p_move rfl) ?_
                      refine r_call (vs := [_]) (.some rfl rfl) rfl cl19 rfl (fun w hw => c_symRight _ w) ?_
                      refine r_val (.some rfl rfl) rfl (p_not rfl) ?_
                      refine r_val .none rfl (p_pick_f rfl rfl) ?_
                      refine r_nil (e_fin (d := 45) hQ_19 rfl (by repeat (first | exact .refl | refine .put rfl ?_ | refine .say rfl ?_ | refine .say2 rfl (by first | assumption | simp_all) ?_)))
                    · skip
                      repeat (first | refine r_skip rfl (.no rfl rfl) ?_ | refine r_skip rfl (.un rfl rfl) ?_)
                      refine r_val (by first | exact .none | exact .some rfl rfl) rfl (p_pick_t rfl rfl) ?_
                      refine r_nil (e_fin (d := 45) hQ_19 rfl (by repeat (first | exact .refl | refine .put rfl ?_ | refine .say rfl ?_ | refine .say2 rfl (by first | assumption | simp_all) ?_)))
                    refine r_nil ?_
                    refine e_next ?_
                    refine c_split (d := 45) rfl (fun h_21 => ?_) (fun h_21 => ?_)
                    · skip
                      try simp only [norms] at h_21
                      first
                        | (exfalso; omega)
                        | (
                          refine c_cond_t rfl ?_
                          refine c_exit ?_
                          refine e_exit_then ?_
                          refine e_exit_block ?_
                          refine e_next ?_
                          refine c_region ?_
                          refine r_val .none rfl (p_add rfl rfl (by omega)) ?_
                          refine r_val .none rfl (p_move rfl) ?_
                          refine r_nil ?_
                          refine e_round ((k + 1, l)) ⟨⟨by dsimp only; omega, by simp; try omega⟩, by dsimp only; omega⟩ rfl ⟨rfl, rfl, rfl, rfl, rfl, trivial⟩ (.keep (fun _ _ h => h) (.nil))
                          )
                    · skip
                      try simp only [norms] at h_21
                      obtain ⟨hf, hr⟩ := h_21
                      first
                        | (exfalso; omega)
                        | (
                          refine c_cond_f rfl ?_
                          refine c_skip ?_
                          refine e_next ?_
                          refine c_seq ?_
                          refine c_region ?_
                          refine r_val .none rfl (p_move rfl) ?_
                          refine r_val .none rfl (p_add rfl rfl (by omega)) ?_
                          refine r_val .none rfl (p_assign rfl) ?_
                          refine r_nil ?_
                          refine e_next ?_
                          refine c_seq ?_
                          refine c_region ?_
                          refine r_val .none rfl (p_move rfl) ?_
                          refine r_val .none rfl (p_move rfl) ?_
                          refine r_callo (k := 0) (vs := [_, _]) .none rfl cl27 rfl rfl (fun w F hw hA hFG => c_intern _ _ _ w hw hA hFG) ?_
                          refine r_val .none rfl (p_move rfl) ?_
                          refine r_val .none rfl (p_extract rfl rfl) ?_
                          refine r_val .none rfl (p_extract rfl rfl) ?_
                          refine r_val .none rfl (p_assign rfl) ?_
                          refine r_val .none rfl (p_assign rfl) ?_
                          refine r_nil ?_
                          refine e_next ?_
                          refine c_seq ?_
                          refine c_region ?_
                          refine r_val .none rfl (p_move rfl) ?_
                          refine r_val .none rfl (p_move rfl) ?_
                          refine r_val .none rfl (p_ne rfl rfl) ?_
                          refine r_val .none rfl (p_move rfl) ?_
                          refine' r_or (c := 57) (d := 60) [_, _, _] rfl (fun h_22 Q_23 hQ_24 => ?_) (fun h_22 Q_23 hQ_24 => ?_) ?_
                          rotate_left 1
                          · skip
                            replace h_22 := of_decide_eq_false h_22
                            refine r_val (.some rfl rfl) rfl (p_move rfl) ?_
                            refine r_val (.some rfl rfl) rfl (p_ne rfl rfl) ?_
                            refine r_val .none rfl (p_pick_f rfl rfl) ?_
                            refine r_nil (e_fin (d := 60) hQ_24 rfl (by repeat (first | exact .refl | refine .put rfl ?_ | refine .say rfl ?_ | refine .say2 rfl (by first | assumption | simp_all) ?_)))
                          · skip
                            repeat (first | refine r_skip rfl (.no rfl rfl) ?_ | refine r_skip rfl (.un rfl rfl) ?_)
                            refine r_val (by first | exact .none | exact .some rfl rfl) rfl (p_pick_t rfl rfl) ?_
                            refine r_nil (e_fin (d := 60) hQ_24 rfl (by repeat (first | exact .refl | refine .put rfl ?_ | refine .say rfl ?_ | refine .say2 rfl (by first | assumption | simp_all) ?_)))
                          refine r_val .none rfl (p_move rfl) ?_
                          refine' r_or (c := 61) (d := 66) [_, _, _, _, _] rfl (fun h_26 Q_27 hQ_28 => ?_) (fun h_26 Q_27 hQ_28 => ?_) ?_
                          rotate_left 1
                          · skip
                            try simp only [norms] at h_26
                            refine r_val (.some rfl rfl) rfl (p_move rfl) ?_
                            refine r_callo (k := 0) (vs := [_]) (.some rfl rfl) rfl cl29 rfl rfl (fun w F hw hA hFG => c_tlen _ _ w hw hA hFG) ?_
                            refine r_val (.some rfl rfl) rfl (p_move rfl) ?_
                            refine r_val (.some rfl rfl) rfl (p_ne rfl rfl) ?_
                            refine r_val .none rfl (p_pick_f rfl rfl) ?_
                            refine r_nil (e_fin (d := 66) hQ_28 rfl (by repeat (first | exact .refl | refine .put rfl ?_ | refine .say rfl ?_ | refine .say2 rfl (by first | assumption | simp_all) ?_)))
                          · skip
                            repeat (first | refine r_skip rfl (.no rfl rfl) ?_ | refine r_skip rfl (.un rfl rfl) ?_)
                            refine r_val (by first | exact .none | exact .some rfl rfl) rfl (p_pick_t rfl rfl) ?_
                            refine r_nil (e_fin (d := 66) hQ_28 rfl (by repeat (first | exact .refl | refine .put rfl ?_ | refine .say rfl ?_ | refine .say2 rfl (by first | assumption | simp_all) ?_)))
                          refine r_nil ?_
                          refine e_next ?_
                          refine c_split (d := 66) rfl (fun h_30 => ?_) (fun h_30 => ?_)
                          · skip
                            try simp only [norms] at h_30
                            have hE := h_30
                            first
                              | (exfalso; omega)
                              | (
                                refine c_cond_t rfl ?_
                                refine c_seq ?_
                                refine c_region ?_
                                refine r_val .none rfl (p_assign rfl) ?_
                                refine r_nil ?_
                                refine e_next ?_
                                refine c_ret ?_
                                refine e_ret_block ?_
                                refine e_ret_then ?_
                                refine e_ret_then ?_
                                refine e_ret_block ?_
                                refine e_ret_then ?_
                                refine e_ret1 Try.results7 (.tmp rfl .nil) (fun w hm => ⟨?_, hm.since⟩)
                                first
                                | rfl
                                | (exfalso; rw [intern_4 hr hf (by omega)] at hE; simp at hE; done)
                                | (exfalso; rw [intern_4 hr hf (by omega)] at hE; simp at hE; omega)
                                )
                          · skip
                            try simp only [norms] at h_30
                            first
                              | (exfalso; omega)
                              | (
                                refine c_cond_f rfl ?_
                                refine c_skip ?_
                                refine e_norm_block ?_
                                refine e_next ?_
                                refine c_region ?_
                                refine r_val .none rfl (p_add rfl rfl (by omega)) ?_
                                refine r_val .none rfl (p_move rfl) ?_
                                refine r_nil ?_
                                refine e_round ((k + 1, l ++ [(ns.getD k ByteArray.empty)])) ⟨⟨by dsimp only; omega, by simp; try omega⟩, by dsimp only; omega⟩ rfl ⟨rfl, (congrArg (fun n => some (Value.int .i64 n)) (by simp)), rfl, rfl, rfl, trivial⟩ (.keep (fun _ _ h => by rw [intern_4 hr hf (by omega)] at h; exact h) (.nil))
                                )
                          )
                    )
              )
        · skip
          first
            | (exfalso; omega)
            | (
              refine c_cond_f rfl ?_
              refine c_exit ?_
              refine e_exit_then ?_
              refine e_exit_then ?_
              refine e_exit_block ?_
              refine e_next ?_
              refine c_seq ?_
              refine c_region ?_
              refine r_call (vs := []) .none rfl cl18 rfl (fun w hw => c_awake1 w) ?_
              refine r_val .none rfl (p_assign rfl) ?_
              refine r_nil ?_
              refine e_next ?_
              refine c_ret ?_
              refine e_ret1 Try.results7 (.tmp rfl .nil) (fun w hm => ⟨?_, hm.since⟩)
              first
              | rfl
              | (exfalso; rw [intern_4 hr hf (by omega)] at hE; simp at hE; done)
              | (exfalso; rw [intern_4 hr hf (by omega)] at hE; simp at hE; omega)
              )
        )
end Go.Proofs.Ytjgdkahblhpinaa
