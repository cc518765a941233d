/- Texts of this work, laid together: a logic of steps, plain laws, and walks of Go functions, each without a condition but those that its theorems name. -/
import Derived.Test.YtdcaehepmkhciaaKAlphaPlays2
import Derived.Test.YtdcaehepmkhciaaRows
/- Walks: what Go functions of this chapter come to, each as a function on plain data; no condition but those that each theorem names. Printed by a program of this work (gen.py). -/
namespace Go.Proofs.Ytdcaehepmkhciaa
open Go.Gx Go.Gx Go.Gx.T10 Go.Gx.T12 Go.Gx.T10 Go.Gx.T11
theorem cl24 : Callable Try.prog 24 := callable Try.func24 (by kernel_rfl) rfl
theorem cl28 : Callable Try.prog 28 := callable Try.func28 (by kernel_rfl) rfl
theorem cl29 : Callable Try.prog 29 := callable Try.func29 (by kernel_rfl) rfl
theorem cl33 : Callable Try.prog 33 := callable Try.func33 (by kernel_rfl) rfl
theorem bl61_0i1_1i1_2i1 (x0 : Int) (x1 : Int) (x2 : Int) : Program.built Try.prog 61 [(0, Value.int .i64 x0), (1, Value.int .i64 x1), (2, Value.int .i64 x2)] = some #[Value.int .i64 x0, Value.int .i64 x1, Value.int .i64 x2] := by
 kernel_rfl
theorem bl66_0i1_1a3 (x0 : Int) (x1 : Value) (x2 : Value) (x3 : Value) : Program.built Try.prog 66 [(0, Value.int .i64 x0), (1, Value.agg #[x1, x2, x3])] = some #[Value.int .i64 x0, x1, x2, x3] := by
 kernel_rfl
theorem c_awake12   (w : World)  :
  Calls Try.prog 25 #[] w (Ret fun r w' => r = Value.bool true ∧ Since nX w w') := by
 refine enter (args := []) (X := nX) (G := (fun _ => none)) (l := []) Try.func25 rfl Try.ntmps25 (fun _ _ h => by cases h) trivial (Nat.le_of_ble_eq_true rfl) ?_
 refine c_seq ?_
 refine c_region ?_
 refine r_val .none rfl (p_assign rfl) ?_
 refine r_nil ?_
 refine e_next ?_
 refine c_seq ?_
 refine c_region ?_
 refine r_callnew (vs := []) .none rfl cl24 rfl (fun w hw => c_snew w hw) (fun p_1 => ?_)
 refine r_val .none rfl (p_assign rfl) ?_
 refine r_nil ?_
 refine e_next ?_
 refine c_seq ?_
 refine c_seq ?_
 refine c_region ?_
 refine r_val .none rfl (p_move rfl) ?_
 refine r_val .none rfl (p_eq_ptr Try.underlying58 (by first | exact .inr rfl | exact .inl rfl) rfl rfl) ?_
 refine r_say (d := 7) (v := Value.bool false) rfl ?_
 refine r_nil ?_
 refine e_next ?_
 refine c_cond_f rfl ?_
 refine c_skip ?_
 refine e_next ?_
 refine c_seq ?_
 refine c_region ?_
 refine r_val .none rfl (p_move rfl) ?_
 refine r_val .none rfl (p_build (vs := [(0, Value.int _ _), (1, Value.int _ _), (2, Value.int _ _)]) rfl (bl61_0i1_1i1_2i1 _ _ _)) ?_
 refine r_callo (k := 0) (vs := [_, _, _]) .none rfl cl28 rfl rfl (fun w F hw hA hFG => c_swant _ (0, 2, 0) _ [] [] 0 [] (by decide) (by decide) (SlG.nil _ _ _) (fun _ => rfl) w hw hA hFG) ?_
 refine r_val .none rfl (p_assign rfl) ?_
 refine r_nil ?_
 refine e_next ?_
 refine c_seq ?_
 refine c_region ?_
 refine r_val .none rfl (p_move rfl) ?_
 refine r_val .none rfl (p_build (vs := [(0, Value.int _ _), (1, Value.int _ _), (2, Value.int _ _)]) rfl (bl61_0i1_1i1_2i1 _ _ _)) ?_
 refine r_val .none rfl (p_build (vs := [(0, Value.int _ _), (1, Value.agg #[_, _, _])]) rfl (bl66_0i1_1a3 _ _ _ _)) ?_
 refine r_callor (k := 0) (vs := [_, _]) .none rfl cl29 rfl rfl (fun w F hw hA hFG => c_sadd _ (9, 1, 2, 3) _ _ _ w hw hA hFG) (fun r_2 => ?_)
 refine r_unpack ?_
 refine r_val .none rfl (p_assign rfl) ?_
 refine r_nil ?_
 refine e_next ?_
 refine c_seq ?_
 refine c_region ?_
 refine r_val .none rfl (p_move rfl) ?_
 refine r_val .none rfl (p_build (vs := [(0, Value.int _ _), (1, Value.int _ _), (2, Value.int _ _)]) rfl (bl61_0i1_1i1_2i1 _ _ _)) ?_
 refine r_callom (k := 1) (vs := [_, _]) .none rfl cl33 rfl rfl (fun w F hw hA hFG => c_sitems _ (0, 2, 0) _ _ (doneC putC (tAdd [] (0, 2, 0)) (wantC [] (0, 2, 0) [] (cnt [] (0, 2, 0))) (9, 1, 2, 3)).2 (hwf_of (h0 := [(9, 1)]) (by decide +kernel) (by decide) (by decide)) w hw hA hFG) (fun G_3 v_6 hn_4 hr_5 => ?_)
 have u_7 := hr_5
 have e9 : itemsC (doneC putC (tAdd [] (0, 2, 0)) (wantC [] (0, 2, 0) [] (cnt [] (0, 2, 0))) (9, 1, 2, 3)).2 (0, 2, 0) = [9] := items_awake
 replace u_7 := Eq.mp (congrArg (fun l => SlL _ _ 1 cI (0 : Int) l) e9) u_7
 refine r_val .none rfl (p_assign rfl) ?_
 refine r_nil ?_
 refine e_next ?_
 refine c_seq ?_
 refine c_region ?_
 refine r_val .none rfl (p_move rfl) ?_
 refine r_val .none rfl (p_eq rfl rfl) ?_
 refine r_val .none rfl (p_move rfl) ?_
 refine' r_and (c := 20) (d := 24) [_, _, _, _] rfl (fun h_8 Q_9 hQ_10 => ?_) (fun h_8 Q_9 hQ_10 => ?_) ?_
 rotate_left 1
 ·
  replace h_8 := of_decide_eq_true h_8
  refine r_val (.some rfl rfl) rfl (p_move rfl) ?_
  refine r_val (.some rfl rfl) rfl (p_leno (k := 0) Try.underlying56 rfl rfl) ?_
  refine r_val (.some rfl rfl) rfl (p_eq rfl rfl) ?_
  refine r_val .none rfl (p_pick_t rfl rfl) ?_
  refine r_nil (e_fin (d := 24) hQ_10 rfl (by repeat (first | exact .refl | refine .put rfl ?_ | refine .say rfl ?_ | refine .say2 rfl (by first | assumption | simp_all) ?_)))
 ·
  repeat (first | refine r_skip rfl (.no rfl rfl) ?_ | refine r_skip rfl (.un rfl rfl) ?_)
  refine r_val (by first | exact .none | exact .some rfl rfl) rfl (p_pick_f rfl rfl) ?_
  refine r_nil (e_fin (d := 24) hQ_10 rfl (by repeat (first | exact .refl | refine .put rfl ?_ | refine .say rfl ?_ | refine .say2 rfl (by first | assumption | simp_all) ?_)))
 refine r_val .none rfl (p_move rfl) ?_
 refine' r_and (c := 25) (d := 31) [_, _, _, _, _, _] rfl (fun h_12 Q_13 hQ_14 => ?_) (fun h_12 Q_13 hQ_14 => ?_) ?_
 rotate_left 1
 ·
  try simp only [norms] at h_12
  have hl1 : (doneC putC (tAdd [] (0, 2, 0)) (wantC [] (0, 2, 0) [] (cnt [] (0, 2, 0))) (9, 1, 2, 3)).1 = [(0, 2, 0)] := by decide +kernel
  refine r_val (.some rfl rfl) rfl (p_move rfl) ?_
  refine r_iaddr_o (k := 0) (i := 0) (.some rfl rfl) rfl Try.underlying56 sz61 rfl rfl rfl (by first | exact of_decide_eq_true rfl | omega) (fun p_16 c_17 hv_18 => ?_)
  refine r_val (.some rfl rfl) rfl (p_ldoa0 (k := 0) (i := 0) Try.underlying61 rfl sz61 rfl hv_18 rfl (by first | exact of_decide_eq_true rfl | omega) (by first | exact of_decide_eq_true rfl | omega) (fun c hc => flatMap_get (cells := triL) (fun _ => rfl) (0, 0, 0) _ _ _ (by first | exact of_decide_eq_true rfl | omega) (by first | exact of_decide_eq_true rfl | omega)) (rfl : _ = Value.agg #[_, _, _])) ?_
  refine r_val (.some rfl rfl) rfl (p_build (vs := [(0, Value.int _ _), (1, Value.int _ _), (2, Value.int _ _)]) rfl (bl61_0i1_1i1_2i1 _ _ _)) ?_
  refine r_val (.some rfl rfl) rfl (p_eqa rfl rfl (eq_tri Try.underlying61 Try.underlying3 lf61 ef61 eg61 ((doneC putC (tAdd [] (0, 2, 0)) (wantC [] (0, 2, 0) [] (cnt [] (0, 2, 0))) (9, 1, 2, 3)).1.getD 0 (0, 0, 0)) (0, 2, 0))) ?_
  refine r_val .none rfl (p_pick_t rfl rfl) ?_
  refine r_nil (e_fin (d := 31) hQ_14 rfl (by repeat (first | exact .refl | refine .put rfl ?_ | refine .say rfl ?_ | refine .say2 rfl (by first | assumption | simp_all) ?_)))
 ·
  repeat (first | refine r_skip rfl (.no rfl rfl) ?_ | refine r_skip rfl (.un rfl rfl) ?_)
  refine r_val (by first | exact .none | exact .some rfl rfl) rfl (p_pick_f rfl rfl) ?_
  refine r_nil (e_fin (d := 31) hQ_14 rfl (by repeat (first | exact .refl | refine .put rfl ?_ | refine .say rfl ?_ | refine .say2 rfl (by first | assumption | simp_all) ?_)))
 refine r_val .none rfl (p_move rfl) ?_
 refine' r_and (c := 32) (d := 36) [_, _, _, _] rfl (fun h_19 Q_20 hQ_21 => ?_) (fun h_19 Q_20 hQ_21 => ?_) ?_
 rotate_left 1
 ·
  try simp only [norms] at h_19
  refine r_val (.some rfl rfl) rfl (p_move rfl) ?_
  refine r_val (.some rfl rfl) rfl (p_leng Try.underlying42 rfl u_7) ?_
  have bd_23 := (u_7).bound
  refine r_val (.some rfl rfl) rfl (p_eq rfl rfl) ?_
  refine r_val .none rfl (p_pick_t rfl rfl) ?_
  refine r_nil (e_fin (d := 36) hQ_21 rfl (by repeat (first | exact .refl | refine .put rfl ?_ | refine .say rfl ?_ | refine .say2 rfl (by first | assumption | simp_all) ?_)))
 ·
  repeat (first | refine r_skip rfl (.no rfl rfl) ?_ | refine r_skip rfl (.un rfl rfl) ?_)
  refine r_val (by first | exact .none | exact .some rfl rfl) rfl (p_pick_f rfl rfl) ?_
  refine r_nil (e_fin (d := 36) hQ_21 rfl (by repeat (first | exact .refl | refine .put rfl ?_ | refine .say rfl ?_ | refine .say2 rfl (by first | assumption | simp_all) ?_)))
 refine r_val .none rfl (p_move rfl) ?_
 refine' r_and (c := 37) (d := 42) [_, _, _, _, _] rfl (fun h_24 Q_25 hQ_26 => ?_) (fun h_24 Q_25 hQ_26 => ?_) ?_
 rotate_left 1
 ·
  try simp only [norms] at h_24
  refine r_val (.some rfl rfl) rfl (p_move rfl) ?_
  refine r_iaddr_g (i := 0) (.some rfl rfl) rfl Try.underlying42 sz3 rfl u_7 rfl (by first | exact of_decide_eq_true rfl | omega) (fun p_29 o_30 R_28 => ?_)
  refine r_val (.some rfl rfl) rfl (p_ldg0 Try.underlying3 rfl rfl R_28 (by first | exact of_decide_eq_true rfl | omega) (rfl : _ = Value.int _ _)) ?_
  refine r_val (.some rfl rfl) rfl (p_eq rfl rfl) ?_
  refine r_val .none rfl (p_pick_t rfl rfl) ?_
  refine r_nil (e_fin (d := 42) hQ_26 rfl (by repeat (first | exact .refl | refine .put rfl ?_ | refine .say rfl ?_ | refine .say2 rfl (by first | assumption | simp_all) ?_)))
 ·
  repeat (first | refine r_skip rfl (.no rfl rfl) ?_ | refine r_skip rfl (.un rfl rfl) ?_)
  refine r_val (by first | exact .none | exact .some rfl rfl) rfl (p_pick_f rfl rfl) ?_
  refine r_nil (e_fin (d := 42) hQ_26 rfl (by repeat (first | exact .refl | refine .put rfl ?_ | refine .say rfl ?_ | refine .say2 rfl (by first | assumption | simp_all) ?_)))
 refine r_val .none rfl (p_assign rfl) ?_
 refine r_nil ?_
 refine e_next ?_
 refine c_ret ?_
 refine e_ret1 Try.results25 (.tmp rfl .nil) (fun w hm => ⟨?_, hm.since⟩)
 first
 | rfl
 | exact congrArg Value.bool (by decide +kernel)
theorem c_ints12 (v v2 : Value) (a b : List Int) {G : Ghost} (hs : SlL G v 1 cI (0 : Int) a) (hs2 : SlL G v2 1 cI (0 : Int) b) (w : World) (hG : Has G w) :
  Calls Try.prog 32 #[v, v2] w (Ret fun r w' => r = Value.bool (decide (a = b)) ∧ Since nX w w') := by
 refine enter (args := [_, _]) (X := nX) (G := G) (l := [(0, v), (1, v2)]) Try.func32 rfl Try.ntmps32 hG ⟨rfl, rfl, trivial⟩ (Nat.le_of_ble_eq_true rfl) ?_
 refine c_seq ?_
 refine c_region ?_
 refine r_val .none rfl (p_assign rfl) ?_
 refine r_nil ?_
 refine e_next ?_
 refine c_seq ?_
 refine c_seq ?_
 refine c_region ?_
 refine r_val .none rfl (p_move rfl) ?_
 refine r_val .none rfl (p_leng Try.underlying42 rfl hs) ?_
 have bd_1 := (hs).bound
 refine r_val .none rfl (p_move rfl) ?_
 refine r_val .none rfl (p_leng Try.underlying42 rfl hs2) ?_
 have bd_2 := (hs2).bound
 refine r_val .none rfl (p_ne rfl rfl) ?_
 refine r_nil ?_
 refine e_next ?_
 refine c_splitd (d := 10) rfl (fun h_3 => ?_) (fun h_3 => ?_)
 ·
  have hL := h_3
  first
   | (exfalso; omega)
   | (
    refine c_cond_t rfl ?_
    refine c_seq ?_
    refine c_region ?_
    refine r_val .none rfl (p_assign rfl) ?_
    refine r_nil ?_
    refine e_next ?_
    refine c_ret ?_
    refine e_ret_then ?_
    refine e_ret1 Try.results32 (.tmp rfl .nil) (fun w hm => ⟨?_, hm.since⟩)
    first
    | (rw [decide_eq_false (fun e => hL (by rw [e]))]; done)
    | (rw [decide_eq_false (fun e => hF (by rw [e]))]; done)
    | (rw [decide_eq_true (ints_eq (by omega) (fun i hi => hphi.2 i (by omega)))]; done)
    )
 ·
  have hL := Decidable.not_not.1 h_3
  first
   | (exfalso; omega)
   | (
    refine c_cond_f rfl ?_
    refine c_skip ?_
    refine e_next ?_
    refine c_seq ?_
    refine c_seq ?_
    refine c_region ?_
    refine r_val .none rfl (p_move rfl) ?_
    refine r_val .none rfl (p_leng Try.underlying42 rfl hs) ?_
    have bd_4 := (hs).bound
    refine r_val .none rfl (p_move rfl) ?_
    refine r_nil ?_
    refine e_next ?_
    refine c_block ?_
    refine c_name (d := 0) rfl (fun u_5 hu_5 => ?_)
    refine c_name (d := 1) rfl (fun u_6 hu_6 => ?_)
    refine c_name (d := 12) rfl (fun u_7 hu_7 => ?_)
    refine c_loop (σ := Nat) (fun k => [(13, Value.int .i64 (k : Nat)), (0, u_5), (1, u_6), (12, u_7)]) (fun k => []) (fun _ => _) (fun k => k ≤ a.length ∧ ∀ i, i < k → a.getD i 0 = b.getD i 0) (fun k => a.length - k) (0) ⟨Nat.zero_le _, fun i h => absurd h (Nat.not_lt_zero _)⟩ rfl ⟨rfl, rfl, rfl, rfl, trivial⟩ (.nil) (fun k hphi => ?_)
    subst hu_5
    subst hu_6
    subst hu_7
    refine c_seq ?_
    refine c_region ?_
    refine r_val .none rfl (p_lt rfl rfl) ?_
    refine r_nil ?_
    refine e_next ?_
    refine c_seq ?_
    refine c_splitd (d := 14) rfl (fun h_8 => ?_) (fun h_8 => ?_)
    ·
     first
      | (exfalso; omega)
      | (
       refine c_cond_t rfl ?_
       refine c_skip ?_
       refine e_next ?_
       refine c_seq ?_
       refine c_block ?_
       refine c_seq ?_
       refine c_region ?_
       refine r_val .none rfl (p_move rfl) ?_
       refine r_val .none rfl (p_assign rfl) ?_
       refine r_nil ?_
       refine e_next ?_
       refine c_seq ?_
       refine c_region_q mixed (by kernel_rfl) ?_
       refine q_val .none rfl (p_move rfl) ?_
       refine q_val .none rfl (p_move rfl) ?_
       refine q_iaddr_g .none rfl Try.underlying42 sz3 rfl hs rfl (by first | exact of_decide_eq_true rfl | omega) (fun p_10 o_11 R_9 => ?_)
       refine q_val .none rfl (p_ldg0 Try.underlying3 rfl rfl R_9 (by first | exact of_decide_eq_true rfl | omega) (rfl : _ = Value.int _ _)) ?_
       refine q_val .none rfl (p_move rfl) ?_
       refine q_val .none rfl (p_move rfl) ?_
       refine q_iaddr_g .none rfl Try.underlying42 sz3 rfl hs2 rfl (by first | exact of_decide_eq_true rfl | omega) (fun p_13 o_14 R_12 => ?_)
       refine q_val .none rfl (p_ldg0 Try.underlying3 rfl rfl R_12 (by first | exact of_decide_eq_true rfl | omega) (rfl : _ = Value.int _ _)) ?_
       refine q_val .none rfl (p_ne rfl rfl) ?_
       refine q_nil ?_
       refine e_next ?_
       refine c_splitd (d := 24) rfl (fun h_15 => ?_) (fun h_15 => ?_)
       ·
        have hF := h_15
        first
         | (exfalso; omega)
         | (
          refine c_cond_t rfl ?_
          refine c_seq ?_
          refine c_region ?_
          refine r_val .none rfl (p_assign rfl) ?_
          refine r_nil ?_
          refine e_next ?_
          refine c_ret ?_
          refine e_ret_block ?_
          refine e_ret_then ?_
          refine e_ret_then ?_
          refine e_ret_block ?_
          refine e_ret_then ?_
          refine e_ret1 Try.results32 (.tmp rfl .nil) (fun w hm => ⟨?_, hm.since⟩)
          first
          | (rw [decide_eq_false (fun e => hL (by rw [e]))]; done)
          | (rw [decide_eq_false (fun e => hF (by rw [e]))]; done)
          | (rw [decide_eq_true (ints_eq (by omega) (fun i hi => hphi.2 i (by omega)))]; done)
          )
       ·
        have hF := Decidable.not_not.1 h_15
        first
         | (exfalso; omega)
         | (
          refine c_cond_f rfl ?_
          refine c_skip ?_
          refine e_norm_block ?_
          refine e_next ?_
          refine c_region ?_
          refine r_val .none rfl (p_add rfl rfl (by omega)) ?_
          refine r_val .none rfl (p_move rfl) ?_
          refine r_nil ?_
          refine e_round (k + 1) ⟨⟨by omega, fun i hi => by by_cases e : i = k; (subst e; exact hF); exact hphi.2 i (by omega)⟩, by omega⟩ rfl ⟨rfl, rfl, rfl, rfl, trivial⟩ (.nil)
          )
       )
    ·
     first
      | (exfalso; omega)
      | (
       refine c_cond_f rfl ?_
       refine c_exit ?_
       refine e_exit_then ?_
       refine e_exit_then ?_
       refine e_exit_block ?_
       refine e_next ?_
       refine c_seq ?_
       refine c_region ?_
       refine r_val .none rfl (p_assign rfl) ?_
       refine r_nil ?_
       refine e_next ?_
       refine c_ret ?_
       refine e_ret1 Try.results32 (.tmp rfl .nil) (fun w hm => ⟨?_, hm.since⟩)
       first
       | (rw [decide_eq_false (fun e => hL (by rw [e]))]; done)
       | (rw [decide_eq_false (fun e => hF (by rw [e]))]; done)
       | (rw [decide_eq_true (ints_eq (by omega) (fun i hi => hphi.2 i (by omega)))]; done)
       )
    )
theorem c_r7right (k : Tri)  (w : World)  :
  Calls Try.prog 26 #[kT k] w (Ret fun r w' => r = Value.bool (keyR k) ∧ Since nX w w') := by
 refine enter (args := [_]) (X := nX) (G := (fun _ => none)) (l := [(0, kT k)]) Try.func26 rfl Try.ntmps26 (fun _ _ h => by cases h) ⟨rfl, trivial⟩ (Nat.le_of_ble_eq_true rfl) ?_
 refine c_seq ?_
 refine c_region ?_
 refine r_box .none rfl rfl (IsRow.lit _) (fun b_1 => ?_)
 refine r_val .none rfl (p_assign rfl) ?_
 refine r_nil ?_
 refine e_next ?_
 refine c_seq ?_
 refine c_seq ?_
 refine c_region ?_
 refine r_val .none rfl (p_assign rfl) ?_
 refine r_nil ?_
 refine e_next ?_
 refine c_block ?_
 refine c_unroll 4 ?_
 refine l_round (n := 3) ?_
 refine c_seq ?_
 refine c_seq ?_
 refine c_region ?_
 refine r_val .none rfl (p_move rfl) ?_
 refine r_val .none rfl (p_lt rfl rfl) ?_
 refine r_say (d := 5) (v := Value.bool true) rfl ?_
 refine r_nil ?_
 refine e_next ?_
 refine c_cond_t rfl ?_
 refine c_skip ?_
 refine e_next ?_
 refine c_seq ?_
 refine c_block ?_
 refine c_seq ?_
 refine c_region ?_
 refine r_val .none rfl (p_move rfl) ?_
 refine r_val .none rfl (p_iaddr (k := 0) Try.underlying60 sz3 rfl rfl (by first | exact of_decide_eq_true rfl | omega)) ?_
 refine r_val .none rfl (p_ld (k := 0) Try.underlying3 rfl rfl rfl (by first | exact of_decide_eq_true rfl | omega) (rfl : _ = Value.int _ _)) ?_
 refine r_val .none rfl (p_lt rfl rfl) ?_
 refine r_val .none rfl (p_move rfl) ?_
 refine r_splitd (d := 12) rfl (fun h_1 => ?_) (fun h_1 => ?_)
 ·
  first
   | (exfalso; omega)
   | (
    refine r_skip rfl (.no rfl rfl) ?_
    refine r_skip rfl (.no rfl rfl) ?_
    refine r_skip rfl (.no rfl rfl) ?_
    refine r_skip rfl (.no rfl rfl) ?_
    refine r_val .none rfl (p_pick_t rfl rfl) ?_
    refine r_nil ?_
    refine e_next ?_
    refine c_cond_t rfl ?_
    refine c_seq ?_
    refine c_region ?_
    refine r_val .none rfl (p_assign rfl) ?_
    refine r_nil ?_
    refine e_next ?_
    refine c_ret ?_
    refine e_ret_block ?_
    refine e_ret_then ?_
    refine e_ret_then ?_
    refine e_ret_block ?_
    refine e_ret_then ?_
    refine e_ret1 Try.results26 (.tmp rfl .nil) (fun w hm => ⟨?_, hm.since⟩)
    (simp [keyR, triL, at_] at *; try omega)
    )
 ·
  first
   | (exfalso; omega)
   | (
    refine r_val (.some rfl rfl) rfl (p_move rfl) ?_
    refine r_val (.some rfl rfl) rfl (p_iaddr (k := 0) Try.underlying60 sz3 rfl rfl (by first | exact of_decide_eq_true rfl | omega)) ?_
    refine r_val (.some rfl rfl) rfl (p_ld (k := 0) Try.underlying3 rfl rfl rfl (by first | exact of_decide_eq_true rfl | omega) (rfl : _ = Value.int _ _)) ?_
    refine r_val (.some rfl rfl) rfl (p_gt rfl rfl) ?_
    refine r_val .none rfl (p_pick_f rfl rfl) ?_
    refine r_nil ?_
    refine e_next ?_
    refine c_splitd (d := 17) rfl (fun h_2 => ?_) (fun h_2 => ?_)
    ·
     first
      | (exfalso; omega)
      | (
       refine c_cond_t rfl ?_
       refine c_seq ?_
       refine c_region ?_
       refine r_val .none rfl (p_assign rfl) ?_
       refine r_nil ?_
       refine e_next ?_
       refine c_ret ?_
       refine e_ret_block ?_
       refine e_ret_then ?_
       refine e_ret_then ?_
       refine e_ret_block ?_
       refine e_ret_then ?_
       refine e_ret1 Try.results26 (.tmp rfl .nil) (fun w hm => ⟨?_, hm.since⟩)
       (simp [keyR, triL, at_] at *; try omega)
       )
    ·
     first
      | (exfalso; omega)
      | (
       refine c_cond_f rfl ?_
       refine c_skip ?_
       refine e_norm_block ?_
       refine e_next ?_
       refine c_region ?_
       refine r_val .none rfl (p_move rfl) ?_
       refine r_val .none rfl (p_add rfl rfl (by omega)) ?_
       refine r_val .none rfl (p_assign rfl) ?_
       refine r_nil ?_
       refine e_again ?_
       refine l_round (n := 2) ?_
       refine c_seq ?_
       refine c_seq ?_
       refine c_region ?_
       refine r_val .none rfl (p_move rfl) ?_
       refine r_val .none rfl (p_lt rfl rfl) ?_
       refine r_say (d := 5) (v := Value.bool true) rfl ?_
       refine r_nil ?_
       refine e_next ?_
       refine c_cond_t rfl ?_
       refine c_skip ?_
       refine e_next ?_
       refine c_seq ?_
       refine c_block ?_
       refine c_seq ?_
       refine c_region ?_
       refine r_val .none rfl (p_move rfl) ?_
       refine r_val .none rfl (p_iaddr (k := 1) Try.underlying60 sz3 rfl rfl (by first | exact of_decide_eq_true rfl | omega)) ?_
       refine r_val .none rfl (p_ld (k := 0) Try.underlying3 rfl rfl rfl (by first | exact of_decide_eq_true rfl | omega) (rfl : _ = Value.int _ _)) ?_
       refine r_val .none rfl (p_lt rfl rfl) ?_
       refine r_val .none rfl (p_move rfl) ?_
       refine r_splitd (d := 12) rfl (fun h_3 => ?_) (fun h_3 => ?_)
       ·
        first
         | (exfalso; omega)
         | (
          refine r_skip rfl (.no rfl rfl) ?_
          refine r_skip rfl (.no rfl rfl) ?_
          refine r_skip rfl (.no rfl rfl) ?_
          refine r_skip rfl (.no rfl rfl) ?_
          refine r_val .none rfl (p_pick_t rfl rfl) ?_
          refine r_nil ?_
          refine e_next ?_
          refine c_cond_t rfl ?_
          refine c_seq ?_
          refine c_region ?_
          refine r_val .none rfl (p_assign rfl) ?_
          refine r_nil ?_
          refine e_next ?_
          refine c_ret ?_
          refine e_ret_block ?_
          refine e_ret_then ?_
          refine e_ret_then ?_
          refine e_ret_block ?_
          refine e_ret_then ?_
          refine e_ret1 Try.results26 (.tmp rfl .nil) (fun w hm => ⟨?_, hm.since⟩)
          (simp [keyR, triL, at_] at *; try omega)
          )
       ·
        first
         | (exfalso; omega)
         | (
          refine r_val (.some rfl rfl) rfl (p_move rfl) ?_
          refine r_val (.some rfl rfl) rfl (p_iaddr (k := 1) Try.underlying60 sz3 rfl rfl (by first | exact of_decide_eq_true rfl | omega)) ?_
          refine r_val (.some rfl rfl) rfl (p_ld (k := 0) Try.underlying3 rfl rfl rfl (by first | exact of_decide_eq_true rfl | omega) (rfl : _ = Value.int _ _)) ?_
          refine r_val (.some rfl rfl) rfl (p_gt rfl rfl) ?_
          refine r_val .none rfl (p_pick_f rfl rfl) ?_
          refine r_nil ?_
          refine e_next ?_
          refine c_splitd (d := 17) rfl (fun h_4 => ?_) (fun h_4 => ?_)
          ·
           first
            | (exfalso; omega)
            | (
             refine c_cond_t rfl ?_
             refine c_seq ?_
             refine c_region ?_
             refine r_val .none rfl (p_assign rfl) ?_
             refine r_nil ?_
             refine e_next ?_
             refine c_ret ?_
             refine e_ret_block ?_
             refine e_ret_then ?_
             refine e_ret_then ?_
             refine e_ret_block ?_
             refine e_ret_then ?_
             refine e_ret1 Try.results26 (.tmp rfl .nil) (fun w hm => ⟨?_, hm.since⟩)
             (simp [keyR, triL, at_] at *; try omega)
             )
          ·
           first
            | (exfalso; omega)
            | (
             refine c_cond_f rfl ?_
             refine c_skip ?_
             refine e_norm_block ?_
             refine e_next ?_
             refine c_region ?_
             refine r_val .none rfl (p_move rfl) ?_
             refine r_val .none rfl (p_add rfl rfl (by omega)) ?_
             refine r_val .none rfl (p_assign rfl) ?_
             refine r_nil ?_
             refine e_again ?_
             refine l_round (n := 1) ?_
             refine c_seq ?_
             refine c_seq ?_
             refine c_region ?_
             refine r_val .none rfl (p_move rfl) ?_
             refine r_val .none rfl (p_lt rfl rfl) ?_
             refine r_say (d := 5) (v := Value.bool true) rfl ?_
             refine r_nil ?_
             refine e_next ?_
             refine c_cond_t rfl ?_
             refine c_skip ?_
             refine e_next ?_
             refine c_seq ?_
             refine c_block ?_
             refine c_seq ?_
             refine c_region ?_
             refine r_val .none rfl (p_move rfl) ?_
             refine r_val .none rfl (p_iaddr (k := 2) Try.underlying60 sz3 rfl rfl (by first | exact of_decide_eq_true rfl | omega)) ?_
             refine r_val .none rfl (p_ld (k := 0) Try.underlying3 rfl rfl rfl (by first | exact of_decide_eq_true rfl | omega) (rfl : _ = Value.int _ _)) ?_
             refine r_val .none rfl (p_lt rfl rfl) ?_
             refine r_val .none rfl (p_move rfl) ?_
             refine r_splitd (d := 12) rfl (fun h_5 => ?_) (fun h_5 => ?_)
             ·
              first
               | (exfalso; omega)
               | (
                refine r_skip rfl (.no rfl rfl) ?_
                refine r_skip rfl (.no rfl rfl) ?_
                refine r_skip rfl (.no rfl rfl) ?_
                refine r_skip rfl (.no rfl rfl) ?_
                refine r_val .none rfl (p_pick_t rfl rfl) ?_
                refine r_nil ?_
                refine e_next ?_
                refine c_cond_t rfl ?_
                refine c_seq ?_
                refine c_region ?_
                refine r_val .none rfl (p_assign rfl) ?_
                refine r_nil ?_
                refine e_next ?_
                refine c_ret ?_
                refine e_ret_block ?_
                refine e_ret_then ?_
                refine e_ret_then ?_
                refine e_ret_block ?_
                refine e_ret_then ?_
                refine e_ret1 Try.results26 (.tmp rfl .nil) (fun w hm => ⟨?_, hm.since⟩)
                (simp [keyR, triL, at_] at *; try omega)
                )
             ·
              first
               | (exfalso; omega)
               | (
                refine r_val (.some rfl rfl) rfl (p_move rfl) ?_
                refine r_val (.some rfl rfl) rfl (p_iaddr (k := 2) Try.underlying60 sz3 rfl rfl (by first | exact of_decide_eq_true rfl | omega)) ?_
                refine r_val (.some rfl rfl) rfl (p_ld (k := 0) Try.underlying3 rfl rfl rfl (by first | exact of_decide_eq_true rfl | omega) (rfl : _ = Value.int _ _)) ?_
                refine r_val (.some rfl rfl) rfl (p_gt rfl rfl) ?_
                refine r_val .none rfl (p_pick_f rfl rfl) ?_
                refine r_nil ?_
                refine e_next ?_
                refine c_splitd (d := 17) rfl (fun h_6 => ?_) (fun h_6 => ?_)
                ·
                 first
                  | (exfalso; omega)
                  | (
                   refine c_cond_t rfl ?_
                   refine c_seq ?_
                   refine c_region ?_
                   refine r_val .none rfl (p_assign rfl) ?_
                   refine r_nil ?_
                   refine e_next ?_
                   refine c_ret ?_
                   refine e_ret_block ?_
                   refine e_ret_then ?_
                   refine e_ret_then ?_
                   refine e_ret_block ?_
                   refine e_ret_then ?_
                   refine e_ret1 Try.results26 (.tmp rfl .nil) (fun w hm => ⟨?_, hm.since⟩)
                   (simp [keyR, triL, at_] at *; try omega)
                   )
                ·
                 first
                  | (exfalso; omega)
                  | (
                   refine c_cond_f rfl ?_
                   refine c_skip ?_
                   refine e_norm_block ?_
                   refine e_next ?_
                   refine c_region ?_
                   refine r_val .none rfl (p_move rfl) ?_
                   refine r_val .none rfl (p_add rfl rfl (by omega)) ?_
                   refine r_val .none rfl (p_assign rfl) ?_
                   refine r_nil ?_
                   refine e_again ?_
                   refine l_round (n := 0) ?_
                   refine c_seq ?_
                   refine c_seq ?_
                   refine c_region ?_
                   refine r_val .none rfl (p_move rfl) ?_
                   refine r_val .none rfl (p_lt rfl rfl) ?_
                   refine r_say (d := 5) (v := Value.bool false) rfl ?_
                   refine r_nil ?_
                   refine e_next ?_
                   refine c_cond_f rfl ?_
                   refine c_exit ?_
                   refine e_exit_then ?_
                   refine e_exit_then ?_
                   refine e_exit_block ?_
                   refine e_next ?_
                   refine c_seq ?_
                   refine c_region ?_
                   refine r_val .none rfl (p_assign rfl) ?_
                   refine r_nil ?_
                   refine e_next ?_
                   refine c_ret ?_
                   refine e_ret1 Try.results26 (.tmp rfl .nil) (fun w hm => ⟨?_, hm.since⟩)
                   (simp [keyR, triL, at_] at *; try omega)
                   )
                )
             )
          )
       )
    )
theorem c_rtri (t : Tri)  (w : World)  :
  Calls Try.prog 27 #[kT t] w (Ret fun r w' => r = Value.bool (triRight t) ∧ Since nX w w') := by
 refine enter (args := [_]) (X := nX) (G := (fun _ => none)) (l := [(0, kT t)]) Try.func27 rfl Try.ntmps27 (fun _ _ h => by cases h) ⟨rfl, trivial⟩ (Nat.le_of_ble_eq_true rfl) ?_
 refine c_seq ?_
 refine c_region ?_
 refine r_box .none rfl rfl (IsRow.lit _) (fun b_1 => ?_)
 refine r_val .none rfl (p_assign rfl) ?_
 refine r_nil ?_
 refine e_next ?_
 refine c_seq ?_
 refine c_seq ?_
 refine c_region ?_
 refine r_val .none rfl (p_assign rfl) ?_
 refine r_nil ?_
 refine e_next ?_
 refine c_block ?_
 refine c_unroll 4 ?_
 refine l_round (n := 3) ?_
 refine c_seq ?_
 refine c_seq ?_
 refine c_region ?_
 refine r_val .none rfl (p_move rfl) ?_
 refine r_val .none rfl (p_lt rfl rfl) ?_
 refine r_say (d := 5) (v := Value.bool true) rfl ?_
 refine r_nil ?_
 refine e_next ?_
 refine c_cond_t rfl ?_
 refine c_skip ?_
 refine e_next ?_
 refine c_seq ?_
 refine c_block ?_
 refine c_seq ?_
 refine c_region ?_
 refine r_val .none rfl (p_move rfl) ?_
 refine r_val .none rfl (p_iaddr (k := 0) Try.underlying60 sz3 rfl rfl (by first | exact of_decide_eq_true rfl | omega)) ?_
 refine r_val .none rfl (p_ld (k := 0) Try.underlying3 rfl rfl rfl (by first | exact of_decide_eq_true rfl | omega) (rfl : _ = Value.int _ _)) ?_
 refine r_val .none rfl (p_lt rfl rfl) ?_
 refine r_val .none rfl (p_move rfl) ?_
 refine r_splitd (d := 12) rfl (fun h_1 => ?_) (fun h_1 => ?_)
 ·
  first
   | (exfalso; omega)
   | (
    refine r_skip rfl (.no rfl rfl) ?_
    refine r_skip rfl (.no rfl rfl) ?_
    refine r_skip rfl (.no rfl rfl) ?_
    refine r_skip rfl (.no rfl rfl) ?_
    refine r_val .none rfl (p_pick_t rfl rfl) ?_
    refine r_nil ?_
    refine e_next ?_
    refine c_cond_t rfl ?_
    refine c_seq ?_
    refine c_region ?_
    refine r_val .none rfl (p_assign rfl) ?_
    refine r_nil ?_
    refine e_next ?_
    refine c_ret ?_
    refine e_ret_block ?_
    refine e_ret_then ?_
    refine e_ret_then ?_
    refine e_ret_block ?_
    refine e_ret_then ?_
    refine e_ret1 Try.results27 (.tmp rfl .nil) (fun w hm => ⟨?_, hm.since⟩)
    (simp [triRight, triL, at_] at *; try omega)
    )
 ·
  first
   | (exfalso; omega)
   | (
    refine r_val (.some rfl rfl) rfl (p_move rfl) ?_
    refine r_val (.some rfl rfl) rfl (p_iaddr (k := 0) Try.underlying60 sz3 rfl rfl (by first | exact of_decide_eq_true rfl | omega)) ?_
    refine r_val (.some rfl rfl) rfl (p_ld (k := 0) Try.underlying3 rfl rfl rfl (by first | exact of_decide_eq_true rfl | omega) (rfl : _ = Value.int _ _)) ?_
    refine r_val (.some rfl rfl) rfl (p_gt rfl rfl) ?_
    refine r_val .none rfl (p_pick_f rfl rfl) ?_
    refine r_nil ?_
    refine e_next ?_
    refine c_splitd (d := 17) rfl (fun h_2 => ?_) (fun h_2 => ?_)
    ·
     first
      | (exfalso; omega)
      | (
       refine c_cond_t rfl ?_
       refine c_seq ?_
       refine c_region ?_
       refine r_val .none rfl (p_assign rfl) ?_
       refine r_nil ?_
       refine e_next ?_
       refine c_ret ?_
       refine e_ret_block ?_
       refine e_ret_then ?_
       refine e_ret_then ?_
       refine e_ret_block ?_
       refine e_ret_then ?_
       refine e_ret1 Try.results27 (.tmp rfl .nil) (fun w hm => ⟨?_, hm.since⟩)
       (simp [triRight, triL, at_] at *; try omega)
       )
    ·
     first
      | (exfalso; omega)
      | (
       refine c_cond_f rfl ?_
       refine c_skip ?_
       refine e_norm_block ?_
       refine e_next ?_
       refine c_region ?_
       refine r_val .none rfl (p_move rfl) ?_
       refine r_val .none rfl (p_add rfl rfl (by omega)) ?_
       refine r_val .none rfl (p_assign rfl) ?_
       refine r_nil ?_
       refine e_again ?_
       refine l_round (n := 2) ?_
       refine c_seq ?_
       refine c_seq ?_
       refine c_region ?_
       refine r_val .none rfl (p_move rfl) ?_
       refine r_val .none rfl (p_lt rfl rfl) ?_
       refine r_say (d := 5) (v := Value.bool true) rfl ?_
       refine r_nil ?_
       refine e_next ?_
       refine c_cond_t rfl ?_
       refine c_skip ?_
       refine e_next ?_
       refine c_seq ?_
       refine c_block ?_
       refine c_seq ?_
       refine c_region ?_
       refine r_val .none rfl (p_move rfl) ?_
       refine r_val .none rfl (p_iaddr (k := 1) Try.underlying60 sz3 rfl rfl (by first | exact of_decide_eq_true rfl | omega)) ?_
       refine r_val .none rfl (p_ld (k := 0) Try.underlying3 rfl rfl rfl (by first | exact of_decide_eq_true rfl | omega) (rfl : _ = Value.int _ _)) ?_
       refine r_val .none rfl (p_lt rfl rfl) ?_
       refine r_val .none rfl (p_move rfl) ?_
       refine r_splitd (d := 12) rfl (fun h_3 => ?_) (fun h_3 => ?_)
       ·
        first
         | (exfalso; omega)
         | (
          refine r_skip rfl (.no rfl rfl) ?_
          refine r_skip rfl (.no rfl rfl) ?_
          refine r_skip rfl (.no rfl rfl) ?_
          refine r_skip rfl (.no rfl rfl) ?_
          refine r_val .none rfl (p_pick_t rfl rfl) ?_
          refine r_nil ?_
          refine e_next ?_
          refine c_cond_t rfl ?_
          refine c_seq ?_
          refine c_region ?_
          refine r_val .none rfl (p_assign rfl) ?_
          refine r_nil ?_
          refine e_next ?_
          refine c_ret ?_
          refine e_ret_block ?_
          refine e_ret_then ?_
          refine e_ret_then ?_
          refine e_ret_block ?_
          refine e_ret_then ?_
          refine e_ret1 Try.results27 (.tmp rfl .nil) (fun w hm => ⟨?_, hm.since⟩)
          (simp [triRight, triL, at_] at *; try omega)
          )
       ·
        first
         | (exfalso; omega)
         | (
          refine r_val (.some rfl rfl) rfl (p_move rfl) ?_
          refine r_val (.some rfl rfl) rfl (p_iaddr (k := 1) Try.underlying60 sz3 rfl rfl (by first | exact of_decide_eq_true rfl | omega)) ?_
          refine r_val (.some rfl rfl) rfl (p_ld (k := 0) Try.underlying3 rfl rfl rfl (by first | exact of_decide_eq_true rfl | omega) (rfl : _ = Value.int _ _)) ?_
          refine r_val (.some rfl rfl) rfl (p_gt rfl rfl) ?_
          refine r_val .none rfl (p_pick_f rfl rfl) ?_
          refine r_nil ?_
          refine e_next ?_
          refine c_splitd (d := 17) rfl (fun h_4 => ?_) (fun h_4 => ?_)
          ·
           first
            | (exfalso; omega)
            | (
             refine c_cond_t rfl ?_
             refine c_seq ?_
             refine c_region ?_
             refine r_val .none rfl (p_assign rfl) ?_
             refine r_nil ?_
             refine e_next ?_
             refine c_ret ?_
             refine e_ret_block ?_
             refine e_ret_then ?_
             refine e_ret_then ?_
             refine e_ret_block ?_
             refine e_ret_then ?_
             refine e_ret1 Try.results27 (.tmp rfl .nil) (fun w hm => ⟨?_, hm.since⟩)
             (simp [triRight, triL, at_] at *; try omega)
             )
          ·
           first
            | (exfalso; omega)
            | (
             refine c_cond_f rfl ?_
             refine c_skip ?_
             refine e_norm_block ?_
             refine e_next ?_
             refine c_region ?_
             refine r_val .none rfl (p_move rfl) ?_
             refine r_val .none rfl (p_add rfl rfl (by omega)) ?_
             refine r_val .none rfl (p_assign rfl) ?_
             refine r_nil ?_
             refine e_again ?_
             refine l_round (n := 1) ?_
             refine c_seq ?_
             refine c_seq ?_
             refine c_region ?_
             refine r_val .none rfl (p_move rfl) ?_
             refine r_val .none rfl (p_lt rfl rfl) ?_
             refine r_say (d := 5) (v := Value.bool true) rfl ?_
             refine r_nil ?_
             refine e_next ?_
             refine c_cond_t rfl ?_
             refine c_skip ?_
             refine e_next ?_
             refine c_seq ?_
             refine c_block ?_
             refine c_seq ?_
             refine c_region ?_
             refine r_val .none rfl (p_move rfl) ?_
             refine r_val .none rfl (p_iaddr (k := 2) Try.underlying60 sz3 rfl rfl (by first | exact of_decide_eq_true rfl | omega)) ?_
             refine r_val .none rfl (p_ld (k := 0) Try.underlying3 rfl rfl rfl (by first | exact of_decide_eq_true rfl | omega) (rfl : _ = Value.int _ _)) ?_
             refine r_val .none rfl (p_lt rfl rfl) ?_
             refine r_val .none rfl (p_move rfl) ?_
             refine r_splitd (d := 12) rfl (fun h_5 => ?_) (fun h_5 => ?_)
             ·
              first
               | (exfalso; omega)
               | (
                refine r_skip rfl (.no rfl rfl) ?_
                refine r_skip rfl (.no rfl rfl) ?_
                refine r_skip rfl (.no rfl rfl) ?_
                refine r_skip rfl (.no rfl rfl) ?_
                refine r_val .none rfl (p_pick_t rfl rfl) ?_
                refine r_nil ?_
                refine e_next ?_
                refine c_cond_t rfl ?_
                refine c_seq ?_
                refine c_region ?_
                refine r_val .none rfl (p_assign rfl) ?_
                refine r_nil ?_
                refine e_next ?_
                refine c_ret ?_
                refine e_ret_block ?_
                refine e_ret_then ?_
                refine e_ret_then ?_
                refine e_ret_block ?_
                refine e_ret_then ?_
                refine e_ret1 Try.results27 (.tmp rfl .nil) (fun w hm => ⟨?_, hm.since⟩)
                (simp [triRight, triL, at_] at *; try omega)
                )
             ·
              first
               | (exfalso; omega)
               | (
                refine r_val (.some rfl rfl) rfl (p_move rfl) ?_
                refine r_val (.some rfl rfl) rfl (p_iaddr (k := 2) Try.underlying60 sz3 rfl rfl (by first | exact of_decide_eq_true rfl | omega)) ?_
                refine r_val (.some rfl rfl) rfl (p_ld (k := 0) Try.underlying3 rfl rfl rfl (by first | exact of_decide_eq_true rfl | omega) (rfl : _ = Value.int _ _)) ?_
                refine r_val (.some rfl rfl) rfl (p_gt rfl rfl) ?_
                refine r_val .none rfl (p_pick_f rfl rfl) ?_
                refine r_nil ?_
                refine e_next ?_
                refine c_splitd (d := 17) rfl (fun h_6 => ?_) (fun h_6 => ?_)
                ·
                 first
                  | (exfalso; omega)
                  | (
                   refine c_cond_t rfl ?_
                   refine c_seq ?_
                   refine c_region ?_
                   refine r_val .none rfl (p_assign rfl) ?_
                   refine r_nil ?_
                   refine e_next ?_
                   refine c_ret ?_
                   refine e_ret_block ?_
                   refine e_ret_then ?_
                   refine e_ret_then ?_
                   refine e_ret_block ?_
                   refine e_ret_then ?_
                   refine e_ret1 Try.results27 (.tmp rfl .nil) (fun w hm => ⟨?_, hm.since⟩)
                   (simp [triRight, triL, at_] at *; try omega)
                   )
                ·
                 first
                  | (exfalso; omega)
                  | (
                   refine c_cond_f rfl ?_
                   refine c_skip ?_
                   refine e_norm_block ?_
                   refine e_next ?_
                   refine c_region ?_
                   refine r_val .none rfl (p_move rfl) ?_
                   refine r_val .none rfl (p_add rfl rfl (by omega)) ?_
                   refine r_val .none rfl (p_assign rfl) ?_
                   refine r_nil ?_
                   refine e_again ?_
                   refine l_round (n := 0) ?_
                   refine c_seq ?_
                   refine c_seq ?_
                   refine c_region ?_
                   refine r_val .none rfl (p_move rfl) ?_
                   refine r_val .none rfl (p_lt rfl rfl) ?_
                   refine r_say (d := 5) (v := Value.bool false) rfl ?_
                   refine r_nil ?_
                   refine e_next ?_
                   refine c_cond_f rfl ?_
                   refine c_exit ?_
                   refine e_exit_then ?_
                   refine e_exit_then ?_
                   refine e_exit_block ?_
                   refine e_next ?_
                   refine c_seq ?_
                   refine c_region ?_
                   refine r_val .none rfl (p_assign rfl) ?_
                   refine r_nil ?_
                   refine e_next ?_
                   refine c_ret ?_
                   refine e_ret1 Try.results27 (.tmp rfl .nil) (fun w hm => ⟨?_, hm.since⟩)
                   (simp [triRight, triL, at_] at *; try omega)
                   )
                )
             )
          )
       )
    )
end Go.Proofs.Ytdcaehepmkhciaa

/- A call that changes an object, while a row of the caller's own is seen by it. -/
namespace Go.Gx
open Go.RowKit
end Go.Gx

/- Plain laws of counting: what is counted does not hang on the order; no program in sight. -/
namespace Go.Gx.T10
open Go.Gx
section
variable {κ : Type} [DecidableEq κ]
theorem Tal.perm {l : List (κ × Int)} {ns ms : List κ} (h : Tal l ns) (hp : ns.Perm ms) : Tal l ms :=
  ⟨h.nodup, h.pos, fun k => by rw [h.eq k, num_def, num_def, hp.count_eq]⟩
theorem Tal.front {l : List (κ × Int)} {ns : List κ} {i : Nat} {e : κ} (h : Tal l (ns.drop i)) (hi : i < ns.length) : Tal (tDrop l (ns.getD i e)) (ns.drop (i + 1)) ∧ 1 ≤ cnt l (ns.getD i e) := by
  have e1 : ns.drop i = ns.getD i e :: ns.drop (i + 1) := by
    rw [List.drop_eq_getElem_cons hi]; simp [List.getD, hi]
  rw [e1] at h
  refine ⟨(h.perm (List.perm_append_singleton _ _).symm).drop, ?_⟩
  rw [h.eq, num_def, List.count_cons_self]; omega
end
end Go.Gx.T10

/- Plain laws of memories: each has just the facts that there are and that have its key; no program in sight. -/
namespace Go.Gx.T12
open Go.Gx Go.Gx.T10 Go.Gx.T11
theorem allK_mem {t k : Tri} : k ∈ allK t ↔ hasK t k = true := by
  obtain ⟨a, b, c⟩ := t
  obtain ⟨x, y, z⟩ := k
  simp only [allK, hasK, List.mem_cons, List.mem_nil_iff, or_false, decide_eq_true_eq, Prod.mk.injEq]
  constructor
  · rintro (h | h | h | h | h | h | h | h) <;> (obtain ⟨rfl, rfl, rfl⟩ := h; simp)
  · rintro ⟨h1 | h1, h2 | h2, h3 | h3⟩ <;> simp [h1, h2, h3]
theorem touched_iff {u : List (Tri × Int)} {t k : Tri} : k ∈ touched u t ↔ hasK t k = true ∧ ¬ cnt u k = 0 := by
  unfold touched
  rw [List.mem_filter, allK_mem]
  simp
/-- What is done in one memory. -/
def inM (h : List (Int × Int)) (id : Int) : List (Int × Int) := if 0 < (lkp h id).getD 0 then h else mput h id 1
def outM (h : List (Int × Int)) (id : Int) : List (Int × Int) := if (lkp h id).getD 0 = 0 then h else mdel h id
theorem putC_lkp (c : SC) (x k : Tri) (id : Int) : lkp (putC c x id).2 k = if x = k then (lkp c k).map (fun h => inM h id) else lkp c k := by
  unfold putC
  cases e : lkp c x with
  | none => by_cases h : x = k; (subst h; simp [e]); simp [h]
  | some h0 =>
    by_cases h : x = k
    · subst h
      simp only [inM, e]
      split
      · rename_i hi; simp [e, hi]
      · rename_i hi; simp [lkp_mput, hi]
    · simp only [h, if_false]
      split
      · rfl
      · simp [lkp_mput, h]
theorem takeC_lkp (c : SC) (x k : Tri) (id : Int) : lkp (takeC c x id).2 k = if x = k then (lkp c k).map (fun h => outM h id) else lkp c k := by
  unfold takeC
  cases e : lkp c x with
  | none => by_cases h : x = k; (subst h; simp [e]); simp [h]
  | some h0 =>
    by_cases h : x = k
    · subst h
      simp only [outM, e]
      split
      · rename_i hi; simp [e, hi]
      · rename_i hi; simp [lkp_mput, hi]
    · simp only [h, if_false]
      split
      · rfl
      · simp [lkp_mput, h]
/-- What a memory has: each id once, those that S says. -/
structure Mm (h : List (Int × Int)) (S : Int → Prop) : Prop where
  nd : (h.map (·.1)).Nodup
  one : ∀ q ∈ h, q.2 = 1
  mem : ∀ id, (lkp h id).isSome = true ↔ S id
theorem Mm.val {h : List (Int × Int)} {S : Int → Prop} (m : Mm h S) (id : Int) : (lkp h id).getD 0 = if (lkp h id).isSome = true then 1 else 0 := by
  cases e : lkp h id with
  | none => rfl
  | some v =>
    have h9 : v = 1 := m.one _ (lkp_some e)
    simp [h9]
theorem Mm.pos {h : List (Int × Int)} {S : Int → Prop} (m : Mm h S) (id : Int) : 0 < (lkp h id).getD 0 ↔ S id := by
  rw [m.val, ← m.mem]; split <;> simp_all
theorem Mm.zero {h : List (Int × Int)} {S : Int → Prop} (m : Mm h S) (id : Int) : (lkp h id).getD 0 = 0 ↔ ¬ S id := by
  rw [m.val, ← m.mem]; split <;> simp_all
theorem Mm.congr {h : List (Int × Int)} {S T : Int → Prop} (m : Mm h S) (e : ∀ id, S id ↔ T id) : Mm h T := ⟨m.nd, m.one, fun id => (m.mem id).trans (e id)⟩
theorem Mm.nil : Mm [] (fun _ => False) := ⟨by simp, by simp, by simp [lkp]⟩
theorem Mm.put {h : List (Int × Int)} {S : Int → Prop} (m : Mm h S) (id : Int) : Mm (mput h id 1) (fun x => x = id ∨ S x) := by
  refine ⟨mput_nodup m.nd _ _, fun q hq => ?_, fun x => ?_⟩
  · rcases mem_mput hq with rfl | hq
    · rfl
    · exact m.one q hq
  · rw [lkp_mput]
    by_cases e : id = x
    · subst e; simp
    · rw [if_neg e, m.mem]; constructor
      · exact .inr
      · rintro (h | h); exact absurd h.symm e; exact h
theorem Mm.inM {h : List (Int × Int)} {S : Int → Prop} (m : Mm h S) (id : Int) : Mm (inM h id) (fun x => x = id ∨ S x) := by
  unfold T12.inM
  split
  · rename_i hi
    exact m.congr (fun x => ⟨.inr, fun h => by rcases h with rfl | h; exact (m.pos _).1 hi; exact h⟩)
  · exact m.put id
theorem Mm.outM {h : List (Int × Int)} {S : Int → Prop} (m : Mm h S) (id : Int) : Mm (outM h id) (fun x => ¬ x = id ∧ S x) := by
  unfold T12.outM
  split
  · rename_i hi
    exact m.congr (fun x => ⟨fun h => ⟨fun e => (m.zero id).1 hi (e ▸ h), h⟩, fun h => h.2⟩)
  · refine ⟨mdel_nodup m.nd _, fun q hq => m.one q ((mdel_sub h id).subset hq), fun x => ?_⟩
    rw [lkp_mdel m.nd]
    by_cases e : id = x
    · subst e; simp
    · rw [if_neg e, m.mem]
      exact ⟨fun h => ⟨fun h2 => e h2.symm, h⟩, fun h => h.2⟩
/-- All memories, of some keys: what they have. -/
structure Me (c : SC) (S : Tri → Int → Prop) : Prop where
  mm : ∀ k h, lkp c k = some h → Mm h (S k)
theorem Me.put {c : SC} {S : Tri → Int → Prop} (m : Me c S) (x : Tri) (id : Int) : Me (putC c x id).2 (fun k i => (k = x ∧ i = id) ∨ S k i) := ⟨fun k h e => by
  rw [putC_lkp] at e
  by_cases hx : x = k
  · subst hx
    rw [if_pos rfl] at e
    cases e0 : lkp c x with
    | none => rw [e0] at e; cases e
    | some h0 =>
      rw [e0] at e; simp only [Option.map_some, Option.some.injEq] at e; subst e
      exact ((m.mm x h0 e0).inM id).congr (fun i => by simp)
  · rw [if_neg hx] at e
    exact (m.mm k h e).congr (fun i => ⟨.inr, fun h => by rcases h with h | h; exact absurd h.1.symm hx; exact h⟩)⟩
theorem Me.take {c : SC} {S : Tri → Int → Prop} (m : Me c S) (x : Tri) (id : Int) : Me (takeC c x id).2 (fun k i => ¬ (k = x ∧ i = id) ∧ S k i) := ⟨fun k h e => by
  rw [takeC_lkp] at e
  by_cases hx : x = k
  · subst hx
    rw [if_pos rfl] at e
    cases e0 : lkp c x with
    | none => rw [e0] at e; cases e
    | some h0 =>
      rw [e0] at e; simp only [Option.map_some, Option.some.injEq] at e; subst e
      exact ((m.mm x h0 e0).outM id).congr (fun i => by simp)
  · rw [if_neg hx] at e
    exact (m.mm k h e).congr (fun i => ⟨fun h => ⟨fun h2 => hx h2.1.symm, h⟩, fun h => h.2⟩)⟩
theorem Me.congr {c : SC} {S T : Tri → Int → Prop} (m : Me c S) (e : ∀ k h, lkp c k = some h → ∀ i, S k i ↔ T k i) : Me c T := ⟨fun k h hk => (m.mm k h hk).congr (e k h hk)⟩
/-- Nothing is wanted, or not, by it. -/
def Keep (c c' : SC) : Prop := ∀ k, lkp c' k = none ↔ lkp c k = none
theorem keep_put (c : SC) (x : Tri) (id : Int) : Keep c (putC c x id).2 := fun k => by
  rw [putC_lkp]; split <;> simp
theorem Keep.trans {a b c : SC} (h : Keep a b) (g : Keep b c) : Keep a c := fun k => (g k).trans (h k)
theorem dels_put (id : Int) : ∀ (l : List Tri) (c : SC) (S : Tri → Int → Prop), Me c S → Me (dels (fun x c => (!(putC c x id).1, (putC c x id).2)) l c).2 (fun k i => (k ∈ l ∧ i = id) ∨ S k i) ∧ Keep c (dels (fun x c => (!(putC c x id).1, (putC c x id).2)) l c).2
  | [], c, S, m => ⟨m.congr (fun _ _ _ i => by simp), fun _ => Iff.rfl⟩
  | x :: t, c, S, m => by
    obtain ⟨h1, h2⟩ := dels_put id t _ _ (m.put x id)
    simp only [dels]
    refine ⟨h1.congr (fun k _ _ i => ?_), (keep_put c x id).trans h2⟩
    simp only [List.mem_cons]
    constructor
    · rintro (⟨h, e⟩ | ⟨h, e⟩ | h)
      · exact .inl ⟨.inr h, e⟩
      · exact .inl ⟨.inl h, e⟩
      · exact .inr h
    · rintro (⟨h | h, e⟩ | h)
      · exact .inr (.inl ⟨h, e⟩)
      · exact .inl ⟨h, e⟩
      · exact .inr (.inr h)
theorem fillC_mm (k : Tri) : ∀ (fs : List FD) (h : List (Int × Int)) (S : Int → Prop), Mm h S → Mm (fillC k fs h) (fun i => S i ∨ ∃ f ∈ fs, f.1 = i ∧ hasK f.2 k = true)
  | [], h, S, m => m.congr (fun i => by simp)
  | f :: t, h, S, m => by
    unfold fillC
    rw [List.foldl_cons]
    by_cases e : hasK f.2 k = true
    · rw [if_pos e]
      refine (fillC_mm k t _ _ (m.put f.1)).congr (fun i => ?_)
      simp only [List.mem_cons]
      constructor
      · rintro ((h1 | h1) | ⟨g, hg, h2⟩)
        · exact .inr ⟨f, .inl rfl, h1.symm, e⟩
        · exact .inl h1
        · exact .inr ⟨g, .inr hg, h2⟩
      · rintro (h1 | ⟨g, hg, h2, h3⟩)
        · exact .inl (.inr h1)
        · rcases hg with rfl | hg
          · exact .inl (.inl h2.symm)
          · exact .inr ⟨g, hg, h2, h3⟩
    · rw [if_neg e]
      refine (fillC_mm k t _ _ m).congr (fun i => ?_)
      simp only [List.mem_cons]
      constructor
      · rintro (h1 | ⟨g, hg, h2⟩)
        · exact .inl h1
        · exact .inr ⟨g, .inr hg, h2⟩
      · rintro (h1 | ⟨g, hg, h2, h3⟩)
        · exact .inl h1
        · rcases hg with rfl | hg
          · exact absurd h3 e
          · exact .inr ⟨g, hg, h2, h3⟩
/-! ### facts that come and go -/
def SK (fs : List FD) (k : Tri) (i : Int) : Prop := ∃ f ∈ fs, f.1 = i ∧ hasK f.2 k = true
structure Whole (u : List (Tri × Int)) (c : SC) (fs : List FD) (ns : List Tri) (n : Nat) : Prop where
  tal : Tal u ns
  sync : ∀ k, cnt u k = 0 ↔ lkp c k = none
  me : Me c (SK fs)
  inc : (fs.map Prod.fst).Pairwise (· < ·)
  bd : ∀ f ∈ fs, 1 ≤ f.1 ∧ f.1 ≤ (n : Int)
theorem Whole.start : Whole [] [] [] [] 0 := ⟨Tal.nil, fun k => by simp [cnt, lkp], ⟨fun k h e => by simp [lkp] at e⟩, by simp, by simp⟩
theorem Whole.add {u : List (Tri × Int)} {c : SC} {fs : List FD} {ns : List Tri} {n : Nat} (h : Whole u c fs ns n) (t : Tri) : Whole u (doneC putC u c ((n : Int) + 1, t)).2 (fs ++ [((n : Int) + 1, t)]) ns (n + 1) := by
  obtain ⟨h1, h2⟩ := dels_put ((n : Int) + 1) (touched u t) c _ h.me
  refine ⟨h.tal, fun k => (h.sync k).trans (h2 k).symm, h1.congr (fun k h0 hk i => ?_), ?_, fun f hf => ?_⟩
  · have hw : ¬ cnt u k = 0 := fun e => by
      have h9 := (h2 k).2 ((h.sync k).1 e)
      have h8 : lkp (dels (fun x c => (!(putC c x ((n : Int) + 1)).1, (putC c x ((n : Int) + 1)).2)) (touched u t) c).2 k = some h0 := hk
      rw [h9] at h8; cases h8
    rw [touched_iff]
    unfold SK
    constructor
    · rintro (⟨⟨h3, _⟩, rfl⟩ | ⟨f, hf, h4⟩)
      · exact ⟨_, List.mem_append_right _ (List.mem_singleton.2 rfl), rfl, h3⟩
      · exact ⟨f, List.mem_append_left _ hf, h4⟩
    · rintro ⟨f, hf, h4, h5⟩
      rcases List.mem_append.1 hf with hf | hf
      · exact .inr ⟨f, hf, h4, h5⟩
      · rw [List.mem_singleton.1 hf] at h4 h5; exact .inl ⟨⟨h5, hw⟩, h4.symm⟩
  · rw [List.map_append]
    refine List.pairwise_append.2 ⟨h.inc, by simp, fun a ha b hb => ?_⟩
    obtain ⟨f, hf, rfl⟩ := List.mem_map.1 ha
    simp only [List.map_cons, List.map_nil, List.mem_singleton] at hb
    have := (h.bd f hf).2
    omega
  · rcases List.mem_append.1 hf with hf | hf
    · have := h.bd f hf; omega
    · rw [List.mem_singleton.1 hf]; dsimp only; omega
/-- The list without the fact at a place. -/
def cutF (fs : List FD) (k : Nat) : List FD := fs.take k ++ fs.drop (k + 1)
theorem Whole.want {u : List (Tri × Int)} {c : SC} {fs : List FD} {ns : List Tri} {n : Nat} (h : Whole u c fs ns n) (k : Tri) : Whole (tAdd u k) (wantC c k fs (cnt u k)) fs (ns ++ [k]) n := by
  have h0 : 0 ≤ cnt u k := by rw [h.tal.eq]; omega
  refine ⟨h.tal.add k, fun x => ?_, ?_, h.inc, h.bd⟩
  · rw [tAdd, cnt_mput]
    by_cases e : k = x
    · subst e
      rw [if_pos rfl]
      unfold wantC
      constructor
      · intro h9; omega
      · intro h9
        split at h9
        · rw [lkp_mput, if_pos rfl] at h9; cases h9
        · rename_i h8; exact absurd ((h.sync k).2 h9) h8
    · rw [if_neg e, h.sync]
      unfold wantC
      split
      · rw [lkp_mput, if_neg e]
      · rfl
  · unfold wantC
    split
    · refine ⟨fun x h1 hx => ?_⟩
      rw [lkp_mput] at hx
      by_cases e : k = x
      · subst e
        rw [if_pos rfl] at hx
        simp only [Option.some.injEq] at hx
        subst hx
        exact (fillC_mm k fs [] _ Mm.nil).congr (fun i => by unfold SK; simp)
      · rw [if_neg e] at hx
        exact h.me.mm x h1 hx
    · exact h.me
theorem Whole.inv {u : List (Tri × Int)} {c : SC} {fs : List FD} {ns : List Tri} {n : Nat} (h : Whole u c fs ns n) (k : Tri) : cnt u k = 0 → lkp c k = none := (h.sync k).1
theorem ilt_unique : ∀ {a b : List Int}, a.Pairwise (· < ·) → b.Pairwise (· < ·) → (∀ z, z ∈ a ↔ z ∈ b) → a = b
  | [], [], _, _, _ => rfl
  | [], y :: _, _, _, h => by simpa using (h y).2 (by simp)
  | x :: _, [], _, _, h => by simpa using (h x).1 (by simp)
  | x :: t, y :: u, h1, h2, h => by
    have e : x = y := by
      rcases List.mem_cons.1 ((h x).1 (by simp)) with e | hx
      · exact e
      rcases List.mem_cons.1 ((h y).2 (by simp)) with e | hy
      · exact e.symm
      have a1 := List.rel_of_pairwise_cons h2 hx
      have a2 := List.rel_of_pairwise_cons h1 hy
      omega
    subst e
    congr 1
    refine ilt_unique h1.of_cons h2.of_cons fun z => ?_
    have hz := h z
    simp only [List.mem_cons] at hz
    constructor
    · intro hm
      rcases hz.1 (.inr hm) with rfl | h3
      · have := List.rel_of_pairwise_cons h1 hm; omega
      · exact h3
    · intro hm
      rcases hz.2 (.inr hm) with rfl | h3
      · have := List.rel_of_pairwise_cons h2 hm; omega
      · exact h3
theorem sortI_lt {zs : List Int} (hn : zs.Nodup) : (sortI zs).Pairwise (· < ·) := by
  have h1 : (sortI zs).Pairwise (fun a b => decide (a ≤ b) = true) := List.pairwise_mergeSort (fun a b c h1 h2 => by simp at *; omega) (fun a b => by simp; omega) zs
  have h2 : (sortI zs).Nodup := ((List.mergeSort_perm zs _).nodup_iff).2 hn
  refine (h1.and h2).imp fun {a b} h => ?_
  have := h.1; have := h.2
  simp at *; omega
theorem lkp_keys {h : List (Int × Int)} {id : Int} : id ∈ h.map Prod.fst ↔ (lkp h id).isSome = true := by
  cases e : lkp h id with
  | none =>
    rw [lkp_none] at e
    simp only [Option.isSome_none, Bool.false_eq_true, iff_false]
    intro hm
    obtain ⟨p, hp, rfl⟩ := List.mem_map.1 hm
    exact e p hp rfl
  | some v => simp only [Option.isSome_some, iff_true]; exact List.mem_map.2 ⟨_, lkp_some e, rfl⟩
theorem num_pos {κ : Type} [DecidableEq κ] {ns : List κ} {k : κ} (h : k ∈ ns) : 0 < num ns k := by rw [num_def]; exact List.count_pos_iff.2 h
/-- The ids of a memory are those of the facts with its key. -/
theorem Whole.items {u : List (Tri × Int)} {c : SC} {fs : List FD} {ns : List Tri} {n : Nat} (h : Whole u c fs ns n) {k : Tri} (hk : k ∈ ns) : itemsC c k = (fs.filter fun f => hasK f.2 k).map Prod.fst := by
  have hw : ¬ cnt u k = 0 := by
    rw [h.tal.eq]
    have := num_pos hk
    omega
  cases e : lkp c k with
  | none => exact absurd ((h.sync k).2 e) hw
  | some g =>
    have m := h.me.mm k g e
    unfold itemsC
    rw [e]
    show sortI (g.map Prod.fst) = _
    refine ilt_unique (sortI_lt m.nd) (h.inc.sublist (List.filter_sublist.map _)) fun z => ?_
    have hp : z ∈ sortI (List.map Prod.fst g) ↔ z ∈ List.map Prod.fst g := (List.mergeSort_perm _ _).mem_iff
    rw [hp, lkp_keys, m.mem]
    unfold SK
    simp only [List.mem_map, List.mem_filter]
    constructor
    · rintro ⟨f, hf, h1, h2⟩; exact ⟨f, ⟨hf, h2⟩, h1⟩
    · rintro ⟨f, ⟨hf, h2⟩, h1⟩; exact ⟨f, hf, h1, h2⟩
theorem nd_len {l : List Int} {n : Nat} (hn : l.Pairwise (· < ·)) (hb : ∀ x ∈ l, 1 ≤ x ∧ x ≤ (n : Int)) : l.length ≤ n := by
  have key : ∀ (l : List Int) (a : Int), l.Pairwise (· < ·) → (∀ x ∈ l, a < x ∧ x ≤ (n : Int)) → (l.length : Int) ≤ (n : Int) - a ∨ l = [] := by
    intro l
    induction l with
    | nil => intro _ _ _; exact .inr rfl
    | cons x t ih =>
      intro a hp hb
      left
      have h1 := hb x (by simp)
      rcases ih x hp.of_cons (fun y hy => ⟨List.rel_of_pairwise_cons hp hy, (hb y (by simp [hy])).2⟩) with h2 | h2
      · simp; omega
      · subst h2; simp; omega
  rcases key l 0 hn (fun x hx => by have := hb x hx; omega) with h | h
  · omega
  · subst h; simp
theorem Whole.len {u : List (Tri × Int)} {c : SC} {fs : List FD} {ns : List Tri} {n : Nat} (h : Whole u c fs ns n) : fs.length ≤ n := by
  have := nd_len h.inc (fun x hx => by obtain ⟨f, hf, rfl⟩ := List.mem_map.1 hx; exact h.bd f hf)
  simpa using this
theorem Whole.wf {u : List (Tri × Int)} {c : SC} {fs : List FD} {ns : List Tri} {n : Nat} (h : Whole u c fs ns n) (hn : n ≤ 1000) (k : Tri) : ∀ g, lkp c k = some g → (∀ q ∈ g, (Lit.int .i64 q.1).wf = true) ∧ g.length ≤ 5000 := by
  intro g hg
  have m := h.me.mm k g hg
  have hb : ∀ x ∈ g.map Prod.fst, 1 ≤ x ∧ x ≤ (n : Int) := fun x hx => by
    obtain ⟨f, hf, rfl, _⟩ := (m.mem x).1 (lkp_keys.1 hx)
    exact h.bd f hf
  refine ⟨fun q hq => wf_mk (by have := hb q.1 (List.mem_map.2 ⟨q, hq, rfl⟩); omega), ?_⟩
  have h1 := nd_len (sortI_lt m.nd) (fun x hx => hb x (((List.mergeSort_perm _ _).mem_iff : x ∈ sortI (List.map Prod.fst g) ↔ _).1 hx))
  have h2 : (sortI (List.map (fun x => x.1) g)).length = g.length := by unfold sortI; rw [List.length_mergeSort]; simp
  omega
end Go.Gx.T12

/- Plain laws for the law of whole memories. -/
namespace Go.Gx.T12
open Go.Gx Go.Gx.T10 Go.Gx.T11
theorem Whole.cb {u : List (Tri × Int)} {c : SC} {fs : List FD} {ns : List Tri} {n : Nat} (h : Whole u c fs ns n) (hn : ns.length ≤ 1000) (k : Tri) : 0 ≤ cnt u k ∧ cnt u k ≤ 4611686018427387904 := by
  rw [h.tal.eq]; have := num_le ns k; omega
theorem Whole.hinv {u : List (Tri × Int)} {c : SC} {fs : List FD} {ns : List Tri} {n : Nat} (h : Whole u c fs ns n) (k : Tri) : cnt u k = 0 → lkp c k = none := fun e => (h.sync k).1 e
theorem flat_part {α : Type} {cells : α → List Value} {sz : Nat} (hc : ∀ x, (cells x).length = sz) (e : α) (l : List α) : ∀ (m i : Nat), i + m ≤ l.length → flat (fun i => at_ (cells (l.getD i e))) sz i m = ((l.drop i).take m).flatMap cells
  | 0, i, _ => by simp [flat]
  | m + 1, i, h => by
    have hi : i < l.length := by omega
    have h1 : l.drop i = l.getD i e :: l.drop (i + 1) := by
      rw [List.drop_eq_getElem_cons hi]; simp [List.getD, hi]
    rw [flat, flat_part hc e l m (i + 1) (by omega), h1, List.take_succ_cons, List.flatMap_cons, row_at _ _ (by rw [hc]; exact Nat.le_refl _), List.take_of_length_le (by rw [hc]; exact Nat.le_refl _)]
end Go.Gx.T12

/- Walks: what Go functions of this chapter come to, each as a function on plain data; no condition but those that each theorem names. Printed by a program of this work (gen.py). -/
namespace Go.Proofs.Ytdcaehepmkhciaa
open Go.Gx Go.Gx Go.Gx.T10 Go.Gx.T12 Go.Gx.T10 Go.Gx.T11

theorem c_has7 (t k : Tri)  (w : World)  :
  Calls Try.prog 31 #[kT t, kT k] w (Ret fun r w' => r = Value.bool (hasK t k) ∧ Since nX w w') := by
 refine enter (args := [_, _]) (X := nX) (G := (fun _ => none)) (l := [(0, kT t), (1, kT k)]) Try.func31 rfl Try.ntmps31 (fun _ _ h => by cases h) ⟨rfl, rfl, trivial⟩ (Nat.le_of_ble_eq_true rfl) ?_
 refine c_seq ?_
 refine c_region ?_
 refine r_box .none rfl rfl (IsRow.lit _) (fun b_1 => ?_)
 refine r_box .none rfl rfl (IsRow.lit _) (fun b_2 => ?_)
 refine r_val .none rfl (p_assign rfl) ?_
 refine r_nil ?_
 refine e_next ?_
 refine c_seq ?_
 refine c_region ?_
 refine r_val .none rfl (p_iaddr (k := 0) Try.underlying60 sz3 rfl rfl (by first | exact of_decide_eq_true rfl | omega)) ?_
 refine r_val .none rfl (p_ld (k := 0) Try.underlying3 rfl rfl rfl (by first | exact of_decide_eq_true rfl | omega) (rfl : _ = Value.int _ _)) ?_
 refine r_val .none rfl (p_eq rfl rfl) ?_
 refine r_val .none rfl (p_move rfl) ?_
 refine r_splitd (d := 8) rfl (fun h_1 => ?_) (fun h_1 => ?_)
 ·
  first
   | (exfalso; omega)
   | (
    refine r_skip rfl (.no rfl rfl) ?_
    refine r_skip rfl (.no rfl rfl) ?_
    refine r_skip rfl (.no rfl rfl) ?_
    refine r_skip rfl (.no rfl rfl) ?_
    refine r_skip rfl (.no rfl rfl) ?_
    refine r_val .none rfl (p_pick_t rfl rfl) ?_
    refine r_val .none rfl (p_move rfl) ?_
    refine r_val (.some rfl rfl) rfl (p_iaddr (k := 1) Try.underlying60 sz3 rfl rfl (by first | exact of_decide_eq_true rfl | omega)) ?_
    refine r_val (.some rfl rfl) rfl (p_ld (k := 0) Try.underlying3 rfl rfl rfl (by first | exact of_decide_eq_true rfl | omega) (rfl : _ = Value.int _ _)) ?_
    refine r_val (.some rfl rfl) rfl (p_eq rfl rfl) ?_
    refine r_val (.some rfl rfl) rfl (p_move rfl) ?_
    refine r_splitd (d := 19) rfl (fun h_2 => ?_) (fun h_2 => ?_)
    ·
     first
      | (exfalso; omega)
      | (
       refine r_skip rfl (.no rfl rfl) ?_
       refine r_skip rfl (.no rfl rfl) ?_
       refine r_skip rfl (.no rfl rfl) ?_
       refine r_skip rfl (.no rfl rfl) ?_
       refine r_skip rfl (.no rfl rfl) ?_
       refine r_val (.some rfl rfl) rfl (p_pick_t rfl rfl) ?_
       refine r_val .none rfl (p_pick_t rfl rfl) ?_
       refine r_val .none rfl (p_move rfl) ?_
       refine r_val (.some rfl rfl) rfl (p_iaddr (k := 2) Try.underlying60 sz3 rfl rfl (by first | exact of_decide_eq_true rfl | omega)) ?_
       refine r_val (.some rfl rfl) rfl (p_ld (k := 0) Try.underlying3 rfl rfl rfl (by first | exact of_decide_eq_true rfl | omega) (rfl : _ = Value.int _ _)) ?_
       refine r_val (.some rfl rfl) rfl (p_eq rfl rfl) ?_
       refine r_val (.some rfl rfl) rfl (p_move rfl) ?_
       refine r_splitd (d := 31) rfl (fun h_3 => ?_) (fun h_3 => ?_)
       ·
        first
         | (exfalso; omega)
         | (
          refine r_skip rfl (.no rfl rfl) ?_
          refine r_skip rfl (.no rfl rfl) ?_
          refine r_skip rfl (.no rfl rfl) ?_
          refine r_skip rfl (.no rfl rfl) ?_
          refine r_skip rfl (.no rfl rfl) ?_
          refine r_val (.some rfl rfl) rfl (p_pick_t rfl rfl) ?_
          refine r_val .none rfl (p_pick_t rfl rfl) ?_
          refine r_val .none rfl (p_assign rfl) ?_
          refine r_nil ?_
          refine e_next ?_
          refine c_ret ?_
          refine e_ret1 Try.results31 (.tmp rfl .nil) (fun w hm => ⟨?_, hm.since⟩)
          clear hm
          simp_all [hasK, triL, at_]
          )
       ·
        first
         | (exfalso; omega)
         | (
          refine r_val (.some rfl rfl) rfl (p_iaddr (k := 2) Try.underlying60 sz3 rfl rfl (by first | exact of_decide_eq_true rfl | omega)) ?_
          refine r_val (.some rfl rfl) rfl (p_ld (k := 0) Try.underlying3 rfl rfl rfl (by first | exact of_decide_eq_true rfl | omega) (rfl : _ = Value.int _ _)) ?_
          refine r_val (.some rfl rfl) rfl (p_iaddr (k := 2) Try.underlying60 sz3 rfl rfl (by first | exact of_decide_eq_true rfl | omega)) ?_
          refine r_val (.some rfl rfl) rfl (p_ld (k := 1) Try.underlying3 rfl rfl rfl (by first | exact of_decide_eq_true rfl | omega) (rfl : _ = Value.int _ _)) ?_
          refine r_val (.some rfl rfl) rfl (p_eq rfl rfl) ?_
          refine r_val (.some rfl rfl) rfl (p_pick_f rfl rfl) ?_
          refine r_val .none rfl (p_pick_t rfl rfl) ?_
          refine r_val .none rfl (p_assign rfl) ?_
          refine r_nil ?_
          refine e_next ?_
          refine c_ret ?_
          refine e_ret1 Try.results31 (.tmp rfl .nil) (fun w hm => ⟨?_, hm.since⟩)
          clear hm
          simp_all [hasK, triL, at_]
          )
       )
    ·
     first
      | (exfalso; omega)
      | (
       refine r_val (.some rfl rfl) rfl (p_iaddr (k := 1) Try.underlying60 sz3 rfl rfl (by first | exact of_decide_eq_true rfl | omega)) ?_
       refine r_val (.some rfl rfl) rfl (p_ld (k := 0) Try.underlying3 rfl rfl rfl (by first | exact of_decide_eq_true rfl | omega) (rfl : _ = Value.int _ _)) ?_
       refine r_val (.some rfl rfl) rfl (p_iaddr (k := 1) Try.underlying60 sz3 rfl rfl (by first | exact of_decide_eq_true rfl | omega)) ?_
       refine r_val (.some rfl rfl) rfl (p_ld (k := 1) Try.underlying3 rfl rfl rfl (by first | exact of_decide_eq_true rfl | omega) (rfl : _ = Value.int _ _)) ?_
       refine r_val (.some rfl rfl) rfl (p_eq rfl rfl) ?_
       refine r_val (.some rfl rfl) rfl (p_pick_f rfl rfl) ?_
       refine r_val .none rfl (p_pick_t rfl rfl) ?_
       refine r_val .none rfl (p_move rfl) ?_
       refine r_splitd (d := 27) rfl (fun h_4 => ?_) (fun h_4 => ?_)
       ·
        first
         | (exfalso; omega)
         | (
          refine r_val (.some rfl rfl) rfl (p_iaddr (k := 2) Try.underlying60 sz3 rfl rfl (by first | exact of_decide_eq_true rfl | omega)) ?_
          refine r_val (.some rfl rfl) rfl (p_ld (k := 0) Try.underlying3 rfl rfl rfl (by first | exact of_decide_eq_true rfl | omega) (rfl : _ = Value.int _ _)) ?_
          refine r_val (.some rfl rfl) rfl (p_eq rfl rfl) ?_
          refine r_val (.some rfl rfl) rfl (p_move rfl) ?_
          refine r_splitd (d := 31) rfl (fun h_5 => ?_) (fun h_5 => ?_)
          ·
           first
            | (exfalso; omega)
            | (
             refine r_skip rfl (.no rfl rfl) ?_
             refine r_skip rfl (.no rfl rfl) ?_
             refine r_skip rfl (.no rfl rfl) ?_
             refine r_skip rfl (.no rfl rfl) ?_
             refine r_skip rfl (.no rfl rfl) ?_
             refine r_val (.some rfl rfl) rfl (p_pick_t rfl rfl) ?_
             refine r_val .none rfl (p_pick_t rfl rfl) ?_
             refine r_val .none rfl (p_assign rfl) ?_
             refine r_nil ?_
             refine e_next ?_
             refine c_ret ?_
             refine e_ret1 Try.results31 (.tmp rfl .nil) (fun w hm => ⟨?_, hm.since⟩)
             clear hm
             simp_all [hasK, triL, at_]
             )
          ·
           first
            | (exfalso; omega)
            | (
             refine r_val (.some rfl rfl) rfl (p_iaddr (k := 2) Try.underlying60 sz3 rfl rfl (by first | exact of_decide_eq_true rfl | omega)) ?_
             refine r_val (.some rfl rfl) rfl (p_ld (k := 0) Try.underlying3 rfl rfl rfl (by first | exact of_decide_eq_true rfl | omega) (rfl : _ = Value.int _ _)) ?_
             refine r_val (.some rfl rfl) rfl (p_iaddr (k := 2) Try.underlying60 sz3 rfl rfl (by first | exact of_decide_eq_true rfl | omega)) ?_
             refine r_val (.some rfl rfl) rfl (p_ld (k := 1) Try.underlying3 rfl rfl rfl (by first | exact of_decide_eq_true rfl | omega) (rfl : _ = Value.int _ _)) ?_
             refine r_val (.some rfl rfl) rfl (p_eq rfl rfl) ?_
             refine r_val (.some rfl rfl) rfl (p_pick_f rfl rfl) ?_
             refine r_val .none rfl (p_pick_t rfl rfl) ?_
             refine r_val .none rfl (p_assign rfl) ?_
             refine r_nil ?_
             refine e_next ?_
             refine c_ret ?_
             refine e_ret1 Try.results31 (.tmp rfl .nil) (fun w hm => ⟨?_, hm.since⟩)
             clear hm
             simp_all [hasK, triL, at_]
             )
          )
       ·
        first
         | (exfalso; omega)
         | (
          refine r_skip rfl (.no rfl rfl) ?_
          refine r_skip rfl (.no rfl rfl) ?_
          refine r_skip rfl (.no rfl rfl) ?_
          refine r_skip rfl (.no rfl rfl) ?_
          refine r_skip rfl (.un rfl rfl) ?_
          refine r_skip rfl (.un rfl rfl) ?_
          refine r_skip rfl (.un rfl rfl) ?_
          refine r_skip rfl (.un rfl rfl) ?_
          refine r_skip rfl (.un rfl rfl) ?_
          refine r_skip rfl (.no rfl rfl) ?_
          refine r_val .none rfl (p_pick_f rfl rfl) ?_
          refine r_val .none rfl (p_assign rfl) ?_
          refine r_nil ?_
          refine e_next ?_
          refine c_ret ?_
          refine e_ret1 Try.results31 (.tmp rfl .nil) (fun w hm => ⟨?_, hm.since⟩)
          clear hm
          simp_all [hasK, triL, at_]
          )
       )
    )
 ·
  first
   | (exfalso; omega)
   | (
    refine r_val (.some rfl rfl) rfl (p_iaddr (k := 0) Try.underlying60 sz3 rfl rfl (by first | exact of_decide_eq_true rfl | omega)) ?_
    refine r_val (.some rfl rfl) rfl (p_ld (k := 0) Try.underlying3 rfl rfl rfl (by first | exact of_decide_eq_true rfl | omega) (rfl : _ = Value.int _ _)) ?_
    refine r_val (.some rfl rfl) rfl (p_iaddr (k := 0) Try.underlying60 sz3 rfl rfl (by first | exact of_decide_eq_true rfl | omega)) ?_
    refine r_val (.some rfl rfl) rfl (p_ld (k := 1) Try.underlying3 rfl rfl rfl (by first | exact of_decide_eq_true rfl | omega) (rfl : _ = Value.int _ _)) ?_
    refine r_val (.some rfl rfl) rfl (p_eq rfl rfl) ?_
    refine r_val .none rfl (p_pick_f rfl rfl) ?_
    refine r_val .none rfl (p_move rfl) ?_
    refine r_splitd (d := 15) rfl (fun h_6 => ?_) (fun h_6 => ?_)
    ·
     first
      | (exfalso; omega)
      | (
       refine r_val (.some rfl rfl) rfl (p_iaddr (k := 1) Try.underlying60 sz3 rfl rfl (by first | exact of_decide_eq_true rfl | omega)) ?_
       refine r_val (.some rfl rfl) rfl (p_ld (k := 0) Try.underlying3 rfl rfl rfl (by first | exact of_decide_eq_true rfl | omega) (rfl : _ = Value.int _ _)) ?_
       refine r_val (.some rfl rfl) rfl (p_eq rfl rfl) ?_
       refine r_val (.some rfl rfl) rfl (p_move rfl) ?_
       refine r_splitd (d := 19) rfl (fun h_7 => ?_) (fun h_7 => ?_)
       ·
        first
         | (exfalso; omega)
         | (
          refine r_skip rfl (.no rfl rfl) ?_
          refine r_skip rfl (.no rfl rfl) ?_
          refine r_skip rfl (.no rfl rfl) ?_
          refine r_skip rfl (.no rfl rfl) ?_
          refine r_skip rfl (.no rfl rfl) ?_
          refine r_val (.some rfl rfl) rfl (p_pick_t rfl rfl) ?_
          refine r_val .none rfl (p_pick_t rfl rfl) ?_
          refine r_val .none rfl (p_move rfl) ?_
          refine r_val (.some rfl rfl) rfl (p_iaddr (k := 2) Try.underlying60 sz3 rfl rfl (by first | exact of_decide_eq_true rfl | omega)) ?_
          refine r_val (.some rfl rfl) rfl (p_ld (k := 0) Try.underlying3 rfl rfl rfl (by first | exact of_decide_eq_true rfl | omega) (rfl : _ = Value.int _ _)) ?_
          refine r_val (.some rfl rfl) rfl (p_eq rfl rfl) ?_
          refine r_val (.some rfl rfl) rfl (p_move rfl) ?_
          refine r_splitd (d := 31) rfl (fun h_8 => ?_) (fun h_8 => ?_)
          ·
           first
            | (exfalso; omega)
            | (
             refine r_skip rfl (.no rfl rfl) ?_
             refine r_skip rfl (.no rfl rfl) ?_
             refine r_skip rfl (.no rfl rfl) ?_
             refine r_skip rfl (.no rfl rfl) ?_
             refine r_skip rfl (.no rfl rfl) ?_
             refine r_val (.some rfl rfl) rfl (p_pick_t rfl rfl) ?_
             refine r_val .none rfl (p_pick_t rfl rfl) ?_
             refine r_val .none rfl (p_assign rfl) ?_
             refine r_nil ?_
             refine e_next ?_
             refine c_ret ?_
             refine e_ret1 Try.results31 (.tmp rfl .nil) (fun w hm => ⟨?_, hm.since⟩)
             clear hm
             simp_all [hasK, triL, at_]
             )
          ·
           first
            | (exfalso; omega)
            | (
             refine r_val (.some rfl rfl) rfl (p_iaddr (k := 2) Try.underlying60 sz3 rfl rfl (by first | exact of_decide_eq_true rfl | omega)) ?_
             refine r_val (.some rfl rfl) rfl (p_ld (k := 0) Try.underlying3 rfl rfl rfl (by first | exact of_decide_eq_true rfl | omega) (rfl : _ = Value.int _ _)) ?_
             refine r_val (.some rfl rfl) rfl (p_iaddr (k := 2) Try.underlying60 sz3 rfl rfl (by first | exact of_decide_eq_true rfl | omega)) ?_
             refine r_val (.some rfl rfl) rfl (p_ld (k := 1) Try.underlying3 rfl rfl rfl (by first | exact of_decide_eq_true rfl | omega) (rfl : _ = Value.int _ _)) ?_
             refine r_val (.some rfl rfl) rfl (p_eq rfl rfl) ?_
             refine r_val (.some rfl rfl) rfl (p_pick_f rfl rfl) ?_
             refine r_val .none rfl (p_pick_t rfl rfl) ?_
             refine r_val .none rfl (p_assign rfl) ?_
             refine r_nil ?_
             refine e_next ?_
             refine c_ret ?_
             refine e_ret1 Try.results31 (.tmp rfl .nil) (fun w hm => ⟨?_, hm.since⟩)
             clear hm
             simp_all [hasK, triL, at_]
             )
          )
       ·
        first
         | (exfalso; omega)
         | (
          refine r_val (.some rfl rfl) rfl (p_iaddr (k := 1) Try.underlying60 sz3 rfl rfl (by first | exact of_decide_eq_true rfl | omega)) ?_
          refine r_val (.some rfl rfl) rfl (p_ld (k := 0) Try.underlying3 rfl rfl rfl (by first | exact of_decide_eq_true rfl | omega) (rfl : _ = Value.int _ _)) ?_
          refine r_val (.some rfl rfl) rfl (p_iaddr (k := 1) Try.underlying60 sz3 rfl rfl (by first | exact of_decide_eq_true rfl | omega)) ?_
          refine r_val (.some rfl rfl) rfl (p_ld (k := 1) Try.underlying3 rfl rfl rfl (by first | exact of_decide_eq_true rfl | omega) (rfl : _ = Value.int _ _)) ?_
          refine r_val (.some rfl rfl) rfl (p_eq rfl rfl) ?_
          refine r_val (.some rfl rfl) rfl (p_pick_f rfl rfl) ?_
          refine r_val .none rfl (p_pick_t rfl rfl) ?_
          refine r_val .none rfl (p_move rfl) ?_
          refine r_splitd (d := 27) rfl (fun h_9 => ?_) (fun h_9 => ?_)
          ·
           first
            | (exfalso; omega)
            | (
             refine r_val (.some rfl rfl) rfl (p_iaddr (k := 2) Try.underlying60 sz3 rfl rfl (by first | exact of_decide_eq_true rfl | omega)) ?_
             refine r_val (.some rfl rfl) rfl (p_ld (k := 0) Try.underlying3 rfl rfl rfl (by first | exact of_decide_eq_true rfl | omega) (rfl : _ = Value.int _ _)) ?_
             refine r_val (.some rfl rfl) rfl (p_eq rfl rfl) ?_
             refine r_val (.some rfl rfl) rfl (p_move rfl) ?_
             refine r_splitd (d := 31) rfl (fun h_10 => ?_) (fun h_10 => ?_)
             ·
              first
               | (exfalso; omega)
               | (
                refine r_skip rfl (.no rfl rfl) ?_
                refine r_skip rfl (.no rfl rfl) ?_
                refine r_skip rfl (.no rfl rfl) ?_
                refine r_skip rfl (.no rfl rfl) ?_
                refine r_skip rfl (.no rfl rfl) ?_
                refine r_val (.some rfl rfl) rfl (p_pick_t rfl rfl) ?_
                refine r_val .none rfl (p_pick_t rfl rfl) ?_
                refine r_val .none rfl (p_assign rfl) ?_
                refine r_nil ?_
                refine e_next ?_
                refine c_ret ?_
                refine e_ret1 Try.results31 (.tmp rfl .nil) (fun w hm => ⟨?_, hm.since⟩)
                clear hm
                simp_all [hasK, triL, at_]
                )
             ·
              first
               | (exfalso; omega)
               | (
                refine r_val (.some rfl rfl) rfl (p_iaddr (k := 2) Try.underlying60 sz3 rfl rfl (by first | exact of_decide_eq_true rfl | omega)) ?_
                refine r_val (.some rfl rfl) rfl (p_ld (k := 0) Try.underlying3 rfl rfl rfl (by first | exact of_decide_eq_true rfl | omega) (rfl : _ = Value.int _ _)) ?_
                refine r_val (.some rfl rfl) rfl (p_iaddr (k := 2) Try.underlying60 sz3 rfl rfl (by first | exact of_decide_eq_true rfl | omega)) ?_
                refine r_val (.some rfl rfl) rfl (p_ld (k := 1) Try.underlying3 rfl rfl rfl (by first | exact of_decide_eq_true rfl | omega) (rfl : _ = Value.int _ _)) ?_
                refine r_val (.some rfl rfl) rfl (p_eq rfl rfl) ?_
                refine r_val (.some rfl rfl) rfl (p_pick_f rfl rfl) ?_
                refine r_val .none rfl (p_pick_t rfl rfl) ?_
                refine r_val .none rfl (p_assign rfl) ?_
                refine r_nil ?_
                refine e_next ?_
                refine c_ret ?_
                refine e_ret1 Try.results31 (.tmp rfl .nil) (fun w hm => ⟨?_, hm.since⟩)
                clear hm
                simp_all [hasK, triL, at_]
                )
             )
          ·
           first
            | (exfalso; omega)
            | (
             refine r_skip rfl (.no rfl rfl) ?_
             refine r_skip rfl (.no rfl rfl) ?_
             refine r_skip rfl (.no rfl rfl) ?_
             refine r_skip rfl (.no rfl rfl) ?_
             refine r_skip rfl (.un rfl rfl) ?_
             refine r_skip rfl (.un rfl rfl) ?_
             refine r_skip rfl (.un rfl rfl) ?_
             refine r_skip rfl (.un rfl rfl) ?_
             refine r_skip rfl (.un rfl rfl) ?_
             refine r_skip rfl (.no rfl rfl) ?_
             refine r_val .none rfl (p_pick_f rfl rfl) ?_
             refine r_val .none rfl (p_assign rfl) ?_
             refine r_nil ?_
             refine e_next ?_
             refine c_ret ?_
             refine e_ret1 Try.results31 (.tmp rfl .nil) (fun w hm => ⟨?_, hm.since⟩)
             clear hm
             simp_all [hasK, triL, at_]
             )
          )
       )
    ·
     first
      | (exfalso; omega)
      | (
       refine r_skip rfl (.no rfl rfl) ?_
       refine r_skip rfl (.no rfl rfl) ?_
       refine r_skip rfl (.no rfl rfl) ?_
       refine r_skip rfl (.no rfl rfl) ?_
       refine r_skip rfl (.un rfl rfl) ?_
       refine r_skip rfl (.un rfl rfl) ?_
       refine r_skip rfl (.un rfl rfl) ?_
       refine r_skip rfl (.un rfl rfl) ?_
       refine r_skip rfl (.un rfl rfl) ?_
       refine r_skip rfl (.no rfl rfl) ?_
       refine r_val .none rfl (p_pick_f rfl rfl) ?_
       refine r_val .none rfl (p_move rfl) ?_
       refine r_skip rfl (.no rfl rfl) ?_
       refine r_skip rfl (.no rfl rfl) ?_
       refine r_skip rfl (.no rfl rfl) ?_
       refine r_skip rfl (.no rfl rfl) ?_
       refine r_skip rfl (.un rfl rfl) ?_
       refine r_skip rfl (.un rfl rfl) ?_
       refine r_skip rfl (.un rfl rfl) ?_
       refine r_skip rfl (.un rfl rfl) ?_
       refine r_skip rfl (.un rfl rfl) ?_
       refine r_skip rfl (.no rfl rfl) ?_
       refine r_val .none rfl (p_pick_f rfl rfl) ?_
       refine r_val .none rfl (p_assign rfl) ?_
       refine r_nil ?_
       refine e_next ?_
       refine c_ret ?_
       refine e_ret1 Try.results31 (.tmp rfl .nil) (fun w hm => ⟨?_, hm.since⟩)
       clear hm
       simp_all [hasK, triL, at_]
       )
    )
end Go.Proofs.Ytdcaehepmkhciaa

/- Walks: what Go functions of this chapter come to, each as a function on plain data; no condition but those that each theorem names. Printed by a program of this work (gen.py). -/
namespace Go.Proofs.Ytdcaehepmkhciaa
open Go.Gx Go.Gx Go.Gx.T10 Go.Gx.T12 Go.Gx.T10 Go.Gx.T11
theorem cl25 : Callable Try.prog 25 := callable Try.func25 (by kernel_rfl) rfl
theorem cl26 : Callable Try.prog 26 := callable Try.func26 (by kernel_rfl) rfl
theorem cl27 : Callable Try.prog 27 := callable Try.func27 (by kernel_rfl) rfl
theorem cl30 : Callable Try.prog 30 := callable Try.func30 (by kernel_rfl) rfl
theorem cl31 : Callable Try.prog 31 := callable Try.func31 (by kernel_rfl) rfl
theorem cl32 : Callable Try.prog 32 := callable Try.func32 (by kernel_rfl) rfl
theorem bs3_10i2 (a0 : IntKind) (a1 : Int) : Instr.fill (fun i => some (i * 1, 1)) ((Array.range (1 * 1)).map ((Value.int .i64 0).cells[· % (Value.int .i64 0).cells.size]!)) [(0, Value.int a0 a1)] = some #[Value.int a0 a1] := by
 kernel_rfl
end Go.Proofs.Ytdcaehepmkhciaa

/- Trees of tokens in memory: a map that leads to tokens, and two maps of maps. Generic in the program and in what a place is. -/
namespace Go.Gx
open Go.RowKit
/-! ### what is seen by a call while it is another's own -/
theorem with_seen {P : Program} {f : FuncId} {vs : Array Value} {H A : Asrt} {B : Value → Asrt} {R : Value → Prop} {S : Ghost → Prop} {G : Ghost} {w : World} {F : Nat → Prop}
    (hfr : ∀ F1, Mem F1 w G w [H] → ∃ G', GNew w F1 G G' ∧ S G' ∧ Has G' w)
    (hc : ∀ (G' : Ghost) (F' : Nat → Prop), GLe G G' → S G' → Has G' w → A.holds w F' → (∀ b, F' b → G' b = none) → Calls P f vs w (Ret fun r w' => R r ∧ Kept (B r) F' w w'))
    (hG : Has G w) (hA : (starL [H, A]).holds w F) (hF : ∀ b, F b → G b = none) : Calls P f vs w (Ret fun r w' => R r ∧ Kept (starL [H, B r]) F w w') := by
  obtain ⟨F1, F2, hrow, ⟨FA, F0, hAA, hnil, _, h2⟩, hdis, h1⟩ := hA
  have hM : Mem F1 w G w [H] := ⟨Since.refl _ _, hG, F1, hrow, fun b hb => ⟨.inr hb, hF b ((h1 b).2 (.inl hb))⟩, trivial⟩
  obtain ⟨G', hn, hs, hM2⟩ := hfr F1 hM
  have hFA : ∀ b, FA b → F2 b := fun b hb => (h2 b).2 (.inl hb)
  have hnone : ∀ b, FA b → G' b = none := fun b hb => by
    cases e : G' b with
    | none => rfl
    | some o =>
      rcases hn.new b (hF b ((h1 b).2 (.inr (hFA b hb)))) (by rw [e]; simp) with h | h
      · have := A.dom hAA hb; omega
      · exact absurd (hFA b hb) (hdis b h)
  refine (hc G' FA hn.le hs hM2 hAA hnone).mono (fun e w' hR => ?_)
  cases e with
  | returned r =>
    obtain ⟨hr, hsn, F', hB, hF'⟩ := hR
    refine ⟨hr, ⟨hsn.os, hsn.tape, hsn.output, hsn.size, fun k hk hn2 => hsn.block k hk (fun hfa => hn2 ((h1 k).2 (.inr (hFA k hfa))))⟩, fun b => F1 b ∨ F' b, ⟨F1, F', ?_, ⟨F', fun _ => False, hB, ⟨trivial, fun _ h => h⟩, fun _ _ h => h, fun b => ⟨.inl, fun h => h.elim id False.elim⟩⟩, fun b hb hb2 => ?_, fun b => Iff.rfl⟩, fun b hb => ?_⟩
    · exact Asrt.frame _ hrow (fun b hb => hsn.block b (Asrt.dom _ hrow hb) (fun hfa => hdis b hb (hFA b hfa)))
    · rcases hF' b hb2 with h | h
      · exact hdis b hb (hFA b h)
      · have := Asrt.dom _ hrow hb; omega
    · rcases hb with hb | hb
      · exact .inl ((h1 b).2 (.inl hb))
      · rcases hF' b hb with h | h
        · exact .inl ((h1 b).2 (.inr (hFA b h)))
        · exact .inr h
  | panicked c => exact hR.elim
  | outgrown => exact hR.elim
theorem star_tt (A : Asrt) : (star A (pureA True)).Eqv A := fun w F => by
  constructor
  · rintro ⟨F1, F2, h1, ⟨_, h2⟩, h3, h4⟩
    have e : F = F1 := by funext b; exact propext ⟨fun h => ((h4 b).1 h).elim id (fun h => (h2 b h).elim), fun h => (h4 b).2 (.inl h)⟩
    rw [e]; exact h1
  · intro h
    exact ⟨F, fun _ => False, h, ⟨trivial, fun _ h => h⟩, fun _ _ h => h, fun b => ⟨.inl, fun h => h.elim id False.elim⟩⟩
theorem starL_two {A B : Asrt} : (starL [A, B]).Eqv (star A B) := star_congr .rfl (star_tt B)
theorem Kept.imp {A B : Asrt} {F : Nat → Prop} {w w' : World} (h : Kept A F w w') (hi : ∀ w F, A.holds w F → B.holds w F) : Kept B F w w' :=
  ⟨h.1, by obtain ⟨F', h1, h2⟩ := h.2; exact ⟨F', hi _ _ h1, h2⟩⟩
theorem star_flip {A B : Asrt} : (starL [A, B]).Eqv (starL [B, A]) := starL_two.trans ((star_comm A B).trans starL_two.symm)
/-! ### tokens -/
structure Tk (α : Type) where
  pla : α
  par : Int
  fac : Int
  kids : List Int
abbrev TB (α : Type) := Nat × Value × Tk α
def veB {α : Type} (v : TB α) : Value := .pointer (some ⟨v.1, 0, none⟩)
def tkC {α : Type} (ke : α → Value) (v : TB α) : List Value := [ke v.2.2.pla, .int .i64 v.2.2.par, .int .i64 v.2.2.fac, v.2.1]
def tkA {α : Type} (T E : TypeId) (ke : α → Value) (v : TB α) : Asrt := starL [box v.1 4 T (at_ (tkC ke v)), rowA v.2.1 E 1 v.2.2.kids.length (v.2.2.kids.flatMap cI)]
def FT {α : Type} (T E : TypeId) (ke : α → Value) (p : Int × TB α) : Asrt := tkA T E ke p.2
def TokAt {α : Type} (G : Ghost) (ke : α → Value) (v : TB α) : Prop := RowAt G v.1 0 4 (at_ (tkC ke v)) ∧ SlL G v.2.1 1 cI (0 : Int) v.2.2.kids
theorem TokAt.mono {α : Type} {G G' : Ghost} {ke : α → Value} {v : TB α} (h : TokAt G ke v) (hle : GLe G G') : TokAt G' ke v := ⟨h.1.mono hle, h.2.mono hle⟩
section
variable {P : Program} {ops : Array Oper} {Q : Exit → Act → World → Prop} {N : Nat} {X : Nat → Prop} {w0 w : World} {G : Ghost} {fr : List (Nat × Value)} {L : List Asrt} {rest : List Oper} {c : Code} {e : Exit}
theorem Mem.freezeX {k n b E : Nat} {f : Nat → Value} (hm : Mem X w0 G w L) (hL : L[k]? = some (box b n E f)) : ∃ G', GNew w0 X G G' ∧ RowAt G' b 0 n f ∧ Mem X w0 G' w (L.eraseIdx k) := by
  obtain ⟨G', h1, h2, h3⟩ := hm.freezeB (m := 1) (sz := n) hL (by omega) (by omega)
  obtain ⟨_, _, e, _, h4⟩ := h2
  obtain ⟨b', o, e2, h5⟩ := h4 (by omega)
  simp only [Value.slice.injEq] at e
  obtain ⟨rfl, _⟩ := e
  simp only [Option.some.injEq, Addr.mk.injEq] at e2
  obtain ⟨rfl, rfl, _⟩ := e2
  have h6 := h5 0 (by omega)
  simp only [Nat.zero_mul, Nat.add_zero, Nat.zero_add] at h6
  exact ⟨G', h1, h6, h3⟩
variable {α : Type} {T E : TypeId} {ke : α → Value}
def mdels {κ ν : Type} [DecidableEq κ] (l : List (κ × ν)) (ks : List κ) : List (κ × ν) := ks.foldl mdel l
end
/-! ### maps of maps -/
def nestA {κ : Type} (ke : κ → Value) (m : Nat) (c : List (κ × List (Int × Int))) : Asrt := exA fun l : List (κ × NM) => andA (c = eraN l) (starL [mapA m ke veN l, hoard FN l])
def nput {κ : Type} [DecidableEq κ] (c : List (κ × List (Int × Int))) (k : κ) (id : Int) : List (κ × List (Int × Int)) := mput c k (mput ((lkp c k).getD []) id 1)
def ndrop {κ : Type} [DecidableEq κ] (c : List (κ × List (Int × Int))) (k : κ) (id : Int) : List (κ × List (Int × Int)) :=
  if (mdel ((lkp c k).getD []) id).length = 0 then mdel c k else mput c k (mdel ((lkp c k).getD []) id)
/-! ### the tree -/
structure TS (τ α : Type) where
  toks : List (Int × τ)
  pl : List (α × List (Int × Int))
  fc : List (Int × List (Int × Int))
  last : Int
def eraT {α : Type} (l : List (Int × TB α)) : List (Int × Tk α) := l.map fun p => (p.1, p.2.2.2)
section
variable {α : Type} (T TT E : TypeId) (ke : α → Value) (p : Nat)
def treeC {τ : Type} (s : TS τ α) (z : Nat × Nat × Nat) : List Value := [.map (some z.1), .map (some z.2.1), .map (some z.2.2), .int .i64 s.last]
def treeL (s : TS (TB α) α) (z : Nat × Nat × Nat) : List Asrt := [box p 4 T (at_ (treeC s z)), mapA z.1 kI veB s.toks, nestA ke z.2.1 s.pl, nestA kI z.2.2 s.fc]
/-- All but the tokens. -/
def treeR (s : TS (TB α) α) : Asrt := exA fun z : Nat × Nat × Nat => starL (treeL T ke p s z)
def treeE (s : TS (Tk α) α) : Asrt := exA fun l : List (Int × TB α) => andA (s.toks = eraT l) (starL [treeR T ke p ⟨l, s.pl, s.fc, s.last⟩, hoard (FT TT E ke) l])
end
section
variable {α : Type} {T TT E : TypeId} {ke : α → Value} {p : Nat}
variable {P : Program} {ops : Array Oper} {Q : Exit → Act → World → Prop} {N : Nat} {X : Nat → Prop} {w0 w : World} {G : Ghost} {fr : List (Nat × Value)} {L : List Asrt} {rest : List Oper} {c : Code} {e : Exit}
end
end Go.Gx

/- Trees of tokens in memory: looking one up, a row turned about, maps of maps opened and shut. Generic in the program. -/
namespace Go.Gx
open Go.RowKit Go.Sort Go.Lib
section
variable {κ ν : Type} [DecidableEq κ] {P : Program} {K : TypeId} {ke : κ → Value} {ve : ν → Value} {N : Nat} {X : Nat → Prop} {w0 : World} {G : Ghost} {l : List (Nat × Value)} {L : List Asrt}
variable {d i m : Nat} {ty : TypeId} {pos : String} {after : Array Edge} {gd : Option (Nat × Bool)} {x y : Operand} {T E : TypeId} {mv : List (κ × ν)} {k : κ} {zv : Value}
end
section
variable {κ : Type} {ke : κ → Value} {m : Nat} {c0 : List (κ × List (Int × Int))} {l : List (κ × NM)}
variable {P : Program} {ops : Array Oper} {Q : Exit → Act → World → Prop} {N : Nat} {X : Nat → Prop} {w0 w : World} {G : Ghost} {fr : List (Nat × Value)} {L : List Asrt} {rest : List Oper} {c : Code} {e : Exit}
end
section
variable {P : Program} {ops : Array Oper} {Q : Exit → Act → World → Prop} {N : Nat} {X : Nat → Prop} {w0 : World} {G : Ghost} {l : List (Nat × Value)} {L : List Asrt} {rest : List Oper} {d k : Nat} {ty : TypeId} {pos : String} {after : Array Edge} {gd : Option (Nat × Bool)}
end
/-! ### a row of the call's own, turned about -/
def Rev1C (P : Program) {α : Type} [Inhabited α] (f : FuncId) (enc : α → Value) : Prop := ∀ (blk cap : Nat) (zs : List α) (w : World), Holds enc w blk 0 zs.toArray → zs.length ≤ 9223372036854775807 →
  Calls P f #[.slice (some ⟨blk, 0, none⟩) zs.length cap] w fun e w' => e = .returned (.tuple #[]) ∧ ∃ n, w' = putRow enc (Sort.ahead w n) blk 0 zs.reverse.toArray
def Rev1N (P : Program) (f : FuncId) : Prop := ∀ (p : Option Addr) (cap : Nat) (w : World), Calls P f #[.slice p 0 cap] w fun e w' => e = .returned (.tuple #[]) ∧ w' = w
section
variable {α : Type} [Inhabited α] {enc : α → Value}
variable {P : Program} {ops : Array Oper} {Q : Exit → Act → World → Prop} {N : Nat} {X : Nat → Prop} {w0 : World} {G : Ghost} {l : List (Nat × Value)} {L : List Asrt}
variable {rest : List Oper} {d k n : Nat} {ty : TypeId} {pos : String} {after : Array Edge} {gd : Option (Nat × Bool)} {v : Value} {E : TypeId} {zs : List α} {f g : FuncId} {xs : List Operand} {ats : Array TypeId}
end
section
variable {α : Type}
end
section
variable {α : Type} {T TT E : TypeId} {ke : α → Value} {p : Nat}
variable {P : Program} {ops : Array Oper} {Q : Exit → Act → World → Prop} {N : Nat} {X : Nat → Prop} {w0 w : World} {G : Ghost} {fr : List (Nat × Value)} {L : List Asrt} {rest : List Oper} {c : Code} {e : Exit}
variable {l : List (Int × TB α)} {k : Int} {u v : TB α}
end
end Go.Gx

/-
  GX: an object that is a box with a row of elements (a list behind a pointer): it is frozen for calls that only read it. Generic in the program.
-/
namespace Go.Gx
open Go.RowKit
/-! ### a cut: what stands behind a piece of code is shown once, for all the states in which the piece may end -/
theorem c_cutE {P : Program} {Q : Exit → Act → World → Prop} {N : Nat} {X : Nat → Prop} {w0 : World} {G : Ghost} {l : List (Nat × Value)} {L : List Asrt} {σ : Type} (S : σ → List (Nat × Value)) (A : σ → List Asrt) (B : σ → Ghost) (Φ : σ → Prop) {x y : Code}
    (hy : ∀ s, Φ s → CRuns P y Q N X w0 (B s) (S s) (A s))
    (hx : CRuns P x (Exit.then (fun a w => ∃ s', (Φ s' ∧ True) ∧ St N X w0 (B s') (S s') (A s') a w) Q) N X w0 G l L) : CRuns P x (Exit.then (y.wp P Q) Q) N X w0 G l L := by
  intro a w hS b k cs
  obtain ⟨e, a', w', hq, harr⟩ := hx a w hS b k cs
  refine ⟨e, a', w', ?_, harr⟩
  cases e with
  | normal => obtain ⟨s', ⟨hΦ, _⟩, hst⟩ := hq; exact hy s' hΦ a' w' hst
  | exit id => exact hq
  | goto l => exact hq
  | ret => exact hq
  | panic ch => exact hq
  | outgrown => exact hq
def robv {α : Type} (T E : TypeId) (sz : Nat) (cells : α → List Value) (b : Nat) (v : Value) (l : List α) : Asrt := starL [box b 1 T (at_ [v]), rowA v E sz l.length (l.flatMap cells)]
def robj {α : Type} (T E : TypeId) (sz : Nat) (cells : α → List Value) (b : Nat) (l : List α) : Asrt := exA fun v : Value => starL [box b 1 T (at_ [v]), rowA v E sz l.length (l.flatMap cells)]
section
variable {P : Program} {f : FuncId} {vs : Array Value} {α : Type} {T E : TypeId} {sz : Nat} {cells : α → List Value} {b : Nat} {l : List α} {G : Ghost} {w : World} {F : Nat → Prop}
theorem robj_freeze (e : α) (hc : ∀ x, (cells x).length = sz) {F1 : Nat → Prop} (hM : Mem F1 w G w [robj T E sz cells b l]) : ∃ G', GNew w F1 G G' ∧ (∃ lv, RowAt G' b 0 1 (at_ [lv]) ∧ SlL G' lv sz cells e l) ∧ Has G' w := by
  obtain ⟨v, hv⟩ := hM.unex
  obtain ⟨G1, n1, r1, h1⟩ := hv.unpack.freezeX (k := 0) rfl
  obtain ⟨G2, n2, r2, h2⟩ := h1.freeze (k := 0) rfl
  exact ⟨G2, n1.trans n2, ⟨v, r1.mono n2.le, SlL.of (cells := cells) e hc rfl r2⟩, h2.has⟩
theorem pure_inR {A : Asrt} {w : World} {F : Nat → Prop} (h : A.holds w F) : (starL [A, pureA True]).holds w F := (starL_two w F).2 ((star_tt A w F).2 h)
/-- A call that reads it. -/
theorem robj_see (e : α) (h0 : ∀ x, (cells x).length = sz) {R : Value → Prop} (hc : ∀ (G' : Ghost) (lv : Value), GLe G G' → RowAt G' b 0 1 (at_ [lv]) → SlL G' lv sz cells e l → Has G' w → Calls P f vs w (Ret fun r w' => R r ∧ Since nX w w'))
    (hG : Has G w) (hA : (robj T E sz cells b l).holds w F) (hF : ∀ b, F b → G b = none) : Calls P f vs w (Ret fun r w' => R r ∧ Kept (robj T E sz cells b l) F w w') := by
  refine (with_seen (H := robj T E sz cells b l) (A := pureA True) (B := fun _ => pureA True) (R := R) (S := fun G' => ∃ lv, RowAt G' b 0 1 (at_ [lv]) ∧ SlL G' lv sz cells e l) (fun F1 hM => robj_freeze e h0 hM) (fun G' F' hle hS hG' hA' _ => ?_) hG (pure_inR hA) hF).mono (fun e w' hR => ?_)
  · obtain ⟨lv, h1, h2⟩ := hS
    refine (hc G' lv hle h1 h2 hG').mono (fun e w' hR => ?_)
    cases e with
    | returned r => exact ⟨hR.1, ⟨hR.2.os, hR.2.tape, hR.2.output, hR.2.size, fun k hk _ => hR.2.block k hk id⟩, fun _ => False, ⟨trivial, fun _ h => h⟩, fun _ h => h.elim⟩
    | panicked c => exact hR.elim
    | outgrown => exact hR.elim
  · cases e with
    | returned r => exact ⟨hR.1, hR.2.imp (fun w F h => (star_tt _ w F).1 ((starL_two w F).1 h))⟩
    | panicked c => exact hR.elim
    | outgrown => exact hR.elim
/-- A call that reads it, and hands back a row of its own. -/
theorem robj_seeR (e : α) (h0 : ∀ x, (cells x).length = sz) {Z : Value → Asrt} (hc : ∀ (G' : Ghost) (lv : Value), GLe G G' → RowAt G' b 0 1 (at_ [lv]) → SlL G' lv sz cells e l → Has G' w → Calls P f vs w (Ret fun r w' => Since nX w w' ∧ ∃ F', (Z r).holds w' F' ∧ ∀ b, F' b → w.heap.size ≤ b))
    (hG : Has G w) (hA : (robj T E sz cells b l).holds w F) (hF : ∀ b, F b → G b = none) : Calls P f vs w (Ret fun r w' => Kept (starL [Z r, robj T E sz cells b l]) F w w') := by
  refine (with_seen (H := robj T E sz cells b l) (A := pureA True) (B := Z) (R := fun _ => True) (S := fun G' => ∃ lv, RowAt G' b 0 1 (at_ [lv]) ∧ SlL G' lv sz cells e l) (fun F1 hM => robj_freeze e h0 hM) (fun G' F' hle hS hG' hA' _ => ?_) hG (pure_inR hA) hF).mono (fun e w' hR => ?_)
  · obtain ⟨lv, h1, h2⟩ := hS
    refine (hc G' lv hle h1 h2 hG').mono (fun e w' hR => ?_)
    cases e with
    | returned r => exact ⟨trivial, ⟨hR.1.os, hR.1.tape, hR.1.output, hR.1.size, fun k hk _ => hR.1.block k hk id⟩, hR.2.choose, hR.2.choose_spec.1, fun b hb => .inr (hR.2.choose_spec.2 b hb)⟩
    | panicked c => exact hR.elim
    | outgrown => exact hR.elim
  · cases e with
    | returned r => exact hR.2.imp (fun w F h => (star_flip w F).1 h)
    | panicked c => exact hR.elim
    | outgrown => exact hR.elim
theorem robv_freeze (e : α) (hc : ∀ x, (cells x).length = sz) {F1 : Nat → Prop} {v : Value} (hM : Mem F1 w G w [robv T E sz cells b v l]) : ∃ G', GNew w F1 G G' ∧ (∃ lv, RowAt G' b 0 1 (at_ [lv]) ∧ SlL G' lv sz cells e l) ∧ Has G' w := by
  obtain ⟨G1, n1, r1, h1⟩ := hM.unpack.freezeX (k := 0) rfl
  obtain ⟨G2, n2, r2, h2⟩ := h1.freeze (k := 0) rfl
  exact ⟨G2, n1.trans n2, ⟨v, r1.mono n2.le, SlL.of (cells := cells) e hc rfl r2⟩, h2.has⟩
/-- A call that reads it. -/
theorem robv_see (e : α) (h0 : ∀ x, (cells x).length = sz) {v : Value} {R : Value → Prop} (hc : ∀ (G' : Ghost) (lv : Value), GLe G G' → RowAt G' b 0 1 (at_ [lv]) → SlL G' lv sz cells e l → Has G' w → Calls P f vs w (Ret fun r w' => R r ∧ Since nX w w'))
    (hG : Has G w) (hA : (robv T E sz cells b v l).holds w F) (hF : ∀ b, F b → G b = none) : Calls P f vs w (Ret fun r w' => R r ∧ Kept (robv T E sz cells b v l) F w w') := by
  refine (with_seen (H := robv T E sz cells b v l) (A := pureA True) (B := fun _ => pureA True) (R := R) (S := fun G' => ∃ lv, RowAt G' b 0 1 (at_ [lv]) ∧ SlL G' lv sz cells e l) (fun F1 hM => robv_freeze e h0 hM) (fun G' F' hle hS hG' hA' _ => ?_) hG (pure_inR hA) hF).mono (fun e w' hR => ?_)
  · obtain ⟨lv, h1, h2⟩ := hS
    refine (hc G' lv hle h1 h2 hG').mono (fun e w' hR => ?_)
    cases e with
    | returned r => exact ⟨hR.1, ⟨hR.2.os, hR.2.tape, hR.2.output, hR.2.size, fun k hk _ => hR.2.block k hk id⟩, fun _ => False, ⟨trivial, fun _ h => h⟩, fun _ h => h.elim⟩
    | panicked c => exact hR.elim
    | outgrown => exact hR.elim
  · cases e with
    | returned r => exact ⟨hR.1, hR.2.imp (fun w F h => (star_tt _ w F).1 ((starL_two w F).1 h))⟩
    | panicked c => exact hR.elim
    | outgrown => exact hR.elim
/-- A call that reads it, and hands back a row of its own. -/
theorem robv_seeR (e : α) (h0 : ∀ x, (cells x).length = sz) {v : Value} {Z : Value → Asrt} (hc : ∀ (G' : Ghost) (lv : Value), GLe G G' → RowAt G' b 0 1 (at_ [lv]) → SlL G' lv sz cells e l → Has G' w → Calls P f vs w (Ret fun r w' => Since nX w w' ∧ ∃ F', (Z r).holds w' F' ∧ ∀ b, F' b → w.heap.size ≤ b))
    (hG : Has G w) (hA : (robv T E sz cells b v l).holds w F) (hF : ∀ b, F b → G b = none) : Calls P f vs w (Ret fun r w' => Kept (starL [Z r, robv T E sz cells b v l]) F w w') := by
  refine (with_seen (H := robv T E sz cells b v l) (A := pureA True) (B := Z) (R := fun _ => True) (S := fun G' => ∃ lv, RowAt G' b 0 1 (at_ [lv]) ∧ SlL G' lv sz cells e l) (fun F1 hM => robv_freeze e h0 hM) (fun G' F' hle hS hG' hA' _ => ?_) hG (pure_inR hA) hF).mono (fun e w' hR => ?_)
  · obtain ⟨lv, h1, h2⟩ := hS
    refine (hc G' lv hle h1 h2 hG').mono (fun e w' hR => ?_)
    cases e with
    | returned r => exact ⟨trivial, ⟨hR.1.os, hR.1.tape, hR.1.output, hR.1.size, fun k hk _ => hR.1.block k hk id⟩, hR.2.choose, hR.2.choose_spec.1, fun b hb => .inr (hR.2.choose_spec.2 b hb)⟩
    | panicked c => exact hR.elim
    | outgrown => exact hR.elim
  · cases e with
    | returned r => exact hR.2.imp (fun w F h => (star_flip w F).1 h)
    | panicked c => exact hR.elim
    | outgrown => exact hR.elim
theorem robj_mk {v : Value} {w : World} {F : Nat → Prop} (h : (starL [box b 1 T (at_ [v]), rowA v E sz l.length (l.flatMap cells)]).holds w F) : (robj T E sz cells b l).holds w F := ⟨v, h⟩
end
theorem cells1 {v : Value} (hv : v.oneCell' = true) : v.cells = [v].toArray := by cases v <;> first | rfl | (simp [Value.oneCell'] at hv)
theorem getD_set {α : Type} {l : List α} {j : Nat} {x d : α} (h : j < l.length) : (l.set j x).getD j d = x := by simp [List.getD, h]
end Go.Gx

/- The document's memories: a list of keys, how often each is wanted, and ids; and that it says what the store says. -/
namespace Go.Gx.T12
open Go.Gx Go.Gx.T10 Go.Gx.T11
abbrev MV := Tri × Int × Value × List Int
abbrev EM := List (Tri × (Int × List Int))
def m0 : MV := ((0, 0, 0), 0, .slice none 0 0, [])
def mC (m : MV) : List Value := [.int .i64 m.1.1, .int .i64 m.1.2.1, .int .i64 m.1.2.2, .int .i64 m.2.1, m.2.2.1]
def MOk (G : Ghost) (l : List MV) : Prop := ∀ m ∈ l, SlL G m.2.2.1 1 cI (0 : Int) m.2.2.2
theorem MOk.mono {G G' : Ghost} {l : List MV} (h : MOk G l) (hle : GLe G G') : MOk G' l := fun m hm => (h m hm).mono hle
theorem MOk.nil {G : Ghost} : MOk G [] := fun m hm => by cases hm
theorem mok_get {G : Ghost} {l : List MV} (h : MOk G l) (i : Nat) : SlL G (l.getD i m0).2.2.1 1 cI (0 : Int) (l.getD i m0).2.2.2 := by
  by_cases hi : i < l.length
  · refine h _ ?_
    rw [show l.getD i m0 = l[i] by simp [List.getD, hi]]
    exact List.getElem_mem hi
  · rw [show l.getD i m0 = m0 by simp [List.getD, hi]]
    exact SlG.nil _ _ _
def eraM (l : List MV) : EM := l.map fun m => (m.1, m.2.1, m.2.2.2)
theorem eraM_len (l : List MV) : (eraM l).length = l.length := List.length_map _
/-! ### where a memory stands -/
def fndN : List MV → Tri → Nat → Int
  | [], _, _ => -1
  | m :: t, k, i => if m.1 = k then (i : Int) else fndN t k (i + 1)
def fndI (l : List MV) (k : Tri) : Int := fndN l k 0
theorem fndN_some {k : Tri} : ∀ {l : List MV} {j i : Nat}, j < l.length → (l.getD j m0).1 = k → (∀ q, q < j → ¬ (l.getD q m0).1 = k) → fndN l k i = ((i + j : Nat) : Int)
  | [], _, _, h, _, _ => by simp at h
  | m :: t, 0, i, _, h, _ => by
    have h1 : m.1 = k := by simpa using h
    simp [fndN, h1]
  | m :: t, j + 1, i, hj, h, hn => by
    have h0 : ¬ m.1 = k := by simpa using hn 0 (by omega)
    rw [fndN, if_neg h0, fndN_some (j := j) (by simpa using hj) (by simpa using h) (fun q hq => by simpa using hn (q + 1) (by omega))]
    congr 1; omega
theorem fndN_none {k : Tri} : ∀ {l : List MV} {i : Nat}, (∀ q, q < l.length → ¬ (l.getD q m0).1 = k) → fndN l k i = -1
  | [], _, _ => rfl
  | m :: t, i, h => by
    have h0 : ¬ m.1 = k := by simpa using h 0 (by simp)
    rw [fndN, if_neg h0]
    exact fndN_none (fun q hq => by simpa using h (q + 1) (by simpa using hq))
theorem fnd_some {l : List MV} {k : Tri} {j : Nat} (h1 : j < l.length) (h2 : (l.getD j m0).1 = k) (h3 : ∀ q, q < j → ¬ (l.getD q m0).1 = k) : fndI l k = (j : Int) := by
  unfold fndI; rw [fndN_some h1 h2 h3, Nat.zero_add]
theorem fnd_none {l : List MV} {k : Tri} (h : ∀ q, q < l.length → ¬ (l.getD q m0).1 = k) : fndI l k = -1 := fndN_none h
/-- Where one stands, and what is there. -/
theorem first_at {k : Tri} : ∀ (l : List MV), (∀ q, q < l.length → ¬ (l.getD q m0).1 = k) ∨ ∃ j, j < l.length ∧ (l.getD j m0).1 = k ∧ ∀ q, q < j → ¬ (l.getD q m0).1 = k
  | [] => .inl (fun q hq => by simp at hq)
  | m :: t => by
    by_cases h : m.1 = k
    · exact .inr ⟨0, by simp, by simpa using h, fun q hq => by omega⟩
    · rcases first_at (k := k) t with h1 | ⟨j, h1, h2, h3⟩
      · refine .inl (fun q hq => ?_)
        cases q with
        | zero => simpa using h
        | succ q => simpa using h1 q (by simpa using hq)
      · refine .inr ⟨j + 1, by simpa using h1, by simpa using h2, fun q hq => ?_⟩
        cases q with
        | zero => simpa using h
        | succ q => simpa using h3 q (by omega)
theorem era_none {k : Tri} : ∀ {l : List MV}, (∀ q, q < l.length → ¬ (l.getD q m0).1 = k) → lkp (eraM l) k = none
  | [], _ => rfl
  | m :: t, h => by
    have h0 : ¬ m.1 = k := by simpa using h 0 (by simp)
    show (if m.1 = k then _ else lkp (eraM t) k) = none
    rw [if_neg h0]
    exact era_none (fun q hq => by simpa using h (q + 1) (by simpa using hq))
theorem era_some {k : Tri} : ∀ {l : List MV} {j : Nat}, j < l.length → (l.getD j m0).1 = k → (∀ q, q < j → ¬ (l.getD q m0).1 = k) → lkp (eraM l) k = some ((l.getD j m0).2.1, (l.getD j m0).2.2.2)
  | [], _, h, _, _ => by simp at h
  | m :: t, 0, _, h, _ => by
    have h1 : m.1 = k := by simpa using h
    show (if m.1 = k then _ else lkp (eraM t) k) = _
    rw [if_pos h1]; rfl
  | m :: t, j + 1, hj, h, hn => by
    have h0 : ¬ m.1 = k := by simpa using hn 0 (by omega)
    show (if m.1 = k then _ else lkp (eraM t) k) = _
    rw [if_neg h0, era_some (j := j) (by simpa using hj) (by simpa using h) (fun q hq => by simpa using hn (q + 1) (by omega))]
    simp
theorem era_set {k : Tri} {m2 : MV} (hk : m2.1 = k) : ∀ {l : List MV} {j : Nat}, j < l.length → (l.getD j m0).1 = k → (∀ q, q < j → ¬ (l.getD q m0).1 = k) → eraM (l.set j m2) = mput (eraM l) k (m2.2.1, m2.2.2.2)
  | [], _, h, _, _ => by simp at h
  | m :: t, 0, _, h, _ => by
    have h1 : m.1 = k := by simpa using h
    show _ = (if m.1 = k then _ else _)
    rw [if_pos h1, ← hk]; rfl
  | m :: t, j + 1, hj, h, hn => by
    have h0 : ¬ m.1 = k := by simpa using hn 0 (by omega)
    show _ = (if m.1 = k then _ else _)
    rw [if_neg h0, List.set_cons_succ]
    show _ :: eraM (t.set j m2) = _
    rw [era_set hk (j := j) (by simpa using hj) (by simpa using h) (fun q hq => by simpa using hn (q + 1) (by omega))]
    rfl
theorem era_cut {k : Tri} : ∀ {l : List MV} {j : Nat}, j < l.length → (l.getD j m0).1 = k → (∀ q, q < j → ¬ (l.getD q m0).1 = k) → eraM (l.take j ++ l.drop (j + 1)) = mdel (eraM l) k
  | [], _, h, _, _ => by simp at h
  | m :: t, 0, _, h, _ => by
    have h1 : m.1 = k := by simpa using h
    show _ = (if m.1 = k then _ else _)
    rw [if_pos h1]; simp [eraM]
  | m :: t, j + 1, hj, h, hn => by
    have h0 : ¬ m.1 = k := by simpa using hn 0 (by omega)
    show _ = (if m.1 = k then _ else _)
    rw [if_neg h0, List.take_succ_cons, List.drop_succ_cons, List.cons_append]
    show _ :: eraM (t.take j ++ t.drop (j + 1)) = _
    rw [era_cut (j := j) (by simpa using hj) (by simpa using h) (fun q hq => by simpa using hn (q + 1) (by omega))]
    rfl
/-- The memory with a key; nothing, if there is none. -/
def itM (l : List MV) (k : Tri) : MV := if fndI l k = -1 then m0 else l.getD (fndI l k).toNat m0
theorem itM_none {l : List MV} {k : Tri} (h : ∀ q, q < l.length → ¬ (l.getD q m0).1 = k) : itM l k = m0 := by rw [itM, fnd_none h, if_pos rfl]
theorem itM_some {l : List MV} {k : Tri} {j : Nat} (h1 : j < l.length) (h2 : (l.getD j m0).1 = k) (h3 : ∀ q, q < j → ¬ (l.getD q m0).1 = k) : itM l k = l.getD j m0 := by
  rw [itM, fnd_some h1 h2 h3, if_neg (by omega)]; simp
theorem itM_ok {G : Ghost} {l : List MV} (h : MOk G l) (k : Tri) : SlL G (itM l k).2.2.1 1 cI (0 : Int) (itM l k).2.2.2 := by
  unfold itM
  split
  · exact SlG.nil _ _ _
  · exact mok_get h _
theorem itM_era (l : List MV) (k : Tri) : ((itM l k).2.1, (itM l k).2.2.2) = (lkp (eraM l) k).getD (0, []) := by
  rcases first_at (k := k) l with h | ⟨j, h1, h2, h3⟩
  · rw [itM_none h, era_none h]; rfl
  · rw [itM_some h1 h2 h3, era_some h1 h2 h3]; rfl
theorem itM_n (l : List MV) (k : Tri) : (itM l k).2.1 = ((lkp (eraM l) k).getD (0, [])).1 := by rw [← itM_era]
theorem itM_h (l : List MV) (k : Tri) : (itM l k).2.2.2 = ((lkp (eraM l) k).getD (0, [])).2 := by rw [← itM_era]
/-! ### ids, rising -/
def insP (id : Int) (s : List Int × Bool) (x : Int) : List Int × Bool := if s.2 = false ∧ id < x then (s.1 ++ [id] ++ [x], true) else (s.1 ++ [x], s.2)
def insF (id : Int) (h : List Int) : List Int × Bool := h.foldl (insP id) ([], false)
def insS (h : List Int) (id : Int) : List Int := if (insF id h).2 = true then (insF id h).1 else (insF id h).1 ++ [id]
def insR (id : Int) : List Int → List Int
  | [] => [id]
  | x :: t => if id < x then id :: x :: t else x :: insR id t
theorem ins_done (id : Int) : ∀ (h acc : List Int), h.foldl (insP id) (acc, true) = (acc ++ h, true)
  | [], acc => by simp
  | x :: t, acc => by
    rw [List.foldl_cons, show insP id (acc, true) x = (acc ++ [x], true) by simp [insP], ins_done id t]
    simp
theorem ins_go (id : Int) : ∀ (h acc : List Int), (if (h.foldl (insP id) (acc, false)).2 = true then (h.foldl (insP id) (acc, false)).1 else (h.foldl (insP id) (acc, false)).1 ++ [id]) = acc ++ insR id h
  | [], acc => by simp [insR]
  | x :: t, acc => by
    rw [List.foldl_cons]
    by_cases e : id < x
    · rw [show insP id (acc, false) x = (acc ++ [id] ++ [x], true) by simp [insP, e], ins_done, insR, if_pos e]; simp
    · rw [show insP id (acc, false) x = (acc ++ [x], false) by simp [insP, e], ins_go id t, insR, if_neg e]; simp
theorem insS_eq (h : List Int) (id : Int) : insS h id = insR id h := by
  have := ins_go id h []
  rw [List.nil_append] at this
  exact this
theorem insF_next {h : List Int} {id : Int} {j : Nat} (hj : j < h.length) : insF id (h.take (j + 1)) = insP id (insF id (h.take j)) (h.getD j 0) := by
  unfold insF; rw [take_next (0 : Int) hj, List.foldl_append]; rfl
theorem insR_mem {id x : Int} : ∀ {h : List Int}, x ∈ insR id h ↔ x = id ∨ x ∈ h
  | [] => by simp [insR]
  | y :: t => by
    rw [insR]
    split
    · simp
    · rw [List.mem_cons, insR_mem (h := t), List.mem_cons]
      constructor
      · rintro (h | h | h)
        · exact .inr (.inl h)
        · exact .inl h
        · exact .inr (.inr h)
      · rintro (h | h | h)
        · exact .inr (.inl h)
        · exact .inl h
        · exact .inr (.inr h)
theorem insR_len {id : Int} : ∀ {h : List Int}, (insR id h).length = h.length + 1
  | [] => rfl
  | y :: t => by
    rw [insR]
    split
    · simp
    · simp [insR_len (h := t)]
theorem insR_lt {id : Int} : ∀ {h : List Int}, h.Pairwise (· < ·) → id ∉ h → (insR id h).Pairwise (· < ·)
  | [], _, _ => by simp [insR]
  | y :: t, hp, hn => by
    rw [List.pairwise_cons] at hp
    rw [insR]
    split
    · rename_i e
      rw [List.pairwise_cons]
      refine ⟨fun z hz => ?_, List.pairwise_cons.2 hp⟩
      rcases List.mem_cons.1 hz with rfl | hz
      · exact e
      · have := hp.1 z hz; omega
    · rename_i e
      rw [List.pairwise_cons]
      refine ⟨fun z hz => ?_, insR_lt hp.2 (fun h => hn (by simp [h]))⟩
      rcases insR_mem.1 hz with rfl | hz
      · have : ¬ y = z := fun e2 => hn (by simp [e2])
        omega
      · exact hp.1 z hz
theorem insF_len (id : Int) (h : List Int) : (insF id h).1.length ≤ h.length + 1 ∧ ((insF id h).2 = false → (insF id h).1.length = h.length) := by
  have key : ∀ (h acc : List Int) (d : Bool), (h.foldl (insP id) (acc, d)).1.length ≤ acc.length + h.length + (if d = true then 0 else 1) ∧ ((h.foldl (insP id) (acc, d)).2 = false → (h.foldl (insP id) (acc, d)).1.length = acc.length + h.length) := by
    intro h
    induction h with
    | nil => intro acc d; simp
    | cons x t ih =>
      intro acc d
      rw [List.foldl_cons]
      cases d with
      | true =>
        rw [show insP id (acc, true) x = (acc ++ [x], true) by simp [insP]]
        have h1 := ih (acc ++ [x]) true
        simp only [List.length_append, List.length_cons, List.length_nil] at h1 ⊢
        exact ⟨by have := h1.1; simp at this ⊢; omega, fun e => by have := h1.2 e; omega⟩
      | false =>
        by_cases e : id < x
        · rw [show insP id (acc, false) x = (acc ++ [id] ++ [x], true) by simp [insP, e]]
          have h1 := ih (acc ++ [id] ++ [x]) true
          simp only [List.length_append, List.length_cons, List.length_nil] at h1 ⊢
          refine ⟨by have := h1.1; simp at this ⊢; omega, fun e2 => ?_⟩
          rw [ins_done] at e2; cases e2
        · rw [show insP id (acc, false) x = (acc ++ [x], false) by simp [insP, e]]
          have h1 := ih (acc ++ [x]) false
          simp only [List.length_append, List.length_cons, List.length_nil] at h1 ⊢
          exact ⟨by have := h1.1; simp at this ⊢; omega, fun e2 => by have := h1.2 e2; omega⟩
  have := key h [] false
  simpa [insF] using this
/-! ### calls -/
def rfill (k : Tri) (fs : List FD) (h : List Int) : List Int := fs.foldl (fun h f => if hasK f.2 k = true ∧ f.1 ∉ h then insS h f.1 else h) h
theorem rfill_next {k : Tri} {fs : List FD} {j : Nat} (hj : j < fs.length) (h : List Int) : rfill k (fs.take (j + 1)) h = if hasK (fs.getD j (0, zT)).2 k = true ∧ (fs.getD j (0, zT)).1 ∉ rfill k (fs.take j) h then insS (rfill k (fs.take j) h) (fs.getD j (0, zT)).1 else rfill k (fs.take j) h := by
  unfold rfill; rw [take_next (0, zT) hj, List.foldl_append]; rfl
def rWant (e : EM) (k : Tri) (fs : List FD) : Int × EM := match lkp e k with
  | some (n, h) => (n + 1, mput e k (n + 1, h))
  | none => (1, mput e k (1, rfill k fs []))
def rDrop (e : EM) (k : Tri) : (Int × Int) × EM := match lkp e k with
  | none => ((0, 16), e)
  | some (n, h) => ((n - 1, 0), if n - 1 = 0 then mdel e k else mput e k (n - 1, h))
def rPut (e : EM) (k : Tri) (id : Int) : Int × EM := match lkp e k with
  | none => (0, e)
  | some (n, h) => if id ∈ h then (0, e) else (1, mput e k (n, insS h id))
def rTake (e : EM) (k : Tri) (id : Int) : Int × EM := match lkp e k with
  | none => (0, e)
  | some (n, h) => if id ∈ h then (1, mput e k (n, h.filter fun x => !decide (x = id))) else (0, e)
def rTouched (e : EM) (t : Tri) : List Tri := (allK t).filter fun k => (lkp e k).isSome
def rDone (q : EM → Tri → Int → Int × EM) (id : Int) (ks : List Tri) (e : EM) : List Tri × EM := ks.foldl (fun s k => (if (q s.2 k id).1 = 1 then s.1 ++ [k] else s.1, (q s.2 k id).2)) ([], e)
theorem rDone_next {q : EM → Tri → Int → Int × EM} {id : Int} {ks : List Tri} {e : EM} {j : Nat} (hj : j < ks.length) : rDone q id (ks.take (j + 1)) e = (if (q (rDone q id (ks.take j) e).2 (ks.getD j (0, 0, 0)) id).1 = 1 then (rDone q id (ks.take j) e).1 ++ [ks.getD j (0, 0, 0)] else (rDone q id (ks.take j) e).1, (q (rDone q id (ks.take j) e).2 (ks.getD j (0, 0, 0)) id).2) := by
  unfold rDone; rw [take_next ((0, 0, 0) : Tri) hj, List.foldl_append]; rfl
theorem rPut_none {e : EM} {k : Tri} {id : Int} (h : lkp e k = none) : rPut e k id = (0, e) := by rw [rPut, h]
theorem rPut_in {e : EM} {k : Tri} {id n : Int} {g : List Int} (h : lkp e k = some (n, g)) (hi : id ∈ g) : rPut e k id = (0, e) := by rw [rPut, h]; exact if_pos hi
theorem rPut_new {e : EM} {k : Tri} {id n : Int} {g : List Int} (h : lkp e k = some (n, g)) (hi : ¬ id ∈ g) : rPut e k id = (1, mput e k (n, insS g id)) := by rw [rPut, h]; exact if_neg hi
theorem rTake_none {e : EM} {k : Tri} {id : Int} (h : lkp e k = none) : rTake e k id = (0, e) := by rw [rTake, h]
theorem rTake_out {e : EM} {k : Tri} {id n : Int} {g : List Int} (h : lkp e k = some (n, g)) (hi : ¬ id ∈ g) : rTake e k id = (0, e) := by rw [rTake, h]; exact if_neg hi
theorem rTake_in {e : EM} {k : Tri} {id n : Int} {g : List Int} (h : lkp e k = some (n, g)) (hi : id ∈ g) : rTake e k id = (1, mput e k (n, g.filter fun x => !decide (x = id))) := by rw [rTake, h]; exact if_pos hi
theorem rDrop_none {e : EM} {k : Tri} (h : lkp e k = none) : rDrop e k = ((0, 16), e) := by rw [rDrop, h]
theorem rDrop_last {e : EM} {k : Tri} {n : Int} {g : List Int} (h : lkp e k = some (n, g)) (hz : n - 1 = 0) : rDrop e k = ((n - 1, 0), mdel e k) := by rw [rDrop, h]; dsimp only; rw [if_pos hz]
theorem rDrop_more {e : EM} {k : Tri} {n : Int} {g : List Int} (h : lkp e k = some (n, g)) (hz : ¬ n - 1 = 0) : rDrop e k = ((n - 1, 0), mput e k (n - 1, g)) := by rw [rDrop, h]; dsimp only; rw [if_neg hz]
theorem rWant_some {e : EM} {k : Tri} {fs : List FD} {n : Int} {g : List Int} (h : lkp e k = some (n, g)) : rWant e k fs = (n + 1, mput e k (n + 1, g)) := by rw [rWant, h]
theorem rWant_none {e : EM} {k : Tri} {fs : List FD} (h : lkp e k = none) : rWant e k fs = (1, mput e k (1, rfill k fs [])) := by rw [rWant, h]
theorem mok_set {G : Ghost} {l : List MV} (h : MOk G l) {j : Nat} {m : MV} (hm : SlL G m.2.2.1 1 cI (0 : Int) m.2.2.2) : MOk G (l.set j m) := fun x hx => by
  rcases List.mem_or_eq_of_mem_set hx with h1 | rfl
  · exact h x h1
  · exact hm
theorem mok_snoc {G : Ghost} {l : List MV} (h : MOk G l) {m : MV} (hm : SlL G m.2.2.1 1 cI (0 : Int) m.2.2.2) : MOk G (l ++ [m]) := fun x hx => by
  rcases List.mem_append.1 hx with h1 | h1
  · exact h x h1
  · rw [List.mem_singleton.1 h1]; exact hm
theorem mok_cut {G : Ghost} {l : List MV} (h : MOk G l) (j : Nat) : MOk G (l.take j ++ l.drop (j + 1)) := fun x hx => by
  rcases List.mem_append.1 hx with h1 | h1
  · exact h x (List.mem_of_mem_take h1)
  · exact h x (List.mem_of_mem_drop h1)
theorem mC_one {m : MV} (h : m.2.2.1.oneCell' = true) : ∀ q, q < 5 → (at_ (mC m) q).oneCell' = true := fun q hq => by
  match q, hq with
  | 0, _ => rfl
  | 1, _ => rfl
  | 2, _ => rfl
  | 3, _ => rfl
  | 4, _ => exact h
theorem cut_set {l : List MV} {j : Nat} {m : MV} : (l.set j m).take j ++ (l.set j m).drop (j + 1) = l.take j ++ l.drop (j + 1) := by
  rw [List.take_set_of_le (Nat.le_refl _), List.drop_set_of_lt (by omega)]
theorem put_n {l : List MV} {j : Nat} (h : j < l.length) (n : Int) : putL (l.flatMap mC) (j * 5 + 3) [.int .i64 n] = (l.set j ((l.getD j m0).1, n, (l.getD j m0).2.2.1, (l.getD j m0).2.2.2)).flatMap mC := by
  induction l generalizing j with
  | nil => simp at h
  | cons x t ih =>
    cases j with
    | zero => simp [putL, mC]
    | succ j =>
      have ih2 := ih (j := j) (by simpa using h)
      rw [show (j + 1) * 5 + 3 = j * 5 + 3 + 1 + 1 + 1 + 1 + 1 by omega]
      simp only [List.set_cons_succ, List.getD_cons_succ, List.flatMap_cons]
      rw [← ih2]
      simp [putL, mC]
theorem put_h {l : List MV} {j : Nat} (h : j < l.length) (v : Value) (g : List Int) : putL (l.flatMap mC) (j * 5 + 4) [v] = (l.set j ((l.getD j m0).1, (l.getD j m0).2.1, v, g)).flatMap mC := by
  induction l generalizing j with
  | nil => simp at h
  | cons x t ih =>
    cases j with
    | zero => simp [putL, mC]
    | succ j =>
      have ih2 := ih (j := j) (by simpa using h)
      rw [show (j + 1) * 5 + 4 = j * 5 + 4 + 1 + 1 + 1 + 1 + 1 by omega]
      simp only [List.set_cons_succ, List.getD_cons_succ, List.flatMap_cons]
      rw [← ih2]
      simp [putL, mC]
theorem rowA_cutM {v : Value} {E : TypeId} {l : List MV} {k : Nat} (hk : k < l.length) (w : World) (F : Nat → Prop) (h : (rowA v E 5 (0 + k + (l.length - (k + 1))) ([] ++ flat (fun i => at_ (mC (l.getD i m0))) 5 0 k ++ flat (fun i j => at_ (mC (l.getD (k + 1 + i) m0)) j) 5 0 (l.length - (k + 1)))).holds w F) :
    (rowA v E 5 (l.take k ++ l.drop (k + 1)).length ((l.take k ++ l.drop (k + 1)).flatMap mC)).holds w F := by
  refine rowA_congr (by simp; omega) ?_ w F h
  have e1 : (fun i j => at_ (mC (l.getD (k + 1 + i) m0)) j) = fun i => at_ (mC ((l.drop (k + 1)).getD i m0)) := by
    funext i j
    simp [List.getD, List.getElem?_drop]
  have e2 : l.length - (k + 1) = (l.drop (k + 1)).length := by simp
  rw [flat_part (cells := mC) (fun _ => rfl) m0 l k 0 (by omega), List.drop_zero, e1, e2, flat_all (cells := mC) (fun _ => rfl) m0]
  rw [List.nil_append, List.flatMap_append]
end Go.Gx.T12

/- That the document's memories say what the store says, whatever is done. -/
namespace Go.Gx.T12
open Go.Gx Go.Gx.T10 Go.Gx.T11
def wf64 (n : Int) : Prop := -9223372036854775808 ≤ n ∧ n ≤ 9223372036854775807
structure AgrA (u : List (Tri × Int)) (c : SC) (e : EM) (j m : Nat) : Prop where
  und : (u.map (·.1)).Nodup
  cnd : (c.map (·.1)).Nodup
  knd : (e.map (·.1)).Nodup
  ul : u.length = e.length
  uk : ∀ k, lkp u k = (lkp e k).map (·.1)
  one : ∀ k n h, lkp e k = some (n, h) → (1 ≤ n ∧ n ≤ (j : Int)) ∧ h.Pairwise (· < ·) ∧ h.length ≤ 20 + m ∧ (∀ x ∈ h, wf64 x) ∧ ∃ g, lkp c k = some g ∧ Mm g (· ∈ h)
  out : ∀ k, lkp e k = none → lkp c k = none
  len : e.length ≤ j
section
variable {u : List (Tri × Int)} {c : SC} {e : EM} {j m : Nat}
theorem AgrA.nil : AgrA [] [] [] 0 0 := ⟨by simp, by simp, by simp, rfl, fun k => rfl, fun k n h e => by simp [lkp] at e, fun k _ => rfl, Nat.le_refl _⟩
theorem AgrA.grow (h : AgrA u c e j m) {j' m' : Nat} (hj : j ≤ j') (hm : m ≤ m') : AgrA u c e j' m' :=
  ⟨h.und, h.cnd, h.knd, h.ul, h.uk, fun k n g hk => by
    obtain ⟨h1, h2, h3, h4⟩ := h.one k n g hk
    exact ⟨⟨h1.1, by omega⟩, h2, by omega, h4⟩, h.out, by have := h.len; omega⟩
theorem AgrA.cnt (h : AgrA u c e j m) (k : Tri) : cnt u k = ((lkp e k).getD (0, [])).1 := by
  unfold T10.cnt
  rw [h.uk]
  cases lkp e k <;> rfl
theorem AgrA.cnt0 (h : AgrA u c e j m) (k : Tri) : T10.cnt u k = 0 ↔ lkp e k = none := by
  rw [h.cnt]
  cases e1 : lkp e k with
  | none => simp
  | some x => obtain ⟨n, g⟩ := x; have := (h.one k n g e1).1; simp; omega
theorem AgrA.cb (h : AgrA u c e j m) (k : Tri) : 0 ≤ T10.cnt u k ∧ T10.cnt u k ≤ (j : Int) := by
  rw [h.cnt]
  cases e1 : lkp e k with
  | none => simp
  | some x => obtain ⟨n, g⟩ := x; have := (h.one k n g e1).1; simp; omega
theorem AgrA.hinv (h : AgrA u c e j m) (k : Tri) : T10.cnt u k = 0 → lkp c k = none := fun h0 => h.out k ((h.cnt0 k).1 h0)
theorem AgrA.touch (h : AgrA u c e j m) (t : Tri) : touched u t = rTouched e t := by
  unfold touched rTouched
  refine List.filter_congr (fun k _ => ?_)
  cases e1 : lkp e k with
  | none => simp [(h.cnt0 k).2 e1]
  | some x =>
    have : ¬ T10.cnt u k = 0 := fun h0 => by rw [(h.cnt0 k).1 h0] at e1; cases e1
    simp [this]
theorem AgrA.items (h : AgrA u c e j m) (k : Tri) : itemsC c k = ((lkp e k).getD (0, [])).2 := by
  cases e1 : lkp e k with
  | none => rw [items_none (h.out k e1)]; rfl
  | some x =>
    obtain ⟨n, g0⟩ := x
    obtain ⟨_, h2, _, _, g, h5, h6⟩ := h.one k n g0 e1
    unfold itemsC
    rw [h5]
    refine ilt_unique (sortI_lt h6.nd) h2 fun z => ?_
    have hp : z ∈ sortI (List.map Prod.fst g) ↔ z ∈ List.map Prod.fst g := (List.mergeSort_perm _ _).mem_iff
    exact (hp.trans lkp_keys).trans (h6.mem z)
theorem mm_len {g : List (Int × Int)} {h : List Int} (m : Mm g (· ∈ h)) (hp : h.Pairwise (· < ·)) : g.length = h.length := by
  have h1 : sortI (g.map Prod.fst) = h := ilt_unique (sortI_lt m.nd) hp fun z => ((List.mergeSort_perm _ _).mem_iff.trans lkp_keys).trans (m.mem z)
  have h2 : (sortI (List.map Prod.fst g)).length = g.length := by unfold sortI; rw [List.length_mergeSort]; simp
  rw [← h2, h1]
theorem AgrA.wf (h : AgrA u c e j m) (hm : m ≤ 4000) (k : Tri) : ∀ g, lkp c k = some g → (∀ q ∈ g, (Lit.int .i64 q.1).wf = true) ∧ g.length ≤ 5000 := by
  intro g hg
  cases e1 : lkp e k with
  | none => rw [h.out k e1] at hg; cases hg
  | some x =>
    obtain ⟨n, g0⟩ := x
    obtain ⟨_, h2, h3, h4, g', h5, h6⟩ := h.one k n g0 e1
    rw [hg] at h5; simp only [Option.some.injEq] at h5; subst h5
    refine ⟨fun q hq => wf_mk (h4 q.1 ((h6.mem q.1).1 (lkp_keys.1 (List.mem_map.2 ⟨q, hq, rfl⟩)))), ?_⟩
    have := mm_len h6 h2
    omega
theorem rfill_mem {k : Tri} {x : Int} : ∀ {fs : List FD} {h : List Int}, x ∈ rfill k fs h ↔ x ∈ h ∨ ∃ f ∈ fs, f.1 = x ∧ hasK f.2 k = true
  | [], h => by simp [rfill]
  | f :: t, h => by
    show x ∈ rfill k t (if hasK f.2 k = true ∧ f.1 ∉ h then insS h f.1 else h) ↔ _
    rw [rfill_mem]
    by_cases e1 : hasK f.2 k = true
    · by_cases e2 : f.1 ∈ h
      · rw [if_neg (fun e3 => e3.2 e2)]
        constructor
        · rintro (h1 | ⟨f', h1, h2⟩)
          · exact .inl h1
          · exact .inr ⟨f', by simp [h1], h2⟩
        · rintro (h1 | ⟨f', h1, h2, h3⟩)
          · exact .inl h1
          · rcases List.mem_cons.1 h1 with rfl | h1
            · exact .inl (h2 ▸ e2)
            · exact .inr ⟨f', h1, h2, h3⟩
      · rw [if_pos ⟨e1, e2⟩, insS_eq, insR_mem]
        constructor
        · rintro ((rfl | h1) | ⟨f', h1, h2⟩)
          · exact .inr ⟨f, by simp, rfl, e1⟩
          · exact .inl h1
          · exact .inr ⟨f', by simp [h1], h2⟩
        · rintro (h1 | ⟨f', h1, h2, h3⟩)
          · exact .inl (.inr h1)
          · rcases List.mem_cons.1 h1 with rfl | h1
            · exact .inl (.inl h2.symm)
            · exact .inr ⟨f', h1, h2, h3⟩
    · rw [if_neg (fun e3 => e1 e3.1)]
      constructor
      · rintro (h1 | ⟨f', h1, h2⟩)
        · exact .inl h1
        · exact .inr ⟨f', by simp [h1], h2⟩
      · rintro (h1 | ⟨f', h1, h2, h3⟩)
        · exact .inl h1
        · rcases List.mem_cons.1 h1 with rfl | h1
          · exact absurd h3 e1
          · exact .inr ⟨f', h1, h2, h3⟩
theorem rfill_lt {k : Tri} : ∀ {fs : List FD} {h : List Int}, h.Pairwise (· < ·) → (rfill k fs h).Pairwise (· < ·) ∧ (rfill k fs h).length ≤ h.length + fs.length
  | [], h, hp => ⟨hp, by simp [rfill]⟩
  | f :: t, h, hp => by
    show List.Pairwise _ (rfill k t (if hasK f.2 k = true ∧ f.1 ∉ h then insS h f.1 else h)) ∧ (rfill k t (if hasK f.2 k = true ∧ f.1 ∉ h then insS h f.1 else h)).length ≤ _
    split
    · rename_i e1
      obtain ⟨h1, h2⟩ := rfill_lt (k := k) (fs := t) (show (insS h f.1).Pairwise (· < ·) by rw [insS_eq]; exact insR_lt hp e1.2)
      refine ⟨h1, Nat.le_trans h2 ?_⟩
      rw [insS_eq, insR_len]; simp; omega
    · obtain ⟨h1, h2⟩ := rfill_lt (k := k) (fs := t) hp
      exact ⟨h1, Nat.le_trans h2 (by simp)⟩
theorem rfill_len (k : Tri) (fs : List FD) : (rfill k fs []).length ≤ fs.length := by
  have := (rfill_lt (k := k) (fs := fs) (h := []) (by simp)).2
  simpa using this
/-! ### each call -/
theorem AgrA.want (h : AgrA u c e j m) (k : Tri) {fs : List FD} (hf : ∀ f ∈ fs, wf64 f.1) (hl : fs.length ≤ 20) : AgrA (tAdd u k) (wantC c k fs (T10.cnt u k)) (rWant e k fs).2 (j + 1) m ∧ T10.cnt u k + 1 = (rWant e k fs).1 := by
  cases e1 : lkp e k with
  | none =>
    have h0 := (h.cnt0 k).2 e1
    have hu0 : lkp u k = none := by rw [h.uk, e1]; rfl
    rw [rWant, e1]
    refine ⟨?_, by rw [h0]; rfl⟩
    rw [wantC, if_pos h0, tAdd, h0]
    refine ⟨mput_nodup h.und _ _, mput_nodup h.cnd _ _, mput_nodup h.knd _ _, by rw [mput_len, mput_len, hu0, e1, h.ul]; rfl, fun x => ?_, fun x n g hx => ?_, fun x hx => ?_, ?_⟩
    · rw [lkp_mput, lkp_mput, h.uk]; split <;> rfl
    · rw [lkp_mput] at hx
      by_cases hk : k = x
      · rw [if_pos hk] at hx
        simp only [Option.some.injEq, Prod.mk.injEq] at hx
        obtain ⟨rfl, rfl⟩ := hx
        obtain ⟨hp, _⟩ := rfill_lt (k := k) (fs := fs) (h := []) (by simp)
        have hfl := rfill_len k fs
        refine ⟨⟨Int.le_refl _, by omega⟩, hp, by omega, fun y hy => ?_, fillC k fs [], by rw [lkp_mput, if_pos hk], ?_⟩
        · rcases rfill_mem.1 hy with hy | ⟨f, hf1, rfl, _⟩
          · cases hy
          · exact hf f hf1
        · exact (fillC_mm k fs [] _ Mm.nil).congr (fun i => by rw [rfill_mem]; simp)
      · rw [if_neg hk] at hx
        obtain ⟨a1, a2, a3, a4, g2, a5, a6⟩ := h.one x n g hx
        exact ⟨⟨a1.1, by omega⟩, a2, a3, a4, g2, by rw [lkp_mput, if_neg hk]; exact a5, a6⟩
    · rw [lkp_mput] at hx
      split at hx
      · cases hx
      · rename_i hk
        rw [lkp_mput, if_neg hk]; exact h.out x hx
    · rw [mput_len, e1]; have := h.len; simp; omega
  | some y =>
    obtain ⟨n, g⟩ := y
    have hc : T10.cnt u k = n := by rw [h.cnt, e1]; rfl
    obtain ⟨b1, b2, b3, b4, g3, b5, b6⟩ := h.one k n g e1
    have hu0 : lkp u k = some n := by rw [h.uk, e1]; rfl
    rw [rWant, e1]
    refine ⟨?_, by rw [hc]⟩
    rw [wantC, if_neg (by omega), tAdd, hc]
    refine ⟨mput_nodup h.und _ _, h.cnd, mput_nodup h.knd _ _, by rw [mput_len, mput_len, hu0, e1, h.ul]; rfl, fun x => ?_, fun x n' g' hx => ?_, fun x hx => ?_, ?_⟩
    · rw [lkp_mput, lkp_mput, h.uk]; split <;> rfl
    · rw [lkp_mput] at hx
      by_cases hk : k = x
      · rw [if_pos hk] at hx
        simp only [Option.some.injEq, Prod.mk.injEq] at hx
        obtain ⟨rfl, rfl⟩ := hx
        subst hk
        exact ⟨⟨by omega, by omega⟩, b2, b3, b4, g3, b5, b6⟩
      · rw [if_neg hk] at hx
        obtain ⟨a1, a2⟩ := h.one x n' g' hx
        exact ⟨⟨a1.1, by omega⟩, a2⟩
    · rw [lkp_mput] at hx
      split at hx
      · cases hx
      · exact h.out x hx
    · rw [mput_len, e1]; have := h.len; simp; omega
theorem AgrA.drop (h : AgrA u c e j m) (k : Tri) : AgrA (tDrop u k) (dropC c k (T10.cnt u k)) (rDrop e k).2 j m ∧ (if T10.cnt u k = 0 then (0 : Int) else T10.cnt u k - 1) = (rDrop e k).1.1 ∧ (if T10.cnt u k = 0 then (16 : Int) else 0) = (rDrop e k).1.2 := by
  cases e1 : lkp e k with
  | none =>
    have h0 := (h.cnt0 k).2 e1
    rw [rDrop, e1, h0, drop_zero h0]
    exact ⟨h, rfl, rfl⟩
  | some y =>
    obtain ⟨n, g⟩ := y
    have hc : T10.cnt u k = n := by rw [h.cnt, e1]; rfl
    obtain ⟨b1, b2, b3, b4, g3, b5, b6⟩ := h.one k n g e1
    have hu0 : lkp u k = some n := by rw [h.uk, e1]; rfl
    rw [rDrop, e1]
    refine ⟨?_, by rw [hc, if_neg (by omega)], by rw [hc, if_neg (by omega)]⟩
    by_cases e2 : n = 1
    · rw [hc, e2, drop_one (by rw [hc]; exact e2)]
      dsimp only
      rw [if_pos (by omega), dropC, if_pos rfl]
      have hkk : ∀ x, ¬ k = x → lkp (mdel e k) x = lkp e x := fun x hx => by rw [lkp_mdel h.knd, if_neg hx]
      refine ⟨mdel_nodup h.und _, mdel_nodup h.cnd _, mdel_nodup h.knd _, by have h1 := mdel_len hu0; have h2 := mdel_len e1; have := h.ul; omega, fun x => ?_, fun x n' g' hx => ?_, fun x hx => ?_, by have h2 := mdel_len e1; have := h.len; omega⟩
      · rw [lkp_mdel h.und, lkp_mdel h.knd, h.uk]; split <;> rfl
      · rw [lkp_mdel h.knd] at hx
        split at hx
        · cases hx
        · rename_i hk
          obtain ⟨a1, a2, a3, a4, g2, a5, a6⟩ := h.one x n' g' hx
          exact ⟨a1, a2, a3, a4, g2, by rw [lkp_mdel h.cnd, if_neg hk]; exact a5, a6⟩
      · rw [lkp_mdel h.knd] at hx
        rw [lkp_mdel h.cnd]
        split at hx
        · rename_i hk; rw [if_pos hk]
        · rename_i hk; rw [if_neg hk]; exact h.out x hx
    · rw [hc, drop_more (by rw [hc]; omega) (by rw [hc]; exact e2), hc]
      dsimp only
      rw [if_neg (by omega), dropC, if_neg e2]
      refine ⟨mput_nodup h.und _ _, h.cnd, mput_nodup h.knd _ _, by rw [mput_len, mput_len, hu0, e1, h.ul]; rfl, fun x => ?_, fun x n' g' hx => ?_, fun x hx => ?_, ?_⟩
      · rw [lkp_mput, lkp_mput, h.uk]; split <;> rfl
      · rw [lkp_mput] at hx
        by_cases hk : k = x
        · rw [if_pos hk] at hx
          simp only [Option.some.injEq, Prod.mk.injEq] at hx
          obtain ⟨rfl, rfl⟩ := hx
          subst hk
          exact ⟨⟨by omega, by omega⟩, b2, b3, b4, g3, b5, b6⟩
        · rw [if_neg hk] at hx
          exact h.one x n' g' hx
      · rw [lkp_mput] at hx
        split at hx
        · cases hx
        · exact h.out x hx
      · rw [mput_len, e1]; have := h.len; simpa using this
theorem AgrA.put (h : AgrA u c e j m) (k : Tri) {id : Int} (hid : wf64 id) : AgrA u (putC c k id).2 (rPut e k id).2 j (m + 1) ∧ (if (putC c k id).1 = true then (1 : Int) else 0) = (rPut e k id).1 := by
  cases e1 : lkp e k with
  | none =>
    rw [rPut, e1, putC_none (h.out k e1)]
    exact ⟨h.grow (Nat.le_refl _) (by omega), rfl⟩
  | some y =>
    obtain ⟨n, g⟩ := y
    obtain ⟨b1, b2, b3, b4, g3, b5, b6⟩ := h.one k n g e1
    rw [rPut, e1]
    by_cases e2 : id ∈ g
    · rw [putC_in b5 ((b6.pos id).2 e2)]
      dsimp only
      rw [if_pos e2]
      exact ⟨h.grow (Nat.le_refl _) (by omega), rfl⟩
    · rw [putC_new b5 (fun h9 => e2 ((b6.pos id).1 h9))]
      dsimp only
      rw [if_neg e2]
      have hu0 : lkp u k = some n := by rw [h.uk, e1]; rfl
      refine ⟨⟨h.und, mput_nodup h.cnd _ _, mput_nodup h.knd _ _, by rw [mput_len, e1, h.ul]; rfl, fun x => ?_, fun x n' g' hx => ?_, fun x hx => ?_, ?_⟩, rfl⟩
      · rw [lkp_mput, h.uk]
        by_cases hk : k = x
        · subst hk; rw [if_pos rfl, e1]; rfl
        · rw [if_neg hk]
      · rw [lkp_mput] at hx
        by_cases hk : k = x
        · rw [if_pos hk] at hx
          simp only [Option.some.injEq, Prod.mk.injEq] at hx
          obtain ⟨rfl, rfl⟩ := hx
          refine ⟨b1, by rw [insS_eq]; exact insR_lt b2 e2, by rw [insS_eq, insR_len]; omega, fun z hz => ?_, mput g3 id 1, by rw [lkp_mput, if_pos hk], (b6.put id).congr (fun z => by rw [insS_eq, insR_mem])⟩
          rw [insS_eq, insR_mem] at hz
          rcases hz with rfl | hz
          · exact hid
          · exact b4 z hz
        · rw [if_neg hk] at hx
          obtain ⟨a1, a2, a3, a4, g2, a5, a6⟩ := h.one x n' g' hx
          exact ⟨a1, a2, by omega, a4, g2, by rw [lkp_mput, if_neg hk]; exact a5, a6⟩
      · rw [lkp_mput] at hx
        split at hx
        · cases hx
        · rename_i hk; rw [lkp_mput, if_neg hk]; exact h.out x hx
      · rw [mput_len, e1]; have := h.len; simpa using this
theorem AgrA.take (h : AgrA u c e j m) (k : Tri) (id : Int) : AgrA u (takeC c k id).2 (rTake e k id).2 j m ∧ (if (takeC c k id).1 = true then (1 : Int) else 0) = (rTake e k id).1 := by
  cases e1 : lkp e k with
  | none =>
    rw [rTake, e1, takeC_none (h.out k e1)]
    exact ⟨h, rfl⟩
  | some y =>
    obtain ⟨n, g⟩ := y
    obtain ⟨b1, b2, b3, b4, g3, b5, b6⟩ := h.one k n g e1
    rw [rTake, e1]
    by_cases e2 : id ∈ g
    · rw [takeC_in b5 (fun h9 => (b6.zero id).1 h9 e2)]
      dsimp only
      rw [if_pos e2]
      refine ⟨⟨h.und, mput_nodup h.cnd _ _, mput_nodup h.knd _ _, by rw [mput_len, e1, h.ul]; rfl, fun x => ?_, fun x n' g' hx => ?_, fun x hx => ?_, ?_⟩, rfl⟩
      · rw [lkp_mput, h.uk]
        by_cases hk : k = x
        · subst hk; rw [if_pos rfl, e1]; rfl
        · rw [if_neg hk]
      · rw [lkp_mput] at hx
        by_cases hk : k = x
        · rw [if_pos hk] at hx
          simp only [Option.some.injEq, Prod.mk.injEq] at hx
          obtain ⟨rfl, rfl⟩ := hx
          refine ⟨b1, b2.sublist List.filter_sublist, Nat.le_trans (List.length_filter_le _ _) b3, fun z hz => b4 z (List.mem_filter.1 hz).1, mdel g3 id, by rw [lkp_mput, if_pos hk], ?_⟩
          refine ⟨mdel_nodup b6.nd id, fun q hq => b6.one q ((mdel_sub g3 id).subset hq), fun z => ?_⟩
          rw [lkp_mdel b6.nd]
          have h8 := b6.mem z
          by_cases e3 : id = z
          · subst e3; simp
          · rw [if_neg e3, h8]; simp; exact fun _ e4 => e3 e4.symm
        · rw [if_neg hk] at hx
          obtain ⟨a1, a2, a3, a4, g2, a5, a6⟩ := h.one x n' g' hx
          exact ⟨a1, a2, a3, a4, g2, by rw [lkp_mput, if_neg hk]; exact a5, a6⟩
      · rw [lkp_mput] at hx
        split at hx
        · cases hx
        · rename_i hk; rw [lkp_mput, if_neg hk]; exact h.out x hx
      · rw [mput_len, e1]; have := h.len; simpa using this
    · rw [takeC_out b5 ((b6.zero id).2 e2)]
      dsimp only
      rw [if_neg e2]
      exact ⟨h, rfl⟩
/-! ### what a fact touches -/
theorem rDone_cons {q : EM → Tri → Int → Int × EM} {id : Int} : ∀ (ks : List Tri) (a : List Tri) (e : EM), ks.foldl (fun s k => (if (q s.2 k id).1 = 1 then s.1 ++ [k] else s.1, (q s.2 k id).2)) (a, e) = (a ++ (rDone q id ks e).1, (rDone q id ks e).2)
  | [], a, e => by simp [rDone]
  | k :: t, a, e => by
    rw [List.foldl_cons, rDone_cons t]
    have h2 : rDone q id (k :: t) e = ((if (q e k id).1 = 1 then [k] else []) ++ (rDone q id t (q e k id).2).1, (rDone q id t (q e k id).2).2) := by
      show t.foldl _ _ = _
      rw [rDone_cons t]; split <;> simp
    rw [h2]
    split <;> simp
theorem rDone_head {q : EM → Tri → Int → Int × EM} {id : Int} (k : Tri) (t : List Tri) (e : EM) : rDone q id (k :: t) e = ((if (q e k id).1 = 1 then [k] else []) ++ (rDone q id t (q e k id).2).1, (rDone q id t (q e k id).2).2) := by
  show t.foldl _ _ = _
  rw [rDone_cons t]; split <;> simp
theorem dels_agree {p : SC → Tri → Int → Bool × SC} {q : EM → Tri → Int → Int × EM} {id : Int} (hq : ∀ (c : SC) (e : EM) (m : Nat) (k : Tri), AgrA u c e j m → AgrA u (p c k id).2 (q e k id).2 j (m + 1) ∧ (if (p c k id).1 = true then (1 : Int) else 0) = (q e k id).1) :
    ∀ (ks : List Tri) (c : SC) (e : EM) (m : Nat), AgrA u c e j m → AgrA u (dels (fun k c => (!(p c k id).1, (p c k id).2)) ks c).2 (rDone q id ks e).2 j (m + ks.length) ∧ (dels (fun k c => (!(p c k id).1, (p c k id).2)) ks c).1 = (rDone q id ks e).1
  | [], c, e, m, h => ⟨h, rfl⟩
  | k :: t, c, e, m, h => by
    obtain ⟨h1, h2⟩ := hq c e m k h
    obtain ⟨h3, h4⟩ := dels_agree hq t _ _ _ h1
    rw [rDone_head]
    refine ⟨by rw [List.length_cons, show m + (t.length + 1) = m + 1 + t.length by omega]; exact h3, ?_⟩
    show (if (!(p c k id).1) = true then _ else _) = _
    rw [h4]
    cases hb : (p c k id).1 with
    | true => rw [hb] at h2; rw [← h2]; simp
    | false => rw [hb] at h2; rw [← h2]; simp
theorem AgrA.doneP (h : AgrA u c e j m) (t : Tri) {id : Int} (hid : wf64 id) : AgrA u (doneC putC u c (id, t)).2 (rDone rPut id (rTouched e t) e).2 j (m + 8) ∧ (doneC putC u c (id, t)).1 = (rDone rPut id (rTouched e t) e).1 := by
  obtain ⟨h1, h2⟩ := dels_agree (p := putC) (q := rPut) (id := id) (fun c e m k h => h.put k hid) (touched u t) c e m h
  have := touched_len u t
  have e9 : doneC putC u c (id, t) = dels (fun k c => (!(putC c k id).1, (putC c k id).2)) (touched u t) c := rfl
  rw [e9]
  rw [h.touch] at h1 h2 this ⊢
  exact ⟨h1.grow (Nat.le_refl _) (by omega), h2⟩
theorem AgrA.doneT (h : AgrA u c e j m) (t : Tri) (id : Int) : AgrA u (doneC takeC u c (id, t)).2 (rDone rTake id (rTouched e t) e).2 j (m + 8) ∧ (doneC takeC u c (id, t)).1 = (rDone rTake id (rTouched e t) e).1 := by
  obtain ⟨h1, h2⟩ := dels_agree (p := takeC) (q := rTake) (id := id) (fun c e m k h => ⟨(h.take k id).1.grow (Nat.le_refl _) (by omega), (h.take k id).2⟩) (touched u t) c e m h
  have := touched_len u t
  have e9 : doneC takeC u c (id, t) = dels (fun k c => (!(takeC c k id).1, (takeC c k id).2)) (touched u t) c := rfl
  rw [e9]
  rw [h.touch] at h1 h2 this ⊢
  exact ⟨h1.grow (Nat.le_refl _) (by omega), h2⟩
end
end Go.Gx.T12

/- Walks: what Go functions of this chapter come to, each as a function on plain data; no condition but those that each theorem names. Printed by a program of this work (gen.py). -/
namespace Go.Proofs.Ytdcaehepmkhciaa
open Go.Gx Go.Gx Go.Gx.T10 Go.Gx.T12 Go.Gx.T10 Go.Gx.T11
theorem sz42 : SzIs Try.prog 42 1 := by
 unfold SzIs
 kernel_rfl
theorem sz60 : SzIs Try.prog 60 3 := by
 unfold SzIs
 kernel_rfl
theorem sz78 : SzIs Try.prog 78 1 := by
 unfold SzIs
 kernel_rfl
theorem sz100 : SzIs Try.prog 100 5 := by
 unfold SzIs
 kernel_rfl
theorem zr60 : ZeroIs Try.prog 60 (Value.agg #[Value.int .i64 0, Value.int .i64 0, Value.int .i64 0]) := by
 unfold ZeroIs
 kernel_rfl
theorem zr100 : ZeroIs Try.prog 100 (Value.agg #[Value.int .i64 0, Value.int .i64 0, Value.int .i64 0, Value.int .i64 0, Value.slice none 0 0]) := by
 unfold ZeroIs
 kernel_rfl
theorem lf60 : leafT Try.prog 9 60 = some [3, 3, 3] := by
 kernel_rfl
theorem ef60 : eqT Try.prog 9 60 = true := by
 kernel_rfl
theorem eg60 : Try.prog.eqGuardType Try.prog.depth 60 = false := by
 kernel_rfl
theorem cl77 : Callable Try.prog 77 := callable Try.func77 (by kernel_rfl) rfl
theorem cl80 : Callable Try.prog 80 := callable Try.func80 (by kernel_rfl) rfl
theorem bs60_10a3 (a0 a1 a2 : Value) : Instr.fill (fun i => some (i * 3, 3)) ((Array.range (1 * 3)).map ((Value.agg #[Value.int .i64 0, Value.int .i64 0, Value.int .i64 0]).cells[· % (Value.agg #[Value.int .i64 0, Value.int .i64 0, Value.int .i64 0]).cells.size]!)) [(0, Value.agg #[a0, a1, a2])] = some #[a0, a1, a2] := by
 kernel_rfl
theorem el60 : ElemIs Try.prog 60 3 24 (Value.agg #[Value.int .i64 0, Value.int .i64 0, Value.int .i64 0]) := by
 unfold ElemIs
 kernel_rfl
theorem in_at {h : List Int} {j : Nat} {id : Int} (hj : j < h.length) (e : h.getD j 0 = id) : id ∈ h := by rw [← e]; exact getD_mem hj
theorem in_no {h : List Int} {id : Int} (hn : ∀ q, q < h.length → ¬ h.getD q 0 = id) : ¬ id ∈ h := fun hm => by
 obtain ⟨q, hq, e⟩ := List.getElem_of_mem hm
 exact hn q hq (by simp [List.getD, hq, e])
def keyN (t : Tri) (n : Int) : Tri := (if n % 2 = 1 then t.1 else 0, if n / 2 % 2 = 1 then t.2.1 else 0, if n / 2 / 2 % 2 = 1 then t.2.2 else 0)
theorem keyN_all (t : Tri) {n : Nat} (h : n < 8) : keyN t (n : Int) = (allK t).getD n (0, 0, 0) := by
 obtain ⟨a, b, c⟩ := t
 rcases (by omega : n = 0 ∨ n = 1 ∨ n = 2 ∨ n = 3 ∨ n = 4 ∨ n = 5 ∨ n = 6 ∨ n = 7) with rfl | rfl | rfl | rfl | rfl | rfl | rfl | rfl <;> rfl
theorem fnd_ge {l : List MV} {k : Tri} : 0 ≤ fndI l k ↔ (lkp (eraM l) k).isSome = true := by
 rcases first_at (k := k) l with h | ⟨j, h1, h2, h3⟩
 · rw [fnd_none h, era_none h]; simp
 · rw [fnd_some h1 h2 h3, era_some h1 h2 h3]; simp
theorem rt_next {e : EM} {t : Tri} {j : Nat} (hj : j < 8) : ((allK t).take (j + 1)).filter (fun k => (lkp e k).isSome) = ((allK t).take j).filter (fun k => (lkp e k).isSome) ++ if (lkp e ((allK t).getD j (0, 0, 0))).isSome = true then [(allK t).getD j (0, 0, 0)] else [] := by
 rw [take_next ((0, 0, 0) : Tri) (show j < (allK t).length from hj), List.filter_append]
 congr 1
 simp only [List.filter_cons, List.filter_nil]
theorem c_find (b : Nat) (lv : Value) (l : List MV) {G : Ghost} (k : Tri) (hR : RowAt G b 0 1 (at_ [lv])) (hL : SlL G lv 5 mC m0 l) (hM : MOk G l) (w : World) (hG : Has G w) :
  Calls Try.prog 77 #[Value.pointer (some ⟨b, 0, none⟩), kT k] w (Ret fun r w' => r = Value.int .i64 (fndI l k) ∧ Since nX w w') := by
 refine enter (args := [_, _]) (X := nX) (G := G) (l := [(0, Value.pointer (some ⟨b, 0, none⟩)), (1, kT k)]) Try.func77 rfl Try.ntmps77 hG ⟨rfl, rfl, trivial⟩ (Nat.le_of_ble_eq_true rfl) ?_
 refine c_seq ?_
 refine c_region ?_
 refine r_box .none rfl rfl (IsRow.lit _) (fun b_1 => ?_)
 refine r_val .none rfl (p_assign rfl) ?_
 refine r_nil ?_
 refine e_next ?_
 refine c_seq ?_
 refine c_seq ?_
 refine c_region ?_
 refine r_val .none rfl (p_move rfl) ?_
 refine r_val .none rfl (p_nilcheck rfl) ?_
 refine r_val .none rfl (p_field Try.underlying80 rfl sz78 rfl) ?_
 refine r_val .none rfl (p_ldg (j := 0) Try.underlying78 rfl rfl hR (by first | exact of_decide_eq_true rfl | omega) rfl) ?_
 refine r_val .none rfl (p_leng Try.underlying78 rfl hL) ?_
 have bd_1 := (hL).bound
 refine r_val .none rfl (p_move rfl) ?_
 refine r_nil ?_
 refine e_next ?_
 refine c_block ?_
 refine c_name (d := 3) rfl (fun u_2 hu_2 => ?_)
 refine c_name (d := 10) rfl (fun u_3 hu_3 => ?_)
 refine c_name (d := 11) rfl (fun u_4 hu_4 => ?_)
 refine c_nameL (k := 0) rfl (fun A_5 hA_5 => ?_)
 refine c_loop (σ := Nat) (fun j => [(12, Value.int .i64 (j : Nat)), (3, u_2), (10, u_3), (11, u_4)]) (fun j => [A_5]) (fun _ => _) (fun j => j ≤ l.length ∧ ∀ q, q < j → ¬ (l.getD q m0).1 = k) (fun j => l.length - j) (0) ⟨Nat.zero_le _, fun q h => absurd h (Nat.not_lt_zero _)⟩ rfl ⟨rfl, rfl, rfl, rfl, trivial⟩ (.keep (fun _ _ h => h) (.nil)) (fun j hphi => ?_)
 subst hu_2
 subst hu_3
 subst hu_4
 subst hA_5
 refine c_seq ?_
 refine c_region ?_
 refine r_val .none rfl (p_lt rfl rfl) ?_
 refine r_nil ?_
 refine e_next ?_
 refine c_seq ?_
 refine c_splitd (d := 13) rfl (fun h_6 => ?_) (fun h_6 => ?_)
 ·
  first
   | (exfalso; omega)
   | (
    refine c_cond_t rfl ?_
    refine c_skip ?_
    refine e_next ?_
    refine c_seq ?_
    refine c_block ?_
    refine c_seq ?_
    refine c_region ?_
    refine r_val .none rfl (p_move rfl) ?_
    refine r_iaddr_g .none rfl Try.underlying78 sz100 rfl hL rfl (by first | exact of_decide_eq_true rfl | omega) (fun p_8 o_9 R_7 => ?_)
    refine r_val .none rfl (p_ldga0 Try.underlying100 rfl sz100 rfl R_7 (by first | exact of_decide_eq_true rfl | omega) (rfl : _ = Value.agg #[_, _, _, _, _])) ?_
    refine r_alloc .none rfl zr100 (IsRow.lit _) (fun b_2 => ?_)
    refine r_val .none rfl (p_assign rfl) ?_
    refine r_stw (k := 0) .none sz100 rfl rfl (IsRow.lit _) (one_lit rfl (all_cons rfl (all_cons rfl (all_cons rfl (all_cons rfl (all_cons ((mok_get hM _)).one rfl)))))) rfl ?_
    refine r_nil ?_
    refine e_next ?_
    refine c_seq ?_
    refine c_region ?_
    refine r_val .none rfl (p_field Try.underlying100 rfl sz60 rfl) ?_
    refine r_val .none rfl (p_lda (k := 0) Try.underlying60 rfl sz60 rfl rfl (by first | exact of_decide_eq_true rfl | omega) (rfl : _ = Value.agg #[_, _, _])) ?_
    refine r_val .none rfl (p_ldw (k := 1) Try.underlying60 rfl sz60 rfl rfl (rfl : _ = Value.agg #[_, _, _])) ?_
    refine r_val .none rfl (p_eqa rfl rfl (eq_tri Try.underlying60 Try.underlying3 lf60 ef60 eg60 (l.getD j m0).1 k)) ?_
    refine r_nil ?_
    refine e_next ?_
    refine c_split (d := 20) rfl (fun h_10 => ?_) (fun h_10 => ?_)
    ·
     have hE : (l.getD j m0).1 = k := of_decide_eq_true h_10
     first
      | (exfalso; omega)
      | (
       refine c_cond_t rfl ?_
       refine c_seq ?_
       refine c_region ?_
       refine r_val .none rfl (p_move rfl) ?_
       refine r_val .none rfl (p_assign rfl) ?_
       refine r_nil ?_
       refine e_next ?_
       refine c_ret ?_
       refine e_ret_block ?_
       refine e_ret_then ?_
       refine e_ret_then ?_
       refine e_ret_block ?_
       refine e_ret_then ?_
       refine e_ret1 Try.results77 (.tmp rfl .nil) (fun w hm => ⟨?_, hm.since⟩)
       first
       | (rw [fnd_some (by omega) hE hphi.2]; done)
       | (rw [fnd_none (fun q hq => hphi.2 q (by omega))]; done)
       )
    ·
     have hE : ¬ (l.getD j m0).1 = k := of_decide_eq_false h_10
     first
      | (exfalso; omega)
      | (
       refine c_cond_f rfl ?_
       refine c_skip ?_
       refine e_norm_block ?_
       refine e_next ?_
       refine c_region ?_
       refine r_val .none rfl (p_add rfl rfl (by omega)) ?_
       refine r_val .none rfl (p_move rfl) ?_
       refine r_nil ?_
       refine e_round (j + 1) ⟨⟨by omega, fun q hq => by by_cases e : q = j; (subst e; exact hE); exact hphi.2 q (by omega)⟩, by omega⟩ rfl ⟨rfl, rfl, rfl, rfl, trivial⟩ (.drop (.keep (fun _ _ h => h) (.nil)))
       )
    )
 ·
  first
   | (exfalso; omega)
   | (
    refine c_cond_f rfl ?_
    refine c_exit ?_
    refine e_exit_then ?_
    refine e_exit_then ?_
    refine e_exit_block ?_
    refine e_next ?_
    refine c_seq ?_
    refine c_region ?_
    refine r_val .none rfl (p_assign rfl) ?_
    refine r_nil ?_
    refine e_next ?_
    refine c_ret ?_
    refine e_ret1 Try.results77 (.tmp rfl .nil) (fun w hm => ⟨?_, hm.since⟩)
    first
    | (rw [fnd_some (by omega) hE hphi.2]; done)
    | (rw [fnd_none (fun q hq => hphi.2 q (by omega))]; done)
    )
theorem c_has12 (v : Value) (h : List Int) (id : Int) {G : Ghost} (hs : SlL G v 1 cI (0 : Int) h) (w : World) (hG : Has G w) :
  Calls Try.prog 78 #[v, Value.int .i64 id] w (Ret fun r w' => r = Value.bool (decide (id ∈ h)) ∧ Since nX w w') := by
 refine enter (args := [_, _]) (X := nX) (G := G) (l := [(0, v), (1, Value.int .i64 id)]) Try.func78 rfl Try.ntmps78 hG ⟨rfl, rfl, trivial⟩ (Nat.le_of_ble_eq_true rfl) ?_
 refine c_seq ?_
 refine c_region ?_
 refine r_val .none rfl (p_assign rfl) ?_
 refine r_nil ?_
 refine e_next ?_
 refine c_seq ?_
 refine c_seq ?_
 refine c_region ?_
 refine r_val .none rfl (p_move rfl) ?_
 refine r_val .none rfl (p_leng Try.underlying42 rfl hs) ?_
 have bd_1 := (hs).bound
 refine r_val .none rfl (p_move rfl) ?_
 refine r_nil ?_
 refine e_next ?_
 refine c_block ?_
 refine c_name (d := 1) rfl (fun u_2 hu_2 => ?_)
 refine c_name (d := 7) rfl (fun u_3 hu_3 => ?_)
 refine c_name (d := 8) rfl (fun u_4 hu_4 => ?_)
 refine c_loop (σ := Nat) (fun j => [(9, Value.int .i64 (j : Nat)), (1, u_2), (7, u_3), (8, u_4)]) (fun j => []) (fun _ => _) (fun j => j ≤ h.length ∧ ∀ q, q < j → ¬ h.getD q 0 = id) (fun j => h.length - j) (0) ⟨Nat.zero_le _, fun q h => absurd h (Nat.not_lt_zero _)⟩ rfl ⟨rfl, rfl, rfl, rfl, trivial⟩ (.nil) (fun j hphi => ?_)
 subst hu_2
 subst hu_3
 subst hu_4
 refine c_seq ?_
 refine c_region ?_
 refine r_val .none rfl (p_lt rfl rfl) ?_
 refine r_nil ?_
 refine e_next ?_
 refine c_seq ?_
 refine c_splitd (d := 10) rfl (fun h_5 => ?_) (fun h_5 => ?_)
 ·
  first
   | (exfalso; omega)
   | (
    refine c_cond_t rfl ?_
    refine c_skip ?_
    refine e_next ?_
    refine c_seq ?_
    refine c_block ?_
    refine c_seq ?_
    refine c_region ?_
    refine r_iaddr_g .none rfl Try.underlying42 sz3 rfl hs rfl (by first | exact of_decide_eq_true rfl | omega) (fun p_7 o_8 R_6 => ?_)
    refine r_val .none rfl (p_ldg0 Try.underlying3 rfl rfl R_6 (by first | exact of_decide_eq_true rfl | omega) (rfl : _ = Value.int _ _)) ?_
    refine r_val .none rfl (p_assign rfl) ?_
    refine r_nil ?_
    refine e_next ?_
    refine c_seq ?_
    refine c_region ?_
    refine r_val .none rfl (p_move rfl) ?_
    refine r_val .none rfl (p_move rfl) ?_
    refine r_val .none rfl (p_eq rfl rfl) ?_
    refine r_nil ?_
    refine e_next ?_
    refine c_splitd (d := 15) rfl (fun h_9 => ?_) (fun h_9 => ?_)
    ·
     have hE : h.getD j 0 = id := h_9
     first
      | (exfalso; omega)
      | (
       refine c_cond_t rfl ?_
       refine c_seq ?_
       refine c_region ?_
       refine r_val .none rfl (p_assign rfl) ?_
       refine r_nil ?_
       refine e_next ?_
       refine c_ret ?_
       refine e_ret_block ?_
       refine e_ret_then ?_
       refine e_ret_then ?_
       refine e_ret_block ?_
       refine e_ret_then ?_
       refine e_ret1 Try.results78 (.tmp rfl .nil) (fun w hm => ⟨?_, hm.since⟩)
       first
       | (rw [decide_eq_true (in_at (by omega) hE)]; done)
       | (rw [decide_eq_false (in_no (fun q hq => hphi.2 q (by omega)))]; done)
       )
    ·
     have hE : ¬ h.getD j 0 = id := h_9
     first
      | (exfalso; omega)
      | (
       refine c_cond_f rfl ?_
       refine c_skip ?_
       refine e_norm_block ?_
       refine e_next ?_
       refine c_region ?_
       refine r_val .none rfl (p_add rfl rfl (by omega)) ?_
       refine r_val .none rfl (p_move rfl) ?_
       refine r_nil ?_
       refine e_round (j + 1) ⟨⟨by omega, fun q hq => by by_cases e : q = j; (subst e; exact hE); exact hphi.2 q (by omega)⟩, by omega⟩ rfl ⟨rfl, rfl, rfl, rfl, trivial⟩ (.nil)
       )
    )
 ·
  first
   | (exfalso; omega)
   | (
    refine c_cond_f rfl ?_
    refine c_exit ?_
    refine e_exit_then ?_
    refine e_exit_then ?_
    refine e_exit_block ?_
    refine e_next ?_
    refine c_seq ?_
    refine c_region ?_
    refine r_val .none rfl (p_assign rfl) ?_
    refine r_nil ?_
    refine e_next ?_
    refine c_ret ?_
    refine e_ret1 Try.results78 (.tmp rfl .nil) (fun w hm => ⟨?_, hm.since⟩)
    first
    | (rw [decide_eq_true (in_at (by omega) hE)]; done)
    | (rw [decide_eq_false (in_no (fun q hq => hphi.2 q (by omega)))]; done)
    )
theorem c_put12 (v : Value) (h : List Int) (id : Int) {G : Ghost} (hs : SlL G v 1 cI (0 : Int) h) (hn : h.length ≤ 1000) (w : World) (hG : Has G w) :
  Calls Try.prog 79 #[v, Value.int .i64 id] w (Ret fun r w' => Since nX w w' ∧ ∃ F', (rowA r 3 1 (insS h id).length ((insS h id).flatMap cI)).holds w' F' ∧ ∀ b, F' b → w.heap.size ≤ b) := by
 refine enter (args := [_, _]) (X := nX) (G := G) (l := [(0, v), (1, Value.int .i64 id)]) Try.func79 rfl Try.ntmps79 hG ⟨rfl, rfl, trivial⟩ (Nat.le_of_ble_eq_true rfl) ?_
 refine c_seq ?_
 refine c_region ?_
 refine r_val .none rfl (p_assign rfl) ?_
 refine r_nil ?_
 refine e_next ?_
 refine c_seq ?_
 refine c_region ?_
 refine r_val .none rfl (p_assign rfl) ?_
 refine r_nil ?_
 refine e_next ?_
 refine c_seq ?_
 refine c_region ?_
 refine r_val .none rfl (p_assign rfl) ?_
 refine r_nil ?_
 refine e_next ?_
 refine c_seq ?_
 refine c_seq ?_
 refine c_region ?_
 refine r_val .none rfl (p_move rfl) ?_
 refine r_val .none rfl (p_leng Try.underlying42 rfl hs) ?_
 have bd_1 := (hs).bound
 refine r_val .none rfl (p_move rfl) ?_
 refine r_nil ?_
 refine e_next ?_
 refine c_block ?_
 refine c_nilrow 3 1 ?_
 refine c_name (d := 1) rfl (fun u_2 hu_2 => ?_)
 refine c_name (d := 4) rfl (fun u_3 hu_3 => ?_)
 refine c_name (d := 9) rfl (fun u_4 hu_4 => ?_)
 refine c_name (d := 10) rfl (fun u_5 hu_5 => ?_)
 refine c_loop (σ := Nat × Value) (fun s' => [(11, Value.int .i64 (s'.1 : Nat)), (5, s'.2), (6, Value.bool (insF id (h.take s'.1)).2), (1, u_2), (4, u_3), (9, u_4), (10, u_5)]) (fun s' => [rowA (s'.2) 3 1 ((insF id (h.take s'.1)).1).length (((insF id (h.take s'.1)).1).flatMap cI)]) (fun _ => _) (fun s' => s'.1 ≤ h.length) (fun s' => h.length - s'.1) ((0, _)) (Nat.zero_le _) rfl ⟨rfl, rfl, rfl, rfl, rfl, rfl, rfl, trivial⟩ (.keep (fun _ _ h => rowA_nil rfl _ _ h) (.nil)) (fun s' hphi => ?_)
 subst hu_2
 subst hu_3
 subst hu_4
 subst hu_5
 obtain ⟨j, ov⟩ := s'
 dsimp only at hphi ⊢
 have hfl := (insF_len id (h.take j)).1
 have hfl2 : (h.take j).length ≤ 1000 := by rw [List.length_take]; omega
 refine c_seq ?_
 refine c_region ?_
 refine r_val .none rfl (p_lt rfl rfl) ?_
 refine r_nil ?_
 refine e_next ?_
 refine c_seq ?_
 refine c_splitd (d := 12) rfl (fun h_6 => ?_) (fun h_6 => ?_)
 ·
  first
   | (exfalso; omega)
   | (
    refine c_cond_t rfl ?_
    refine c_skip ?_
    refine e_next ?_
    refine c_seq ?_
    refine c_block ?_
    refine c_seq ?_
    refine c_region ?_
    refine r_iaddr_g .none rfl Try.underlying42 sz3 rfl hs rfl (by first | exact of_decide_eq_true rfl | omega) (fun p_8 o_9 R_7 => ?_)
    refine r_val .none rfl (p_ldg0 Try.underlying3 rfl rfl R_7 (by first | exact of_decide_eq_true rfl | omega) (rfl : _ = Value.int _ _)) ?_
    refine r_val .none rfl (p_assign rfl) ?_
    refine r_nil ?_
    refine e_next ?_
    refine c_seq ?_
    refine c_seq ?_
    refine c_region ?_
    refine r_val .none rfl (p_move rfl) ?_
    refine r_val .none rfl (p_not rfl) ?_
    refine r_val .none rfl (p_move rfl) ?_
    refine r_splitn (d := 17) rfl (fun h_10 => ?_) (fun h_10 => ?_)
    ·
     have hD : (insF id (h.take j)).2 = false := by (have h9 := h_10; simpa using h9)
     first
      | (exfalso; omega)
      | (
       refine r_val (.some rfl rfl) rfl (p_move rfl) ?_
       refine r_val (.some rfl rfl) rfl (p_move rfl) ?_
       refine r_val (.some rfl rfl) rfl (p_lt rfl rfl) ?_
       refine r_val .none rfl (p_pick_t rfl rfl) ?_
       refine r_nil ?_
       refine e_next ?_
       refine c_splitd (d := 21) rfl (fun h_11 => ?_) (fun h_11 => ?_)
       ·
        have hlt : id < h.getD j 0 := h_11
        have hnx : (insF id (h.take (j + 1))).1 = (insF id (h.take j)).1 ++ [id] ++ [h.getD j 0] := by rw [insF_next (by omega), insP, if_pos ⟨hD, hlt⟩]
        have hnx2 : (insF id (h.take (j + 1))).2 = true := by rw [insF_next (by omega), insP, if_pos ⟨hD, hlt⟩]
        first
         | (exfalso; omega)
         | (
          refine c_cond_t rfl ?_
          refine c_seq ?_
          refine c_region ?_
          refine r_val .none rfl (p_move rfl) ?_
          refine r_val .none rfl (p_move rfl) ?_
          refine r_bslice (vs := [(0, Value.int _ _)]) (c := #[_]) .none rfl Try.underlying42 el3 rfl rfl rfl (bs3_10i2 _ _) (IsRow.lit _) (fun b_1 => ?_)
          refine r_append (k := 1) (k2 := 0) .none rfl Try.underlying42 el3 rfl (by decide) rfl rfl rfl rfl rfl (one_lit rfl rfl) (by simp only [maxLen]; omega) (by omega) (fun v_12 => ?_)
          refine r_row1 (k := 1) rfl (fun o_13 => ?_)
          refine r_val .none rfl (p_assign rfl) ?_
          refine r_nil ?_
          refine e_next ?_
          refine c_region ?_
          refine r_val .none rfl (p_assign rfl) ?_
          refine r_nil ?_
          refine e_next ?_
          refine c_region ?_
          refine r_val .none rfl (p_move rfl) ?_
          refine r_val .none rfl (p_move rfl) ?_
          refine r_bslice (vs := [(0, Value.int _ _)]) (c := #[_]) .none rfl Try.underlying42 el3 rfl rfl rfl (bs3_10i2 _ _) (IsRow.lit _) (fun b_2 => ?_)
          refine r_append (k := 2) (k2 := 0) .none rfl Try.underlying42 el3 rfl (by decide) rfl rfl rfl rfl rfl (one_lit rfl rfl) (by simp only [maxLen]; omega) (by omega) (fun v_14 => ?_)
          refine r_row1 (k := 2) rfl (fun o_15 => ?_)
          refine r_val .none rfl (p_assign rfl) ?_
          refine r_nil ?_
          refine e_norm_block ?_
          refine e_next ?_
          refine c_region ?_
          refine r_val .none rfl (p_add rfl rfl (by omega)) ?_
          refine r_val .none rfl (p_move rfl) ?_
          refine r_nil ?_
          refine e_round ((j + 1, _)) ⟨by dsimp only; omega, by dsimp only; omega⟩ rfl ⟨rfl, rfl, (by dsimp only; rw [hnx2]; rfl), rfl, rfl, rfl, rfl, trivial⟩ (.drop (.drop (.keep (fun _ _ h => rowA_congr (by rw [hnx]; simp) (by rw [hnx]; simp [cI, row, at_]) _ _ h) (.nil))))
          )
       ·
        have hlt : ¬ id < h.getD j 0 := h_11
        have hnx : (insF id (h.take (j + 1))).1 = (insF id (h.take j)).1 ++ [h.getD j 0] := by rw [insF_next (by omega), insP, if_neg (fun e => hlt e.2)]
        have hnx2 : (insF id (h.take (j + 1))).2 = (insF id (h.take j)).2 := by rw [insF_next (by omega), insP, if_neg (fun e => hlt e.2)]
        first
         | (exfalso; omega)
         | (
          refine c_cond_f rfl ?_
          refine c_skip ?_
          refine e_next ?_
          refine c_region ?_
          refine r_val .none rfl (p_move rfl) ?_
          refine r_val .none rfl (p_move rfl) ?_
          refine r_bslice (vs := [(0, Value.int _ _)]) (c := #[_]) .none rfl Try.underlying42 el3 rfl rfl rfl (bs3_10i2 _ _) (IsRow.lit _) (fun b_3 => ?_)
          refine r_append (k := 1) (k2 := 0) .none rfl Try.underlying42 el3 rfl (by decide) rfl rfl rfl rfl rfl (one_lit rfl rfl) (by simp only [maxLen]; omega) (by omega) (fun v_16 => ?_)
          refine r_row1 (k := 1) rfl (fun o_17 => ?_)
          refine r_val .none rfl (p_assign rfl) ?_
          refine r_nil ?_
          refine e_norm_block ?_
          refine e_next ?_
          refine c_region ?_
          refine r_val .none rfl (p_add rfl rfl (by omega)) ?_
          refine r_val .none rfl (p_move rfl) ?_
          refine r_nil ?_
          refine e_round ((j + 1, _)) ⟨by dsimp only; omega, by dsimp only; omega⟩ rfl ⟨rfl, rfl, (by dsimp only; rw [hnx2]; rfl), rfl, rfl, rfl, rfl, trivial⟩ (.drop (.keep (fun _ _ h => rowA_congr (by rw [hnx]; simp) (by rw [hnx]; simp [cI, row, at_]) _ _ h) (.nil)))
          )
       )
    ·
     have hD : (insF id (h.take j)).2 = true := by (have h9 := h_10; simpa using h9)
     have hnx : (insF id (h.take (j + 1))).1 = (insF id (h.take j)).1 ++ [h.getD j 0] := by rw [insF_next (by omega), insP, if_neg (fun e => by rw [hD] at e; cases e.1)]
     have hnx2 : (insF id (h.take (j + 1))).2 = (insF id (h.take j)).2 := by rw [insF_next (by omega), insP, if_neg (fun e => by rw [hD] at e; cases e.1)]
     first
      | (exfalso; omega)
      | (
       refine r_skip rfl (.no rfl rfl) ?_
       refine r_skip rfl (.no rfl rfl) ?_
       refine r_skip rfl (.no rfl rfl) ?_
       refine r_val .none rfl (p_pick_f rfl rfl) ?_
       refine r_nil ?_
       refine e_next ?_
       refine c_cond_f rfl ?_
       refine c_skip ?_
       refine e_next ?_
       refine c_region ?_
       refine r_val .none rfl (p_move rfl) ?_
       refine r_val .none rfl (p_move rfl) ?_
       refine r_bslice (vs := [(0, Value.int _ _)]) (c := #[_]) .none rfl Try.underlying42 el3 rfl rfl rfl (bs3_10i2 _ _) (IsRow.lit _) (fun b_4 => ?_)
       refine r_append (k := 1) (k2 := 0) .none rfl Try.underlying42 el3 rfl (by decide) rfl rfl rfl rfl rfl (one_lit rfl rfl) (by simp only [maxLen]; omega) (by omega) (fun v_18 => ?_)
       refine r_row1 (k := 1) rfl (fun o_19 => ?_)
       refine r_val .none rfl (p_assign rfl) ?_
       refine r_nil ?_
       refine e_norm_block ?_
       refine e_next ?_
       refine c_region ?_
       refine r_val .none rfl (p_add rfl rfl (by omega)) ?_
       refine r_val .none rfl (p_move rfl) ?_
       refine r_nil ?_
       refine e_round ((j + 1, _)) ⟨by dsimp only; omega, by dsimp only; omega⟩ rfl ⟨rfl, rfl, (by dsimp only; rw [hnx2]; rfl), rfl, rfl, rfl, rfl, trivial⟩ (.drop (.keep (fun _ _ h => rowA_congr (by rw [hnx]; simp) (by rw [hnx]; simp [cI, row, at_]) _ _ h) (.nil)))
       )
    )
 ·
  first
   | (exfalso; omega)
   | (
    refine c_cond_f rfl ?_
    refine c_exit ?_
    refine e_exit_then ?_
    refine e_exit_then ?_
    refine e_exit_block ?_
    refine e_next ?_
    refine c_seq ?_
    refine c_seq ?_
    refine c_region ?_
    refine r_val .none rfl (p_move rfl) ?_
    refine r_val .none rfl (p_not rfl) ?_
    refine r_nil ?_
    refine e_next ?_
    refine c_splitn (d := 32) rfl (fun h_20 => ?_) (fun h_20 => ?_)
    ·
     have htk : h.take j = h := List.take_of_length_le (by omega)
     have hD : (insF id h).2 = false := by (have h9 := h_20; rw [List.take_of_length_le (by omega)] at h9; simpa using h9)
     first
      | (exfalso; omega)
      | (
       refine c_cond_t rfl ?_
       refine c_region ?_
       refine r_val .none rfl (p_move rfl) ?_
       refine r_val .none rfl (p_move rfl) ?_
       refine r_bslice (vs := [(0, Value.int _ _)]) (c := #[_]) .none rfl Try.underlying42 el3 rfl rfl rfl (bs3_10i2 _ _) (IsRow.lit _) (fun b_5 => ?_)
       refine r_append (k := 1) (k2 := 0) .none rfl Try.underlying42 el3 rfl (by decide) rfl rfl rfl rfl rfl (one_lit rfl rfl) (by simp only [maxLen]; omega) (by omega) (fun v_21 => ?_)
       refine r_row1 (k := 1) rfl (fun o_22 => ?_)
       refine r_val .none rfl (p_assign rfl) ?_
       refine r_nil ?_
       refine e_next ?_
       refine c_seq ?_
       refine c_region ?_
       refine r_val .none rfl (p_move rfl) ?_
       refine r_val .none rfl (p_assign rfl) ?_
       refine r_nil ?_
       refine e_next ?_
       refine c_ret ?_
       refine e_ret1 Try.results79 (.tmp rfl .nil) (fun w hm => hm.made [rowA v_21 3 1 (insS h id).length ((insS h id).flatMap cI)] (.drop (.keep (fun _ _ h => by rw [htk] at h; rw [insS, if_neg (by rw [hD]; simp)]; exact rowA_snoc rfl rfl rfl rfl _ _ h) (.nil))) _ (fun F' h => starL_one1 h))
       )
    ·
     have htk : h.take j = h := List.take_of_length_le (by omega)
     have hD : (insF id h).2 = true := by (have h9 := h_20; rw [List.take_of_length_le (by omega)] at h9; simpa using h9)
     first
      | (exfalso; omega)
      | (
       refine c_cond_f rfl ?_
       refine c_skip ?_
       refine e_next ?_
       refine c_seq ?_
       refine c_region ?_
       refine r_val .none rfl (p_move rfl) ?_
       refine r_val .none rfl (p_assign rfl) ?_
       refine r_nil ?_
       refine e_next ?_
       refine c_ret ?_
       refine e_ret1 Try.results79 (.tmp rfl .nil) (fun w hm => hm.made [rowA ov 3 1 (insS h id).length ((insS h id).flatMap cI)] (.keep (fun _ _ h => by rw [htk] at h; rw [insS, if_pos hD]; exact h) (.nil)) _ (fun F' h => starL_one1 h))
       )
    )
theorem c_key7 (t : Tri) (n : Int) (hn : 0 ≤ n ∧ n ≤ 1000) (w : World)  :
  Calls Try.prog 80 #[kT t, Value.int .i64 n] w (Ret fun r w' => r = kT (keyN t n) ∧ Since nX w w') := by
 refine enter (args := [_, _]) (X := nX) (G := (fun _ => none)) (l := [(0, kT t), (1, Value.int .i64 n)]) Try.func80 rfl Try.ntmps80 (fun _ _ h => by cases h) ⟨rfl, rfl, trivial⟩ (Nat.le_of_ble_eq_true rfl) ?_
 refine c_seq ?_
 refine c_region ?_
 refine r_box .none rfl rfl (IsRow.lit _) (fun b_1 => ?_)
 refine r_alloc .none rfl zr60 (IsRow.lit _) (fun b_2 => ?_)
 refine r_nil ?_
 refine e_next ?_
 refine c_seq ?_
 refine c_region ?_
 refine r_alloc .none rfl zr60 (IsRow.lit _) (fun b_3 => ?_)
 refine r_nil ?_
 refine e_next ?_
 refine c_seq ?_
 refine c_seq ?_
 refine c_region ?_
 refine r_val .none rfl (p_assign rfl) ?_
 refine r_nil ?_
 refine e_next ?_
 refine c_block ?_
 refine c_unroll 4 ?_
 refine l_round (n := 3) ?_
 refine c_seq ?_
 refine c_seq ?_
 refine c_region ?_
 refine r_val .none rfl (p_move rfl) ?_
 refine r_val .none rfl (p_lt rfl rfl) ?_
 refine r_say (d := 8) (v := Value.bool true) rfl ?_
 refine r_nil ?_
 refine e_next ?_
 refine c_cond_t rfl ?_
 refine c_skip ?_
 refine e_next ?_
 refine c_seq ?_
 refine c_block ?_
 refine c_seq ?_
 refine c_seq ?_
 refine c_region ?_
 refine r_val .none rfl (p_move rfl) ?_
 refine r_val .none rfl (p_rem rfl rfl (by omega)) ?_
 refine r_val .none rfl (p_eq rfl rfl) ?_
 refine r_nil ?_
 refine e_next ?_
 refine c_splitd (d := 13) rfl (fun h_1 => ?_) (fun h_1 => ?_)
 ·
  first
   | (exfalso; omega)
   | (
    refine c_cond_t rfl ?_
    refine c_region ?_
    refine r_val .none rfl (p_move rfl) ?_
    refine r_val .none rfl (p_move rfl) ?_
    refine r_val .none rfl (p_iaddr (k := 0) Try.underlying60 sz3 rfl rfl (by first | exact of_decide_eq_true rfl | omega)) ?_
    refine r_val .none rfl (p_ld (k := 2) Try.underlying3 rfl rfl rfl (by first | exact of_decide_eq_true rfl | omega) (rfl : _ = Value.int _ _)) ?_
    refine r_val .none rfl (p_iaddr (k := 0) Try.underlying60 sz3 rfl rfl (by first | exact of_decide_eq_true rfl | omega)) ?_
    refine r_st (k := 0) .none sz3 rfl rfl rfl rfl (by first | exact of_decide_eq_true rfl | omega) ?_
    refine r_nil ?_
    refine e_next ?_
    refine c_region ?_
    refine r_val .none rfl (p_move rfl) ?_
    refine r_val .none rfl (p_quo rfl rfl (by omega)) ?_
    refine r_val .none rfl (p_assign rfl) ?_
    refine r_nil ?_
    refine e_norm_block ?_
    refine e_next ?_
    refine c_region ?_
    refine r_val .none rfl (p_move rfl) ?_
    refine r_val .none rfl (p_add rfl rfl (by omega)) ?_
    refine r_val .none rfl (p_assign rfl) ?_
    refine r_nil ?_
    refine e_again ?_
    refine l_round (n := 2) ?_
    refine c_seq ?_
    refine c_seq ?_
    refine c_region ?_
    refine r_val .none rfl (p_move rfl) ?_
    refine r_val .none rfl (p_lt rfl rfl) ?_
    refine r_say (d := 8) (v := Value.bool true) rfl ?_
    refine r_nil ?_
    refine e_next ?_
    refine c_cond_t rfl ?_
    refine c_skip ?_
    refine e_next ?_
    refine c_seq ?_
    refine c_block ?_
    refine c_seq ?_
    refine c_seq ?_
    refine c_region ?_
    refine r_val .none rfl (p_move rfl) ?_
    refine r_val .none rfl (p_rem rfl rfl (by omega)) ?_
    refine r_val .none rfl (p_eq rfl rfl) ?_
    refine r_nil ?_
    refine e_next ?_
    refine c_splitd (d := 13) rfl (fun h_2 => ?_) (fun h_2 => ?_)
    ·
     first
      | (exfalso; omega)
      | (
       refine c_cond_t rfl ?_
       refine c_region ?_
       refine r_val .none rfl (p_move rfl) ?_
       refine r_val .none rfl (p_move rfl) ?_
       refine r_val .none rfl (p_iaddr (k := 1) Try.underlying60 sz3 rfl rfl (by first | exact of_decide_eq_true rfl | omega)) ?_
       refine r_val .none rfl (p_ld (k := 2) Try.underlying3 rfl rfl rfl (by first | exact of_decide_eq_true rfl | omega) (rfl : _ = Value.int _ _)) ?_
       refine r_val .none rfl (p_iaddr (k := 1) Try.underlying60 sz3 rfl rfl (by first | exact of_decide_eq_true rfl | omega)) ?_
       refine r_st (k := 0) .none sz3 rfl rfl rfl rfl (by first | exact of_decide_eq_true rfl | omega) ?_
       refine r_nil ?_
       refine e_next ?_
       refine c_region ?_
       refine r_val .none rfl (p_move rfl) ?_
       refine r_val .none rfl (p_quo rfl rfl (by omega)) ?_
       refine r_val .none rfl (p_assign rfl) ?_
       refine r_nil ?_
       refine e_norm_block ?_
       refine e_next ?_
       refine c_region ?_
       refine r_val .none rfl (p_move rfl) ?_
       refine r_val .none rfl (p_add rfl rfl (by omega)) ?_
       refine r_val .none rfl (p_assign rfl) ?_
       refine r_nil ?_
       refine e_again ?_
       refine l_round (n := 1) ?_
       refine c_seq ?_
       refine c_seq ?_
       refine c_region ?_
       refine r_val .none rfl (p_move rfl) ?_
       refine r_val .none rfl (p_lt rfl rfl) ?_
       refine r_say (d := 8) (v := Value.bool true) rfl ?_
       refine r_nil ?_
       refine e_next ?_
       refine c_cond_t rfl ?_
       refine c_skip ?_
       refine e_next ?_
       refine c_seq ?_
       refine c_block ?_
       refine c_seq ?_
       refine c_seq ?_
       refine c_region ?_
       refine r_val .none rfl (p_move rfl) ?_
       refine r_val .none rfl (p_rem rfl rfl (by omega)) ?_
       refine r_val .none rfl (p_eq rfl rfl) ?_
       refine r_nil ?_
       refine e_next ?_
       refine c_splitd (d := 13) rfl (fun h_3 => ?_) (fun h_3 => ?_)
       ·
        first
         | (exfalso; omega)
         | (
          refine c_cond_t rfl ?_
          refine c_region ?_
          refine r_val .none rfl (p_move rfl) ?_
          refine r_val .none rfl (p_move rfl) ?_
          refine r_val .none rfl (p_iaddr (k := 2) Try.underlying60 sz3 rfl rfl (by first | exact of_decide_eq_true rfl | omega)) ?_
          refine r_val .none rfl (p_ld (k := 2) Try.underlying3 rfl rfl rfl (by first | exact of_decide_eq_true rfl | omega) (rfl : _ = Value.int _ _)) ?_
          refine r_val .none rfl (p_iaddr (k := 2) Try.underlying60 sz3 rfl rfl (by first | exact of_decide_eq_true rfl | omega)) ?_
          refine r_st (k := 0) .none sz3 rfl rfl rfl rfl (by first | exact of_decide_eq_true rfl | omega) ?_
          refine r_nil ?_
          refine e_next ?_
          refine c_region ?_
          refine r_val .none rfl (p_move rfl) ?_
          refine r_val .none rfl (p_quo rfl rfl (by omega)) ?_
          refine r_val .none rfl (p_assign rfl) ?_
          refine r_nil ?_
          refine e_norm_block ?_
          refine e_next ?_
          refine c_region ?_
          refine r_val .none rfl (p_move rfl) ?_
          refine r_val .none rfl (p_add rfl rfl (by omega)) ?_
          refine r_val .none rfl (p_assign rfl) ?_
          refine r_nil ?_
          refine e_again ?_
          refine l_round (n := 0) ?_
          refine c_seq ?_
          refine c_seq ?_
          refine c_region ?_
          refine r_val .none rfl (p_move rfl) ?_
          refine r_val .none rfl (p_lt rfl rfl) ?_
          refine r_say (d := 8) (v := Value.bool false) rfl ?_
          refine r_nil ?_
          refine e_next ?_
          refine c_cond_f rfl ?_
          refine c_exit ?_
          refine e_exit_then ?_
          refine e_exit_then ?_
          refine e_exit_block ?_
          refine e_next ?_
          refine c_seq ?_
          refine c_region ?_
          refine r_val .none rfl (p_ldw (k := 0) Try.underlying60 rfl sz60 rfl rfl (rfl : _ = Value.agg #[_, _, _])) ?_
          refine r_stw (k := 1) .none sz60 rfl rfl (IsRow.lit _) (one_lit rfl rfl) rfl ?_
          refine r_nil ?_
          refine e_next ?_
          refine c_ret ?_
          refine e_ret1 Try.results80 (.cell (k := 1) rfl Try.underlying60 rfl sz60 rfl (rfl : _ = Value.agg #[_, _, _]) .nil) (fun w hm => ⟨?_, hm.since⟩)
          (simp_all [keyN, triL, at_, kT, upd_eq])
          )
       ·
        first
         | (exfalso; omega)
         | (
          refine c_cond_f rfl ?_
          refine c_skip ?_
          refine e_next ?_
          refine c_region ?_
          refine r_val .none rfl (p_move rfl) ?_
          refine r_val .none rfl (p_quo rfl rfl (by omega)) ?_
          refine r_val .none rfl (p_assign rfl) ?_
          refine r_nil ?_
          refine e_norm_block ?_
          refine e_next ?_
          refine c_region ?_
          refine r_val .none rfl (p_move rfl) ?_
          refine r_val .none rfl (p_add rfl rfl (by omega)) ?_
          refine r_val .none rfl (p_assign rfl) ?_
          refine r_nil ?_
          refine e_again ?_
          refine l_round (n := 0) ?_
          refine c_seq ?_
          refine c_seq ?_
          refine c_region ?_
          refine r_val .none rfl (p_move rfl) ?_
          refine r_val .none rfl (p_lt rfl rfl) ?_
          refine r_say (d := 8) (v := Value.bool false) rfl ?_
          refine r_nil ?_
          refine e_next ?_
          refine c_cond_f rfl ?_
          refine c_exit ?_
          refine e_exit_then ?_
          refine e_exit_then ?_
          refine e_exit_block ?_
          refine e_next ?_
          refine c_seq ?_
          refine c_region ?_
          refine r_val .none rfl (p_ldw (k := 0) Try.underlying60 rfl sz60 rfl rfl (rfl : _ = Value.agg #[_, _, _])) ?_
          refine r_stw (k := 1) .none sz60 rfl rfl (IsRow.lit _) (one_lit rfl rfl) rfl ?_
          refine r_nil ?_
          refine e_next ?_
          refine c_ret ?_
          refine e_ret1 Try.results80 (.cell (k := 1) rfl Try.underlying60 rfl sz60 rfl (rfl : _ = Value.agg #[_, _, _]) .nil) (fun w hm => ⟨?_, hm.since⟩)
          (simp_all [keyN, triL, at_, kT, upd_eq])
          )
       )
    ·
     first
      | (exfalso; omega)
      | (
       refine c_cond_f rfl ?_
       refine c_skip ?_
       refine e_next ?_
       refine c_region ?_
       refine r_val .none rfl (p_move rfl) ?_
       refine r_val .none rfl (p_quo rfl rfl (by omega)) ?_
       refine r_val .none rfl (p_assign rfl) ?_
       refine r_nil ?_
       refine e_norm_block ?_
       refine e_next ?_
       refine c_region ?_
       refine r_val .none rfl (p_move rfl) ?_
       refine r_val .none rfl (p_add rfl rfl (by omega)) ?_
       refine r_val .none rfl (p_assign rfl) ?_
       refine r_nil ?_
       refine e_again ?_
       refine l_round (n := 1) ?_
       refine c_seq ?_
       refine c_seq ?_
       refine c_region ?_
       refine r_val .none rfl (p_move rfl) ?_
       refine r_val .none rfl (p_lt rfl rfl) ?_
       refine r_say (d := 8) (v := Value.bool true) rfl ?_
       refine r_nil ?_
       refine e_next ?_
       refine c_cond_t rfl ?_
       refine c_skip ?_
       refine e_next ?_
       refine c_seq ?_
       refine c_block ?_
       refine c_seq ?_
       refine c_seq ?_
       refine c_region ?_
       refine r_val .none rfl (p_move rfl) ?_
       refine r_val .none rfl (p_rem rfl rfl (by omega)) ?_
       refine r_val .none rfl (p_eq rfl rfl) ?_
       refine r_nil ?_
       refine e_next ?_
       refine c_splitd (d := 13) rfl (fun h_4 => ?_) (fun h_4 => ?_)
       ·
        first
         | (exfalso; omega)
         | (
          refine c_cond_t rfl ?_
          refine c_region ?_
          refine r_val .none rfl (p_move rfl) ?_
          refine r_val .none rfl (p_move rfl) ?_
          refine r_val .none rfl (p_iaddr (k := 2) Try.underlying60 sz3 rfl rfl (by first | exact of_decide_eq_true rfl | omega)) ?_
          refine r_val .none rfl (p_ld (k := 2) Try.underlying3 rfl rfl rfl (by first | exact of_decide_eq_true rfl | omega) (rfl : _ = Value.int _ _)) ?_
          refine r_val .none rfl (p_iaddr (k := 2) Try.underlying60 sz3 rfl rfl (by first | exact of_decide_eq_true rfl | omega)) ?_
          refine r_st (k := 0) .none sz3 rfl rfl rfl rfl (by first | exact of_decide_eq_true rfl | omega) ?_
          refine r_nil ?_
          refine e_next ?_
          refine c_region ?_
          refine r_val .none rfl (p_move rfl) ?_
          refine r_val .none rfl (p_quo rfl rfl (by omega)) ?_
          refine r_val .none rfl (p_assign rfl) ?_
          refine r_nil ?_
          refine e_norm_block ?_
          refine e_next ?_
          refine c_region ?_
          refine r_val .none rfl (p_move rfl) ?_
          refine r_val .none rfl (p_add rfl rfl (by omega)) ?_
          refine r_val .none rfl (p_assign rfl) ?_
          refine r_nil ?_
          refine e_again ?_
          refine l_round (n := 0) ?_
          refine c_seq ?_
          refine c_seq ?_
          refine c_region ?_
          refine r_val .none rfl (p_move rfl) ?_
          refine r_val .none rfl (p_lt rfl rfl) ?_
          refine r_say (d := 8) (v := Value.bool false) rfl ?_
          refine r_nil ?_
          refine e_next ?_
          refine c_cond_f rfl ?_
          refine c_exit ?_
          refine e_exit_then ?_
          refine e_exit_then ?_
          refine e_exit_block ?_
          refine e_next ?_
          refine c_seq ?_
          refine c_region ?_
          refine r_val .none rfl (p_ldw (k := 0) Try.underlying60 rfl sz60 rfl rfl (rfl : _ = Value.agg #[_, _, _])) ?_
          refine r_stw (k := 1) .none sz60 rfl rfl (IsRow.lit _) (one_lit rfl rfl) rfl ?_
          refine r_nil ?_
          refine e_next ?_
          refine c_ret ?_
          refine e_ret1 Try.results80 (.cell (k := 1) rfl Try.underlying60 rfl sz60 rfl (rfl : _ = Value.agg #[_, _, _]) .nil) (fun w hm => ⟨?_, hm.since⟩)
          (simp_all [keyN, triL, at_, kT, upd_eq])
          )
       ·
        first
         | (exfalso; omega)
         | (
          refine c_cond_f rfl ?_
          refine c_skip ?_
          refine e_next ?_
          refine c_region ?_
          refine r_val .none rfl (p_move rfl) ?_
          refine r_val .none rfl (p_quo rfl rfl (by omega)) ?_
          refine r_val .none rfl (p_assign rfl) ?_
          refine r_nil ?_
          refine e_norm_block ?_
          refine e_next ?_
          refine c_region ?_
          refine r_val .none rfl (p_move rfl) ?_
          refine r_val .none rfl (p_add rfl rfl (by omega)) ?_
          refine r_val .none rfl (p_assign rfl) ?_
          refine r_nil ?_
          refine e_again ?_
          refine l_round (n := 0) ?_
          refine c_seq ?_
          refine c_seq ?_
          refine c_region ?_
          refine r_val .none rfl (p_move rfl) ?_
          refine r_val .none rfl (p_lt rfl rfl) ?_
          refine r_say (d := 8) (v := Value.bool false) rfl ?_
          refine r_nil ?_
          refine e_next ?_
          refine c_cond_f rfl ?_
          refine c_exit ?_
          refine e_exit_then ?_
          refine e_exit_then ?_
          refine e_exit_block ?_
          refine e_next ?_
          refine c_seq ?_
          refine c_region ?_
          refine r_val .none rfl (p_ldw (k := 0) Try.underlying60 rfl sz60 rfl rfl (rfl : _ = Value.agg #[_, _, _])) ?_
          refine r_stw (k := 1) .none sz60 rfl rfl (IsRow.lit _) (one_lit rfl rfl) rfl ?_
          refine r_nil ?_
          refine e_next ?_
          refine c_ret ?_
          refine e_ret1 Try.results80 (.cell (k := 1) rfl Try.underlying60 rfl sz60 rfl (rfl : _ = Value.agg #[_, _, _]) .nil) (fun w hm => ⟨?_, hm.since⟩)
          (simp_all [keyN, triL, at_, kT, upd_eq])
          )
       )
    )
 ·
  first
   | (exfalso; omega)
   | (
    refine c_cond_f rfl ?_
    refine c_skip ?_
    refine e_next ?_
    refine c_region ?_
    refine r_val .none rfl (p_move rfl) ?_
    refine r_val .none rfl (p_quo rfl rfl (by omega)) ?_
    refine r_val .none rfl (p_assign rfl) ?_
    refine r_nil ?_
    refine e_norm_block ?_
    refine e_next ?_
    refine c_region ?_
    refine r_val .none rfl (p_move rfl) ?_
    refine r_val .none rfl (p_add rfl rfl (by omega)) ?_
    refine r_val .none rfl (p_assign rfl) ?_
    refine r_nil ?_
    refine e_again ?_
    refine l_round (n := 2) ?_
    refine c_seq ?_
    refine c_seq ?_
    refine c_region ?_
    refine r_val .none rfl (p_move rfl) ?_
    refine r_val .none rfl (p_lt rfl rfl) ?_
    refine r_say (d := 8) (v := Value.bool true) rfl ?_
    refine r_nil ?_
    refine e_next ?_
    refine c_cond_t rfl ?_
    refine c_skip ?_
    refine e_next ?_
    refine c_seq ?_
    refine c_block ?_
    refine c_seq ?_
    refine c_seq ?_
    refine c_region ?_
    refine r_val .none rfl (p_move rfl) ?_
    refine r_val .none rfl (p_rem rfl rfl (by omega)) ?_
    refine r_val .none rfl (p_eq rfl rfl) ?_
    refine r_nil ?_
    refine e_next ?_
    refine c_splitd (d := 13) rfl (fun h_5 => ?_) (fun h_5 => ?_)
    ·
     first
      | (exfalso; omega)
      | (
       refine c_cond_t rfl ?_
       refine c_region ?_
       refine r_val .none rfl (p_move rfl) ?_
       refine r_val .none rfl (p_move rfl) ?_
       refine r_val .none rfl (p_iaddr (k := 1) Try.underlying60 sz3 rfl rfl (by first | exact of_decide_eq_true rfl | omega)) ?_
       refine r_val .none rfl (p_ld (k := 2) Try.underlying3 rfl rfl rfl (by first | exact of_decide_eq_true rfl | omega) (rfl : _ = Value.int _ _)) ?_
       refine r_val .none rfl (p_iaddr (k := 1) Try.underlying60 sz3 rfl rfl (by first | exact of_decide_eq_true rfl | omega)) ?_
       refine r_st (k := 0) .none sz3 rfl rfl rfl rfl (by first | exact of_decide_eq_true rfl | omega) ?_
       refine r_nil ?_
       refine e_next ?_
       refine c_region ?_
       refine r_val .none rfl (p_move rfl) ?_
       refine r_val .none rfl (p_quo rfl rfl (by omega)) ?_
       refine r_val .none rfl (p_assign rfl) ?_
       refine r_nil ?_
       refine e_norm_block ?_
       refine e_next ?_
       refine c_region ?_
       refine r_val .none rfl (p_move rfl) ?_
       refine r_val .none rfl (p_add rfl rfl (by omega)) ?_
       refine r_val .none rfl (p_assign rfl) ?_
       refine r_nil ?_
       refine e_again ?_
       refine l_round (n := 1) ?_
       refine c_seq ?_
       refine c_seq ?_
       refine c_region ?_
       refine r_val .none rfl (p_move rfl) ?_
       refine r_val .none rfl (p_lt rfl rfl) ?_
       refine r_say (d := 8) (v := Value.bool true) rfl ?_
       refine r_nil ?_
       refine e_next ?_
       refine c_cond_t rfl ?_
       refine c_skip ?_
       refine e_next ?_
       refine c_seq ?_
       refine c_block ?_
       refine c_seq ?_
       refine c_seq ?_
       refine c_region ?_
       refine r_val .none rfl (p_move rfl) ?_
       refine r_val .none rfl (p_rem rfl rfl (by omega)) ?_
       refine r_val .none rfl (p_eq rfl rfl) ?_
       refine r_nil ?_
       refine e_next ?_
       refine c_splitd (d := 13) rfl (fun h_6 => ?_) (fun h_6 => ?_)
       ·
        first
         | (exfalso; omega)
         | (
          refine c_cond_t rfl ?_
          refine c_region ?_
          refine r_val .none rfl (p_move rfl) ?_
          refine r_val .none rfl (p_move rfl) ?_
          refine r_val .none rfl (p_iaddr (k := 2) Try.underlying60 sz3 rfl rfl (by first | exact of_decide_eq_true rfl | omega)) ?_
          refine r_val .none rfl (p_ld (k := 2) Try.underlying3 rfl rfl rfl (by first | exact of_decide_eq_true rfl | omega) (rfl : _ = Value.int _ _)) ?_
          refine r_val .none rfl (p_iaddr (k := 2) Try.underlying60 sz3 rfl rfl (by first | exact of_decide_eq_true rfl | omega)) ?_
          refine r_st (k := 0) .none sz3 rfl rfl rfl rfl (by first | exact of_decide_eq_true rfl | omega) ?_
          refine r_nil ?_
          refine e_next ?_
          refine c_region ?_
          refine r_val .none rfl (p_move rfl) ?_
          refine r_val .none rfl (p_quo rfl rfl (by omega)) ?_
          refine r_val .none rfl (p_assign rfl) ?_
          refine r_nil ?_
          refine e_norm_block ?_
          refine e_next ?_
          refine c_region ?_
          refine r_val .none rfl (p_move rfl) ?_
          refine r_val .none rfl (p_add rfl rfl (by omega)) ?_
          refine r_val .none rfl (p_assign rfl) ?_
          refine r_nil ?_
          refine e_again ?_
          refine l_round (n := 0) ?_
          refine c_seq ?_
          refine c_seq ?_
          refine c_region ?_
          refine r_val .none rfl (p_move rfl) ?_
          refine r_val .none rfl (p_lt rfl rfl) ?_
          refine r_say (d := 8) (v := Value.bool false) rfl ?_
          refine r_nil ?_
          refine e_next ?_
          refine c_cond_f rfl ?_
          refine c_exit ?_
          refine e_exit_then ?_
          refine e_exit_then ?_
          refine e_exit_block ?_
          refine e_next ?_
          refine c_seq ?_
          refine c_region ?_
          refine r_val .none rfl (p_ldw (k := 0) Try.underlying60 rfl sz60 rfl rfl (rfl : _ = Value.agg #[_, _, _])) ?_
          refine r_stw (k := 1) .none sz60 rfl rfl (IsRow.lit _) (one_lit rfl rfl) rfl ?_
          refine r_nil ?_
          refine e_next ?_
          refine c_ret ?_
          refine e_ret1 Try.results80 (.cell (k := 1) rfl Try.underlying60 rfl sz60 rfl (rfl : _ = Value.agg #[_, _, _]) .nil) (fun w hm => ⟨?_, hm.since⟩)
          (simp_all [keyN, triL, at_, kT, upd_eq])
          )
       ·
        first
         | (exfalso; omega)
         | (
          refine c_cond_f rfl ?_
          refine c_skip ?_
          refine e_next ?_
          refine c_region ?_
          refine r_val .none rfl (p_move rfl) ?_
          refine r_val .none rfl (p_quo rfl rfl (by omega)) ?_
          refine r_val .none rfl (p_assign rfl) ?_
          refine r_nil ?_
          refine e_norm_block ?_
          refine e_next ?_
          refine c_region ?_
          refine r_val .none rfl (p_move rfl) ?_
          refine r_val .none rfl (p_add rfl rfl (by omega)) ?_
          refine r_val .none rfl (p_assign rfl) ?_
          refine r_nil ?_
          refine e_again ?_
          refine l_round (n := 0) ?_
          refine c_seq ?_
          refine c_seq ?_
          refine c_region ?_
          refine r_val .none rfl (p_move rfl) ?_
          refine r_val .none rfl (p_lt rfl rfl) ?_
          refine r_say (d := 8) (v := Value.bool false) rfl ?_
          refine r_nil ?_
          refine e_next ?_
          refine c_cond_f rfl ?_
          refine c_exit ?_
          refine e_exit_then ?_
          refine e_exit_then ?_
          refine e_exit_block ?_
          refine e_next ?_
          refine c_seq ?_
          refine c_region ?_
          refine r_val .none rfl (p_ldw (k := 0) Try.underlying60 rfl sz60 rfl rfl (rfl : _ = Value.agg #[_, _, _])) ?_
          refine r_stw (k := 1) .none sz60 rfl rfl (IsRow.lit _) (one_lit rfl rfl) rfl ?_
          refine r_nil ?_
          refine e_next ?_
          refine c_ret ?_
          refine e_ret1 Try.results80 (.cell (k := 1) rfl Try.underlying60 rfl sz60 rfl (rfl : _ = Value.agg #[_, _, _]) .nil) (fun w hm => ⟨?_, hm.since⟩)
          (simp_all [keyN, triL, at_, kT, upd_eq])
          )
       )
    ·
     first
      | (exfalso; omega)
      | (
       refine c_cond_f rfl ?_
       refine c_skip ?_
       refine e_next ?_
       refine c_region ?_
       refine r_val .none rfl (p_move rfl) ?_
       refine r_val .none rfl (p_quo rfl rfl (by omega)) ?_
       refine r_val .none rfl (p_assign rfl) ?_
       refine r_nil ?_
       refine e_norm_block ?_
       refine e_next ?_
       refine c_region ?_
       refine r_val .none rfl (p_move rfl) ?_
       refine r_val .none rfl (p_add rfl rfl (by omega)) ?_
       refine r_val .none rfl (p_assign rfl) ?_
       refine r_nil ?_
       refine e_again ?_
       refine l_round (n := 1) ?_
       refine c_seq ?_
       refine c_seq ?_
       refine c_region ?_
       refine r_val .none rfl (p_move rfl) ?_
       refine r_val .none rfl (p_lt rfl rfl) ?_
       refine r_say (d := 8) (v := Value.bool true) rfl ?_
       refine r_nil ?_
       refine e_next ?_
       refine c_cond_t rfl ?_
       refine c_skip ?_
       refine e_next ?_
       refine c_seq ?_
       refine c_block ?_
       refine c_seq ?_
       refine c_seq ?_
       refine c_region ?_
       refine r_val .none rfl (p_move rfl) ?_
       refine r_val .none rfl (p_rem rfl rfl (by omega)) ?_
       refine r_val .none rfl (p_eq rfl rfl) ?_
       refine r_nil ?_
       refine e_next ?_
       refine c_splitd (d := 13) rfl (fun h_7 => ?_) (fun h_7 => ?_)
       ·
        first
         | (exfalso; omega)
         | (
          refine c_cond_t rfl ?_
          refine c_region ?_
          refine r_val .none rfl (p_move rfl) ?_
          refine r_val .none rfl (p_move rfl) ?_
          refine r_val .none rfl (p_iaddr (k := 2) Try.underlying60 sz3 rfl rfl (by first | exact of_decide_eq_true rfl | omega)) ?_
          refine r_val .none rfl (p_ld (k := 2) Try.underlying3 rfl rfl rfl (by first | exact of_decide_eq_true rfl | omega) (rfl : _ = Value.int _ _)) ?_
          refine r_val .none rfl (p_iaddr (k := 2) Try.underlying60 sz3 rfl rfl (by first | exact of_decide_eq_true rfl | omega)) ?_
          refine r_st (k := 0) .none sz3 rfl rfl rfl rfl (by first | exact of_decide_eq_true rfl | omega) ?_
          refine r_nil ?_
          refine e_next ?_
          refine c_region ?_
          refine r_val .none rfl (p_move rfl) ?_
          refine r_val .none rfl (p_quo rfl rfl (by omega)) ?_
          refine r_val .none rfl (p_assign rfl) ?_
          refine r_nil ?_
          refine e_norm_block ?_
          refine e_next ?_
          refine c_region ?_
          refine r_val .none rfl (p_move rfl) ?_
          refine r_val .none rfl (p_add rfl rfl (by omega)) ?_
          refine r_val .none rfl (p_assign rfl) ?_
          refine r_nil ?_
          refine e_again ?_
          refine l_round (n := 0) ?_
          refine c_seq ?_
          refine c_seq ?_
          refine c_region ?_
          refine r_val .none rfl (p_move rfl) ?_
          refine r_val .none rfl (p_lt rfl rfl) ?_
          refine r_say (d := 8) (v := Value.bool false) rfl ?_
          refine r_nil ?_
          refine e_next ?_
          refine c_cond_f rfl ?_
          refine c_exit ?_
          refine e_exit_then ?_
          refine e_exit_then ?_
          refine e_exit_block ?_
          refine e_next ?_
          refine c_seq ?_
          refine c_region ?_
          refine r_val .none rfl (p_ldw (k := 0) Try.underlying60 rfl sz60 rfl rfl (rfl : _ = Value.agg #[_, _, _])) ?_
          refine r_stw (k := 1) .none sz60 rfl rfl (IsRow.lit _) (one_lit rfl rfl) rfl ?_
          refine r_nil ?_
          refine e_next ?_
          refine c_ret ?_
          refine e_ret1 Try.results80 (.cell (k := 1) rfl Try.underlying60 rfl sz60 rfl (rfl : _ = Value.agg #[_, _, _]) .nil) (fun w hm => ⟨?_, hm.since⟩)
          (simp_all [keyN, triL, at_, kT, upd_eq])
          )
       ·
        first
         | (exfalso; omega)
         | (
          refine c_cond_f rfl ?_
          refine c_skip ?_
          refine e_next ?_
          refine c_region ?_
          refine r_val .none rfl (p_move rfl) ?_
          refine r_val .none rfl (p_quo rfl rfl (by omega)) ?_
          refine r_val .none rfl (p_assign rfl) ?_
          refine r_nil ?_
          refine e_norm_block ?_
          refine e_next ?_
          refine c_region ?_
          refine r_val .none rfl (p_move rfl) ?_
          refine r_val .none rfl (p_add rfl rfl (by omega)) ?_
          refine r_val .none rfl (p_assign rfl) ?_
          refine r_nil ?_
          refine e_again ?_
          refine l_round (n := 0) ?_
          refine c_seq ?_
          refine c_seq ?_
          refine c_region ?_
          refine r_val .none rfl (p_move rfl) ?_
          refine r_val .none rfl (p_lt rfl rfl) ?_
          refine r_say (d := 8) (v := Value.bool false) rfl ?_
          refine r_nil ?_
          refine e_next ?_
          refine c_cond_f rfl ?_
          refine c_exit ?_
          refine e_exit_then ?_
          refine e_exit_then ?_
          refine e_exit_block ?_
          refine e_next ?_
          refine c_seq ?_
          refine c_region ?_
          refine r_val .none rfl (p_ldw (k := 0) Try.underlying60 rfl sz60 rfl rfl (rfl : _ = Value.agg #[_, _, _])) ?_
          refine r_stw (k := 1) .none sz60 rfl rfl (IsRow.lit _) (one_lit rfl rfl) rfl ?_
          refine r_nil ?_
          refine e_next ?_
          refine c_ret ?_
          refine e_ret1 Try.results80 (.cell (k := 1) rfl Try.underlying60 rfl sz60 rfl (rfl : _ = Value.agg #[_, _, _]) .nil) (fun w hm => ⟨?_, hm.since⟩)
          (simp_all [keyN, triL, at_, kT, upd_eq])
          )
       )
    )
theorem c_xtouched (b : Nat) (lv : Value) (l : List MV) {G : Ghost} (t : Tri) (hR : RowAt G b 0 1 (at_ [lv])) (hL : SlL G lv 5 mC m0 l) (hM : MOk G l) (w : World) (hG : Has G w) :
  Calls Try.prog 40 #[Value.pointer (some ⟨b, 0, none⟩), kT t] w (Ret fun r w' => Since nX w w' ∧ ∃ F', (rowA r 60 3 (rTouched (eraM l) t).length ((rTouched (eraM l) t).flatMap triL)).holds w' F' ∧ ∀ b, F' b → w.heap.size ≤ b) := by
 refine enter (args := [_, _]) (X := nX) (G := G) (l := [(0, Value.pointer (some ⟨b, 0, none⟩)), (1, kT t)]) Try.func40 rfl Try.ntmps40 hG ⟨rfl, rfl, trivial⟩ (Nat.le_of_ble_eq_true rfl) ?_
 refine c_seq ?_
 refine c_region ?_
 refine r_box .none rfl rfl (IsRow.lit _) (fun b_1 => ?_)
 refine r_val .none rfl (p_assign rfl) ?_
 refine r_nil ?_
 refine e_next ?_
 refine c_seq ?_
 refine c_region ?_
 refine r_val .none rfl (p_assign rfl) ?_
 refine r_nil ?_
 refine e_next ?_
 refine c_seq ?_
 refine c_seq ?_
 refine c_region ?_
 refine r_val .none rfl (p_assign rfl) ?_
 refine r_nil ?_
 refine e_next ?_
 refine c_block ?_
 refine c_nilrow 60 3 ?_
 refine c_name (d := 0) rfl (fun u_1 hu_1 => ?_)
 refine c_name (d := 3) rfl (fun u_2 hu_2 => ?_)
 refine c_name (d := 4) rfl (fun u_3 hu_3 => ?_)
 refine c_nameL (k := 1) rfl (fun A_4 hA_4 => ?_)
 refine c_loop (σ := Nat × Value) (fun s' => [(6, Value.int .i64 (s'.1 : Nat)), (5, s'.2), (0, u_1), (3, u_2), (4, u_3)]) (fun s' => [rowA (s'.2) 60 3 ((((allK t).take s'.1).filter (fun k => (lkp (eraM l) k).isSome))).length (((((allK t).take s'.1).filter (fun k => (lkp (eraM l) k).isSome))).flatMap triL), A_4]) (fun _ => _) (fun s' => s'.1 ≤ 8) (fun s' => 8 - s'.1) ((0, _)) (Nat.zero_le _) rfl ⟨rfl, rfl, rfl, rfl, rfl, trivial⟩ (.keep (fun _ _ h => rowA_nil rfl _ _ h) (.keep (fun _ _ h => h) (.nil))) (fun s' hphi => ?_)
 subst hu_1
 subst hu_2
 subst hu_3
 subst hA_4
 obtain ⟨j, ov⟩ := s'
 dsimp only at hphi ⊢
 have hfl : (((allK t).take j).filter (fun k => (lkp (eraM l) k).isSome)).length ≤ 8 := Nat.le_trans (List.length_filter_le _ _) (by rw [List.length_take]; omega)
 refine c_seq ?_
 refine c_seq ?_
 refine c_region ?_
 refine r_val .none rfl (p_move rfl) ?_
 refine r_val .none rfl (p_lt rfl rfl) ?_
 refine r_nil ?_
 refine e_next ?_
 refine c_splitd (d := 9) rfl (fun h_5 => ?_) (fun h_5 => ?_)
 ·
  first
   | (exfalso; omega)
   | (
    refine c_cond_t rfl ?_
    refine c_skip ?_
    refine e_next ?_
    refine c_seq ?_
    refine c_block ?_
    refine c_seq ?_
    refine c_region ?_
    refine r_val .none rfl (p_ldw (k := 1) Try.underlying60 rfl sz60 rfl rfl (rfl : _ = Value.agg #[_, _, _])) ?_
    refine r_val .none rfl (p_move rfl) ?_
    refine r_call (vs := [_, _]) .none rfl cl80 rfl (fun w hw => c_key7 t (j : Int) (by omega) w) ?_
    rw [keyN_all t (show j < 8 by omega)]
    refine r_alloc .none rfl zr60 (IsRow.lit _) (fun b_2 => ?_)
    refine r_stw (k := 0) .none sz60 rfl rfl (IsRow.lit _) (one_lit rfl rfl) rfl ?_
    refine r_nil ?_
    refine e_next ?_
    refine c_seq ?_
    refine c_region ?_
    refine r_val .none rfl (p_move rfl) ?_
    refine r_val .none rfl (p_ldw (k := 0) Try.underlying60 rfl sz60 rfl rfl (rfl : _ = Value.agg #[_, _, _])) ?_
    refine r_call (vs := [_, _]) .none rfl cl77 rfl (fun w hw => c_find _ _ _ _ hR hL hM w hw) ?_
    refine r_val .none rfl (p_ge rfl rfl) ?_
    refine r_nil ?_
    refine e_next ?_
    refine c_splitd (d := 18) rfl (fun h_6 => ?_) (fun h_6 => ?_)
    ·
     have hQ : (lkp (eraM l) ((allK t).getD j (0, 0, 0))).isSome = true := fnd_ge.1 h_6
     first
      | (exfalso; omega)
      | (
       refine c_cond_t rfl ?_
       refine c_region ?_
       refine r_val .none rfl (p_move rfl) ?_
       refine r_val .none rfl (p_ldw (k := 0) Try.underlying60 rfl sz60 rfl rfl (rfl : _ = Value.agg #[_, _, _])) ?_
       refine r_bslice (vs := [(0, Value.agg #[_, _, _])]) (c := #[_, _, _]) .none rfl Try.underlying89 el60 rfl rfl rfl (bs60_10a3 _ _ _) (IsRow.lit _) (fun b_3 => ?_)
       refine r_append (k := 2) (k2 := 0) .none rfl Try.underlying89 el60 rfl (by decide) rfl rfl rfl rfl rfl (one_lit rfl rfl) (by simp only [maxLen]; omega) (by omega) (fun v_7 => ?_)
       refine r_row1 (k := 2) rfl (fun o_8 => ?_)
       refine r_val .none rfl (p_assign rfl) ?_
       refine r_nil ?_
       refine e_norm_block ?_
       refine e_next ?_
       refine c_region ?_
       refine r_val .none rfl (p_move rfl) ?_
       refine r_val .none rfl (p_add rfl rfl (by omega)) ?_
       refine r_val .none rfl (p_assign rfl) ?_
       refine r_nil ?_
       refine e_round ((j + 1, _)) ⟨by dsimp only; omega, by dsimp only; omega⟩ rfl ⟨rfl, rfl, rfl, rfl, rfl, trivial⟩ (.drop (.drop (.keep (fun _ _ h => by rw [rt_next (by omega), if_pos hQ]; exact rowA_snoc rfl rfl rfl rfl _ _ h) (.keep (fun _ _ h => h) (.nil)))))
       )
    ·
     have hQ : ¬ (lkp (eraM l) ((allK t).getD j (0, 0, 0))).isSome = true := fun e => h_6 (fnd_ge.2 e)
     first
      | (exfalso; omega)
      | (
       refine c_cond_f rfl ?_
       refine c_skip ?_
       refine e_norm_block ?_
       refine e_next ?_
       refine c_region ?_
       refine r_val .none rfl (p_move rfl) ?_
       refine r_val .none rfl (p_add rfl rfl (by omega)) ?_
       refine r_val .none rfl (p_assign rfl) ?_
       refine r_nil ?_
       refine e_round ((j + 1, _)) ⟨by dsimp only; omega, by dsimp only; omega⟩ rfl ⟨rfl, rfl, rfl, rfl, rfl, trivial⟩ (.drop (.keep (fun _ _ h => by rw [rt_next (by omega), if_neg hQ, List.append_nil]; exact h) (.keep (fun _ _ h => h) (.nil))))
       )
    )
 ·
  first
   | (exfalso; omega)
   | (
    refine c_cond_f rfl ?_
    refine c_exit ?_
    refine e_exit_then ?_
    refine e_exit_then ?_
    refine e_exit_block ?_
    refine e_next ?_
    refine c_seq ?_
    refine c_region ?_
    refine r_val .none rfl (p_move rfl) ?_
    refine r_val .none rfl (p_assign rfl) ?_
    refine r_nil ?_
    refine e_next ?_
    refine c_ret ?_
    refine e_ret1 Try.results40 (.tmp rfl .nil) (fun w hm => hm.made [rowA ov 60 3 (rTouched (eraM l) t).length ((rTouched (eraM l) t).flatMap triL)] (.keep (fun _ _ h => by rw [show rTouched (eraM l) t = ((allK t).take j).filter (fun k => (lkp (eraM l) k).isSome) by rw [List.take_of_length_le (by rw [allK_len]; omega)]; rfl]; exact h) (.drop (.nil))) _ (fun F' h => starL_one1 h))
    )
theorem c_xitems (b : Nat) (lv : Value) (l : List MV) {G : Ghost} (k : Tri) (hR : RowAt G b 0 1 (at_ [lv])) (hL : SlL G lv 5 mC m0 l) (hM : MOk G l) (w : World) (hG : Has G w) :
  Calls Try.prog 49 #[Value.pointer (some ⟨b, 0, none⟩), kT k] w (Ret fun r w' => r = (itM l k).2.2.1 ∧ Since nX w w') := by
 refine enter (args := [_, _]) (X := nX) (G := G) (l := [(0, Value.pointer (some ⟨b, 0, none⟩)), (1, kT k)]) Try.func49 rfl Try.ntmps49 hG ⟨rfl, rfl, trivial⟩ (Nat.le_of_ble_eq_true rfl) ?_
 refine c_seq ?_
 refine c_region ?_
 refine r_box .none rfl rfl (IsRow.lit _) (fun b_1 => ?_)
 refine r_val .none rfl (p_assign rfl) ?_
 refine r_nil ?_
 refine e_next ?_
 refine c_seq ?_
 refine c_seq ?_
 refine c_region ?_
 refine r_val .none rfl (p_move rfl) ?_
 refine r_val .none rfl (p_ldw (k := 0) Try.underlying60 rfl sz60 rfl rfl (rfl : _ = Value.agg #[_, _, _])) ?_
 rcases first_at (k := k) l with hf | ⟨j, h1, h2, h3⟩
 ·
  refine r_call (vs := [_, _]) .none rfl cl77 rfl (fun w hw => c_find _ _ _ _ hR hL hM w hw) ?_
  rw [fnd_none hf]
  refine r_val .none rfl (p_assign rfl) ?_
  refine r_nil ?_
  refine e_next ?_
  refine c_seq ?_
  refine c_region ?_
  refine r_val .none rfl (p_move rfl) ?_
  refine r_val .none rfl (p_ge rfl rfl) ?_
  refine r_say (d := 10) (v := Value.bool false) rfl ?_
  refine r_nil ?_
  refine e_next ?_
  refine c_cond_f rfl ?_
  refine c_skip ?_
  refine e_next ?_
  refine c_seq ?_
  refine c_region ?_
  refine r_val .none rfl (p_assign rfl) ?_
  refine r_nil ?_
  refine e_next ?_
  refine c_ret ?_
  refine e_ret1 Try.results49 (.tmp rfl .nil) (fun w hm => ⟨?_, hm.since⟩)
  (rw [itM_none hf]; rfl)
 ·
  refine r_call (vs := [_, _]) .none rfl cl77 rfl (fun w hw => c_find _ _ _ _ hR hL hM w hw) ?_
  rw [fnd_some h1 h2 h3]
  refine r_val .none rfl (p_assign rfl) ?_
  refine r_nil ?_
  refine e_next ?_
  refine c_seq ?_
  refine c_region ?_
  refine r_val .none rfl (p_move rfl) ?_
  refine r_val .none rfl (p_ge rfl rfl) ?_
  refine r_say (d := 10) (v := Value.bool true) (congrArg (fun z => some (Value.bool z)) (decide_eq_true (by omega))) ?_
  refine r_nil ?_
  refine e_next ?_
  refine c_cond_t rfl ?_
  refine c_seq ?_
  refine c_region ?_
  refine r_val .none rfl (p_move rfl) ?_
  refine r_val .none rfl (p_nilcheck rfl) ?_
  refine r_val .none rfl (p_field Try.underlying80 rfl sz78 rfl) ?_
  refine r_val .none rfl (p_ldg (j := 0) Try.underlying78 rfl rfl hR (by first | exact of_decide_eq_true rfl | omega) rfl) ?_
  refine r_val .none rfl (p_move rfl) ?_
  refine r_iaddr_g .none rfl Try.underlying78 sz100 rfl hL rfl (by first | exact of_decide_eq_true rfl | omega) (fun p_2 o_3 R_1 => ?_)
  refine r_val .none rfl (p_field Try.underlying100 rfl sz42 rfl) ?_
  refine r_val .none rfl (p_ldg (j := 4) Try.underlying42 rfl rfl R_1 (by first | exact of_decide_eq_true rfl | omega) rfl) ?_
  refine r_val .none rfl (p_assign rfl) ?_
  refine r_nil ?_
  refine e_next ?_
  refine c_ret ?_
  refine e_ret_then ?_
  refine e_ret1 Try.results49 (.tmp rfl .nil) (fun w hm => ⟨?_, hm.since⟩)
  (rw [itM_some h1 h2 h3]; first | done | rfl)
theorem c_xwanted (b : Nat) (lv : Value) (l : List MV) {G : Ghost} (k : Tri) (hR : RowAt G b 0 1 (at_ [lv])) (hL : SlL G lv 5 mC m0 l) (hM : MOk G l) (w : World) (hG : Has G w) :
  Calls Try.prog 48 #[Value.pointer (some ⟨b, 0, none⟩), kT k] w (Ret fun r w' => r = Value.int .i64 (itM l k).2.1 ∧ Since nX w w') := by
 refine enter (args := [_, _]) (X := nX) (G := G) (l := [(0, Value.pointer (some ⟨b, 0, none⟩)), (1, kT k)]) Try.func48 rfl Try.ntmps48 hG ⟨rfl, rfl, trivial⟩ (Nat.le_of_ble_eq_true rfl) ?_
 refine c_seq ?_
 refine c_region ?_
 refine r_box .none rfl rfl (IsRow.lit _) (fun b_1 => ?_)
 refine r_val .none rfl (p_assign rfl) ?_
 refine r_nil ?_
 refine e_next ?_
 refine c_seq ?_
 refine c_seq ?_
 refine c_region ?_
 refine r_val .none rfl (p_move rfl) ?_
 refine r_val .none rfl (p_ldw (k := 0) Try.underlying60 rfl sz60 rfl rfl (rfl : _ = Value.agg #[_, _, _])) ?_
 rcases first_at (k := k) l with hf | ⟨j, h1, h2, h3⟩
 ·
  refine r_call (vs := [_, _]) .none rfl cl77 rfl (fun w hw => c_find _ _ _ _ hR hL hM w hw) ?_
  rw [fnd_none hf]
  refine r_val .none rfl (p_assign rfl) ?_
  refine r_nil ?_
  refine e_next ?_
  refine c_seq ?_
  refine c_region ?_
  refine r_val .none rfl (p_move rfl) ?_
  refine r_val .none rfl (p_ge rfl rfl) ?_
  refine r_say (d := 10) (v := Value.bool false) rfl ?_
  refine r_nil ?_
  refine e_next ?_
  refine c_cond_f rfl ?_
  refine c_skip ?_
  refine e_next ?_
  refine c_seq ?_
  refine c_region ?_
  refine r_val .none rfl (p_assign rfl) ?_
  refine r_nil ?_
  refine e_next ?_
  refine c_ret ?_
  refine e_ret1 Try.results48 (.tmp rfl .nil) (fun w hm => ⟨?_, hm.since⟩)
  (rw [itM_none hf]; rfl)
 ·
  refine r_call (vs := [_, _]) .none rfl cl77 rfl (fun w hw => c_find _ _ _ _ hR hL hM w hw) ?_
  rw [fnd_some h1 h2 h3]
  refine r_val .none rfl (p_assign rfl) ?_
  refine r_nil ?_
  refine e_next ?_
  refine c_seq ?_
  refine c_region ?_
  refine r_val .none rfl (p_move rfl) ?_
  refine r_val .none rfl (p_ge rfl rfl) ?_
  refine r_say (d := 10) (v := Value.bool true) (congrArg (fun z => some (Value.bool z)) (decide_eq_true (by omega))) ?_
  refine r_nil ?_
  refine e_next ?_
  refine c_cond_t rfl ?_
  refine c_seq ?_
  refine c_region ?_
  refine r_val .none rfl (p_move rfl) ?_
  refine r_val .none rfl (p_nilcheck rfl) ?_
  refine r_val .none rfl (p_field Try.underlying80 rfl sz78 rfl) ?_
  refine r_val .none rfl (p_ldg (j := 0) Try.underlying78 rfl rfl hR (by first | exact of_decide_eq_true rfl | omega) rfl) ?_
  refine r_val .none rfl (p_move rfl) ?_
  refine r_iaddr_g .none rfl Try.underlying78 sz100 rfl hL rfl (by first | exact of_decide_eq_true rfl | omega) (fun p_2 o_3 R_1 => ?_)
  refine r_val .none rfl (p_field Try.underlying100 rfl sz3 rfl) ?_
  refine r_val .none rfl (p_ldg (j := 3) Try.underlying3 rfl rfl R_1 (by first | exact of_decide_eq_true rfl | omega) (rfl : _ = Value.int _ _)) ?_
  refine r_val .none rfl (p_assign rfl) ?_
  refine r_nil ?_
  refine e_next ?_
  refine c_ret ?_
  refine e_ret_then ?_
  refine e_ret1 Try.results48 (.tmp rfl .nil) (fun w hm => ⟨?_, hm.since⟩)
  (rw [itM_some h1 h2 h3]; first | done | rfl)
end Go.Proofs.Ytdcaehepmkhciaa

/- Walks: what Go functions of this chapter come to, each as a function on plain data; no condition but those that each theorem names. Printed by a program of this work (gen.py). -/
namespace Go.Proofs.Ytdcaehepmkhciaa
open Go.Gx Go.Gx Go.Gx.T10 Go.Gx.T12 Go.Gx.T10 Go.Gx.T11
theorem sz146 : SzIs Try.prog 146 4 := by
 unfold SzIs
 kernel_rfl
theorem zr146 : ZeroIs Try.prog 146 (Value.agg #[Value.int .i64 0, Value.int .i64 0, Value.int .i64 0, Value.int .i64 0]) := by
 unfold ZeroIs
 kernel_rfl
theorem cl78 : Callable Try.prog 78 := callable Try.func78 (by kernel_rfl) rfl
theorem cl79 : Callable Try.prog 79 := callable Try.func79 (by kernel_rfl) rfl
theorem bl100_0a3_1i1 (x0 : Value) (x1 : Value) (x2 : Value) (x3 : Int) : Program.built Try.prog 100 [(0, Value.agg #[x0, x1, x2]), (1, Value.int .i64 x3)] = some #[x0, x1, x2, Value.int .i64 x3, Value.slice none 0 0] := by
 kernel_rfl
theorem bs100_10a5 (a0 a1 a2 a3 a4 : Value) : Instr.fill (fun i => some (i * 5, 5)) ((Array.range (1 * 5)).map ((Value.agg #[Value.int .i64 0, Value.int .i64 0, Value.int .i64 0, Value.int .i64 0, Value.slice none 0 0]).cells[· % (Value.agg #[Value.int .i64 0, Value.int .i64 0, Value.int .i64 0, Value.int .i64 0, Value.slice none 0 0]).cells.size]!)) [(0, Value.agg #[a0, a1, a2, a3, a4])] = some #[a0, a1, a2, a3, a4] := by
 kernel_rfl
theorem el100 : ElemIs Try.prog 100 5 56 (Value.agg #[Value.int .i64 0, Value.int .i64 0, Value.int .i64 0, Value.int .i64 0, Value.slice none 0 0]) := by
 unfold ElemIs
 kernel_rfl
theorem flt_next {h : List Int} {id : Int} {i : Nat} (hi : i < h.length) : (h.take (i + 1)).filter (fun x => !decide (x = id)) = (h.take i).filter (fun x => !decide (x = id)) ++ if ¬ h.getD i 0 = id then [h.getD i 0] else [] := by
 rw [take_next (0 : Int) hi, List.filter_append]
 congr 1
 by_cases e : h.getD i 0 = id
 · rw [if_neg (fun h9 => h9 e), e]; simp
 · rw [if_pos e]; simp only [List.filter_cons, List.filter_nil]; rw [if_pos (by simpa using e)]
theorem c_xput {F : Nat → Prop} {G : Ghost} (b : Nat) (k : Tri) (id : Int) (l : List MV) (hM : MOk G l) (hn : l.length ≤ 1000) (hh : ∀ i, (l.getD i m0).2.2.2.length ≤ 1000) (w : World) (hG : Has G w) (hA : (robj 80 100 5 mC b (l)).holds w F) (hFG : ∀ b, F b → G b = none) :
  Calls Try.prog 41 #[Value.pointer (some ⟨b, 0, none⟩), kT k, Value.int .i64 id] w (Ret fun r w' => ∃ G' l2, GNew w F G G' ∧ Has G' w' ∧ (r = Value.int .i64 (rPut (eraM l) k id).1 ∧ eraM l2 = (rPut (eraM l) k id).2 ∧ MOk G' l2) ∧ KeptG (robj 80 100 5 mC b (l2)) F G' w w') := by
 refine enterO (args := [_, _, _]) (G := G) (A := robj 80 100 5 mC b (l)) (l := [(0, Value.pointer (some ⟨b, 0, none⟩)), (1, kT k), (2, Value.int .i64 id)]) Try.func41 rfl Try.ntmps41 hG hA hFG ⟨rfl, rfl, rfl, trivial⟩ (Nat.le_of_ble_eq_true rfl) ?_
 refine c_seq ?_
 refine c_region ?_
 refine r_box .none rfl rfl (IsRow.lit _) (fun b_1 => ?_)
 refine r_val .none rfl (p_assign rfl) ?_
 refine r_nil ?_
 refine e_next ?_
 refine c_seq ?_
 refine c_region ?_
 refine r_val .none rfl (p_move rfl) ?_
 refine r_val .none rfl (p_ldw (k := 0) Try.underlying60 rfl sz60 rfl rfl (rfl : _ = Value.agg #[_, _, _])) ?_
 rcases first_at (k := k) l with hf | ⟨j, h1, h2, h3⟩
 ·
  refine r_callo (k := 1) (vs := [_, _]) .none rfl cl77 rfl rfl (fun w F hw hA hFG => robj_see (cells := mC) m0 (fun _ => rfl) (R := fun r => r = Value.int .i64 (fndI l k)) (fun G' lv hle h1 h2 hG => c_find _ lv l k h1 h2 (hM.mono hle) w hG) hw hA hFG) ?_
  rw [fnd_none hf]
  refine r_val .none rfl (p_assign rfl) ?_
  refine r_nil ?_
  refine e_next ?_
  refine c_seq ?_
  refine c_seq ?_
  refine c_region ?_
  refine r_val .none rfl (p_move rfl) ?_
  refine r_val .none rfl (p_lt rfl rfl) ?_
  refine r_say (d := 12) (v := Value.bool true) rfl ?_
  refine r_val .none rfl (p_move rfl) ?_
  refine r_skip rfl (.no rfl rfl) ?_
  refine r_skip rfl (.no rfl rfl) ?_
  refine r_skip rfl (.no rfl rfl) ?_
  refine r_skip rfl (.no rfl rfl) ?_
  refine r_skip rfl (.no rfl rfl) ?_
  refine r_skip rfl (.no rfl rfl) ?_
  refine r_skip rfl (.no rfl rfl) ?_
  refine r_skip rfl (.no rfl rfl) ?_
  refine r_skip rfl (.no rfl rfl) ?_
  refine r_skip rfl (.no rfl rfl) ?_
  refine r_val .none rfl (p_pick_t rfl rfl) ?_
  refine r_nil ?_
  refine e_next ?_
  refine c_cond_t rfl ?_
  refine c_seq ?_
  refine c_region ?_
  refine r_val .none rfl (p_assign rfl) ?_
  refine r_nil ?_
  refine e_next ?_
  refine c_ret ?_
  refine e_ret_then ?_
  refine e_ret1 Try.results41 (.tmp rfl .nil) (fun w hm => ⟨_, l, (GNew.refl _ _ _), hm.has, ⟨by rw [rPut_none (era_none hf)], by rw [rPut_none (era_none hf)], hM⟩, hm.keptG [_] (.drop (.keep (fun _ _ h => h) (.nil))) (robj 80 100 5 mC b (l)) (fun F' h => starL_one1 h)⟩)
 ·
  refine r_callo (k := 1) (vs := [_, _]) .none rfl cl77 rfl rfl (fun w F hw hA hFG => robj_see (cells := mC) m0 (fun _ => rfl) (R := fun r => r = Value.int .i64 (fndI l k)) (fun G' lv hle h1 h2 hG => c_find _ lv l k h1 h2 (hM.mono hle) w hG) hw hA hFG) ?_
  rw [fnd_some h1 h2 h3]
  refine r_val .none rfl (p_assign rfl) ?_
  refine r_nil ?_
  refine e_next ?_
  refine c_seq ?_
  refine c_seq ?_
  refine c_region ?_
  refine r_val .none rfl (p_move rfl) ?_
  refine r_val .none rfl (p_lt rfl rfl) ?_
  refine r_say (d := 12) (v := Value.bool false) (congrArg (fun z => some (Value.bool z)) (decide_eq_false (by omega))) ?_
  refine r_val .none rfl (p_move rfl) ?_
  refine r_front (k := 1) rfl ?_
  refine r_unex (fun lv => ?_)
  refine r_unpack ?_
  refine r_row1 (k := 1) rfl (fun o1 => ?_)
  refine r_rowblk (k := 1) rfl (by omega) (fun pb cap hv _ => ?_)
  refine r_val (.some rfl rfl) rfl (p_move rfl) ?_
  refine r_val (.some rfl rfl) rfl (p_nilcheck rfl) ?_
  refine r_val (.some rfl rfl) rfl (p_field Try.underlying80 rfl sz78 rfl) ?_
  refine r_val (.some rfl rfl) rfl (p_ld (k := 0) Try.underlying78 rfl rfl rfl (by first | exact of_decide_eq_true rfl | omega) rfl) ?_
  refine r_val (.some rfl rfl) rfl (p_move rfl) ?_
  refine r_val (.some rfl rfl) rfl (iaddr_o Try.underlying78 sz100 rfl hv rfl (by first | exact of_decide_eq_true rfl | omega)) ?_
  refine r_val (.some rfl rfl) rfl (p_field Try.underlying100 rfl sz42 rfl) ?_
  refine r_val (.some rfl rfl) rfl (p_ldo (k := 1) (j := 4) Try.underlying42 rfl rfl hv rfl (by first | exact of_decide_eq_true rfl | omega) (by first | exact of_decide_eq_true rfl | omega) ((flatMap_get (cells := mC) (fun _ => rfl) m0 _ _ _ (by first | exact of_decide_eq_true rfl | omega) (by first | exact of_decide_eq_true rfl | omega)).trans rfl)) ?_
  refine r_val (.some rfl rfl) rfl (p_move rfl) ?_
  refine r_call (vs := [_, _]) (.some rfl rfl) rfl cl78 rfl (fun w hw => c_has12 _ (l.getD j m0).2.2.2 id (mok_get hM _) w hw) ?_
  refine r_val .none rfl (p_pick_f rfl rfl) ?_
  refine r_nil ?_
  refine e_next ?_
  refine c_split (d := 24) rfl (fun h_1 => ?_) (fun h_1 => ?_)
  ·
   have hI : id ∈ (l.getD j m0).2.2.2 := of_decide_eq_true h_1
   first
    | (exfalso; first | omega | assumption)
    | (
     refine c_cond_t rfl ?_
     refine c_seq ?_
     refine c_region ?_
     refine r_val .none rfl (p_assign rfl) ?_
     refine r_nil ?_
     refine e_next ?_
     refine c_ret ?_
     refine e_ret_then ?_
     refine e_ret1 Try.results41 (.tmp rfl .nil) (fun w hm => ⟨_, l, (GNew.refl _ _ _), hm.has, ⟨by rw [rPut_in (era_some h1 h2 h3) hI], by rw [rPut_in (era_some h1 h2 h3) hI], hM⟩, hm.keptG [box b 1 80 (at_ [lv]), rowA lv 100 5 (l).length ((l).flatMap mC)] (.keep (fun _ _ h => h) (.keep (fun _ _ h => h) (.drop (.nil)))) (robj 80 100 5 mC b (l)) (fun F' h => robj_mk h)⟩)
     )
  ·
   have hI : ¬ id ∈ (l.getD j m0).2.2.2 := of_decide_eq_false h_1
   first
    | (exfalso; first | omega | assumption)
    | (
     refine c_cond_f rfl ?_
     refine c_skip ?_
     refine e_next ?_
     refine c_seq ?_
     refine c_region_d (fun j => [17].contains j) _ mixed (.keep (fun _ _ h => h) (.keep (fun _ _ h => h) (.keep (fun _ _ h => h) (.nil)))) ?_
     refine d_val1 0 rfl rfl (by kernel_rfl) (fun j hj => by have h : 17 < j := (Nat.lt_of_lt_of_le (by decide : 17 < 18) hj); simp; omega) .none rfl (p_move rfl) ?_
     refine d_val1 1 rfl rfl (by kernel_rfl) (fun j hj => by have h : 17 < j := (Nat.lt_of_lt_of_le (by decide : 17 < 18) hj); simp; omega) .none rfl (p_nilcheck rfl) ?_
     refine d_val1 2 rfl rfl (by kernel_rfl) (fun j hj => by have h : 17 < j := (Nat.lt_of_lt_of_le (by decide : 17 < 18) hj); simp; omega) .none rfl (p_field Try.underlying80 rfl sz78 rfl) ?_
     refine d_val1 3 rfl rfl (by kernel_rfl) (fun j hj => by have h : 17 < j := (Nat.lt_of_lt_of_le (by decide : 17 < 18) hj); simp; omega) .none rfl (p_ld (k := 0) Try.underlying78 rfl rfl rfl (by first | exact of_decide_eq_true rfl | omega) rfl) ?_
     refine d_val1 4 rfl rfl (by kernel_rfl) (fun j hj => by have h : 17 < j := (Nat.lt_of_lt_of_le (by decide : 17 < 18) hj); simp; omega) .none rfl (p_move rfl) ?_
     refine d_val1 5 rfl rfl (by kernel_rfl) (fun j hj => by have h : 17 < j := (Nat.lt_of_lt_of_le (by decide : 17 < 18) hj); simp; omega) .none rfl (p_move rfl) ?_
     refine d_val1 6 rfl rfl (by kernel_rfl) (fun j hj => by have h : 17 < j := (Nat.lt_of_lt_of_le (by decide : 17 < 18) hj); simp; omega) .none rfl (p_nilcheck rfl) ?_
     refine d_val1 7 rfl rfl (by kernel_rfl) (fun j hj => by have h : 17 < j := (Nat.lt_of_lt_of_le (by decide : 17 < 18) hj); simp; omega) .none rfl (p_field Try.underlying80 rfl sz78 rfl) ?_
     refine d_val1 8 rfl rfl (by kernel_rfl) (fun j hj => by have h : 17 < j := (Nat.lt_of_lt_of_le (by decide : 17 < 18) hj); simp; omega) .none rfl (p_ld (k := 0) Try.underlying78 rfl rfl rfl (by first | exact of_decide_eq_true rfl | omega) rfl) ?_
     refine d_val1 9 rfl rfl (by kernel_rfl) (fun j hj => by have h : 17 < j := (Nat.lt_of_lt_of_le (by decide : 17 < 18) hj); simp; omega) .none rfl (p_move rfl) ?_
     refine d_val1 10 rfl rfl (by kernel_rfl) (fun j hj => by have h : 17 < j := (Nat.lt_of_lt_of_le (by decide : 17 < 18) hj); simp; omega) .none rfl (iaddr_o Try.underlying78 sz100 rfl hv rfl (by first | exact of_decide_eq_true rfl | omega)) ?_
     refine d_val1 11 rfl rfl (by kernel_rfl) (fun j hj => by have h : 17 < j := (Nat.lt_of_lt_of_le (by decide : 17 < 18) hj); simp; omega) .none rfl (p_field Try.underlying100 rfl sz42 rfl) ?_
     refine d_val1 12 rfl rfl (by kernel_rfl) (fun j hj => by have h : 17 < j := (Nat.lt_of_lt_of_le (by decide : 17 < 18) hj); simp; omega) .none rfl (p_ldo (k := 1) (j := 4) Try.underlying42 rfl rfl hv rfl (by first | exact of_decide_eq_true rfl | omega) (by first | exact of_decide_eq_true rfl | omega) ((flatMap_get (cells := mC) (fun _ => rfl) m0 _ _ _ (by first | exact of_decide_eq_true rfl | omega) (by first | exact of_decide_eq_true rfl | omega)).trans rfl)) ?_
     refine d_val1 13 rfl rfl (by kernel_rfl) (fun j hj => by have h : 17 < j := (Nat.lt_of_lt_of_le (by decide : 17 < 18) hj); simp; omega) .none rfl (p_move rfl) ?_
     refine d_eff 14 rfl (by kernel_rfl) (fun K_3 hKK_3 hcK_3 => ?_)
     refine r_callrow (vs := [_, _]) .none rfl cl79 rfl (fun w hw => c_put12 _ (l.getD j m0).2.2.2 id (mok_get hM _) (hh j) w hw) (fun r_2 => ?_)
     refine r_freeze (k := 0) rfl (fun G_4 hn_5 hs_6 => ?_)
     replace hM := MOk.mono hM hn_5.le
     have hp2 : SlL G_4 r_2 1 cI (0 : Int) (insS (l.getD j m0).2.2.2 id) := SlL.of (cells := cI) (0 : Int) (fun _ => rfl) rfl hs_6
     refine r_nil (e_d (i := 14) (brk := (fun j => [17].contains j)) (ph' := true) hKK_3 hcK_3 rfl (fun _ => hn_5.le) (fun _ => .keep (fun _ _ h => h) (.keep (fun _ _ h => h) (.keep (fun _ _ h => h) (.nil)))) ?_)
     clear hKK_3 hcK_3 K_3
     refine d_val1 15 rfl rfl (by kernel_rfl) (fun j hj => by have h : 17 < j := (Nat.lt_of_lt_of_le (by decide : 17 < 18) hj); simp; omega) .none rfl (iaddr_o Try.underlying78 sz100 rfl hv rfl (by first | exact of_decide_eq_true rfl | omega)) ?_
     refine d_val1 16 rfl rfl (by kernel_rfl) (fun j hj => by have h : 17 < j := (Nat.lt_of_lt_of_le (by decide : 17 < 18) hj); simp; omega) .none rfl (p_field Try.underlying100 rfl sz42 rfl) ?_
     refine d_eff 17 rfl (by kernel_rfl) (fun K_7 hKK_7 hcK_7 => ?_)
     refine r_sto (k := 1) (i := j * 5 + 4) (vs := [r_2]) .none sz42 rfl rfl (cells1 hp2.one) (fun z hz => by rw [List.mem_singleton.1 hz]; exact hp2.one) rfl hv (by simp only [List.length_singleton]; omega) ?_
     have hls : ((l.set j ((l.getD j m0).1, (l.getD j m0).2.1, r_2, insS (l.getD j m0).2.2.2 id))).length = l.length := List.length_set
     refine r_conv (B := rowA lv 100 5 l.length (((l.set j ((l.getD j m0).1, (l.getD j m0).2.1, r_2, insS (l.getD j m0).2.2.2 id))).flatMap mC)) (k := 1) rfl (fun _ _ h => rowA_congr rfl (put_h h1 _ _) _ _ h) ?_
     dsimp only [List.set_cons_zero, List.set_cons_succ]
     refine r_nil (e_d (i := 17) (brk := (fun j => [17].contains j)) (ph' := false) hKK_7 hcK_7 rfl (fun h => by cases h) (fun h => by cases h) ?_)
     clear hKK_7 hcK_7 K_7
     refine d_nil (by kernel_rfl) ?_
     refine e_next ?_
     refine c_seq ?_
     refine c_region ?_
     refine r_val .none rfl (p_assign rfl) ?_
     refine r_nil ?_
     refine e_next ?_
     refine c_ret ?_
     refine e_ret1 Try.results41 (.tmp rfl .nil) (fun w hm => ⟨_, (l.set j ((l.getD j m0).1, (l.getD j m0).2.1, r_2, insS (l.getD j m0).2.2.2 id)), hn_5, hm.has, ⟨by rw [rPut_new (era_some h1 h2 h3) hI], by rw [rPut_new (era_some h1 h2 h3) hI]; exact era_set (m2 := ((l.getD j m0).1, (l.getD j m0).2.1, r_2, insS (l.getD j m0).2.2.2 id)) h2 h1 h2 h3, mok_set hM hp2⟩, hm.keptG [box b 1 80 (at_ [lv]), rowA lv 100 5 ((l.set j ((l.getD j m0).1, (l.getD j m0).2.1, r_2, insS (l.getD j m0).2.2.2 id))).length (((l.set j ((l.getD j m0).1, (l.getD j m0).2.1, r_2, insS (l.getD j m0).2.2.2 id))).flatMap mC)] (.keep (fun _ _ h => h) (.keep (fun _ _ h => by rw [hls]; exact h) (.drop (.nil)))) (robj 80 100 5 mC b ((l.set j ((l.getD j m0).1, (l.getD j m0).2.1, r_2, insS (l.getD j m0).2.2.2 id)))) (fun F' h => robj_mk h)⟩)
     )
theorem c_xtake {F : Nat → Prop} {G : Ghost} (b : Nat) (k : Tri) (id : Int) (l : List MV) (hM : MOk G l) (hn : l.length ≤ 1000) (hh : ∀ i, (l.getD i m0).2.2.2.length ≤ 1000) (w : World) (hG : Has G w) (hA : (robj 80 100 5 mC b (l)).holds w F) (hFG : ∀ b, F b → G b = none) :
  Calls Try.prog 42 #[Value.pointer (some ⟨b, 0, none⟩), kT k, Value.int .i64 id] w (Ret fun r w' => ∃ G' l2, GNew w F G G' ∧ Has G' w' ∧ (r = Value.int .i64 (rTake (eraM l) k id).1 ∧ eraM l2 = (rTake (eraM l) k id).2 ∧ MOk G' l2) ∧ KeptG (robj 80 100 5 mC b (l2)) F G' w w') := by
 refine enterO (args := [_, _, _]) (G := G) (A := robj 80 100 5 mC b (l)) (l := [(0, Value.pointer (some ⟨b, 0, none⟩)), (1, kT k), (2, Value.int .i64 id)]) Try.func42 rfl Try.ntmps42 hG hA hFG ⟨rfl, rfl, rfl, trivial⟩ (Nat.le_of_ble_eq_true rfl) ?_
 refine c_seq ?_
 refine c_region ?_
 refine r_box .none rfl rfl (IsRow.lit _) (fun b_1 => ?_)
 refine r_val .none rfl (p_assign rfl) ?_
 refine r_nil ?_
 refine e_next ?_
 refine c_seq ?_
 refine c_region ?_
 refine r_val .none rfl (p_move rfl) ?_
 refine r_val .none rfl (p_ldw (k := 0) Try.underlying60 rfl sz60 rfl rfl (rfl : _ = Value.agg #[_, _, _])) ?_
 rcases first_at (k := k) l with hf | ⟨j, h1, h2, h3⟩
 ·
  refine r_callo (k := 1) (vs := [_, _]) .none rfl cl77 rfl rfl (fun w F hw hA hFG => robj_see (cells := mC) m0 (fun _ => rfl) (R := fun r => r = Value.int .i64 (fndI l k)) (fun G' lv hle h1 h2 hG => c_find _ lv l k h1 h2 (hM.mono hle) w hG) hw hA hFG) ?_
  rw [fnd_none hf]
  refine r_val .none rfl (p_assign rfl) ?_
  refine r_nil ?_
  refine e_next ?_
  refine c_seq ?_
  refine c_seq ?_
  refine c_region ?_
  refine r_val .none rfl (p_move rfl) ?_
  refine r_val .none rfl (p_lt rfl rfl) ?_
  refine r_say (d := 15) (v := Value.bool true) rfl ?_
  refine r_val .none rfl (p_move rfl) ?_
  refine r_skip rfl (.no rfl rfl) ?_
  refine r_skip rfl (.no rfl rfl) ?_
  refine r_skip rfl (.no rfl rfl) ?_
  refine r_skip rfl (.no rfl rfl) ?_
  refine r_skip rfl (.no rfl rfl) ?_
  refine r_skip rfl (.no rfl rfl) ?_
  refine r_skip rfl (.no rfl rfl) ?_
  refine r_skip rfl (.no rfl rfl) ?_
  refine r_skip rfl (.no rfl rfl) ?_
  refine r_skip rfl (.no rfl rfl) ?_
  refine r_skip rfl (.no rfl rfl) ?_
  refine r_val .none rfl (p_pick_t rfl rfl) ?_
  refine r_nil ?_
  refine e_next ?_
  refine c_cond_t rfl ?_
  refine c_seq ?_
  refine c_region ?_
  refine r_val .none rfl (p_assign rfl) ?_
  refine r_nil ?_
  refine e_next ?_
  refine c_ret ?_
  refine e_ret_then ?_
  refine e_ret1 Try.results42 (.tmp rfl .nil) (fun w hm => ⟨_, l, (GNew.refl _ _ _), hm.has, ⟨by rw [rTake_none (era_none hf)], by rw [rTake_none (era_none hf)], hM⟩, hm.keptG [_] (.drop (.keep (fun _ _ h => h) (.nil))) (robj 80 100 5 mC b (l)) (fun F' h => starL_one1 h)⟩)
 ·
  refine r_callo (k := 1) (vs := [_, _]) .none rfl cl77 rfl rfl (fun w F hw hA hFG => robj_see (cells := mC) m0 (fun _ => rfl) (R := fun r => r = Value.int .i64 (fndI l k)) (fun G' lv hle h1 h2 hG => c_find _ lv l k h1 h2 (hM.mono hle) w hG) hw hA hFG) ?_
  rw [fnd_some h1 h2 h3]
  refine r_val .none rfl (p_assign rfl) ?_
  refine r_nil ?_
  refine e_next ?_
  refine c_seq ?_
  refine c_seq ?_
  refine c_region ?_
  refine r_val .none rfl (p_move rfl) ?_
  refine r_val .none rfl (p_lt rfl rfl) ?_
  refine r_say (d := 15) (v := Value.bool false) (congrArg (fun z => some (Value.bool z)) (decide_eq_false (by omega))) ?_
  refine r_val .none rfl (p_move rfl) ?_
  refine r_front (k := 1) rfl ?_
  refine r_unex (fun lv => ?_)
  refine r_unpack ?_
  refine r_row1 (k := 1) rfl (fun o1 => ?_)
  refine r_rowblk (k := 1) rfl (by omega) (fun pb cap hv _ => ?_)
  refine r_val (.some rfl rfl) rfl (p_move rfl) ?_
  refine r_val (.some rfl rfl) rfl (p_nilcheck rfl) ?_
  refine r_val (.some rfl rfl) rfl (p_field Try.underlying80 rfl sz78 rfl) ?_
  refine r_val (.some rfl rfl) rfl (p_ld (k := 0) Try.underlying78 rfl rfl rfl (by first | exact of_decide_eq_true rfl | omega) rfl) ?_
  refine r_val (.some rfl rfl) rfl (p_move rfl) ?_
  refine r_val (.some rfl rfl) rfl (iaddr_o Try.underlying78 sz100 rfl hv rfl (by first | exact of_decide_eq_true rfl | omega)) ?_
  refine r_val (.some rfl rfl) rfl (p_field Try.underlying100 rfl sz42 rfl) ?_
  refine r_val (.some rfl rfl) rfl (p_ldo (k := 1) (j := 4) Try.underlying42 rfl rfl hv rfl (by first | exact of_decide_eq_true rfl | omega) (by first | exact of_decide_eq_true rfl | omega) ((flatMap_get (cells := mC) (fun _ => rfl) m0 _ _ _ (by first | exact of_decide_eq_true rfl | omega) (by first | exact of_decide_eq_true rfl | omega)).trans rfl)) ?_
  refine r_val (.some rfl rfl) rfl (p_move rfl) ?_
  refine r_call (vs := [_, _]) (.some rfl rfl) rfl cl78 rfl (fun w hw => c_has12 _ (l.getD j m0).2.2.2 id (mok_get hM _) w hw) ?_
  refine r_val (.some rfl rfl) rfl (p_not rfl) ?_
  refine r_val .none rfl (p_pick_f rfl rfl) ?_
  refine r_nil ?_
  refine e_next ?_
  refine c_splitn (d := 28) rfl (fun h_1 => ?_) (fun h_1 => ?_)
  ·
   have hI : ¬ id ∈ (l.getD j m0).2.2.2 := by (have h9 := h_1; simpa using h9)
   first
    | (exfalso; first | omega | assumption)
    | (
     refine c_cond_t rfl ?_
     refine c_seq ?_
     refine c_region ?_
     refine r_val .none rfl (p_assign rfl) ?_
     refine r_nil ?_
     refine e_next ?_
     refine c_ret ?_
     refine e_ret_then ?_
     refine e_ret1 Try.results42 (.tmp rfl .nil) (fun w hm => ⟨_, l, (GNew.refl _ _ _), hm.has, ⟨by rw [rTake_out (era_some h1 h2 h3) hI], by rw [rTake_out (era_some h1 h2 h3) hI], hM⟩, hm.keptG [box b 1 80 (at_ [lv]), rowA lv 100 5 (l).length ((l).flatMap mC)] (.keep (fun _ _ h => h) (.keep (fun _ _ h => h) (.drop (.nil)))) (robj 80 100 5 mC b (l)) (fun F' h => robj_mk h)⟩)
     )
  ·
   have hI : id ∈ (l.getD j m0).2.2.2 := by (have h9 := h_1; simpa using h9)
   have hhj := hh j
   first
    | (exfalso; first | omega | assumption)
    | (
     refine c_cond_f rfl ?_
     refine c_skip ?_
     refine e_next ?_
     refine c_seq ?_
     refine c_region ?_
     refine r_val .none rfl (p_assign rfl) ?_
     refine r_nil ?_
     refine e_next ?_
     refine c_seq ?_
     refine c_seq ?_
     refine c_region ?_
     refine r_val .none rfl (p_move rfl) ?_
     refine r_val .none rfl (p_nilcheck rfl) ?_
     refine r_val .none rfl (p_field Try.underlying80 rfl sz78 rfl) ?_
     refine r_val .none rfl (p_ld (k := 0) Try.underlying78 rfl rfl rfl (by first | exact of_decide_eq_true rfl | omega) rfl) ?_
     refine r_val .none rfl (p_move rfl) ?_
     refine r_val .none rfl (iaddr_o Try.underlying78 sz100 rfl hv rfl (by first | exact of_decide_eq_true rfl | omega)) ?_
     refine r_val .none rfl (p_field Try.underlying100 rfl sz42 rfl) ?_
     refine r_val .none rfl (p_ldo (k := 1) (j := 4) Try.underlying42 rfl rfl hv rfl (by first | exact of_decide_eq_true rfl | omega) (by first | exact of_decide_eq_true rfl | omega) ((flatMap_get (cells := mC) (fun _ => rfl) m0 _ _ _ (by first | exact of_decide_eq_true rfl | omega) (by first | exact of_decide_eq_true rfl | omega)).trans rfl)) ?_
     have hsj := mok_get hM j
     refine r_val .none rfl (p_leng Try.underlying42 rfl hsj) ?_
     have bd_2 := (hsj).bound
     refine r_val .none rfl (p_move rfl) ?_
     refine r_nil ?_
     refine e_next ?_
     refine c_block ?_
     refine c_nilrow 3 1 ?_
     refine c_name (d := 0) rfl (fun u_3 hu_3 => ?_)
     refine c_name (d := 2) rfl (fun u_4 hu_4 => ?_)
     refine c_name (d := 6) rfl (fun u_5 hu_5 => ?_)
     refine c_name (d := 7) rfl (fun u_6 hu_6 => ?_)
     refine c_name (d := 36) rfl (fun u_7 hu_7 => ?_)
     refine c_name (d := 37) rfl (fun u_8 hu_8 => ?_)
     refine c_nameL (k := 1) rfl (fun A_9 hA_9 => ?_)
     refine c_nameL (k := 2) rfl (fun A_10 hA_10 => ?_)
     refine c_nameL (k := 3) rfl (fun A_11 hA_11 => ?_)
     refine c_loop (σ := Nat × Value) (fun s' => [(38, Value.int .i64 (s'.1 : Nat)), (8, s'.2), (0, u_3), (2, u_4), (6, u_5), (7, u_6), (36, u_7), (37, u_8)]) (fun s' => [rowA (s'.2) 3 1 ((((l.getD j m0).2.2.2.take s'.1).filter (fun x => !decide (x = id)))).length (((((l.getD j m0).2.2.2.take s'.1).filter (fun x => !decide (x = id)))).flatMap cI), A_9, A_10, A_11]) (fun _ => _) (fun s' => s'.1 ≤ (l.getD j m0).2.2.2.length) (fun s' => (l.getD j m0).2.2.2.length - s'.1) ((0, _)) (Nat.zero_le _) rfl ⟨rfl, rfl, rfl, rfl, rfl, rfl, rfl, rfl, trivial⟩ (.keep (fun _ _ h => rowA_nil rfl _ _ h) (.keep (fun _ _ h => h) (.keep (fun _ _ h => h) (.keep (fun _ _ h => h) (.nil))))) (fun s' hphi => ?_)
     subst hu_3
     subst hu_4
     subst hu_5
     subst hu_6
     subst hu_7
     subst hu_8
     subst hA_9
     subst hA_10
     subst hA_11
     obtain ⟨i, ov⟩ := s'
     dsimp only at hphi ⊢
     have hfl : (((l.getD j m0).2.2.2.take i).filter (fun x => !decide (x = id))).length ≤ 1000 := Nat.le_trans (List.length_filter_le _ _) (by rw [List.length_take]; omega)
     refine c_seq ?_
     refine c_region ?_
     refine r_val .none rfl (p_lt rfl rfl) ?_
     refine r_nil ?_
     refine e_next ?_
     refine c_seq ?_
     refine c_splitd (d := 39) rfl (fun h_12 => ?_) (fun h_12 => ?_)
     ·
      first
       | (exfalso; first | omega | assumption)
       | (
        refine c_cond_t rfl ?_
        refine c_skip ?_
        refine e_next ?_
        refine c_seq ?_
        refine c_block ?_
        refine c_seq ?_
        refine c_region ?_
        refine r_iaddr_g .none rfl Try.underlying42 sz3 rfl hsj rfl (by first | exact of_decide_eq_true rfl | omega) (fun p_14 o_15 R_13 => ?_)
        refine r_val .none rfl (p_ldg0 Try.underlying3 rfl rfl R_13 (by first | exact of_decide_eq_true rfl | omega) (rfl : _ = Value.int _ _)) ?_
        refine r_val .none rfl (p_assign rfl) ?_
        refine r_nil ?_
        refine e_next ?_
        refine c_seq ?_
        refine c_region ?_
        refine r_val .none rfl (p_move rfl) ?_
        refine r_val .none rfl (p_move rfl) ?_
        refine r_val .none rfl (p_ne rfl rfl) ?_
        refine r_nil ?_
        refine e_next ?_
        refine c_splitd (d := 44) rfl (fun h_16 => ?_) (fun h_16 => ?_)
        ·
         have hQ : ¬ (l.getD j m0).2.2.2.getD i 0 = id := h_16
         first
          | (exfalso; first | omega | assumption)
          | (
           refine c_cond_t rfl ?_
           refine c_region ?_
           refine r_val .none rfl (p_move rfl) ?_
           refine r_val .none rfl (p_move rfl) ?_
           refine r_bslice (vs := [(0, Value.int _ _)]) (c := #[_]) .none rfl Try.underlying42 el3 rfl rfl rfl (bs3_10i2 _ _) (IsRow.lit _) (fun b_2 => ?_)
           refine r_append (k := 1) (k2 := 0) .none rfl Try.underlying42 el3 rfl (by decide) rfl rfl rfl rfl rfl (one_lit rfl rfl) (by simp only [maxLen]; omega) (by omega) (fun v_17 => ?_)
           refine r_row1 (k := 1) rfl (fun o_18 => ?_)
           refine r_val .none rfl (p_assign rfl) ?_
           refine r_nil ?_
           refine e_norm_block ?_
           refine e_next ?_
           refine c_region ?_
           refine r_val .none rfl (p_add rfl rfl (by omega)) ?_
           refine r_val .none rfl (p_move rfl) ?_
           refine r_nil ?_
           refine e_round ((i + 1, _)) ⟨by dsimp only; omega, by dsimp only; omega⟩ rfl ⟨rfl, rfl, rfl, rfl, rfl, rfl, rfl, rfl, trivial⟩ (.drop (.keep (fun _ _ h => by rw [flt_next (by omega), if_pos hQ]; exact rowA_snoc rfl rfl rfl rfl _ _ h) (.keep (fun _ _ h => h) (.keep (fun _ _ h => h) (.keep (fun _ _ h => h) (.nil))))))
           )
        ·
         have hQ : (l.getD j m0).2.2.2.getD i 0 = id := Decidable.not_not.1 h_16
         first
          | (exfalso; first | omega | assumption)
          | (
           refine c_cond_f rfl ?_
           refine c_skip ?_
           refine e_norm_block ?_
           refine e_next ?_
           refine c_region ?_
           refine r_val .none rfl (p_add rfl rfl (by omega)) ?_
           refine r_val .none rfl (p_move rfl) ?_
           refine r_nil ?_
           refine e_round ((i + 1, _)) ⟨by dsimp only; omega, by dsimp only; omega⟩ rfl ⟨rfl, rfl, rfl, rfl, rfl, rfl, rfl, rfl, trivial⟩ (.keep (fun _ _ h => by rw [flt_next (by omega), if_neg (fun h9 => h9 hQ), List.append_nil]; exact h) (.keep (fun _ _ h => h) (.keep (fun _ _ h => h) (.keep (fun _ _ h => h) (.nil)))))
           )
        )
     ·
      first
       | (exfalso; first | omega | assumption)
       | (
        refine c_cond_f rfl ?_
        refine c_exit ?_
        refine e_exit_then ?_
        refine e_exit_then ?_
        refine e_exit_block ?_
        refine e_next ?_
        refine c_seq ?_
        refine c_region ?_
        refine r_freeze (k := 0) rfl (fun G_19 hn_20 hs_21 => ?_)
        replace hM := MOk.mono hM hn_20.le
        replace hsj := hsj.mono hn_20.le
        have htk : (l.getD j m0).2.2.2.take i = (l.getD j m0).2.2.2 := List.take_of_length_le (by omega)
        have hp2 : SlL G_19 ov 1 cI (0 : Int) ((l.getD j m0).2.2.2.filter (fun x => !decide (x = id))) := SlL.of2 (cells := cI) (0 : Int) (fun _ => rfl) (by rw [htk]) (by rw [htk]) hs_21
        refine r_val .none rfl (p_move rfl) ?_
        refine r_val .none rfl (p_nilcheck rfl) ?_
        refine r_val .none rfl (p_field Try.underlying80 rfl sz78 rfl) ?_
        refine r_val .none rfl (p_ld (k := 0) Try.underlying78 rfl rfl rfl (by first | exact of_decide_eq_true rfl | omega) rfl) ?_
        refine r_val .none rfl (p_move rfl) ?_
        refine r_val .none rfl (p_move rfl) ?_
        refine r_val .none rfl (iaddr_o Try.underlying78 sz100 rfl hv rfl (by first | exact of_decide_eq_true rfl | omega)) ?_
        refine r_val .none rfl (p_field Try.underlying100 rfl sz42 rfl) ?_
        refine r_sto (k := 1) (i := j * 5 + 4) (vs := [ov]) .none sz42 rfl rfl (cells1 hp2.one) (fun z hz => by rw [List.mem_singleton.1 hz]; exact hp2.one) rfl hv (by simp only [List.length_singleton]; omega) ?_
        have hls : ((l.set j ((l.getD j m0).1, (l.getD j m0).2.1, ov, (l.getD j m0).2.2.2.filter (fun x => !decide (x = id))))).length = l.length := List.length_set
        refine r_conv (B := rowA lv 100 5 l.length (((l.set j ((l.getD j m0).1, (l.getD j m0).2.1, ov, (l.getD j m0).2.2.2.filter (fun x => !decide (x = id))))).flatMap mC)) (k := 1) rfl (fun _ _ h => rowA_congr rfl (put_h h1 _ _) _ _ h) ?_
        dsimp only [List.set_cons_zero, List.set_cons_succ]
        refine r_nil ?_
        refine e_next ?_
        refine c_seq ?_
        refine c_region ?_
        refine r_val .none rfl (p_assign rfl) ?_
        refine r_nil ?_
        refine e_next ?_
        refine c_ret ?_
        refine e_ret1 Try.results42 (.tmp rfl .nil) (fun w hm => ⟨_, (l.set j ((l.getD j m0).1, (l.getD j m0).2.1, ov, (l.getD j m0).2.2.2.filter (fun x => !decide (x = id)))), hn_20, hm.has, ⟨by rw [rTake_in (era_some h1 h2 h3) hI], by rw [rTake_in (era_some h1 h2 h3) hI]; exact era_set (m2 := ((l.getD j m0).1, (l.getD j m0).2.1, ov, (l.getD j m0).2.2.2.filter (fun x => !decide (x = id)))) h2 h1 h2 h3, mok_set hM hp2⟩, hm.keptG [box b 1 80 (at_ [lv]), rowA lv 100 5 ((l.set j ((l.getD j m0).1, (l.getD j m0).2.1, ov, (l.getD j m0).2.2.2.filter (fun x => !decide (x = id))))).length (((l.set j ((l.getD j m0).1, (l.getD j m0).2.1, ov, (l.getD j m0).2.2.2.filter (fun x => !decide (x = id))))).flatMap mC)] (.keep (fun _ _ h => h) (.keep (fun _ _ h => by rw [hls]; exact h) (.drop (.nil)))) (robj 80 100 5 mC b ((l.set j ((l.getD j m0).1, (l.getD j m0).2.1, ov, (l.getD j m0).2.2.2.filter (fun x => !decide (x = id)))))) (fun F' h => robj_mk h)⟩)
        )
     )
theorem c_xdrop {F : Nat → Prop} {G : Ghost} (b : Nat) (k : Tri) (l : List MV) (hM : MOk G l) (hn : l.length ≤ 1000) (hN : ∀ i, i < l.length → 1 ≤ (l.getD i m0).2.1 ∧ (l.getD i m0).2.1 ≤ 1000) (w : World) (hG : Has G w) (hA : (robj 80 100 5 mC b (l)).holds w F) (hFG : ∀ b, F b → G b = none) :
  Calls Try.prog 39 #[Value.pointer (some ⟨b, 0, none⟩), kT k] w (Ret fun r w' => ∃ G' l2, GNew w F G G' ∧ Has G' w' ∧ (r = Value.tuple #[Value.int .i64 (rDrop (eraM l) k).1.1, Value.int .i64 (rDrop (eraM l) k).1.2] ∧ eraM l2 = (rDrop (eraM l) k).2 ∧ MOk G' l2) ∧ KeptG (robj 80 100 5 mC b (l2)) F G' w w') := by
 refine enterO (args := [_, _]) (G := G) (A := robj 80 100 5 mC b (l)) (l := [(0, Value.pointer (some ⟨b, 0, none⟩)), (1, kT k)]) Try.func39 rfl Try.ntmps39 hG hA hFG ⟨rfl, rfl, trivial⟩ (Nat.le_of_ble_eq_true rfl) ?_
 refine c_seq ?_
 refine c_region ?_
 refine r_box .none rfl rfl (IsRow.lit _) (fun b_1 => ?_)
 refine r_val .none rfl (p_assign rfl) ?_
 refine r_val .none rfl (p_assign rfl) ?_
 refine r_nil ?_
 refine e_next ?_
 refine c_seq ?_
 refine c_region ?_
 refine r_val .none rfl (p_move rfl) ?_
 refine r_val .none rfl (p_ldw (k := 0) Try.underlying60 rfl sz60 rfl rfl (rfl : _ = Value.agg #[_, _, _])) ?_
 rcases first_at (k := k) l with hf | ⟨j, h1, h2, h3⟩
 ·
  refine r_callo (k := 1) (vs := [_, _]) .none rfl cl77 rfl rfl (fun w F hw hA hFG => robj_see (cells := mC) m0 (fun _ => rfl) (R := fun r => r = Value.int .i64 (fndI l k)) (fun G' lv hle h1 h2 hG => c_find _ lv l k h1 h2 (hM.mono hle) w hG) hw hA hFG) ?_
  rw [fnd_none hf]
  refine r_val .none rfl (p_assign rfl) ?_
  refine r_nil ?_
  refine e_next ?_
  refine c_seq ?_
  refine c_seq ?_
  refine c_region ?_
  refine r_val .none rfl (p_move rfl) ?_
  refine r_val .none rfl (p_lt rfl rfl) ?_
  refine r_say (d := 13) (v := Value.bool true) rfl ?_
  refine r_nil ?_
  refine e_next ?_
  refine c_cond_t rfl ?_
  refine c_seq ?_
  refine c_region ?_
  refine r_val .none rfl (p_assign rfl) ?_
  refine r_val .none rfl (p_assign rfl) ?_
  refine r_nil ?_
  refine e_next ?_
  refine c_ret ?_
  refine e_ret_then ?_
  refine e_retn Try.results39 (.tmp rfl (.tmp rfl .nil)) rfl (fun w hm => ⟨_, l, (GNew.refl _ _ _), hm.has, ⟨by rw [rDrop_none (era_none hf)], by rw [rDrop_none (era_none hf)], hM⟩, hm.keptG [_] (.drop (.keep (fun _ _ h => h) (.nil))) (robj 80 100 5 mC b (l)) (fun F' h => starL_one1 h)⟩)
 ·
  refine r_callo (k := 1) (vs := [_, _]) .none rfl cl77 rfl rfl (fun w F hw hA hFG => robj_see (cells := mC) m0 (fun _ => rfl) (R := fun r => r = Value.int .i64 (fndI l k)) (fun G' lv hle h1 h2 hG => c_find _ lv l k h1 h2 (hM.mono hle) w hG) hw hA hFG) ?_
  rw [fnd_some h1 h2 h3]
  have hNj := hN j h1
  refine r_val .none rfl (p_assign rfl) ?_
  refine r_nil ?_
  refine e_next ?_
  refine c_seq ?_
  refine c_seq ?_
  refine c_region ?_
  refine r_val .none rfl (p_move rfl) ?_
  refine r_val .none rfl (p_lt rfl rfl) ?_
  refine r_say (d := 13) (v := Value.bool false) (congrArg (fun z => some (Value.bool z)) (decide_eq_false (by omega))) ?_
  refine r_nil ?_
  refine e_next ?_
  refine c_cond_f rfl ?_
  refine c_skip ?_
  refine e_next ?_
  refine c_seq ?_
  refine c_region ?_
  refine r_front (k := 1) rfl ?_
  refine r_unex (fun lv => ?_)
  refine r_unpack ?_
  refine r_row1 (k := 1) rfl (fun o1 => ?_)
  refine r_rowblk (k := 1) rfl (by omega) (fun pb cap hv _ => ?_)
  refine r_val .none rfl (p_move rfl) ?_
  refine r_val .none rfl (p_nilcheck rfl) ?_
  refine r_val .none rfl (p_field Try.underlying80 rfl sz78 rfl) ?_
  refine r_val .none rfl (p_ld (k := 0) Try.underlying78 rfl rfl rfl (by first | exact of_decide_eq_true rfl | omega) rfl) ?_
  refine r_val .none rfl (p_move rfl) ?_
  refine r_val .none rfl (iaddr_o Try.underlying78 sz100 rfl hv rfl (by first | exact of_decide_eq_true rfl | omega)) ?_
  refine r_val .none rfl (p_field Try.underlying100 rfl sz3 rfl) ?_
  refine r_val .none rfl (p_ldo (k := 1) (j := 3) Try.underlying3 rfl rfl hv rfl (by first | exact of_decide_eq_true rfl | omega) (by first | exact of_decide_eq_true rfl | omega) ((flatMap_get (cells := mC) (fun _ => rfl) m0 _ _ _ (by first | exact of_decide_eq_true rfl | omega) (by first | exact of_decide_eq_true rfl | omega)).trans (rfl : _ = Value.int _ _))) ?_
  refine r_val .none rfl (p_sub rfl rfl (by omega)) ?_
  refine r_val .none rfl (iaddr_o Try.underlying78 sz100 rfl hv rfl (by first | exact of_decide_eq_true rfl | omega)) ?_
  refine r_val .none rfl (p_field Try.underlying100 rfl sz3 rfl) ?_
  refine r_sto (k := 1) (i := j * 5 + 3) (vs := [.int .i64 ((l.getD j m0).2.1 - 1)]) .none sz3 rfl rfl rfl (fun z hz => by rw [List.mem_singleton.1 hz]; rfl) rfl hv (by simp only [List.length_singleton]; omega) ?_
  have hls : ((l.set j ((l.getD j m0).1, (l.getD j m0).2.1 - 1, (l.getD j m0).2.2.1, (l.getD j m0).2.2.2))).length = l.length := List.length_set
  refine r_conv (B := rowA lv 100 5 l.length (((l.set j ((l.getD j m0).1, (l.getD j m0).2.1 - 1, (l.getD j m0).2.2.1, (l.getD j m0).2.2.2))).flatMap mC)) (k := 1) rfl (fun _ _ h => rowA_congr rfl (put_n h1 _) _ _ h) ?_
  dsimp only [List.set_cons_zero, List.set_cons_succ]
  refine r_nil ?_
  refine e_next ?_
  refine c_seq ?_
  refine c_region ?_
  refine r_val .none rfl (p_move rfl) ?_
  refine r_val .none rfl (p_nilcheck rfl) ?_
  refine r_val .none rfl (p_field Try.underlying80 rfl sz78 rfl) ?_
  refine r_val .none rfl (p_ld (k := 0) Try.underlying78 rfl rfl rfl (by first | exact of_decide_eq_true rfl | omega) rfl) ?_
  refine r_val .none rfl (p_move rfl) ?_
  refine r_val .none rfl (iaddr_o Try.underlying78 sz100 rfl hv rfl (by first | exact of_decide_eq_true rfl | omega)) ?_
  refine r_val .none rfl (p_field Try.underlying100 rfl sz3 rfl) ?_
  refine r_val .none rfl (p_ldo (k := 1) (j := 3) Try.underlying3 rfl rfl hv rfl (by first | exact of_decide_eq_true rfl | omega) (by first | exact of_decide_eq_true rfl | omega) ((flatMap_get (cells := mC) (fun _ => rfl) m0 _ _ _ (by first | exact of_decide_eq_true rfl | omega) (by first | exact of_decide_eq_true rfl | omega)).trans (rfl : _ = Value.int _ _))) ?_
  rw [show (l.set j ((l.getD j m0).1, (l.getD j m0).2.1 - 1, (l.getD j m0).2.2.1, (l.getD j m0).2.2.2)).getD j m0 = ((l.getD j m0).1, (l.getD j m0).2.1 - 1, (l.getD j m0).2.2.1, (l.getD j m0).2.2.2) from getD_set h1]
  refine r_val .none rfl (p_assign rfl) ?_
  refine r_nil ?_
  refine e_next ?_
  refine c_seq ?_
  refine c_seq ?_
  refine c_region ?_
  refine r_val .none rfl (p_move rfl) ?_
  refine r_val .none rfl (p_eq rfl rfl) ?_
  refine r_nil ?_
  refine e_next ?_
  refine c_splitd (d := 34) rfl (fun h_1 => ?_) (fun h_1 => ?_)
  ·
   have hz : (l.getD j m0).2.1 - 1 = 0 := h_1
   first
    | (exfalso; first | omega | assumption)
    | (
     refine c_cond_t rfl ?_
     refine c_seq ?_
     refine c_region ?_
     refine r_val .none rfl (p_assign rfl) ?_
     refine r_nil ?_
     refine e_next ?_
     refine c_seq ?_
     refine c_region ?_
     refine r_val .none rfl (p_move rfl) ?_
     refine r_front (k := 1) rfl ?_
     refine r_freeze (k := 0) rfl (fun G_2 hn_3 hs_4 => ?_)
     replace hM := MOk.mono hM hn_3.le
     have hLf : SlL G_2 lv 5 mC m0 (l.set j ((l.getD j m0).1, (l.getD j m0).2.1 - 1, (l.getD j m0).2.2.1, (l.getD j m0).2.2.2)) := SlL.of (cells := mC) m0 (fun _ => rfl) hls.symm hs_4
     have hM1 : MOk G_2 (l.set j ((l.getD j m0).1, (l.getD j m0).2.1 - 1, (l.getD j m0).2.2.1, (l.getD j m0).2.2.2)) := mok_set hM (mok_get hM j)
     refine r_val .none rfl (p_move rfl) ?_
     refine r_val .none rfl (p_nilcheck rfl) ?_
     refine r_val .none rfl (p_field Try.underlying80 rfl sz78 rfl) ?_
     refine r_val .none rfl (p_ld (k := 0) Try.underlying78 rfl rfl rfl (by first | exact of_decide_eq_true rfl | omega) rfl) ?_
     refine r_val .none rfl (p_move rfl) ?_
     refine r_slice0 (j) .none rfl Try.underlying78 sz100 rfl hLf rfl (by first | exact of_decide_eq_true rfl | omega) (fun v_5 hs_6 => ?_)
     refine r_nilrow 100 5 ?_
     refine r_append_g (k := 0) .none rfl Try.underlying78 el100 rfl (by decide) rfl rfl rfl hs_6 (fun i _ q hq => mC_one (mok_get hM1 _).one q hq) (by simp only [maxLen]; omega) (by omega) (fun v_8 => ?_)
     refine r_row1 (k := 0) rfl (fun o_9 => ?_)
     refine r_val .none rfl (p_assign rfl) ?_
     refine r_nil ?_
     refine e_next ?_
     refine c_seq ?_
     refine c_region ?_
     refine r_val .none rfl (p_move rfl) ?_
     refine r_val .none rfl (p_move rfl) ?_
     refine r_val .none rfl (p_nilcheck rfl) ?_
     refine r_val .none rfl (p_field Try.underlying80 rfl sz78 rfl) ?_
     refine r_val .none rfl (p_ld (k := 1) Try.underlying78 rfl rfl rfl (by first | exact of_decide_eq_true rfl | omega) rfl) ?_
     refine r_val .none rfl (p_move rfl) ?_
     refine r_val .none rfl (p_add rfl rfl (by omega)) ?_
     refine r_slice ((j + 1)) (_) (q' := .i64) .none rfl Try.underlying78 sz100 rfl hLf rfl rfl (by first | exact of_decide_eq_true rfl | omega) (by first | exact of_decide_eq_true rfl | omega) (fun v_10 hs_11 => ?_)
     refine r_append_g (k := 0) .none rfl Try.underlying78 el100 rfl (by decide) rfl rfl rfl hs_11 (fun i _ q hq => mC_one (mok_get hM1 _).one q hq) (by simp only [maxLen]; omega) (by omega) (fun v_13 => ?_)
     refine r_row1 (k := 0) rfl (fun o_14 => ?_)
     refine r_val .none rfl (p_assign rfl) ?_
     refine r_nil ?_
     refine e_next ?_
     refine c_region ?_
     refine r_val .none rfl (p_move rfl) ?_
     refine r_val .none rfl (p_move rfl) ?_
     refine r_val .none rfl (p_nilcheck rfl) ?_
     refine r_val .none rfl (p_field Try.underlying80 rfl sz78 rfl) ?_
     refine r_st (k := 1) .none sz78 rfl rfl o_14 rfl (by first | exact of_decide_eq_true rfl | omega) ?_
     refine r_nil ?_
     refine e_next ?_
     refine c_seq ?_
     refine c_region ?_
     refine r_val .none rfl (p_move rfl) ?_
     refine r_val .none rfl (p_assign rfl) ?_
     refine r_val .none rfl (p_assign rfl) ?_
     refine r_nil ?_
     refine e_next ?_
     refine c_ret ?_
     refine e_front (k := 1) rfl ?_
     refine e_retn Try.results39 (.tmp rfl (.tmp rfl .nil)) rfl (fun w hm => ⟨_, (l.take j ++ l.drop (j + 1)), hn_3, hm.has, ⟨by rw [rDrop_last (era_some h1 h2 h3) hz], by rw [rDrop_last (era_some h1 h2 h3) hz, era_cut h1 h2 h3], mok_cut hM j⟩, hm.keptG [box b 1 80 (at_ [v_13]), rowA v_13 100 5 (l.take j ++ l.drop (j + 1)).length ((l.take j ++ l.drop (j + 1)).flatMap mC)] (.keep (fun _ _ h => box_congr (fun i hi => by match i, hi with | 0, _ => rfl) _ _ h) (.keep (fun _ _ h => by rw [← cut_set (m := ((l.getD j m0).1, (l.getD j m0).2.1 - 1, (l.getD j m0).2.2.1, (l.getD j m0).2.2.2))]; exact rowA_cutM (by omega) _ _ h) (.drop (.nil)))) (robj 80 100 5 mC b ((l.take j ++ l.drop (j + 1)))) (fun F' h => robj_mk h)⟩)
     )
  ·
   have hz : ¬ (l.getD j m0).2.1 - 1 = 0 := h_1
   first
    | (exfalso; first | omega | assumption)
    | (
     refine c_cond_f rfl ?_
     refine c_skip ?_
     refine e_next ?_
     refine c_seq ?_
     refine c_region ?_
     refine r_val .none rfl (p_move rfl) ?_
     refine r_val .none rfl (p_assign rfl) ?_
     refine r_val .none rfl (p_assign rfl) ?_
     refine r_nil ?_
     refine e_next ?_
     refine c_ret ?_
     refine e_retn Try.results39 (.tmp rfl (.tmp rfl .nil)) rfl (fun w hm => ⟨_, (l.set j ((l.getD j m0).1, (l.getD j m0).2.1 - 1, (l.getD j m0).2.2.1, (l.getD j m0).2.2.2)), (GNew.refl _ _ _), hm.has, ⟨by rw [rDrop_more (era_some h1 h2 h3) hz], by rw [rDrop_more (era_some h1 h2 h3) hz]; exact era_set (m2 := ((l.getD j m0).1, (l.getD j m0).2.1 - 1, (l.getD j m0).2.2.1, (l.getD j m0).2.2.2)) h2 h1 h2 h3, mok_set hM (mok_get hM j)⟩, hm.keptG [box b 1 80 (at_ [lv]), rowA lv 100 5 ((l.set j ((l.getD j m0).1, (l.getD j m0).2.1 - 1, (l.getD j m0).2.2.1, (l.getD j m0).2.2.2))).length (((l.set j ((l.getD j m0).1, (l.getD j m0).2.1 - 1, (l.getD j m0).2.2.1, (l.getD j m0).2.2.2))).flatMap mC)] (.keep (fun _ _ h => h) (.keep (fun _ _ h => by rw [hls]; exact h) (.drop (.nil)))) (robj 80 100 5 mC b ((l.set j ((l.getD j m0).1, (l.getD j m0).2.1 - 1, (l.getD j m0).2.2.1, (l.getD j m0).2.2.2)))) (fun F' h => robj_mk h)⟩)
     )
theorem c_xwant {F : Nat → Prop} {G : Ghost} (b : Nat) (k : Tri) (fv : Value) (fs : List FD) (l : List MV) (hM : MOk G l) (hn : l.length ≤ 1000) (hfs : SlL G fv 4 fC (0, zT) fs) (hfl : fs.length ≤ 100) (hN : ∀ i, i < l.length → 1 ≤ (l.getD i m0).2.1 ∧ (l.getD i m0).2.1 ≤ 1000) (w : World) (hG : Has G w) (hA : (robj 80 100 5 mC b (l)).holds w F) (hFG : ∀ b, F b → G b = none) :
  Calls Try.prog 37 #[Value.pointer (some ⟨b, 0, none⟩), kT k, fv] w (Ret fun r w' => ∃ G' l2, GNew w F G G' ∧ Has G' w' ∧ (r = Value.int .i64 (rWant (eraM l) k fs).1 ∧ eraM l2 = (rWant (eraM l) k fs).2 ∧ MOk G' l2) ∧ KeptG (robj 80 100 5 mC b (l2)) F G' w w') := by
 refine enterO (args := [_, _, _]) (G := G) (A := robj 80 100 5 mC b (l)) (l := [(0, Value.pointer (some ⟨b, 0, none⟩)), (1, kT k), (2, fv)]) Try.func37 rfl Try.ntmps37 hG hA hFG ⟨rfl, rfl, rfl, trivial⟩ (Nat.le_of_ble_eq_true rfl) ?_
 refine c_seq ?_
 refine c_region ?_
 refine r_box .none rfl rfl (IsRow.lit _) (fun b_1 => ?_)
 refine r_val .none rfl (p_assign rfl) ?_
 refine r_nil ?_
 refine e_next ?_
 refine c_seq ?_
 refine c_seq ?_
 refine c_region ?_
 refine r_val .none rfl (p_move rfl) ?_
 refine r_val .none rfl (p_ldw (k := 0) Try.underlying60 rfl sz60 rfl rfl (rfl : _ = Value.agg #[_, _, _])) ?_
 rcases first_at (k := k) l with hf | ⟨j, h1, h2, h3⟩
 ·
  refine r_callo (k := 1) (vs := [_, _]) .none rfl cl77 rfl rfl (fun w F hw hA hFG => robj_see (cells := mC) m0 (fun _ => rfl) (R := fun r => r = Value.int .i64 (fndI l k)) (fun G' lv hle h1 h2 hG => c_find _ lv l k h1 h2 (hM.mono hle) w hG) hw hA hFG) ?_
  rw [fnd_none hf]
  refine r_val .none rfl (p_assign rfl) ?_
  refine r_nil ?_
  refine e_next ?_
  refine c_seq ?_
  refine c_region ?_
  refine r_val .none rfl (p_move rfl) ?_
  refine r_val .none rfl (p_ge rfl rfl) ?_
  refine r_say (d := 15) (v := Value.bool false) rfl ?_
  refine r_nil ?_
  refine e_next ?_
  refine c_cond_f rfl ?_
  refine c_skip ?_
  refine e_next ?_
  refine c_seq ?_
  refine c_region ?_
  refine r_val .none rfl (p_ldw (k := 0) Try.underlying60 rfl sz60 rfl rfl (rfl : _ = Value.agg #[_, _, _])) ?_
  refine r_val .none rfl (p_build (vs := [(0, Value.agg #[_, _, _]), (1, Value.int _ _)]) rfl (bl100_0a3_1i1 _ _ _ _)) ?_
  refine r_alloc .none rfl zr100 (IsRow.lit _) (fun b_2 => ?_)
  refine r_stw (k := 0) .none sz100 rfl rfl (IsRow.lit _) (one_lit rfl rfl) rfl ?_
  refine r_nil ?_
  refine e_next ?_
  refine c_seq ?_
  refine c_seq ?_
  refine c_region ?_
  refine r_val .none rfl (p_move rfl) ?_
  refine r_val .none rfl (p_leng Try.underlying85 rfl hfs) ?_
  have bd_1 := (hfs).bound
  refine r_val .none rfl (p_move rfl) ?_
  refine r_nil ?_
  refine e_next ?_
  refine c_block ?_
  refine c_name (d := 0) rfl (fun u_2 hu_2 => ?_)
  refine c_name (d := 4) rfl (fun u_3 hu_3 => ?_)
  refine c_name (d := 6) rfl (fun u_4 hu_4 => ?_)
  refine c_name (d := 8) rfl (fun u_5 hu_5 => ?_)
  refine c_name (d := 37) rfl (fun u_6 hu_6 => ?_)
  refine c_name (d := 38) rfl (fun u_7 hu_7 => ?_)
  refine c_nameL (k := 1) rfl (fun A_8 hA_8 => ?_)
  refine c_nameL (k := 2) rfl (fun A_9 hA_9 => ?_)
  refine c_loop (σ := Nat × Value × Ghost) (fun s' => [(39, Value.int .i64 (s'.1 : Nat)), (0, u_2), (4, u_3), (6, u_4), (8, u_5), (37, u_6), (38, u_7)]) (fun s' => [box b_2 5 100 (at_ [.int .i64 k.1, .int .i64 k.2.1, .int .i64 k.2.2, .int .i64 1, s'.2.1]), A_8, A_9]) (fun s' => s'.2.2) (fun s' => s'.1 ≤ fs.length ∧ GNew w F G s'.2.2 ∧ SlL s'.2.2 s'.2.1 1 cI (0 : Int) (rfill k (fs.take s'.1) [])) (fun s' => fs.length - s'.1) ((0, .slice none 0 0, _)) ⟨Nat.zero_le _, GNew.refl _ _ _, SlG.nil _ _ _⟩ rfl ⟨rfl, rfl, rfl, rfl, rfl, rfl, rfl, trivial⟩ (.keep (fun _ _ h => box_congr (fun i hi => by match i, hi with | 0, _ => rfl | 1, _ => rfl | 2, _ => rfl | 3, _ => rfl | 4, _ => rfl) _ _ h) (.keep (fun _ _ h => h) (.keep (fun _ _ h => h) (.nil)))) (fun s' hphi => ?_)
  subst hu_2
  subst hu_3
  subst hu_4
  subst hu_5
  subst hu_6
  subst hu_7
  subst hA_8
  subst hA_9
  obtain ⟨i, hv2, H⟩ := s'
  obtain ⟨hi, hgn, hsl⟩ := hphi
  dsimp only at hi hgn hsl ⊢
  have hrl := rfill_len k (fs.take i)
  have hrl2 : (fs.take i).length ≤ 100 := by rw [List.length_take]; omega
  replace hfs := hfs.mono hgn.le
  replace hM := MOk.mono hM hgn.le
  refine c_seq ?_
  refine c_region ?_
  refine r_val .none rfl (p_lt rfl rfl) ?_
  refine r_nil ?_
  refine e_next ?_
  refine c_seq ?_
  refine c_splitd (d := 40) rfl (fun h_10 => ?_) (fun h_10 => ?_)
  ·
   first
    | (exfalso; first | omega | assumption)
    | (
     refine c_cond_t rfl ?_
     refine c_skip ?_
     refine e_next ?_
     refine c_seq ?_
     refine c_block ?_
     refine c_seq ?_
     refine c_region ?_
     refine r_iaddr_g .none rfl Try.underlying85 sz146 rfl hfs rfl (by first | exact of_decide_eq_true rfl | omega) (fun p_12 o_13 R_11 => ?_)
     refine r_val .none rfl (p_ldga0 Try.underlying146 rfl sz146 rfl R_11 (by first | exact of_decide_eq_true rfl | omega) (rfl : _ = Value.agg #[_, _, _, _])) ?_
     refine r_alloc .none rfl zr146 (IsRow.lit _) (fun b_3 => ?_)
     refine r_stw (k := 0) .none sz146 rfl rfl (IsRow.lit _) (one_lit rfl rfl) rfl ?_
     refine r_nil ?_
     refine e_next ?_
     refine c_seq ?_
     refine c_region ?_
     refine r_val .none rfl (p_field Try.underlying146 rfl sz60 rfl) ?_
     refine r_val .none rfl (p_lda (k := 0) Try.underlying60 rfl sz60 rfl rfl (by first | exact of_decide_eq_true rfl | omega) (rfl : _ = Value.agg #[_, _, _])) ?_
     refine r_val .none rfl (p_ldw (k := 2) Try.underlying60 rfl sz60 rfl rfl (rfl : _ = Value.agg #[_, _, _])) ?_
     refine r_call (vs := [_, _]) .none rfl cl31 rfl (fun w hw => c_has7 (fs.getD i (0, zT)).2 k w) ?_
     refine r_val .none rfl (p_move rfl) ?_
     refine r_split (d := 47) rfl (fun h_14 => ?_) (fun h_14 => ?_)
     ·
      have hK : hasK (fs.getD i (0, zT)).2 k = true := h_14
      first
       | (exfalso; first | omega | assumption)
       | (
        refine r_val (.some rfl rfl) rfl (p_field Try.underlying100 rfl sz42 rfl) ?_
        refine r_val (.some rfl rfl) rfl (p_ld (k := 1) Try.underlying42 rfl rfl rfl (by first | exact of_decide_eq_true rfl | omega) rfl) ?_
        refine r_val (.some rfl rfl) rfl (p_field Try.underlying146 rfl sz3 rfl) ?_
        refine r_val (.some rfl rfl) rfl (p_ld (k := 0) Try.underlying3 rfl rfl rfl (by first | exact of_decide_eq_true rfl | omega) (rfl : _ = Value.int _ _)) ?_
        refine r_call (vs := [_, _]) (.some rfl rfl) rfl cl78 rfl (fun w hw => c_has12 _ (rfill k (fs.take i) []) (fs.getD i (0, zT)).1 hsl w hw) ?_
        refine r_val (.some rfl rfl) rfl (p_not rfl) ?_
        refine r_val .none rfl (p_pick_t rfl rfl) ?_
        refine r_nil ?_
        refine e_next ?_
        refine c_splitn (d := 54) rfl (fun h_15 => ?_) (fun h_15 => ?_)
        ·
         have hNI : (fs.getD i (0, zT)).1 ∉ (rfill k (fs.take i) []) := by (have h9 := h_15; simpa using h9)
         first
          | (exfalso; first | omega | assumption)
          | (
           refine c_cond_t rfl ?_
           refine c_region ?_
           refine r_val .none rfl (p_field Try.underlying100 rfl sz42 rfl) ?_
           refine r_val .none rfl (p_ld (k := 1) Try.underlying42 rfl rfl rfl (by first | exact of_decide_eq_true rfl | omega) rfl) ?_
           refine r_val .none rfl (p_field Try.underlying146 rfl sz3 rfl) ?_
           refine r_val .none rfl (p_ld (k := 0) Try.underlying3 rfl rfl rfl (by first | exact of_decide_eq_true rfl | omega) (rfl : _ = Value.int _ _)) ?_
           refine r_callrow (vs := [_, _]) .none rfl cl79 rfl (fun w hw => c_put12 _ (rfill k (fs.take i) []) (fs.getD i (0, zT)).1 hsl (by omega) w hw) (fun r_16 => ?_)
           refine r_freeze (k := 0) rfl (fun G_17 hn_18 hs_19 => ?_)
           replace hfs := hfs.mono hn_18.le
           replace hM := MOk.mono hM hn_18.le
           replace hsl := hsl.mono hn_18.le
           replace R_11 := R_11.mono hn_18.le
           have hp2 : SlL G_17 r_16 1 cI (0 : Int) (insS (rfill k (fs.take i) []) (fs.getD i (0, zT)).1) := SlL.of (cells := cI) (0 : Int) (fun _ => rfl) rfl hs_19
           refine r_val .none rfl (p_field Try.underlying100 rfl sz42 rfl) ?_
           refine r_st (k := 1) .none sz42 rfl rfl (hp2).one rfl (by first | exact of_decide_eq_true rfl | omega) ?_
           refine r_nil ?_
           refine e_norm_block ?_
           refine e_next ?_
           refine c_region ?_
           refine r_val .none rfl (p_add rfl rfl (by omega)) ?_
           refine r_val .none rfl (p_move rfl) ?_
           refine r_nil ?_
           refine e_round ((i + 1, r_16, _)) ⟨⟨by dsimp only; omega, (hgn.trans hn_18), by dsimp only; rw [rfill_next (by omega), if_pos ⟨hK, hNI⟩]; exact hp2⟩, by dsimp only; omega⟩ rfl ⟨rfl, rfl, rfl, rfl, rfl, rfl, rfl, trivial⟩ (.drop (.keep (fun _ _ h => box_congr (fun i hi => by match i, hi with | 0, _ => rfl | 1, _ => rfl | 2, _ => rfl | 3, _ => rfl | 4, _ => rfl) _ _ h) (.keep (fun _ _ h => h) (.keep (fun _ _ h => h) (.nil)))))
           )
        ·
         have hQ : ¬ (hasK (fs.getD i (0, zT)).2 k = true ∧ (fs.getD i (0, zT)).1 ∉ (rfill k (fs.take i) [])) := fun h9 => by (have h8 := h_15; exact h9.2 (by simpa using h8))
         first
          | (exfalso; first | omega | assumption)
          | (
           refine c_cond_f rfl ?_
           refine c_skip ?_
           refine e_norm_block ?_
           refine e_next ?_
           refine c_region ?_
           refine r_val .none rfl (p_add rfl rfl (by omega)) ?_
           refine r_val .none rfl (p_move rfl) ?_
           refine r_nil ?_
           refine e_round ((i + 1, hv2, _)) ⟨⟨by dsimp only; omega, hgn, by dsimp only; rw [rfill_next (by omega), if_neg hQ]; exact hsl⟩, by dsimp only; omega⟩ rfl ⟨rfl, rfl, rfl, rfl, rfl, rfl, rfl, trivial⟩ (.drop (.keep (fun _ _ h => h) (.keep (fun _ _ h => h) (.keep (fun _ _ h => h) (.nil)))))
           )
        )
     ·
      have hQ : ¬ (hasK (fs.getD i (0, zT)).2 k = true ∧ (fs.getD i (0, zT)).1 ∉ (rfill k (fs.take i) [])) := fun h9 => by (have h8 := h_14; rw [h9.1] at h8; cases h8)
      first
       | (exfalso; first | omega | assumption)
       | (
        refine r_skip rfl (.no rfl rfl) ?_
        refine r_skip rfl (.no rfl rfl) ?_
        refine r_skip rfl (.no rfl rfl) ?_
        refine r_skip rfl (.no rfl rfl) ?_
        refine r_skip rfl (.no rfl rfl) ?_
        refine r_skip rfl (.no rfl rfl) ?_
        refine r_val .none rfl (p_pick_f rfl rfl) ?_
        refine r_nil ?_
        refine e_next ?_
        refine c_cond_f rfl ?_
        refine c_skip ?_
        refine e_norm_block ?_
        refine e_next ?_
        refine c_region ?_
        refine r_val .none rfl (p_add rfl rfl (by omega)) ?_
        refine r_val .none rfl (p_move rfl) ?_
        refine r_nil ?_
        refine e_round ((i + 1, hv2, _)) ⟨⟨by dsimp only; omega, hgn, by dsimp only; rw [rfill_next (by omega), if_neg hQ]; exact hsl⟩, by dsimp only; omega⟩ rfl ⟨rfl, rfl, rfl, rfl, rfl, rfl, rfl, trivial⟩ (.drop (.keep (fun _ _ h => h) (.keep (fun _ _ h => h) (.keep (fun _ _ h => h) (.nil)))))
        )
     )
  ·
   first
    | (exfalso; first | omega | assumption)
    | (
     refine c_cond_f rfl ?_
     refine c_exit ?_
     refine e_exit_then ?_
     refine e_exit_then ?_
     refine e_exit_block ?_
     refine e_next ?_
     refine c_seq ?_
     have hft : fs.take i = fs := List.take_of_length_le (by omega)
     refine c_front (k := 2) rfl ?_
     refine c_unex (fun lv => ?_)
     refine c_unpack ?_
     refine c_row1 (k := 1) rfl (fun o1 => ?_)
     refine c_region_d (fun j => [0, 7, 8, 9, 10].contains j) _ mixed (.keep (fun _ _ h => h) (.keep (fun _ _ h => h) (.keep (fun _ _ h => h) (.keep (fun _ _ h => h) (.nil))))) ?_
     refine d_val2 0 rfl rfl (by kernel_rfl) .none rfl (fun _ => p_move rfl) ?_
     refine d_val1 1 rfl rfl (by kernel_rfl) (fun j hj => by have h : 10 < j := (Nat.lt_of_lt_of_le (by decide : 10 < 11) hj); simp; omega) .none rfl (p_move rfl) ?_
     refine d_val1 2 rfl rfl (by kernel_rfl) (fun j hj => by have h : 10 < j := (Nat.lt_of_lt_of_le (by decide : 10 < 11) hj); simp; omega) .none rfl (p_nilcheck rfl) ?_
     refine d_val1 3 rfl rfl (by kernel_rfl) (fun j hj => by have h : 10 < j := (Nat.lt_of_lt_of_le (by decide : 10 < 11) hj); simp; omega) .none rfl (p_field Try.underlying80 rfl sz78 rfl) ?_
     refine d_val1 4 rfl rfl (by kernel_rfl) (fun j hj => by have h : 10 < j := (Nat.lt_of_lt_of_le (by decide : 10 < 11) hj); simp; omega) .none rfl (p_ld (k := 0) Try.underlying78 rfl rfl rfl (by first | exact of_decide_eq_true rfl | omega) rfl) ?_
     refine d_val1 5 rfl rfl (by kernel_rfl) (fun j hj => by have h : 10 < j := (Nat.lt_of_lt_of_le (by decide : 10 < 11) hj); simp; omega) .none rfl (p_ldw (k := 2) Try.underlying100 rfl sz100 rfl rfl (rfl : _ = Value.agg #[_, _, _, _, _])) ?_
     refine d_eff 6 rfl (by kernel_rfl) (fun K_20 hKK_20 hcK_20 => ?_)
     refine r_bslice (vs := [(0, Value.agg #[_, _, _, _, _])]) (c := #[_, _, _, _, _]) .none rfl Try.underlying78 el100 rfl rfl rfl (bs100_10a5 _ _ _ _ _) (IsRow.lit _) (fun b_4 => ?_)
     refine r_nil (e_d (i := 6) (brk := (fun j => [0, 7, 8, 9, 10].contains j)) (ph' := true) hKK_20 hcK_20 rfl (fun _ => GLe.refl _) (fun _ => .drop (.keep (fun _ _ h => h) (.keep (fun _ _ h => h) (.keep (fun _ _ h => h) (.keep (fun _ _ h => h) (.nil)))))) ?_)
     clear hKK_20 hcK_20 K_20
     refine d_eff 7 rfl (by kernel_rfl) (fun K_21 hKK_21 hcK_21 => ?_)
     refine r_append (k := 2) (k2 := 0) .none rfl Try.underlying78 el100 rfl (by decide) rfl rfl rfl rfl rfl (one_lit rfl (all_cons rfl (all_cons rfl (all_cons rfl (all_cons rfl (all_cons (hsl).one rfl)))))) (by simp only [maxLen]; omega) (by omega) (fun v_22 => ?_)
     refine r_row1 (k := 2) rfl (fun o_23 => ?_)
     refine r_nil (e_d (i := 7) (brk := (fun j => [0, 7, 8, 9, 10].contains j)) (ph' := false) hKK_21 hcK_21 rfl (fun h => by cases h) (fun h => by cases h) ?_)
     clear hKK_21 hcK_21 K_21
     refine d_val2 8 rfl rfl (by kernel_rfl) .none rfl (fun _ => p_nilcheck rfl) ?_
     refine d_val2 9 rfl rfl (by kernel_rfl) .none rfl (fun _ => p_field Try.underlying80 rfl sz78 rfl) ?_
     refine d_eff 10 rfl (by kernel_rfl) (fun K_24 hKK_24 hcK_24 => ?_)
     refine r_st (k := 1) .none sz78 rfl rfl o_23 rfl (by first | exact of_decide_eq_true rfl | omega) ?_
     refine r_nil (e_d (i := 10) (brk := (fun j => [0, 7, 8, 9, 10].contains j)) (ph' := false) hKK_24 hcK_24 rfl (fun h => by cases h) (fun h => by cases h) ?_)
     clear hKK_24 hcK_24 K_24
     refine d_nil (by kernel_rfl) ?_
     refine e_next ?_
     refine c_seq ?_
     refine c_region ?_
     refine r_val .none rfl (p_assign rfl) ?_
     refine r_nil ?_
     refine e_next ?_
     refine c_ret ?_
     refine e_front (k := 2) rfl ?_
     refine e_front (k := 2) rfl ?_
     refine e_ret1 Try.results37 (.tmp rfl .nil) (fun w hm => ⟨_, (l ++ [((k, (1 : Int), hv2, rfill k fs []) : MV)]), hgn, hm.has, ⟨by rw [rWant_none (era_none hf)], by rw [rWant_none (era_none hf), mput_none (era_none hf), eraM, List.map_append]; rfl, mok_snoc hM (by rw [hft] at hsl; exact hsl)⟩, hm.keptG [box b 1 80 (at_ [v_22]), rowA v_22 100 5 (l ++ [((k, (1 : Int), hv2, rfill k fs []) : MV)]).length ((l ++ [((k, (1 : Int), hv2, rfill k fs []) : MV)]).flatMap mC)] (.keep (fun _ _ h => box_congr (fun i hi => by match i, hi with | 0, _ => rfl) _ _ h) (.keep (fun _ _ h => rowA_snoc (x := ((k, (1 : Int), hv2, rfill k fs []) : MV)) rfl rfl rfl rfl _ _ h) (.drop (.drop (.drop (.nil)))))) (robj 80 100 5 mC b ((l ++ [((k, (1 : Int), hv2, rfill k fs []) : MV)]))) (fun F' h => robj_mk h)⟩)
     )
 ·
  refine r_callo (k := 1) (vs := [_, _]) .none rfl cl77 rfl rfl (fun w F hw hA hFG => robj_see (cells := mC) m0 (fun _ => rfl) (R := fun r => r = Value.int .i64 (fndI l k)) (fun G' lv hle h1 h2 hG => c_find _ lv l k h1 h2 (hM.mono hle) w hG) hw hA hFG) ?_
  rw [fnd_some h1 h2 h3]
  have hNj := hN j h1
  refine r_val .none rfl (p_assign rfl) ?_
  refine r_nil ?_
  refine e_next ?_
  refine c_seq ?_
  refine c_region ?_
  refine r_val .none rfl (p_move rfl) ?_
  refine r_val .none rfl (p_ge rfl rfl) ?_
  refine r_say (d := 15) (v := Value.bool true) (congrArg (fun z => some (Value.bool z)) (decide_eq_true (by omega))) ?_
  refine r_nil ?_
  refine e_next ?_
  refine c_cond_t rfl ?_
  refine c_seq ?_
  refine c_region ?_
  refine r_front (k := 1) rfl ?_
  refine r_unex (fun lv => ?_)
  refine r_unpack ?_
  refine r_row1 (k := 1) rfl (fun o1 => ?_)
  refine r_rowblk (k := 1) rfl (by omega) (fun pb cap hv _ => ?_)
  refine r_val .none rfl (p_move rfl) ?_
  refine r_val .none rfl (p_nilcheck rfl) ?_
  refine r_val .none rfl (p_field Try.underlying80 rfl sz78 rfl) ?_
  refine r_val .none rfl (p_ld (k := 0) Try.underlying78 rfl rfl rfl (by first | exact of_decide_eq_true rfl | omega) rfl) ?_
  refine r_val .none rfl (p_move rfl) ?_
  refine r_val .none rfl (iaddr_o Try.underlying78 sz100 rfl hv rfl (by first | exact of_decide_eq_true rfl | omega)) ?_
  refine r_val .none rfl (p_field Try.underlying100 rfl sz3 rfl) ?_
  refine r_val .none rfl (p_ldo (k := 1) (j := 3) Try.underlying3 rfl rfl hv rfl (by first | exact of_decide_eq_true rfl | omega) (by first | exact of_decide_eq_true rfl | omega) ((flatMap_get (cells := mC) (fun _ => rfl) m0 _ _ _ (by first | exact of_decide_eq_true rfl | omega) (by first | exact of_decide_eq_true rfl | omega)).trans (rfl : _ = Value.int _ _))) ?_
  refine r_val .none rfl (p_add rfl rfl (by omega)) ?_
  refine r_val .none rfl (iaddr_o Try.underlying78 sz100 rfl hv rfl (by first | exact of_decide_eq_true rfl | omega)) ?_
  refine r_val .none rfl (p_field Try.underlying100 rfl sz3 rfl) ?_
  refine r_sto (k := 1) (i := j * 5 + 3) (vs := [.int .i64 ((l.getD j m0).2.1 + 1)]) .none sz3 rfl rfl rfl (fun z hz => by rw [List.mem_singleton.1 hz]; rfl) rfl hv (by simp only [List.length_singleton]; omega) ?_
  have hls : ((l.set j ((l.getD j m0).1, (l.getD j m0).2.1 + 1, (l.getD j m0).2.2.1, (l.getD j m0).2.2.2))).length = l.length := List.length_set
  refine r_conv (B := rowA lv 100 5 l.length (((l.set j ((l.getD j m0).1, (l.getD j m0).2.1 + 1, (l.getD j m0).2.2.1, (l.getD j m0).2.2.2))).flatMap mC)) (k := 1) rfl (fun _ _ h => rowA_congr rfl (put_n h1 _) _ _ h) ?_
  dsimp only [List.set_cons_zero, List.set_cons_succ]
  refine r_nil ?_
  refine e_next ?_
  refine c_seq ?_
  refine c_region ?_
  refine r_val .none rfl (p_move rfl) ?_
  refine r_val .none rfl (p_nilcheck rfl) ?_
  refine r_val .none rfl (p_field Try.underlying80 rfl sz78 rfl) ?_
  refine r_val .none rfl (p_ld (k := 0) Try.underlying78 rfl rfl rfl (by first | exact of_decide_eq_true rfl | omega) rfl) ?_
  refine r_val .none rfl (p_move rfl) ?_
  refine r_val .none rfl (iaddr_o Try.underlying78 sz100 rfl hv rfl (by first | exact of_decide_eq_true rfl | omega)) ?_
  refine r_val .none rfl (p_field Try.underlying100 rfl sz3 rfl) ?_
  refine r_val .none rfl (p_ldo (k := 1) (j := 3) Try.underlying3 rfl rfl hv rfl (by first | exact of_decide_eq_true rfl | omega) (by first | exact of_decide_eq_true rfl | omega) ((flatMap_get (cells := mC) (fun _ => rfl) m0 _ _ _ (by first | exact of_decide_eq_true rfl | omega) (by first | exact of_decide_eq_true rfl | omega)).trans (rfl : _ = Value.int _ _))) ?_
  rw [show (l.set j ((l.getD j m0).1, (l.getD j m0).2.1 + 1, (l.getD j m0).2.2.1, (l.getD j m0).2.2.2)).getD j m0 = ((l.getD j m0).1, (l.getD j m0).2.1 + 1, (l.getD j m0).2.2.1, (l.getD j m0).2.2.2) from getD_set h1]
  refine r_val .none rfl (p_assign rfl) ?_
  refine r_nil ?_
  refine e_next ?_
  refine c_ret ?_
  refine e_ret_then ?_
  refine e_ret1 Try.results37 (.tmp rfl .nil) (fun w hm => ⟨_, (l.set j ((l.getD j m0).1, (l.getD j m0).2.1 + 1, (l.getD j m0).2.2.1, (l.getD j m0).2.2.2)), (GNew.refl _ _ _), hm.has, ⟨by rw [rWant_some (era_some h1 h2 h3)], by rw [rWant_some (era_some h1 h2 h3)]; exact era_set (m2 := ((l.getD j m0).1, (l.getD j m0).2.1 + 1, (l.getD j m0).2.2.1, (l.getD j m0).2.2.2)) h2 h1 h2 h3, mok_set hM (mok_get hM j)⟩, hm.keptG [box b 1 80 (at_ [lv]), rowA lv 100 5 ((l.set j ((l.getD j m0).1, (l.getD j m0).2.1 + 1, (l.getD j m0).2.2.1, (l.getD j m0).2.2.2))).length (((l.set j ((l.getD j m0).1, (l.getD j m0).2.1 + 1, (l.getD j m0).2.2.1, (l.getD j m0).2.2.2))).flatMap mC)] (.keep (fun _ _ h => h) (.keep (fun _ _ h => by rw [hls]; exact h) (.drop (.nil)))) (robj 80 100 5 mC b ((l.set j ((l.getD j m0).1, (l.getD j m0).2.1 + 1, (l.getD j m0).2.2.1, (l.getD j m0).2.2.2)))) (fun F' h => robj_mk h)⟩)
end Go.Proofs.Ytdcaehepmkhciaa
