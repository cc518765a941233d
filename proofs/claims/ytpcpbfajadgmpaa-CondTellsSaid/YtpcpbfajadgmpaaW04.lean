/- Walks: what Go functions of this chapter come to, each as a function on plain data; no condition but those that each theorem names. Printed by a program of this work (gen.py). -/
import Derived.Test.YtpcpbfajadgmpaaPl04
import Derived.Test.YtpcpbfajadgmpaaGxJoin
import Derived.Test.YtpcpbfajadgmpaaRows
namespace Go.Proofs.Ytpcpbfajadgmpaa
open Go.Gx Go.Gx.T3 Go.Gx.T4 Go.Gx.T3
theorem mixed : Try.prog.follows .mixedOrders = true := by
  kernel_rfl
theorem sz3 : SzIs Try.prog 3 1 := by
  unfold SzIs
  kernel_rfl
theorem sz4 : SzIs Try.prog 4 1 := by
  unfold SzIs
  kernel_rfl
theorem sz23 : SzIs Try.prog 23 2 := by
  unfold SzIs
  kernel_rfl
theorem sz24 : SzIs Try.prog 24 6 := by
  unfold SzIs
  kernel_rfl
theorem sz25 : SzIs Try.prog 25 1 := by
  unfold SzIs
  kernel_rfl
theorem sz27 : SzIs Try.prog 27 8 := by
  unfold SzIs
  kernel_rfl
theorem zr27 : ZeroIs Try.prog 27 (Value.agg #[Value.int .i64 0, Value.bool false, Value.int .i64 0, Value.bool false, Value.int .i64 0, Value.bool false, Value.int .i64 0, Value.slice none 0 0]) := by
  unfold ZeroIs
  kernel_rfl
theorem lf24 : leafT Try.prog 9 24 = some [4, 3, 4, 3, 4, 3] := by
  kernel_rfl
theorem ef24 : eqT Try.prog 9 24 = true := by
  kernel_rfl
theorem eg24 : Try.prog.eqGuardType Try.prog.depth 24 = false := by
  kernel_rfl
theorem cl13 : Callable Try.prog 13 := callable Try.func13 (by kernel_rfl) rfl
theorem cl35 : Callable Try.prog 35 := callable Try.func35 (by kernel_rfl) rfl
theorem cl36 : Callable Try.prog 36 := callable Try.func36 (by kernel_rfl) rfl
theorem bl24_  : Program.built Try.prog 24 [] = some #[Value.bool false, Value.int .i64 0, Value.bool false, Value.int .i64 0, Value.bool false, Value.int .i64 0] := by
  kernel_rfl
def CheckIs (n : Nat) : Prop := ∀ (c : CT) (sv : Value) (d : Int) (G : Ghost) (w : World), SizeOf.sizeOf c ≤ n → Cs G sv c.subs → Has G w → Calls Try.prog 13 #[Value.agg #[Value.int .i64 c.h.k, Value.bool c.h.v0, Value.int .i64 c.h.n0, Value.bool c.h.v1, Value.int .i64 c.h.n1, Value.bool c.h.v2, Value.int .i64 c.h.n2, sv], Value.int .i64 d] w (Ret fun r w' => r = Value.int .i64 (check c d) ∧ Since nX w w')
theorem c_right (b : Bool) (n : Int)  (w : World)  :
    Calls Try.prog 36 #[Value.agg #[Value.bool b, Value.int .i64 n]] w (Ret fun r w' => r = Value.bool (termRight b n) ∧ Since nX w w') := by
  refine enter (args := [_]) (X := nX) (G := (fun _ => none)) (l := [(0, Value.agg #[Value.bool b, Value.int .i64 n])]) Try.func36 rfl Try.ntmps36 (fun _ _ h => by cases h) ⟨rfl, trivial⟩ (Nat.le_of_ble_eq_true rfl) ?_
  refine c_seq ?_
  refine c_region ?_
  refine r_box .none rfl rfl (IsRow.lit _) (fun b_1 => ?_)
  refine r_val .none rfl (p_assign rfl) ?_
  refine r_nil ?_
  refine e_next ?_
  refine c_seq ?_
  refine c_region ?_
  refine r_val .none rfl (p_assign rfl) ?_
  refine r_nil ?_
  refine e_next ?_
  refine c_seq ?_
  refine c_seq ?_
  refine c_region ?_
  refine r_val .none rfl (p_field Try.underlying23 rfl sz4 rfl) ?_
  refine r_val .none rfl (p_ld (k := 0) Try.underlying4 rfl rfl rfl (by first | exact of_decide_eq_true rfl | omega) (rfl : _ = Value.bool _)) ?_
  refine r_nil ?_
  refine e_next ?_
  refine' c_join (c := 5) (D1 := [(3, .int .i64 _)]) (D2 := [(3, .int .i64 _)]) rfl (.cons .int (.nil)) (fun h_3 hQ_4 => ?_) (fun h_3 hQ_4 => ?_) ?_
  rotate_left 2
  · skip
    refine c_region ?_
    refine r_val .none rfl (p_assign rfl) ?_
    refine r_nil ?_
    refine e_finD hQ_4 ⟨rfl, trivial⟩ (by repeat (first | exact .refl | refine .put rfl ?_ | refine .say rfl (by first | assumption | simp_all) ?_))
  · skip
    refine c_skip ?_
    refine e_finD hQ_4 ⟨rfl, trivial⟩ (by repeat (first | exact .refl | refine .put rfl ?_ | refine .say rfl (by first | assumption | simp_all) ?_))
  refine e_next ?_
  refine c_seq ?_
  refine c_region ?_
  refine r_val .none rfl (p_field Try.underlying23 rfl sz3 rfl) ?_
  refine r_val .none rfl (p_ld (k := 0) Try.underlying3 rfl rfl rfl (by first | exact of_decide_eq_true rfl | omega) (rfl : _ = Value.int _ _)) ?_
  refine r_val .none rfl (p_ge rfl rfl) ?_
  refine r_val .none rfl (p_move rfl) ?_
  refine' r_and (c := 9) (d := 14) [_, _, _, _, _] rfl (fun h_5 Q_6 hQ_7 => ?_) (fun h_5 Q_6 hQ_7 => ?_) ?_
  rotate_left 1
  · skip
    replace h_5 := of_decide_eq_true h_5
    refine r_val (.some rfl rfl) rfl (p_field Try.underlying23 rfl sz3 rfl) ?_
    refine r_val (.some rfl rfl) rfl (p_ld (k := 0) Try.underlying3 rfl rfl rfl (by first | exact of_decide_eq_true rfl | omega) (rfl : _ = Value.int _ _)) ?_
    refine r_val (.some rfl rfl) rfl (p_move rfl) ?_
    refine r_val (.some rfl rfl) rfl (p_le rfl rfl) ?_
    refine r_val .none rfl (p_pick_t rfl rfl) ?_
    refine r_nil (e_fin (d := 14) hQ_7 rfl (by repeat (first | exact .refl | refine .put rfl ?_ | refine .say rfl ?_ | refine .say2 rfl (by first | assumption | simp_all) ?_)))
  · skip
    repeat (first | refine r_skip rfl (.no rfl rfl) ?_ | refine r_skip rfl (.un rfl rfl) ?_)
    refine r_val (by first | exact .none | exact .some rfl rfl) rfl (p_pick_f rfl rfl) ?_
    refine r_nil (e_fin (d := 14) hQ_7 rfl (by repeat (first | exact .refl | refine .put rfl ?_ | refine .say rfl ?_ | refine .say2 rfl (by first | assumption | simp_all) ?_)))
  refine r_val .none rfl (p_assign rfl) ?_
  refine r_nil ?_
  refine e_next ?_
  refine c_ret ?_
  refine e_ret1 Try.results36 (.tmp rfl .nil) (fun w hm => ⟨?_, hm.since⟩)
  simp_all [termRight]; try omega
theorem c_group (n : Nat) (ih : CheckIs n) (c : CT) (sv : Value) (d : Int) {G : Ghost} (hz : SizeOf.sizeOf c ≤ n + 1) (hs : Cs G sv c.subs) (hd : 1 ≤ d ∧ d ≤ 3) (w : World) (hG : Has G w) :
    Calls Try.prog 35 #[Value.agg #[Value.int .i64 c.h.k, Value.bool c.h.v0, Value.int .i64 c.h.n0, Value.bool c.h.v1, Value.int .i64 c.h.n1, Value.bool c.h.v2, Value.int .i64 c.h.n2, sv], Value.int .i64 d] w (Ret fun r w' => r = Value.int .i64 (if headNone c.h = false then 4 else if c.subs.length = 0 then 2 else checkL c.subs (d + 1)) ∧ Since nX w w') := by
  refine enter (args := [_, _]) (X := nX) (G := G) (l := [(0, Value.agg #[Value.int .i64 c.h.k, Value.bool c.h.v0, Value.int .i64 c.h.n0, Value.bool c.h.v1, Value.int .i64 c.h.n1, Value.bool c.h.v2, Value.int .i64 c.h.n2, sv]), (1, Value.int .i64 d)]) Try.func35 rfl Try.ntmps35 hG ⟨rfl, rfl, trivial⟩ (Nat.le_of_ble_eq_true rfl) ?_
  obtain ⟨rs, hr, hp, hl⟩ := hs.inv
  have hlen : c.subs.length = rs.length := by rw [hl]; simp
  have hbd := hr.bound
  refine c_seq ?_
  refine c_region ?_
  refine r_box .none rfl rfl (IsRow.lit _) (fun b_1 => ?_)
  refine r_val .none rfl (p_assign rfl) ?_
  refine r_nil ?_
  refine e_next ?_
  refine c_seq ?_
  refine c_block ?_
  refine c_seq ?_
  refine c_region ?_
  refine r_val .none rfl (p_field Try.underlying27 rfl sz24 rfl) ?_
  refine r_val .none rfl (p_lda (k := 0) Try.underlying24 rfl sz24 rfl rfl (by first | exact of_decide_eq_true rfl | omega) (rfl : _ = Value.agg #[_, _, _, _, _, _])) ?_
  refine r_val .none rfl (p_build (vs := []) rfl (bl24_ )) ?_
  refine r_val .none rfl (p_nea rfl rfl (eq_flat Try.underlying24 rfl lf24 ef24 eg24 (.cons (.bool Try.underlying4) (.cons (.int Try.underlying3) (.cons (.bool Try.underlying4) (.cons (.int Try.underlying3) (.cons (.bool Try.underlying4) (.cons (.int Try.underlying3) (.nil))))))) (.cons (.bool Try.underlying4) (.cons (.int Try.underlying3) (.cons (.bool Try.underlying4) (.cons (.int Try.underlying3) (.cons (.bool Try.underlying4) (.cons (.int Try.underlying3) (.nil))))))))) ?_
  refine r_val .none rfl (p_assign rfl) ?_
  refine r_nil ?_
  refine e_next ?_
  refine c_splitn (d := 8) rfl (fun h_1 => ?_) (fun h_1 => ?_)
  · skip
    have hN : headNone c.h = false := (headNone_cs c.h).symm.trans h_1
    first
      | (exfalso; omega)
      | (
        refine c_cond_t rfl ?_
        refine c_seq ?_
        refine c_region ?_
        refine r_val .none rfl (p_assign rfl) ?_
        refine r_nil ?_
        refine e_next ?_
        refine c_ret ?_
        refine e_ret_block ?_
        refine e_ret_then ?_
        refine e_ret1 Try.results35 (.tmp rfl .nil) (fun w hm => ⟨?_, hm.since⟩)
        first
        | (rw [if_pos hN]; done)
        | (rw [if_neg (by rw [hN]; decide), if_pos (by omega)]; done)
        | (rw [if_neg (by rw [hN]; decide), if_neg (by omega), ← hphi.2, map_drop (i := k) (d := d0) (by omega), checkL_no hE]; done)
        | (rw [if_neg (by rw [hN]; decide), if_neg (by omega), ← hphi.2, List.drop_eq_nil_of_le (by simp; omega), checkL]; done)
        )
  · skip
    have hN : headNone c.h = true := (headNone_cs c.h).symm.trans h_1
    first
      | (exfalso; omega)
      | (
        refine c_cond_f rfl ?_
        refine c_seq ?_
        refine c_region ?_
        refine r_val .none rfl (p_field Try.underlying27 rfl sz25 rfl) ?_
        refine r_val .none rfl (p_ld (k := 0) Try.underlying25 rfl rfl rfl (by first | exact of_decide_eq_true rfl | omega) rfl) ?_
        refine r_val .none rfl (p_leng Try.underlying25 rfl hr) ?_
        have bd_2 := (hr).bound
        refine r_val .none rfl (p_eq rfl rfl) ?_
        refine r_val .none rfl (p_assign rfl) ?_
        refine r_nil ?_
        refine e_next ?_
        refine c_splitd (d := 13) rfl (fun h_3 => ?_) (fun h_3 => ?_)
        · skip
          first
            | (exfalso; omega)
            | (
              refine c_cond_t rfl ?_
              refine c_seq ?_
              refine c_region ?_
              refine r_val .none rfl (p_assign rfl) ?_
              refine r_nil ?_
              refine e_next ?_
              refine c_ret ?_
              refine e_ret_block ?_
              refine e_ret_then ?_
              refine e_ret1 Try.results35 (.tmp rfl .nil) (fun w hm => ⟨?_, hm.since⟩)
              first
              | (rw [if_pos hN]; done)
              | (rw [if_neg (by rw [hN]; decide), if_pos (by omega)]; done)
              | (rw [if_neg (by rw [hN]; decide), if_neg (by omega), ← hphi.2, map_drop (i := k) (d := d0) (by omega), checkL_no hE]; done)
              | (rw [if_neg (by rw [hN]; decide), if_neg (by omega), ← hphi.2, List.drop_eq_nil_of_le (by simp; omega), checkL]; done)
              )
        · skip
          first
            | (exfalso; omega)
            | (
              refine c_cond_f rfl ?_
              refine c_skip ?_
              refine e_norm_block ?_
              refine e_next ?_
              refine c_seq ?_
              refine c_seq ?_
              refine c_region ?_
              refine r_val .none rfl (p_field Try.underlying27 rfl sz25 rfl) ?_
              refine r_val .none rfl (p_ld (k := 0) Try.underlying25 rfl rfl rfl (by first | exact of_decide_eq_true rfl | omega) rfl) ?_
              refine r_val .none rfl (p_leng Try.underlying25 rfl hr) ?_
              have bd_4 := (hr).bound
              refine r_val .none rfl (p_move rfl) ?_
              refine r_nil ?_
              refine e_next ?_
              refine c_block ?_
              refine c_name (d := 1) rfl (fun u_5 hu_5 => ?_)
              refine c_name (d := 19) rfl (fun u_6 hu_6 => ?_)
              refine c_name (d := 20) rfl (fun u_7 hu_7 => ?_)
              refine c_nameL (k := 0) rfl (fun A_8 hA_8 => ?_)
              refine c_loop (σ := Nat) (fun k => [(21, Value.int .i64 (k : Nat)), (1, u_5), (19, u_6), (20, u_7)]) (fun k => [A_8]) (fun _ => _) (fun k => k ≤ rs.length ∧ checkL ((rs.map Prod.fst).drop k) (d + 1) = checkL c.subs (d + 1)) (fun k => rs.length - k) (0) ⟨Nat.zero_le _, by rw [hl]; rfl⟩ rfl ⟨rfl, rfl, rfl, rfl, trivial⟩ (.keep (fun _ _ h => h) (.nil)) (fun k hphi => ?_)
              subst hu_5
              subst hu_6
              subst hu_7
              subst hA_8
              refine c_seq ?_
              refine c_region ?_
              refine r_val .none rfl (p_lt rfl rfl) ?_
              refine r_nil ?_
              refine e_next ?_
              refine c_seq ?_
              refine c_splitd (d := 22) rfl (fun h_9 => ?_) (fun h_9 => ?_)
              · skip
                first
                  | (exfalso; omega)
                  | (
                    refine c_cond_t rfl ?_
                    refine c_skip ?_
                    refine e_next ?_
                    refine c_seq ?_
                    refine c_block ?_
                    refine c_seq ?_
                    refine c_region ?_
                    refine r_iaddr_g .none rfl Try.underlying25 sz27 rfl hr rfl (by first | exact of_decide_eq_true rfl | omega) (fun p_11 o_12 R_10 => ?_)
                    have hc_13 := hp _ (getD_mem (i := k) (d := d0) (by omega))
                    refine r_val .none rfl (p_ldga0 Try.underlying27 rfl sz27 rfl R_10 (by first | exact of_decide_eq_true rfl | omega) (rfl : _ = Value.agg #[_, _, _, _, _, _, _, _])) ?_
                    refine r_alloc .none rfl zr27 (IsRow.lit _) (fun b_2 => ?_)
                    refine r_stw (k := 0) .none sz27 rfl rfl (IsRow.lit _) (one_lit rfl (all_cons rfl (all_cons rfl (all_cons rfl (all_cons rfl (all_cons rfl (all_cons rfl (all_cons rfl (all_cons (hc_13).one rfl))))))))) rfl ?_
                    refine r_nil ?_
                    refine e_next ?_
                    refine c_seq ?_
                    refine c_region ?_
                    refine r_val .none rfl (p_ldw (k := 0) Try.underlying27 rfl sz27 rfl rfl (rfl : _ = Value.agg #[_, _, _, _, _, _, _, _])) ?_
                    refine r_val .none rfl (p_move rfl) ?_
                    refine r_val .none rfl (p_add rfl rfl (by omega)) ?_
                    refine r_call (vs := [_, _]) .none rfl cl13 rfl (fun w hw => ih (rs.getD k d0).1 _ _ _ w (size_at hl (by omega) hz) hc_13 hw) ?_
                    refine r_val .none rfl (p_assign rfl) ?_
                    refine r_nil ?_
                    refine e_next ?_
                    refine c_seq ?_
                    refine c_region ?_
                    refine r_val .none rfl (p_move rfl) ?_
                    refine r_val .none rfl (p_ne rfl rfl) ?_
                    refine r_nil ?_
                    refine e_next ?_
                    refine c_splitd (d := 30) rfl (fun h_14 => ?_) (fun h_14 => ?_)
                    · skip
                      have hE := h_14
                      first
                        | (exfalso; omega)
                        | (
                          refine c_cond_t rfl ?_
                          refine c_seq ?_
                          refine c_region ?_
                          refine r_val .none rfl (p_move rfl) ?_
                          refine r_val .none rfl (p_assign rfl) ?_
                          refine r_nil ?_
                          refine e_next ?_
                          refine c_ret ?_
                          refine e_ret_block ?_
                          refine e_ret_then ?_
                          refine e_ret_then ?_
                          refine e_ret_block ?_
                          refine e_ret_then ?_
                          refine e_ret1 Try.results35 (.tmp rfl .nil) (fun w hm => ⟨?_, hm.since⟩)
                          first
                          | (rw [if_pos hN]; done)
                          | (rw [if_neg (by rw [hN]; decide), if_pos (by omega)]; done)
                          | (rw [if_neg (by rw [hN]; decide), if_neg (by omega), ← hphi.2, map_drop (i := k) (d := d0) (by omega), checkL_no hE]; done)
                          | (rw [if_neg (by rw [hN]; decide), if_neg (by omega), ← hphi.2, List.drop_eq_nil_of_le (by simp; omega), checkL]; done)
                          )
                    · skip
                      have hE := Decidable.not_not.1 h_14
                      first
                        | (exfalso; omega)
                        | (
                          refine c_cond_f rfl ?_
                          refine c_skip ?_
                          refine e_norm_block ?_
                          refine e_next ?_
                          refine c_region ?_
                          refine r_val .none rfl (p_add rfl rfl (by omega)) ?_
                          refine r_val .none rfl (p_move rfl) ?_
                          refine r_nil ?_
                          refine e_round (k + 1) ⟨⟨by omega, by rw [← hphi.2, map_drop (i := k) (d := d0) (by omega), checkL_ok hE]⟩, by omega⟩ rfl ⟨rfl, rfl, rfl, rfl, trivial⟩ (.drop (.keep (fun _ _ h => h) (.nil)))
                          )
                    )
              · skip
                first
                  | (exfalso; omega)
                  | (
                    refine c_cond_f rfl ?_
                    refine c_exit ?_
                    refine e_exit_then ?_
                    refine e_exit_then ?_
                    refine e_exit_block ?_
                    refine e_next ?_
                    refine c_seq ?_
                    refine c_region ?_
                    refine r_val .none rfl (p_assign rfl) ?_
                    refine r_nil ?_
                    refine e_next ?_
                    refine c_ret ?_
                    refine e_ret1 Try.results35 (.tmp rfl .nil) (fun w hm => ⟨?_, hm.since⟩)
                    first
                    | (rw [if_pos hN]; done)
                    | (rw [if_neg (by rw [hN]; decide), if_pos (by omega)]; done)
                    | (rw [if_neg (by rw [hN]; decide), if_neg (by omega), ← hphi.2, map_drop (i := k) (d := d0) (by omega), checkL_no hE]; done)
                    | (rw [if_neg (by rw [hN]; decide), if_neg (by omega), ← hphi.2, List.drop_eq_nil_of_le (by simp; omega), checkL]; done)
                    )
              )
        )
theorem c_check_s (n : Nat) (ih : CheckIs n) (c : CT) (sv : Value) (d : Int) {G : Ghost} (hz : SizeOf.sizeOf c ≤ n + 1) (hs : Cs G sv c.subs) (w : World) (hG : Has G w) :
    Calls Try.prog 13 #[Value.agg #[Value.int .i64 c.h.k, Value.bool c.h.v0, Value.int .i64 c.h.n0, Value.bool c.h.v1, Value.int .i64 c.h.n1, Value.bool c.h.v2, Value.int .i64 c.h.n2, sv], Value.int .i64 d] w (Ret fun r w' => r = Value.int .i64 (check c d) ∧ Since nX w w') := by
  refine enter (args := [_, _]) (X := nX) (G := G) (l := [(0, Value.agg #[Value.int .i64 c.h.k, Value.bool c.h.v0, Value.int .i64 c.h.n0, Value.bool c.h.v1, Value.int .i64 c.h.n1, Value.bool c.h.v2, Value.int .i64 c.h.n2, sv]), (1, Value.int .i64 d)]) Try.func13 rfl Try.ntmps13 hG ⟨rfl, rfl, trivial⟩ (Nat.le_of_ble_eq_true rfl) ?_
  obtain ⟨rs, hr, hp, hl⟩ := hs.inv
  have hlen : c.subs.length = rs.length := by rw [hl]; simp
  have hbd := hr.bound
  refine c_seq ?_
  refine c_region ?_
  refine r_box .none rfl rfl (IsRow.lit _) (fun b_1 => ?_)
  refine r_val .none rfl (p_assign rfl) ?_
  refine r_nil ?_
  refine e_next ?_
  refine c_seq ?_
  refine c_region ?_
  refine r_val .none rfl (p_move rfl) ?_
  refine r_val .none rfl (p_max rfl rfl) ?_
  refine r_val .none rfl (p_assign rfl) ?_
  refine r_nil ?_
  refine e_next ?_
  refine c_seq ?_
  refine c_block ?_
  refine c_seq ?_
  refine c_region ?_
  refine r_val .none rfl (p_move rfl) ?_
  refine r_val .none rfl (p_gt rfl rfl) ?_
  refine r_val .none rfl (p_assign rfl) ?_
  refine r_nil ?_
  refine e_next ?_
  refine c_splitd (d := 7) rfl (fun h_1 => ?_) (fun h_1 => ?_)
  · skip
    first
      | (exfalso; omega)
      | (
        refine c_cond_t rfl ?_
        refine c_seq ?_
        refine c_region ?_
        refine r_val .none rfl (p_assign rfl) ?_
        refine r_nil ?_
        refine e_next ?_
        refine c_ret ?_
        refine e_ret_block ?_
        refine e_ret_then ?_
        refine e_ret1 Try.results13 (.tmp rfl .nil) (fun w hm => ⟨?_, hm.since⟩)
        rw [check_eq]
        have e5 : (0 : Int) = rs.length ∨ 0 < rs.length := (by omega)
        first
        | exact congrArg (Value.int .i64) (if_pos (by omega)).symm
        | exact congrArg (Value.int .i64) ((if_neg (by omega)).trans (if_pos (by omega))).symm
        | exact congrArg (Value.int .i64) ((if_neg (by omega)).trans ((if_neg (by omega)).trans (if_pos (by omega)))).symm
        | exact congrArg (Value.int .i64) ((if_neg (by omega)).trans ((if_neg (by omega)).trans ((if_neg (by omega)).trans (if_pos (by rcases hT with ((hT | hT) | hT) | hT <;> first | (left; simp [headOk, hT]; done) | (right; omega)))))).symm
        | exact congrArg (Value.int .i64) ((if_neg (by omega)).trans ((if_neg (by omega)).trans ((if_neg (by omega)).trans (if_neg (by obtain ⟨⟨⟨t0, t1⟩, t2⟩, t3⟩ := hT; rintro (hx | hx) <;> first | omega | (simp [headOk, t0, t1, t2] at hx; done)))))).symm
        )
  · skip
    first
      | (exfalso; omega)
      | (
        refine c_cond_f rfl ?_
        refine c_seq ?_
        refine c_region ?_
        refine r_val .none rfl (p_field Try.underlying27 rfl sz3 rfl) ?_
        refine r_val .none rfl (p_ld (k := 0) Try.underlying3 rfl rfl rfl (by first | exact of_decide_eq_true rfl | omega) (rfl : _ = Value.int _ _)) ?_
        refine r_val .none rfl (p_eq rfl rfl) ?_
        refine r_val .none rfl (p_assign rfl) ?_
        refine r_nil ?_
        refine e_next ?_
        refine c_splitd (d := 10) rfl (fun h_2 => ?_) (fun h_2 => ?_)
        · skip
          first
            | (exfalso; omega)
            | (
              refine c_cond_t rfl ?_
              refine c_seq ?_
              refine c_region ?_
              refine r_val .none rfl (p_ldw (k := 0) Try.underlying27 rfl sz27 rfl rfl (rfl : _ = Value.agg #[_, _, _, _, _, _, _, _])) ?_
              refine r_val .none rfl (p_move rfl) ?_
              refine r_call (vs := [_, _]) .none rfl cl35 rfl (fun w hw => c_group n ih c sv _ hz hs (by omega) w hw) ?_
              refine r_val .none rfl (p_assign rfl) ?_
              refine r_nil ?_
              refine e_next ?_
              refine c_ret ?_
              refine e_ret_block ?_
              refine e_ret_then ?_
              refine e_ret1 Try.results13 (.tmp rfl .nil) (fun w hm => ⟨?_, hm.since⟩)
              rw [check_eq]
              have e5 : (0 : Int) = rs.length ∨ 0 < rs.length := (by omega)
              first
              | exact congrArg (Value.int .i64) (if_pos (by omega)).symm
              | exact congrArg (Value.int .i64) ((if_neg (by omega)).trans (if_pos (by omega))).symm
              | exact congrArg (Value.int .i64) ((if_neg (by omega)).trans ((if_neg (by omega)).trans (if_pos (by omega)))).symm
              | exact congrArg (Value.int .i64) ((if_neg (by omega)).trans ((if_neg (by omega)).trans ((if_neg (by omega)).trans (if_pos (by rcases hT with ((hT | hT) | hT) | hT <;> first | (left; simp [headOk, hT]; done) | (right; omega)))))).symm
              | exact congrArg (Value.int .i64) ((if_neg (by omega)).trans ((if_neg (by omega)).trans ((if_neg (by omega)).trans (if_neg (by obtain ⟨⟨⟨t0, t1⟩, t2⟩, t3⟩ := hT; rintro (hx | hx) <;> first | omega | (simp [headOk, t0, t1, t2] at hx; done)))))).symm
              )
        · skip
          first
            | (exfalso; omega)
            | (
              refine c_cond_f rfl ?_
              refine c_seq ?_
              refine c_region ?_
              refine r_val .none rfl (p_field Try.underlying27 rfl sz3 rfl) ?_
              refine r_val .none rfl (p_ld (k := 0) Try.underlying3 rfl rfl rfl (by first | exact of_decide_eq_true rfl | omega) (rfl : _ = Value.int _ _)) ?_
              refine r_val .none rfl (p_ne rfl rfl) ?_
              refine r_val .none rfl (p_move rfl) ?_
              refine' r_and (c := 21) (d := 25) [_, _, _, _] rfl (fun h_3 Q_4 hQ_5 => ?_) (fun h_3 Q_4 hQ_5 => ?_) ?_
              rotate_left 1
              · skip
                replace h_3 := of_decide_eq_true h_3
                refine r_val (.some rfl rfl) rfl (p_field Try.underlying27 rfl sz3 rfl) ?_
                refine r_val (.some rfl rfl) rfl (p_ld (k := 0) Try.underlying3 rfl rfl rfl (by first | exact of_decide_eq_true rfl | omega) (rfl : _ = Value.int _ _)) ?_
                refine r_val (.some rfl rfl) rfl (p_ne rfl rfl) ?_
                refine r_val .none rfl (p_pick_t rfl rfl) ?_
                refine r_nil (e_fin (d := 25) hQ_5 rfl (by repeat (first | exact .refl | refine .put rfl ?_ | refine .say rfl ?_ | refine .say2 rfl (by first | assumption | simp_all) ?_)))
              · skip
                repeat (first | refine r_skip rfl (.no rfl rfl) ?_ | refine r_skip rfl (.un rfl rfl) ?_)
                refine r_val (by first | exact .none | exact .some rfl rfl) rfl (p_pick_f rfl rfl) ?_
                refine r_nil (e_fin (d := 25) hQ_5 rfl (by repeat (first | exact .refl | refine .put rfl ?_ | refine .say rfl ?_ | refine .say2 rfl (by first | assumption | simp_all) ?_)))
              refine r_val .none rfl (p_assign rfl) ?_
              refine r_nil ?_
              refine e_next ?_
              refine c_split (d := 17) rfl (fun h_7 => ?_) (fun h_7 => ?_)
              · skip
                try simp only [norms] at h_7
                first
                  | (exfalso; omega)
                  | (
                    refine c_cond_t rfl ?_
                    refine c_seq ?_
                    refine c_region ?_
                    refine r_val .none rfl (p_assign rfl) ?_
                    refine r_nil ?_
                    refine e_next ?_
                    refine c_ret ?_
                    refine e_ret_block ?_
                    refine e_ret_then ?_
                    refine e_ret1 Try.results13 (.tmp rfl .nil) (fun w hm => ⟨?_, hm.since⟩)
                    rw [check_eq]
                    have e5 : (0 : Int) = rs.length ∨ 0 < rs.length := (by omega)
                    first
                    | exact congrArg (Value.int .i64) (if_pos (by omega)).symm
                    | exact congrArg (Value.int .i64) ((if_neg (by omega)).trans (if_pos (by omega))).symm
                    | exact congrArg (Value.int .i64) ((if_neg (by omega)).trans ((if_neg (by omega)).trans (if_pos (by omega)))).symm
                    | exact congrArg (Value.int .i64) ((if_neg (by omega)).trans ((if_neg (by omega)).trans ((if_neg (by omega)).trans (if_pos (by rcases hT with ((hT | hT) | hT) | hT <;> first | (left; simp [headOk, hT]; done) | (right; omega)))))).symm
                    | exact congrArg (Value.int .i64) ((if_neg (by omega)).trans ((if_neg (by omega)).trans ((if_neg (by omega)).trans (if_neg (by obtain ⟨⟨⟨t0, t1⟩, t2⟩, t3⟩ := hT; rintro (hx | hx) <;> first | omega | (simp [headOk, t0, t1, t2] at hx; done)))))).symm
                    )
              · skip
                try simp only [norms] at h_7
                first
                  | (exfalso; omega)
                  | (
                    refine c_cond_f rfl ?_
                    refine c_seq ?_
                    refine c_region ?_
                    refine r_val .none rfl (p_field Try.underlying27 rfl sz24 rfl) ?_
                    refine r_val .none rfl (p_iaddr (k := 0) Try.underlying24 sz23 rfl rfl (by first | exact of_decide_eq_true rfl | omega)) ?_
                    refine r_val .none rfl (p_lda (k := 0) Try.underlying23 rfl sz23 rfl rfl (by first | exact of_decide_eq_true rfl | omega) (rfl : _ = Value.agg #[_, _])) ?_
                    refine r_call (vs := [_]) .none rfl cl36 rfl (fun w hw => c_right _ _ w) ?_
                    refine r_val .none rfl (p_not rfl) ?_
                    refine r_val .none rfl (p_move rfl) ?_
                    refine' r_or (c := 32) (d := 38) [_, _, _, _, _, _] rfl (fun h_8 Q_9 hQ_10 => ?_) (fun h_8 Q_9 hQ_10 => ?_) ?_
                    rotate_left 1
                    · skip
                      try simp only [norms] at h_8
                      refine r_val (.some rfl rfl) rfl (p_field Try.underlying27 rfl sz24 rfl) ?_
                      refine r_val (.some rfl rfl) rfl (p_iaddr (k := 1) Try.underlying24 sz23 rfl rfl (by first | exact of_decide_eq_true rfl | omega)) ?_
                      refine r_val (.some rfl rfl) rfl (p_lda (k := 0) Try.underlying23 rfl sz23 rfl rfl (by first | exact of_decide_eq_true rfl | omega) (rfl : _ = Value.agg #[_, _])) ?_
                      refine r_call (vs := [_]) (.some rfl rfl) rfl cl36 rfl (fun w hw => c_right _ _ w) ?_
                      refine r_val (.some rfl rfl) rfl (p_not rfl) ?_
                      refine r_val .none rfl (p_pick_f rfl rfl) ?_
                      refine r_nil (e_fin (d := 38) hQ_10 rfl (by repeat (first | exact .refl | refine .put rfl ?_ | refine .say rfl ?_ | refine .say2 rfl (by first | assumption | simp_all) ?_)))
                    · skip
                      repeat (first | refine r_skip rfl (.no rfl rfl) ?_ | refine r_skip rfl (.un rfl rfl) ?_)
                      refine r_val (by first | exact .none | exact .some rfl rfl) rfl (p_pick_t rfl rfl) ?_
                      refine r_nil (e_fin (d := 38) hQ_10 rfl (by repeat (first | exact .refl | refine .put rfl ?_ | refine .say rfl ?_ | refine .say2 rfl (by first | assumption | simp_all) ?_)))
                    refine r_val .none rfl (p_move rfl) ?_
                    refine' r_or (c := 39) (d := 45) [_, _, _, _, _, _] rfl (fun h_12 Q_13 hQ_14 => ?_) (fun h_12 Q_13 hQ_14 => ?_) ?_
                    rotate_left 1
                    · skip
                      try simp only [norms] at h_12
                      refine r_val (.some rfl rfl) rfl (p_field Try.underlying27 rfl sz24 rfl) ?_
                      refine r_val (.some rfl rfl) rfl (p_iaddr (k := 2) Try.underlying24 sz23 rfl rfl (by first | exact of_decide_eq_true rfl | omega)) ?_
                      refine r_val (.some rfl rfl) rfl (p_lda (k := 0) Try.underlying23 rfl sz23 rfl rfl (by first | exact of_decide_eq_true rfl | omega) (rfl : _ = Value.agg #[_, _])) ?_
                      refine r_call (vs := [_]) (.some rfl rfl) rfl cl36 rfl (fun w hw => c_right _ _ w) ?_
                      refine r_val (.some rfl rfl) rfl (p_not rfl) ?_
                      refine r_val .none rfl (p_pick_f rfl rfl) ?_
                      refine r_nil (e_fin (d := 45) hQ_14 rfl (by repeat (first | exact .refl | refine .put rfl ?_ | refine .say rfl ?_ | refine .say2 rfl (by first | assumption | simp_all) ?_)))
                    · skip
                      repeat (first | refine r_skip rfl (.no rfl rfl) ?_ | refine r_skip rfl (.un rfl rfl) ?_)
                      refine r_val (by first | exact .none | exact .some rfl rfl) rfl (p_pick_t rfl rfl) ?_
                      refine r_nil (e_fin (d := 45) hQ_14 rfl (by repeat (first | exact .refl | refine .put rfl ?_ | refine .say rfl ?_ | refine .say2 rfl (by first | assumption | simp_all) ?_)))
                    refine r_val .none rfl (p_move rfl) ?_
                    refine' r_or (c := 46) (d := 51) [_, _, _, _, _] rfl (fun h_16 Q_17 hQ_18 => ?_) (fun h_16 Q_17 hQ_18 => ?_) ?_
                    rotate_left 1
                    · skip
                      try simp only [norms] at h_16
                      refine r_val (.some rfl rfl) rfl (p_field Try.underlying27 rfl sz25 rfl) ?_
                      refine r_val (.some rfl rfl) rfl (p_ld (k := 0) Try.underlying25 rfl rfl rfl (by first | exact of_decide_eq_true rfl | omega) rfl) ?_
                      refine r_val (.some rfl rfl) rfl (p_leng Try.underlying25 rfl hr) ?_
                      have bd_20 := (hr).bound
                      refine r_val (.some rfl rfl) rfl (p_gt rfl rfl) ?_
                      refine r_val .none rfl (p_pick_f rfl rfl) ?_
                      refine r_nil (e_fin (d := 51) hQ_18 rfl (by repeat (first | exact .refl | refine .put rfl ?_ | refine .say rfl ?_ | refine .say2 rfl (by first | assumption | simp_all) ?_)))
                    · skip
                      repeat (first | refine r_skip rfl (.no rfl rfl) ?_ | refine r_skip rfl (.un rfl rfl) ?_)
                      refine r_val (by first | exact .none | exact .some rfl rfl) rfl (p_pick_t rfl rfl) ?_
                      refine r_nil (e_fin (d := 51) hQ_18 rfl (by repeat (first | exact .refl | refine .put rfl ?_ | refine .say rfl ?_ | refine .say2 rfl (by first | assumption | simp_all) ?_)))
                    refine r_val .none rfl (p_assign rfl) ?_
                    refine r_nil ?_
                    refine e_next ?_
                    refine c_split (d := 26) rfl (fun h_21 => ?_) (fun h_21 => ?_)
                    · skip
                      try simp only [norms] at h_21
                      have hT := h_21
                      first
                        | (exfalso; omega)
                        | (
                          refine c_cond_t rfl ?_
                          refine c_seq ?_
                          refine c_region ?_
                          refine r_val .none rfl (p_assign rfl) ?_
                          refine r_nil ?_
                          refine e_next ?_
                          refine c_ret ?_
                          refine e_ret_block ?_
                          refine e_ret_then ?_
                          refine e_ret1 Try.results13 (.tmp rfl .nil) (fun w hm => ⟨?_, hm.since⟩)
                          rw [check_eq]
                          have e5 : (0 : Int) = rs.length ∨ 0 < rs.length := (by omega)
                          first
                          | exact congrArg (Value.int .i64) (if_pos (by omega)).symm
                          | exact congrArg (Value.int .i64) ((if_neg (by omega)).trans (if_pos (by omega))).symm
                          | exact congrArg (Value.int .i64) ((if_neg (by omega)).trans ((if_neg (by omega)).trans (if_pos (by omega)))).symm
                          | exact congrArg (Value.int .i64) ((if_neg (by omega)).trans ((if_neg (by omega)).trans ((if_neg (by omega)).trans (if_pos (by rcases hT with ((hT | hT) | hT) | hT <;> first | (left; simp [headOk, hT]; done) | (right; omega)))))).symm
                          | exact congrArg (Value.int .i64) ((if_neg (by omega)).trans ((if_neg (by omega)).trans ((if_neg (by omega)).trans (if_neg (by obtain ⟨⟨⟨t0, t1⟩, t2⟩, t3⟩ := hT; rintro (hx | hx) <;> first | omega | (simp [headOk, t0, t1, t2] at hx; done)))))).symm
                          )
                    · skip
                      try simp only [norms] at h_21
                      have hT := h_21
                      first
                        | (exfalso; omega)
                        | (
                          refine c_cond_f rfl ?_
                          refine c_skip ?_
                          refine e_norm_block ?_
                          refine e_next ?_
                          refine c_seq ?_
                          refine c_region ?_
                          refine r_val .none rfl (p_assign rfl) ?_
                          refine r_nil ?_
                          refine e_next ?_
                          refine c_ret ?_
                          refine e_ret1 Try.results13 (.tmp rfl .nil) (fun w hm => ⟨?_, hm.since⟩)
                          rw [check_eq]
                          have e5 : (0 : Int) = rs.length ∨ 0 < rs.length := (by omega)
                          first
                          | exact congrArg (Value.int .i64) (if_pos (by omega)).symm
                          | exact congrArg (Value.int .i64) ((if_neg (by omega)).trans (if_pos (by omega))).symm
                          | exact congrArg (Value.int .i64) ((if_neg (by omega)).trans ((if_neg (by omega)).trans (if_pos (by omega)))).symm
                          | exact congrArg (Value.int .i64) ((if_neg (by omega)).trans ((if_neg (by omega)).trans ((if_neg (by omega)).trans (if_pos (by rcases hT with ((hT | hT) | hT) | hT <;> first | (left; simp [headOk, hT]; done) | (right; omega)))))).symm
                          | exact congrArg (Value.int .i64) ((if_neg (by omega)).trans ((if_neg (by omega)).trans ((if_neg (by omega)).trans (if_neg (by obtain ⟨⟨⟨t0, t1⟩, t2⟩, t3⟩ := hT; rintro (hx | hx) <;> first | omega | (simp [headOk, t0, t1, t2] at hx; done)))))).symm
                          )
                    )
              )
        )
theorem c_check_n : ∀ n, CheckIs n
  | 0 => fun c sv d G w hz hs hG => absurd hz (by have := size_subs c; omega)
  | n + 1 => fun c sv d G w hz hs hG => c_check_s n (c_check_n n) c sv d hz hs w hG
theorem c_check (c : CT) (sv : Value) (d : Int) {G : Ghost} (hs : Cs G sv c.subs) (w : World) (hG : Has G w) : Calls Try.prog 13 #[Value.agg #[Value.int .i64 c.h.k, Value.bool c.h.v0, Value.int .i64 c.h.n0, Value.bool c.h.v1, Value.int .i64 c.h.n1, Value.bool c.h.v2, Value.int .i64 c.h.n2, sv], Value.int .i64 d] w (Ret fun r w' => r = Value.int .i64 (check c d) ∧ Since nX w w') := c_check_n _ c sv d G w (Nat.le_refl _) hs hG
end Go.Proofs.Ytpcpbfajadgmpaa
