/- Walks: what Go functions of this chapter come to, each as a function on plain data; no condition but those that each theorem names. Printed by a program of this work (gen.py). -/
import Derived.Test.YtpcpbfajadgmpaaW04b
import Derived.Test.YtpcpbfajadgmpaaRows
namespace Go.Proofs.Ytpcpbfajadgmpaa
open Go.Gx Go.Gx.T3 Go.Gx.T4 Go.Gx.T3
theorem sz34 : SzIs Try.prog 34 2 := by
  unfold SzIs
  kernel_rfl
theorem sz35 : SzIs Try.prog 35 6 := by
  unfold SzIs
  kernel_rfl
theorem sz36 : SzIs Try.prog 36 1 := by
  unfold SzIs
  kernel_rfl
theorem sz38 : SzIs Try.prog 38 8 := by
  unfold SzIs
  kernel_rfl
theorem zr38 : ZeroIs Try.prog 38 (Value.agg #[Value.int .i64 0, Value.int .i64 0, Value.int .i64 0, Value.int .i64 0, Value.int .i64 0, Value.int .i64 0, Value.int .i64 0, Value.slice none 0 0]) := by
  unfold ZeroIs
  kernel_rfl
theorem cl14 : Callable Try.prog 14 := callable Try.func14 (by kernel_rfl) rfl
theorem cl37 : Callable Try.prog 37 := callable Try.func37 (by kernel_rfl) rfl
def RcheckIs (n : Nat) : Prop := ∀ (c : CT) (sv : Value) (d : Int) (G : Ghost) (w : World), SizeOf.sizeOf c ≤ n → 1 ≤ d → Rs G sv c.subs → Has G w → Calls Try.prog 14 #[Value.agg #[Value.int .i64 c.h.k, Value.int .i64 (vi c.h.v0), Value.int .i64 c.h.n0, Value.int .i64 (vi c.h.v1), Value.int .i64 c.h.n1, Value.int .i64 (vi c.h.v2), Value.int .i64 c.h.n2, sv], Value.int .i64 d] w (Ret fun r w' => r = Value.int .i64 (check c d) ∧ Since nX w w')
theorem c_rright (b : Bool) (n : Int)  (w : World)  :
    Calls Try.prog 37 #[Value.agg #[Value.int .i64 (vi b), Value.int .i64 n]] w (Ret fun r w' => r = Value.bool (termRight b n) ∧ Since nX w w') := by
  refine enter (args := [_]) (X := nX) (G := (fun _ => none)) (l := [(0, Value.agg #[Value.int .i64 (vi b), Value.int .i64 n])]) Try.func37 rfl Try.ntmps37 (fun _ _ h => by cases h) ⟨rfl, trivial⟩ (Nat.le_of_ble_eq_true rfl) ?_
  refine c_seq ?_
  refine c_region ?_
  refine r_box .none rfl rfl (IsRow.lit _) (fun b_1 => ?_)
  refine r_val .none rfl (p_assign rfl) ?_
  refine r_nil ?_
  refine e_next ?_
  refine c_seq ?_
  refine c_seq ?_
  refine c_region ?_
  refine r_val .none rfl (p_field Try.underlying34 rfl sz3 rfl) ?_
  refine r_val .none rfl (p_ld (k := 0) Try.underlying3 rfl rfl rfl (by first | exact of_decide_eq_true rfl | omega) (rfl : _ = Value.int _ _)) ?_
  refine r_val .none rfl (p_eq rfl rfl) ?_
  refine r_nil ?_
  refine e_next ?_
  refine c_splitd (d := 5) rfl (fun h_1 => ?_) (fun h_1 => ?_)
  · skip
    refine c_cond_t rfl ?_
    refine c_seq ?_
    refine c_region ?_
    refine r_val .none rfl (p_field Try.underlying34 rfl sz3 rfl) ?_
    refine r_val .none rfl (p_ld (k := 0) Try.underlying3 rfl rfl rfl (by first | exact of_decide_eq_true rfl | omega) (rfl : _ = Value.int _ _)) ?_
    refine r_val .none rfl (p_ge rfl rfl) ?_
    refine r_val .none rfl (p_move rfl) ?_
    refine' r_and (c := 9) (d := 13) [_, _, _, _] rfl (fun h_2 Q_3 hQ_4 => ?_) (fun h_2 Q_3 hQ_4 => ?_) ?_
    rotate_left 1
    · skip
      replace h_2 := of_decide_eq_true h_2
      refine r_val (.some rfl rfl) rfl (p_field Try.underlying34 rfl sz3 rfl) ?_
      refine r_val (.some rfl rfl) rfl (p_ld (k := 0) Try.underlying3 rfl rfl rfl (by first | exact of_decide_eq_true rfl | omega) (rfl : _ = Value.int _ _)) ?_
      refine r_val (.some rfl rfl) rfl (p_le rfl rfl) ?_
      refine r_val .none rfl (p_pick_t rfl rfl) ?_
      refine r_nil (e_fin (d := 13) hQ_4 rfl (by repeat (first | exact .refl | refine .put rfl ?_ | refine .say rfl ?_ | refine .say2 rfl (by first | assumption | simp_all) ?_)))
    · skip
      repeat (first | refine r_skip rfl (.no rfl rfl) ?_ | refine r_skip rfl (.un rfl rfl) ?_)
      refine r_val (by first | exact .none | exact .some rfl rfl) rfl (p_pick_f rfl rfl) ?_
      refine r_nil (e_fin (d := 13) hQ_4 rfl (by repeat (first | exact .refl | refine .put rfl ?_ | refine .say rfl ?_ | refine .say2 rfl (by first | assumption | simp_all) ?_)))
    refine r_val .none rfl (p_assign rfl) ?_
    refine r_nil ?_
    refine e_next ?_
    refine c_ret ?_
    refine e_ret_then ?_
    refine e_ret1 Try.results37 (.tmp rfl .nil) (fun w hm => ⟨?_, hm.since⟩)
    (cases b <;> simp_all [termRight, vi] <;> try omega)
  · skip
    refine c_cond_f rfl ?_
    refine c_skip ?_
    refine e_next ?_
    refine c_seq ?_
    refine c_region ?_
    refine r_val .none rfl (p_field Try.underlying34 rfl sz3 rfl) ?_
    refine r_val .none rfl (p_ld (k := 0) Try.underlying3 rfl rfl rfl (by first | exact of_decide_eq_true rfl | omega) (rfl : _ = Value.int _ _)) ?_
    refine r_val .none rfl (p_ge rfl rfl) ?_
    refine r_val .none rfl (p_move rfl) ?_
    refine' r_and (c := 17) (d := 21) [_, _, _, _] rfl (fun h_6 Q_7 hQ_8 => ?_) (fun h_6 Q_7 hQ_8 => ?_) ?_
    rotate_left 1
    · skip
      replace h_6 := of_decide_eq_true h_6
      refine r_val (.some rfl rfl) rfl (p_field Try.underlying34 rfl sz3 rfl) ?_
      refine r_val (.some rfl rfl) rfl (p_ld (k := 0) Try.underlying3 rfl rfl rfl (by first | exact of_decide_eq_true rfl | omega) (rfl : _ = Value.int _ _)) ?_
      refine r_val (.some rfl rfl) rfl (p_le rfl rfl) ?_
      refine r_val .none rfl (p_pick_t rfl rfl) ?_
      refine r_nil (e_fin (d := 21) hQ_8 rfl (by repeat (first | exact .refl | refine .put rfl ?_ | refine .say rfl ?_ | refine .say2 rfl (by first | assumption | simp_all) ?_)))
    · skip
      repeat (first | refine r_skip rfl (.no rfl rfl) ?_ | refine r_skip rfl (.un rfl rfl) ?_)
      refine r_val (by first | exact .none | exact .some rfl rfl) rfl (p_pick_f rfl rfl) ?_
      refine r_nil (e_fin (d := 21) hQ_8 rfl (by repeat (first | exact .refl | refine .put rfl ?_ | refine .say rfl ?_ | refine .say2 rfl (by first | assumption | simp_all) ?_)))
    refine r_val .none rfl (p_assign rfl) ?_
    refine r_nil ?_
    refine e_next ?_
    refine c_ret ?_
    refine e_ret1 Try.results37 (.tmp rfl .nil) (fun w hm => ⟨?_, hm.since⟩)
    (cases b <;> simp_all [termRight, vi] <;> try omega)
theorem c_rcheck_s (n : Nat) (ih : RcheckIs n) (c : CT) (sv : Value) (d : Int) {G : Ghost} (hz : SizeOf.sizeOf c ≤ n + 1) (hd : 1 ≤ d) (hs : Rs G sv c.subs) (w : World) (hG : Has G w) :
    Calls Try.prog 14 #[Value.agg #[Value.int .i64 c.h.k, Value.int .i64 (vi c.h.v0), Value.int .i64 c.h.n0, Value.int .i64 (vi c.h.v1), Value.int .i64 c.h.n1, Value.int .i64 (vi c.h.v2), Value.int .i64 c.h.n2, sv], Value.int .i64 d] w (Ret fun r w' => r = Value.int .i64 (check c d) ∧ Since nX w w') := by
  refine enter (args := [_, _]) (X := nX) (G := G) (l := [(0, Value.agg #[Value.int .i64 c.h.k, Value.int .i64 (vi c.h.v0), Value.int .i64 c.h.n0, Value.int .i64 (vi c.h.v1), Value.int .i64 c.h.n1, Value.int .i64 (vi c.h.v2), Value.int .i64 c.h.n2, sv]), (1, Value.int .i64 d)]) Try.func14 rfl Try.ntmps14 hG ⟨rfl, rfl, trivial⟩ (Nat.le_of_ble_eq_true rfl) ?_
  obtain ⟨rs, hr, hp, hl⟩ := hs.inv
  have hlen : c.subs.length = rs.length := by rw [hl]; simp
  have hbd := hr.bound
  have hb0 : vi c.h.v0 = 0 ∨ vi c.h.v0 = 1 := (by cases c.h.v0 <;> simp [vi])
  have hb1 : vi c.h.v1 = 0 ∨ vi c.h.v1 = 1 := (by cases c.h.v1 <;> simp [vi])
  have hb2 : vi c.h.v2 = 0 ∨ vi c.h.v2 = 1 := (by cases c.h.v2 <;> simp [vi])
  refine c_seq ?_
  refine c_region ?_
  refine r_box .none rfl rfl (IsRow.lit _) (fun b_1 => ?_)
  refine r_val .none rfl (p_assign rfl) ?_
  refine r_nil ?_
  refine e_next ?_
  refine c_seq ?_
  refine c_seq ?_
  refine c_region ?_
  refine r_val .none rfl (p_move rfl) ?_
  refine r_val .none rfl (p_gt rfl rfl) ?_
  refine r_nil ?_
  refine e_next ?_
  refine c_splitd (d := 11) rfl (fun h_1 => ?_) (fun h_1 => ?_)
  · skip
    first
      | (exfalso; omega)
      | (
        refine c_cond_t rfl ?_
        refine c_seq ?_
        refine c_region ?_
        refine r_val .none rfl (p_assign rfl) ?_
        refine r_nil ?_
        refine e_next ?_
        refine c_ret ?_
        refine e_ret_then ?_
        refine e_ret1 Try.results14 (.tmp rfl .nil) (fun w hm => ⟨?_, hm.since⟩)
        rw [check_eq c d, show max d 1 = d by omega]
        have e5 : (0 : Int) = rs.length ∨ 0 < rs.length := (by omega)
        first
        | exact congrArg (Value.int .i64) (if_pos (by omega)).symm
        | exact congrArg (Value.int .i64) ((if_neg (by omega)).trans ((if_neg (by omega)).trans (if_pos (by omega)))).symm
        | exact congrArg (Value.int .i64) ((if_neg (by omega)).trans ((if_neg (by omega)).trans ((if_neg (by omega)).trans (if_pos (by first | (right; omega) | (left; simp_all [headOk]; done)))))).symm
        | exact congrArg (Value.int .i64) ((if_neg (by omega)).trans ((if_neg (by omega)).trans ((if_neg (by omega)).trans (if_neg (by rintro (hx | hx) <;> first | omega | (simp_all [headOk]; done)))))).symm
        | exact congrArg (Value.int .i64) ((if_neg (by omega)).trans ((if_pos (by omega)).trans (if_pos (headNone_no (by omega))))).symm
        | exact congrArg (Value.int .i64) ((if_neg (by omega)).trans ((if_pos (by omega)).trans ((if_neg (headNone_yes (by omega))).trans (if_pos (by omega))))).symm
        | exact congrArg (Value.int .i64) ((if_neg (by omega)).trans ((if_pos (by omega)).trans ((if_neg (headNone_yes (by omega))).trans ((if_neg (by omega)).trans (by rw [← hphi.2, map_drop (i := k) (d := d0) (by omega), checkL_no hE]))))).symm
        | exact congrArg (Value.int .i64) ((if_neg (by omega)).trans ((if_pos (by omega)).trans ((if_neg (headNone_yes (by omega))).trans ((if_neg (by omega)).trans (by rw [← hphi.2, List.drop_eq_nil_of_le (by simp; omega), checkL]))))).symm
        )
  · skip
    first
      | (exfalso; omega)
      | (
        refine c_cond_f rfl ?_
        refine c_skip ?_
        refine e_next ?_
        refine c_seq ?_
        refine c_seq ?_
        refine c_region ?_
        refine r_val .none rfl (p_field Try.underlying38 rfl sz3 rfl) ?_
        refine r_val .none rfl (p_ld (k := 0) Try.underlying3 rfl rfl rfl (by first | exact of_decide_eq_true rfl | omega) (rfl : _ = Value.int _ _)) ?_
        refine r_val .none rfl (p_lt rfl rfl) ?_
        refine r_val .none rfl (p_move rfl) ?_
        refine' r_or (c := 15) (d := 19) [_, _, _, _] rfl (fun h_2 Q_3 hQ_4 => ?_) (fun h_2 Q_3 hQ_4 => ?_) ?_
        rotate_left 1
        · skip
          replace h_2 := of_decide_eq_false h_2
          refine r_val (.some rfl rfl) rfl (p_field Try.underlying38 rfl sz3 rfl) ?_
          refine r_val (.some rfl rfl) rfl (p_ld (k := 0) Try.underlying3 rfl rfl rfl (by first | exact of_decide_eq_true rfl | omega) (rfl : _ = Value.int _ _)) ?_
          refine r_val (.some rfl rfl) rfl (p_gt rfl rfl) ?_
          refine r_val .none rfl (p_pick_f rfl rfl) ?_
          refine r_nil (e_fin (d := 19) hQ_4 rfl (by repeat (first | exact .refl | refine .put rfl ?_ | refine .say rfl ?_ | refine .say2 rfl (by first | assumption | simp_all) ?_)))
        · skip
          repeat (first | refine r_skip rfl (.no rfl rfl) ?_ | refine r_skip rfl (.un rfl rfl) ?_)
          refine r_val (by first | exact .none | exact .some rfl rfl) rfl (p_pick_t rfl rfl) ?_
          refine r_nil (e_fin (d := 19) hQ_4 rfl (by repeat (first | exact .refl | refine .put rfl ?_ | refine .say rfl ?_ | refine .say2 rfl (by first | assumption | simp_all) ?_)))
        refine r_nil ?_
        refine e_next ?_
        refine c_split (d := 19) rfl (fun h_6 => ?_) (fun h_6 => ?_)
        · skip
          try simp only [norms] at h_6
          first
            | (exfalso; omega)
            | (
              refine c_cond_t rfl ?_
              refine c_seq ?_
              refine c_region ?_
              refine r_val .none rfl (p_assign rfl) ?_
              refine r_nil ?_
              refine e_next ?_
              refine c_ret ?_
              refine e_ret_then ?_
              refine e_ret1 Try.results14 (.tmp rfl .nil) (fun w hm => ⟨?_, hm.since⟩)
              rw [check_eq c d, show max d 1 = d by omega]
              have e5 : (0 : Int) = rs.length ∨ 0 < rs.length := (by omega)
              first
              | exact congrArg (Value.int .i64) (if_pos (by omega)).symm
              | exact congrArg (Value.int .i64) ((if_neg (by omega)).trans ((if_neg (by omega)).trans (if_pos (by omega)))).symm
              | exact congrArg (Value.int .i64) ((if_neg (by omega)).trans ((if_neg (by omega)).trans ((if_neg (by omega)).trans (if_pos (by first | (right; omega) | (left; simp_all [headOk]; done)))))).symm
              | exact congrArg (Value.int .i64) ((if_neg (by omega)).trans ((if_neg (by omega)).trans ((if_neg (by omega)).trans (if_neg (by rintro (hx | hx) <;> first | omega | (simp_all [headOk]; done)))))).symm
              | exact congrArg (Value.int .i64) ((if_neg (by omega)).trans ((if_pos (by omega)).trans (if_pos (headNone_no (by omega))))).symm
              | exact congrArg (Value.int .i64) ((if_neg (by omega)).trans ((if_pos (by omega)).trans ((if_neg (headNone_yes (by omega))).trans (if_pos (by omega))))).symm
              | exact congrArg (Value.int .i64) ((if_neg (by omega)).trans ((if_pos (by omega)).trans ((if_neg (headNone_yes (by omega))).trans ((if_neg (by omega)).trans (by rw [← hphi.2, map_drop (i := k) (d := d0) (by omega), checkL_no hE]))))).symm
              | exact congrArg (Value.int .i64) ((if_neg (by omega)).trans ((if_pos (by omega)).trans ((if_neg (headNone_yes (by omega))).trans ((if_neg (by omega)).trans (by rw [← hphi.2, List.drop_eq_nil_of_le (by simp; omega), checkL]))))).symm
              )
        · skip
          try simp only [norms] at h_6
          first
            | (exfalso; omega)
            | (
              refine c_cond_f rfl ?_
              refine c_skip ?_
              refine e_next ?_
              refine c_seq ?_
              refine c_seq ?_
              refine c_region ?_
              refine r_val .none rfl (p_field Try.underlying38 rfl sz3 rfl) ?_
              refine r_val .none rfl (p_ld (k := 0) Try.underlying3 rfl rfl rfl (by first | exact of_decide_eq_true rfl | omega) (rfl : _ = Value.int _ _)) ?_
              refine r_val .none rfl (p_lt rfl rfl) ?_
              refine r_nil ?_
              refine e_next ?_
              refine c_splitd (d := 22) rfl (fun h_7 => ?_) (fun h_7 => ?_)
              · skip
                first
                  | (exfalso; omega)
                  | (
                    refine c_cond_t rfl ?_
                    refine c_seq ?_
                    refine c_seq ?_
                    refine c_region ?_
                    refine r_val .none rfl (p_assign rfl) ?_
                    refine r_nil ?_
                    refine e_next ?_
                    refine c_block ?_
                    refine c_unroll 4 ?_
                    refine l_round (n := 3) ?_
                    refine c_seq ?_
                    refine c_seq ?_
                    refine c_region ?_
                    refine r_val .none rfl (p_move rfl) ?_
                    refine r_val .none rfl (p_lt rfl rfl) ?_
                    refine r_say (d := 24) (v := Value.bool true) rfl ?_
                    refine r_nil ?_
                    refine e_next ?_
                    refine c_cond_t rfl ?_
                    refine c_skip ?_
                    refine e_next ?_
                    refine c_seq ?_
                    refine c_block ?_
                    refine c_seq ?_
                    refine c_region ?_
                    refine r_val .none rfl (p_move rfl) ?_
                    refine r_val .none rfl (p_field Try.underlying38 rfl sz35 rfl) ?_
                    refine r_val .none rfl (p_iaddr (k := 0) Try.underlying35 sz34 rfl rfl (by first | exact of_decide_eq_true rfl | omega)) ?_
                    refine r_val .none rfl (p_lda (k := 0) Try.underlying34 rfl sz34 rfl rfl (by first | exact of_decide_eq_true rfl | omega) (rfl : _ = Value.agg #[_, _])) ?_
                    refine r_call (vs := [_]) .none rfl cl37 rfl (fun w hw => c_rright _ _ w) ?_
                    refine r_val .none rfl (p_not rfl) ?_
                    refine r_nil ?_
                    refine e_next ?_
                    refine c_splitn (d := 32) rfl (fun h_8 => ?_) (fun h_8 => ?_)
                    · skip
                      first
                        | (exfalso; omega)
                        | (
                          refine c_cond_t rfl ?_
                          refine c_seq ?_
                          refine c_region ?_
                          refine r_val .none rfl (p_assign rfl) ?_
                          refine r_nil ?_
                          refine e_next ?_
                          refine c_ret ?_
                          refine e_ret_block ?_
                          refine e_ret_then ?_
                          refine e_ret_then ?_
                          refine e_ret_block ?_
                          refine e_ret_then ?_
                          refine e_ret_then ?_
                          refine e_ret1 Try.results14 (.tmp rfl .nil) (fun w hm => ⟨?_, hm.since⟩)
                          rw [check_eq c d, show max d 1 = d by omega]
                          have e5 : (0 : Int) = rs.length ∨ 0 < rs.length := (by omega)
                          first
                          | exact congrArg (Value.int .i64) (if_pos (by omega)).symm
                          | exact congrArg (Value.int .i64) ((if_neg (by omega)).trans ((if_neg (by omega)).trans (if_pos (by omega)))).symm
                          | exact congrArg (Value.int .i64) ((if_neg (by omega)).trans ((if_neg (by omega)).trans ((if_neg (by omega)).trans (if_pos (by first | (right; omega) | (left; simp_all [headOk]; done)))))).symm
                          | exact congrArg (Value.int .i64) ((if_neg (by omega)).trans ((if_neg (by omega)).trans ((if_neg (by omega)).trans (if_neg (by rintro (hx | hx) <;> first | omega | (simp_all [headOk]; done)))))).symm
                          | exact congrArg (Value.int .i64) ((if_neg (by omega)).trans ((if_pos (by omega)).trans (if_pos (headNone_no (by omega))))).symm
                          | exact congrArg (Value.int .i64) ((if_neg (by omega)).trans ((if_pos (by omega)).trans ((if_neg (headNone_yes (by omega))).trans (if_pos (by omega))))).symm
                          | exact congrArg (Value.int .i64) ((if_neg (by omega)).trans ((if_pos (by omega)).trans ((if_neg (headNone_yes (by omega))).trans ((if_neg (by omega)).trans (by rw [← hphi.2, map_drop (i := k) (d := d0) (by omega), checkL_no hE]))))).symm
                          | exact congrArg (Value.int .i64) ((if_neg (by omega)).trans ((if_pos (by omega)).trans ((if_neg (headNone_yes (by omega))).trans ((if_neg (by omega)).trans (by rw [← hphi.2, List.drop_eq_nil_of_le (by simp; omega), checkL]))))).symm
                          )
                    · skip
                      first
                        | (exfalso; omega)
                        | (
                          refine c_cond_f rfl ?_
                          refine c_skip ?_
                          refine e_norm_block ?_
                          refine e_next ?_
                          refine c_region ?_
                          refine r_val .none rfl (p_move rfl) ?_
                          refine r_val .none rfl (p_add rfl rfl (by omega)) ?_
                          refine r_val .none rfl (p_assign rfl) ?_
                          refine r_nil ?_
                          refine e_again ?_
                          refine l_round (n := 2) ?_
                          refine c_seq ?_
                          refine c_seq ?_
                          refine c_region ?_
                          refine r_val .none rfl (p_move rfl) ?_
                          refine r_val .none rfl (p_lt rfl rfl) ?_
                          refine r_say (d := 24) (v := Value.bool true) rfl ?_
                          refine r_nil ?_
                          refine e_next ?_
                          refine c_cond_t rfl ?_
                          refine c_skip ?_
                          refine e_next ?_
                          refine c_seq ?_
                          refine c_block ?_
                          refine c_seq ?_
                          refine c_region ?_
                          refine r_val .none rfl (p_move rfl) ?_
                          refine r_val .none rfl (p_field Try.underlying38 rfl sz35 rfl) ?_
                          refine r_val .none rfl (p_iaddr (k := 1) Try.underlying35 sz34 rfl rfl (by first | exact of_decide_eq_true rfl | omega)) ?_
                          refine r_val .none rfl (p_lda (k := 0) Try.underlying34 rfl sz34 rfl rfl (by first | exact of_decide_eq_true rfl | omega) (rfl : _ = Value.agg #[_, _])) ?_
                          refine r_call (vs := [_]) .none rfl cl37 rfl (fun w hw => c_rright _ _ w) ?_
                          refine r_val .none rfl (p_not rfl) ?_
                          refine r_nil ?_
                          refine e_next ?_
                          refine c_splitn (d := 32) rfl (fun h_9 => ?_) (fun h_9 => ?_)
                          · skip
                            first
                              | (exfalso; omega)
                              | (
                                refine c_cond_t rfl ?_
                                refine c_seq ?_
                                refine c_region ?_
                                refine r_val .none rfl (p_assign rfl) ?_
                                refine r_nil ?_
                                refine e_next ?_
                                refine c_ret ?_
                                refine e_ret_block ?_
                                refine e_ret_then ?_
                                refine e_ret_then ?_
                                refine e_ret_block ?_
                                refine e_ret_then ?_
                                refine e_ret_then ?_
                                refine e_ret1 Try.results14 (.tmp rfl .nil) (fun w hm => ⟨?_, hm.since⟩)
                                rw [check_eq c d, show max d 1 = d by omega]
                                have e5 : (0 : Int) = rs.length ∨ 0 < rs.length := (by omega)
                                first
                                | exact congrArg (Value.int .i64) (if_pos (by omega)).symm
                                | exact congrArg (Value.int .i64) ((if_neg (by omega)).trans ((if_neg (by omega)).trans (if_pos (by omega)))).symm
                                | exact congrArg (Value.int .i64) ((if_neg (by omega)).trans ((if_neg (by omega)).trans ((if_neg (by omega)).trans (if_pos (by first | (right; omega) | (left; simp_all [headOk]; done)))))).symm
                                | exact congrArg (Value.int .i64) ((if_neg (by omega)).trans ((if_neg (by omega)).trans ((if_neg (by omega)).trans (if_neg (by rintro (hx | hx) <;> first | omega | (simp_all [headOk]; done)))))).symm
                                | exact congrArg (Value.int .i64) ((if_neg (by omega)).trans ((if_pos (by omega)).trans (if_pos (headNone_no (by omega))))).symm
                                | exact congrArg (Value.int .i64) ((if_neg (by omega)).trans ((if_pos (by omega)).trans ((if_neg (headNone_yes (by omega))).trans (if_pos (by omega))))).symm
                                | exact congrArg (Value.int .i64) ((if_neg (by omega)).trans ((if_pos (by omega)).trans ((if_neg (headNone_yes (by omega))).trans ((if_neg (by omega)).trans (by rw [← hphi.2, map_drop (i := k) (d := d0) (by omega), checkL_no hE]))))).symm
                                | exact congrArg (Value.int .i64) ((if_neg (by omega)).trans ((if_pos (by omega)).trans ((if_neg (headNone_yes (by omega))).trans ((if_neg (by omega)).trans (by rw [← hphi.2, List.drop_eq_nil_of_le (by simp; omega), checkL]))))).symm
                                )
                          · skip
                            first
                              | (exfalso; omega)
                              | (
                                refine c_cond_f rfl ?_
                                refine c_skip ?_
                                refine e_norm_block ?_
                                refine e_next ?_
                                refine c_region ?_
                                refine r_val .none rfl (p_move rfl) ?_
                                refine r_val .none rfl (p_add rfl rfl (by omega)) ?_
                                refine r_val .none rfl (p_assign rfl) ?_
                                refine r_nil ?_
                                refine e_again ?_
                                refine l_round (n := 1) ?_
                                refine c_seq ?_
                                refine c_seq ?_
                                refine c_region ?_
                                refine r_val .none rfl (p_move rfl) ?_
                                refine r_val .none rfl (p_lt rfl rfl) ?_
                                refine r_say (d := 24) (v := Value.bool true) rfl ?_
                                refine r_nil ?_
                                refine e_next ?_
                                refine c_cond_t rfl ?_
                                refine c_skip ?_
                                refine e_next ?_
                                refine c_seq ?_
                                refine c_block ?_
                                refine c_seq ?_
                                refine c_region ?_
                                refine r_val .none rfl (p_move rfl) ?_
                                refine r_val .none rfl (p_field Try.underlying38 rfl sz35 rfl) ?_
                                refine r_val .none rfl (p_iaddr (k := 2) Try.underlying35 sz34 rfl rfl (by first | exact of_decide_eq_true rfl | omega)) ?_
                                refine r_val .none rfl (p_lda (k := 0) Try.underlying34 rfl sz34 rfl rfl (by first | exact of_decide_eq_true rfl | omega) (rfl : _ = Value.agg #[_, _])) ?_
                                refine r_call (vs := [_]) .none rfl cl37 rfl (fun w hw => c_rright _ _ w) ?_
                                refine r_val .none rfl (p_not rfl) ?_
                                refine r_nil ?_
                                refine e_next ?_
                                refine c_splitn (d := 32) rfl (fun h_10 => ?_) (fun h_10 => ?_)
                                · skip
                                  first
                                    | (exfalso; omega)
                                    | (
                                      refine c_cond_t rfl ?_
                                      refine c_seq ?_
                                      refine c_region ?_
                                      refine r_val .none rfl (p_assign rfl) ?_
                                      refine r_nil ?_
                                      refine e_next ?_
                                      refine c_ret ?_
                                      refine e_ret_block ?_
                                      refine e_ret_then ?_
                                      refine e_ret_then ?_
                                      refine e_ret_block ?_
                                      refine e_ret_then ?_
                                      refine e_ret_then ?_
                                      refine e_ret1 Try.results14 (.tmp rfl .nil) (fun w hm => ⟨?_, hm.since⟩)
                                      rw [check_eq c d, show max d 1 = d by omega]
                                      have e5 : (0 : Int) = rs.length ∨ 0 < rs.length := (by omega)
                                      first
                                      | exact congrArg (Value.int .i64) (if_pos (by omega)).symm
                                      | exact congrArg (Value.int .i64) ((if_neg (by omega)).trans ((if_neg (by omega)).trans (if_pos (by omega)))).symm
                                      | exact congrArg (Value.int .i64) ((if_neg (by omega)).trans ((if_neg (by omega)).trans ((if_neg (by omega)).trans (if_pos (by first | (right; omega) | (left; simp_all [headOk]; done)))))).symm
                                      | exact congrArg (Value.int .i64) ((if_neg (by omega)).trans ((if_neg (by omega)).trans ((if_neg (by omega)).trans (if_neg (by rintro (hx | hx) <;> first | omega | (simp_all [headOk]; done)))))).symm
                                      | exact congrArg (Value.int .i64) ((if_neg (by omega)).trans ((if_pos (by omega)).trans (if_pos (headNone_no (by omega))))).symm
                                      | exact congrArg (Value.int .i64) ((if_neg (by omega)).trans ((if_pos (by omega)).trans ((if_neg (headNone_yes (by omega))).trans (if_pos (by omega))))).symm
                                      | exact congrArg (Value.int .i64) ((if_neg (by omega)).trans ((if_pos (by omega)).trans ((if_neg (headNone_yes (by omega))).trans ((if_neg (by omega)).trans (by rw [← hphi.2, map_drop (i := k) (d := d0) (by omega), checkL_no hE]))))).symm
                                      | exact congrArg (Value.int .i64) ((if_neg (by omega)).trans ((if_pos (by omega)).trans ((if_neg (headNone_yes (by omega))).trans ((if_neg (by omega)).trans (by rw [← hphi.2, List.drop_eq_nil_of_le (by simp; omega), checkL]))))).symm
                                      )
                                · skip
                                  first
                                    | (exfalso; omega)
                                    | (
                                      refine c_cond_f rfl ?_
                                      refine c_skip ?_
                                      refine e_norm_block ?_
                                      refine e_next ?_
                                      refine c_region ?_
                                      refine r_val .none rfl (p_move rfl) ?_
                                      refine r_val .none rfl (p_add rfl rfl (by omega)) ?_
                                      refine r_val .none rfl (p_assign rfl) ?_
                                      refine r_nil ?_
                                      refine e_again ?_
                                      refine l_round (n := 0) ?_
                                      refine c_seq ?_
                                      refine c_seq ?_
                                      refine c_region ?_
                                      refine r_val .none rfl (p_move rfl) ?_
                                      refine r_val .none rfl (p_lt rfl rfl) ?_
                                      refine r_say (d := 24) (v := Value.bool false) rfl ?_
                                      refine r_nil ?_
                                      refine e_next ?_
                                      refine c_cond_f rfl ?_
                                      refine c_exit ?_
                                      refine e_exit_then ?_
                                      refine e_exit_then ?_
                                      refine e_exit_block ?_
                                      refine e_next ?_
                                      refine c_seq ?_
                                      refine c_seq ?_
                                      refine c_region ?_
                                      refine r_val .none rfl (p_field Try.underlying38 rfl sz36 rfl) ?_
                                      refine r_val .none rfl (p_ld (k := 0) Try.underlying36 rfl rfl rfl (by first | exact of_decide_eq_true rfl | omega) rfl) ?_
                                      refine r_val .none rfl (p_leng Try.underlying36 rfl hr) ?_
                                      have bd_11 := (hr).bound
                                      refine r_val .none rfl (p_gt rfl rfl) ?_
                                      refine r_nil ?_
                                      refine e_next ?_
                                      refine c_splitd (d := 36) rfl (fun h_12 => ?_) (fun h_12 => ?_)
                                      · skip
                                        first
                                          | (exfalso; omega)
                                          | (
                                            refine c_cond_t rfl ?_
                                            refine c_seq ?_
                                            refine c_region ?_
                                            refine r_val .none rfl (p_assign rfl) ?_
                                            refine r_nil ?_
                                            refine e_next ?_
                                            refine c_ret ?_
                                            refine e_ret_then ?_
                                            refine e_ret_then ?_
                                            refine e_ret1 Try.results14 (.tmp rfl .nil) (fun w hm => ⟨?_, hm.since⟩)
                                            rw [check_eq c d, show max d 1 = d by omega]
                                            have e5 : (0 : Int) = rs.length ∨ 0 < rs.length := (by omega)
                                            first
                                            | exact congrArg (Value.int .i64) (if_pos (by omega)).symm
                                            | exact congrArg (Value.int .i64) ((if_neg (by omega)).trans ((if_neg (by omega)).trans (if_pos (by omega)))).symm
                                            | exact congrArg (Value.int .i64) ((if_neg (by omega)).trans ((if_neg (by omega)).trans ((if_neg (by omega)).trans (if_pos (by first | (right; omega) | (left; simp_all [headOk]; done)))))).symm
                                            | exact congrArg (Value.int .i64) ((if_neg (by omega)).trans ((if_neg (by omega)).trans ((if_neg (by omega)).trans (if_neg (by rintro (hx | hx) <;> first | omega | (simp_all [headOk]; done)))))).symm
                                            | exact congrArg (Value.int .i64) ((if_neg (by omega)).trans ((if_pos (by omega)).trans (if_pos (headNone_no (by omega))))).symm
                                            | exact congrArg (Value.int .i64) ((if_neg (by omega)).trans ((if_pos (by omega)).trans ((if_neg (headNone_yes (by omega))).trans (if_pos (by omega))))).symm
                                            | exact congrArg (Value.int .i64) ((if_neg (by omega)).trans ((if_pos (by omega)).trans ((if_neg (headNone_yes (by omega))).trans ((if_neg (by omega)).trans (by rw [← hphi.2, map_drop (i := k) (d := d0) (by omega), checkL_no hE]))))).symm
                                            | exact congrArg (Value.int .i64) ((if_neg (by omega)).trans ((if_pos (by omega)).trans ((if_neg (headNone_yes (by omega))).trans ((if_neg (by omega)).trans (by rw [← hphi.2, List.drop_eq_nil_of_le (by simp; omega), checkL]))))).symm
                                            )
                                      · skip
                                        first
                                          | (exfalso; omega)
                                          | (
                                            refine c_cond_f rfl ?_
                                            refine c_skip ?_
                                            refine e_next ?_
                                            refine c_seq ?_
                                            refine c_region ?_
                                            refine r_val .none rfl (p_assign rfl) ?_
                                            refine r_nil ?_
                                            refine e_next ?_
                                            refine c_ret ?_
                                            refine e_ret_then ?_
                                            refine e_ret1 Try.results14 (.tmp rfl .nil) (fun w hm => ⟨?_, hm.since⟩)
                                            rw [check_eq c d, show max d 1 = d by omega]
                                            have e5 : (0 : Int) = rs.length ∨ 0 < rs.length := (by omega)
                                            first
                                            | exact congrArg (Value.int .i64) (if_pos (by omega)).symm
                                            | exact congrArg (Value.int .i64) ((if_neg (by omega)).trans ((if_neg (by omega)).trans (if_pos (by omega)))).symm
                                            | exact congrArg (Value.int .i64) ((if_neg (by omega)).trans ((if_neg (by omega)).trans ((if_neg (by omega)).trans (if_pos (by first | (right; omega) | (left; simp_all [headOk]; done)))))).symm
                                            | exact congrArg (Value.int .i64) ((if_neg (by omega)).trans ((if_neg (by omega)).trans ((if_neg (by omega)).trans (if_neg (by rintro (hx | hx) <;> first | omega | (simp_all [headOk]; done)))))).symm
                                            | exact congrArg (Value.int .i64) ((if_neg (by omega)).trans ((if_pos (by omega)).trans (if_pos (headNone_no (by omega))))).symm
                                            | exact congrArg (Value.int .i64) ((if_neg (by omega)).trans ((if_pos (by omega)).trans ((if_neg (headNone_yes (by omega))).trans (if_pos (by omega))))).symm
                                            | exact congrArg (Value.int .i64) ((if_neg (by omega)).trans ((if_pos (by omega)).trans ((if_neg (headNone_yes (by omega))).trans ((if_neg (by omega)).trans (by rw [← hphi.2, map_drop (i := k) (d := d0) (by omega), checkL_no hE]))))).symm
                                            | exact congrArg (Value.int .i64) ((if_neg (by omega)).trans ((if_pos (by omega)).trans ((if_neg (headNone_yes (by omega))).trans ((if_neg (by omega)).trans (by rw [← hphi.2, List.drop_eq_nil_of_le (by simp; omega), checkL]))))).symm
                                            )
                                      )
                                )
                          )
                    )
              · skip
                first
                  | (exfalso; omega)
                  | (
                    refine c_cond_f rfl ?_
                    refine c_skip ?_
                    refine e_next ?_
                    refine c_seq ?_
                    refine c_seq ?_
                    refine c_region ?_
                    refine r_val .none rfl (p_assign rfl) ?_
                    refine r_nil ?_
                    refine e_next ?_
                    refine c_block ?_
                    refine c_unroll 4 ?_
                    refine l_round (n := 3) ?_
                    refine c_seq ?_
                    refine c_seq ?_
                    refine c_region ?_
                    refine r_val .none rfl (p_move rfl) ?_
                    refine r_val .none rfl (p_lt rfl rfl) ?_
                    refine r_say (d := 38) (v := Value.bool true) rfl ?_
                    refine r_nil ?_
                    refine e_next ?_
                    refine c_cond_t rfl ?_
                    refine c_skip ?_
                    refine e_next ?_
                    refine c_seq ?_
                    refine c_block ?_
                    refine c_seq ?_
                    refine c_region ?_
                    refine r_val .none rfl (p_move rfl) ?_
                    refine r_val .none rfl (p_field Try.underlying38 rfl sz35 rfl) ?_
                    refine r_val .none rfl (p_iaddr (k := 0) Try.underlying35 sz34 rfl rfl (by first | exact of_decide_eq_true rfl | omega)) ?_
                    refine r_val .none rfl (p_field Try.underlying34 rfl sz3 rfl) ?_
                    refine r_val .none rfl (p_ld (k := 0) Try.underlying3 rfl rfl rfl (by first | exact of_decide_eq_true rfl | omega) (rfl : _ = Value.int _ _)) ?_
                    refine r_val .none rfl (p_ne rfl rfl) ?_
                    refine r_val .none rfl (p_move rfl) ?_
                    refine' r_or (c := 47) (d := 54) [_, _, _, _, _, _, _] rfl (fun h_13 Q_14 hQ_15 => ?_) (fun h_13 Q_14 hQ_15 => ?_) ?_
                    rotate_left 1
                    · skip
                      replace h_13 := of_decide_eq_false h_13
                      refine r_val (.some rfl rfl) rfl (p_move rfl) ?_
                      refine r_val (.some rfl rfl) rfl (p_field Try.underlying38 rfl sz35 rfl) ?_
                      refine r_val (.some rfl rfl) rfl (p_iaddr (k := 0) Try.underlying35 sz34 rfl rfl (by first | exact of_decide_eq_true rfl | omega)) ?_
                      refine r_val (.some rfl rfl) rfl (p_field Try.underlying34 rfl sz3 rfl) ?_
                      refine r_val (.some rfl rfl) rfl (p_ld (k := 0) Try.underlying3 rfl rfl rfl (by first | exact of_decide_eq_true rfl | omega) (rfl : _ = Value.int _ _)) ?_
                      refine r_val (.some rfl rfl) rfl (p_ne rfl rfl) ?_
                      refine r_val .none rfl (p_pick_f rfl rfl) ?_
                      refine r_nil (e_fin (d := 54) hQ_15 rfl (by repeat (first | exact .refl | refine .put rfl ?_ | refine .say rfl ?_ | refine .say2 rfl (by first | assumption | simp_all) ?_)))
                    · skip
                      repeat (first | refine r_skip rfl (.no rfl rfl) ?_ | refine r_skip rfl (.un rfl rfl) ?_)
                      refine r_val (by first | exact .none | exact .some rfl rfl) rfl (p_pick_t rfl rfl) ?_
                      refine r_nil (e_fin (d := 54) hQ_15 rfl (by repeat (first | exact .refl | refine .put rfl ?_ | refine .say rfl ?_ | refine .say2 rfl (by first | assumption | simp_all) ?_)))
                    refine r_nil ?_
                    refine e_next ?_
                    refine c_split (d := 54) rfl (fun h_17 => ?_) (fun h_17 => ?_)
                    · skip
                      try simp only [norms] at h_17
                      first
                        | (exfalso; omega)
                        | (
                          refine c_cond_t rfl ?_
                          refine c_seq ?_
                          refine c_region ?_
                          refine r_val .none rfl (p_assign rfl) ?_
                          refine r_nil ?_
                          refine e_next ?_
                          refine c_ret ?_
                          refine e_ret_block ?_
                          refine e_ret_then ?_
                          refine e_ret_then ?_
                          refine e_ret_block ?_
                          refine e_ret_then ?_
                          refine e_ret1 Try.results14 (.tmp rfl .nil) (fun w hm => ⟨?_, hm.since⟩)
                          rw [check_eq c d, show max d 1 = d by omega]
                          have e5 : (0 : Int) = rs.length ∨ 0 < rs.length := (by omega)
                          first
                          | exact congrArg (Value.int .i64) (if_pos (by omega)).symm
                          | exact congrArg (Value.int .i64) ((if_neg (by omega)).trans ((if_neg (by omega)).trans (if_pos (by omega)))).symm
                          | exact congrArg (Value.int .i64) ((if_neg (by omega)).trans ((if_neg (by omega)).trans ((if_neg (by omega)).trans (if_pos (by first | (right; omega) | (left; simp_all [headOk]; done)))))).symm
                          | exact congrArg (Value.int .i64) ((if_neg (by omega)).trans ((if_neg (by omega)).trans ((if_neg (by omega)).trans (if_neg (by rintro (hx | hx) <;> first | omega | (simp_all [headOk]; done)))))).symm
                          | exact congrArg (Value.int .i64) ((if_neg (by omega)).trans ((if_pos (by omega)).trans (if_pos (headNone_no (by omega))))).symm
                          | exact congrArg (Value.int .i64) ((if_neg (by omega)).trans ((if_pos (by omega)).trans ((if_neg (headNone_yes (by omega))).trans (if_pos (by omega))))).symm
                          | exact congrArg (Value.int .i64) ((if_neg (by omega)).trans ((if_pos (by omega)).trans ((if_neg (headNone_yes (by omega))).trans ((if_neg (by omega)).trans (by rw [← hphi.2, map_drop (i := k) (d := d0) (by omega), checkL_no hE]))))).symm
                          | exact congrArg (Value.int .i64) ((if_neg (by omega)).trans ((if_pos (by omega)).trans ((if_neg (headNone_yes (by omega))).trans ((if_neg (by omega)).trans (by rw [← hphi.2, List.drop_eq_nil_of_le (by simp; omega), checkL]))))).symm
                          )
                    · skip
                      try simp only [norms] at h_17
                      first
                        | (exfalso; omega)
                        | (
                          refine c_cond_f rfl ?_
                          refine c_skip ?_
                          refine e_norm_block ?_
                          refine e_next ?_
                          refine c_region ?_
                          refine r_val .none rfl (p_move rfl) ?_
                          refine r_val .none rfl (p_add rfl rfl (by omega)) ?_
                          refine r_val .none rfl (p_assign rfl) ?_
                          refine r_nil ?_
                          refine e_again ?_
                          refine l_round (n := 2) ?_
                          refine c_seq ?_
                          refine c_seq ?_
                          refine c_region ?_
                          refine r_val .none rfl (p_move rfl) ?_
                          refine r_val .none rfl (p_lt rfl rfl) ?_
                          refine r_say (d := 38) (v := Value.bool true) rfl ?_
                          refine r_nil ?_
                          refine e_next ?_
                          refine c_cond_t rfl ?_
                          refine c_skip ?_
                          refine e_next ?_
                          refine c_seq ?_
                          refine c_block ?_
                          refine c_seq ?_
                          refine c_region ?_
                          refine r_val .none rfl (p_move rfl) ?_
                          refine r_val .none rfl (p_field Try.underlying38 rfl sz35 rfl) ?_
                          refine r_val .none rfl (p_iaddr (k := 1) Try.underlying35 sz34 rfl rfl (by first | exact of_decide_eq_true rfl | omega)) ?_
                          refine r_val .none rfl (p_field Try.underlying34 rfl sz3 rfl) ?_
                          refine r_val .none rfl (p_ld (k := 0) Try.underlying3 rfl rfl rfl (by first | exact of_decide_eq_true rfl | omega) (rfl : _ = Value.int _ _)) ?_
                          refine r_val .none rfl (p_ne rfl rfl) ?_
                          refine r_val .none rfl (p_move rfl) ?_
                          refine r_splitd (d := 47) rfl (fun h_18 => ?_) (fun h_18 => ?_)
                          · skip
                            first
                              | (exfalso; omega)
                              | (
                                refine r_skip rfl (.no rfl rfl) ?_
                                refine r_skip rfl (.no rfl rfl) ?_
                                refine r_skip rfl (.no rfl rfl) ?_
                                refine r_skip rfl (.no rfl rfl) ?_
                                refine r_skip rfl (.no rfl rfl) ?_
                                refine r_skip rfl (.no rfl rfl) ?_
                                refine r_val .none rfl (p_pick_t rfl rfl) ?_
                                refine r_nil ?_
                                refine e_next ?_
                                refine c_cond_t rfl ?_
                                refine c_seq ?_
                                refine c_region ?_
                                refine r_val .none rfl (p_assign rfl) ?_
                                refine r_nil ?_
                                refine e_next ?_
                                refine c_ret ?_
                                refine e_ret_block ?_
                                refine e_ret_then ?_
                                refine e_ret_then ?_
                                refine e_ret_block ?_
                                refine e_ret_then ?_
                                refine e_ret1 Try.results14 (.tmp rfl .nil) (fun w hm => ⟨?_, hm.since⟩)
                                rw [check_eq c d, show max d 1 = d by omega]
                                have e5 : (0 : Int) = rs.length ∨ 0 < rs.length := (by omega)
                                first
                                | exact congrArg (Value.int .i64) (if_pos (by omega)).symm
                                | exact congrArg (Value.int .i64) ((if_neg (by omega)).trans ((if_neg (by omega)).trans (if_pos (by omega)))).symm
                                | exact congrArg (Value.int .i64) ((if_neg (by omega)).trans ((if_neg (by omega)).trans ((if_neg (by omega)).trans (if_pos (by first | (right; omega) | (left; simp_all [headOk]; done)))))).symm
                                | exact congrArg (Value.int .i64) ((if_neg (by omega)).trans ((if_neg (by omega)).trans ((if_neg (by omega)).trans (if_neg (by rintro (hx | hx) <;> first | omega | (simp_all [headOk]; done)))))).symm
                                | exact congrArg (Value.int .i64) ((if_neg (by omega)).trans ((if_pos (by omega)).trans (if_pos (headNone_no (by omega))))).symm
                                | exact congrArg (Value.int .i64) ((if_neg (by omega)).trans ((if_pos (by omega)).trans ((if_neg (headNone_yes (by omega))).trans (if_pos (by omega))))).symm
                                | exact congrArg (Value.int .i64) ((if_neg (by omega)).trans ((if_pos (by omega)).trans ((if_neg (headNone_yes (by omega))).trans ((if_neg (by omega)).trans (by rw [← hphi.2, map_drop (i := k) (d := d0) (by omega), checkL_no hE]))))).symm
                                | exact congrArg (Value.int .i64) ((if_neg (by omega)).trans ((if_pos (by omega)).trans ((if_neg (headNone_yes (by omega))).trans ((if_neg (by omega)).trans (by rw [← hphi.2, List.drop_eq_nil_of_le (by simp; omega), checkL]))))).symm
                                )
                          · skip
                            first
                              | (exfalso; omega)
                              | (
                                refine r_val (.some rfl rfl) rfl (p_move rfl) ?_
                                refine r_val (.some rfl rfl) rfl (p_field Try.underlying38 rfl sz35 rfl) ?_
                                refine r_val (.some rfl rfl) rfl (p_iaddr (k := 1) Try.underlying35 sz34 rfl rfl (by first | exact of_decide_eq_true rfl | omega)) ?_
                                refine r_val (.some rfl rfl) rfl (p_field Try.underlying34 rfl sz3 rfl) ?_
                                refine r_val (.some rfl rfl) rfl (p_ld (k := 0) Try.underlying3 rfl rfl rfl (by first | exact of_decide_eq_true rfl | omega) (rfl : _ = Value.int _ _)) ?_
                                refine r_val (.some rfl rfl) rfl (p_ne rfl rfl) ?_
                                refine r_val .none rfl (p_pick_f rfl rfl) ?_
                                refine r_nil ?_
                                refine e_next ?_
                                refine c_splitd (d := 54) rfl (fun h_19 => ?_) (fun h_19 => ?_)
                                · skip
                                  first
                                    | (exfalso; omega)
                                    | (
                                      refine c_cond_t rfl ?_
                                      refine c_seq ?_
                                      refine c_region ?_
                                      refine r_val .none rfl (p_assign rfl) ?_
                                      refine r_nil ?_
                                      refine e_next ?_
                                      refine c_ret ?_
                                      refine e_ret_block ?_
                                      refine e_ret_then ?_
                                      refine e_ret_then ?_
                                      refine e_ret_block ?_
                                      refine e_ret_then ?_
                                      refine e_ret1 Try.results14 (.tmp rfl .nil) (fun w hm => ⟨?_, hm.since⟩)
                                      rw [check_eq c d, show max d 1 = d by omega]
                                      have e5 : (0 : Int) = rs.length ∨ 0 < rs.length := (by omega)
                                      first
                                      | exact congrArg (Value.int .i64) (if_pos (by omega)).symm
                                      | exact congrArg (Value.int .i64) ((if_neg (by omega)).trans ((if_neg (by omega)).trans (if_pos (by omega)))).symm
                                      | exact congrArg (Value.int .i64) ((if_neg (by omega)).trans ((if_neg (by omega)).trans ((if_neg (by omega)).trans (if_pos (by first | (right; omega) | (left; simp_all [headOk]; done)))))).symm
                                      | exact congrArg (Value.int .i64) ((if_neg (by omega)).trans ((if_neg (by omega)).trans ((if_neg (by omega)).trans (if_neg (by rintro (hx | hx) <;> first | omega | (simp_all [headOk]; done)))))).symm
                                      | exact congrArg (Value.int .i64) ((if_neg (by omega)).trans ((if_pos (by omega)).trans (if_pos (headNone_no (by omega))))).symm
                                      | exact congrArg (Value.int .i64) ((if_neg (by omega)).trans ((if_pos (by omega)).trans ((if_neg (headNone_yes (by omega))).trans (if_pos (by omega))))).symm
                                      | exact congrArg (Value.int .i64) ((if_neg (by omega)).trans ((if_pos (by omega)).trans ((if_neg (headNone_yes (by omega))).trans ((if_neg (by omega)).trans (by rw [← hphi.2, map_drop (i := k) (d := d0) (by omega), checkL_no hE]))))).symm
                                      | exact congrArg (Value.int .i64) ((if_neg (by omega)).trans ((if_pos (by omega)).trans ((if_neg (headNone_yes (by omega))).trans ((if_neg (by omega)).trans (by rw [← hphi.2, List.drop_eq_nil_of_le (by simp; omega), checkL]))))).symm
                                      )
                                · skip
                                  first
                                    | (exfalso; omega)
                                    | (
                                      refine c_cond_f rfl ?_
                                      refine c_skip ?_
                                      refine e_norm_block ?_
                                      refine e_next ?_
                                      refine c_region ?_
                                      refine r_val .none rfl (p_move rfl) ?_
                                      refine r_val .none rfl (p_add rfl rfl (by omega)) ?_
                                      refine r_val .none rfl (p_assign rfl) ?_
                                      refine r_nil ?_
                                      refine e_again ?_
                                      refine l_round (n := 1) ?_
                                      refine c_seq ?_
                                      refine c_seq ?_
                                      refine c_region ?_
                                      refine r_val .none rfl (p_move rfl) ?_
                                      refine r_val .none rfl (p_lt rfl rfl) ?_
                                      refine r_say (d := 38) (v := Value.bool true) rfl ?_
                                      refine r_nil ?_
                                      refine e_next ?_
                                      refine c_cond_t rfl ?_
                                      refine c_skip ?_
                                      refine e_next ?_
                                      refine c_seq ?_
                                      refine c_block ?_
                                      refine c_seq ?_
                                      refine c_region ?_
                                      refine r_val .none rfl (p_move rfl) ?_
                                      refine r_val .none rfl (p_field Try.underlying38 rfl sz35 rfl) ?_
                                      refine r_val .none rfl (p_iaddr (k := 2) Try.underlying35 sz34 rfl rfl (by first | exact of_decide_eq_true rfl | omega)) ?_
                                      refine r_val .none rfl (p_field Try.underlying34 rfl sz3 rfl) ?_
                                      refine r_val .none rfl (p_ld (k := 0) Try.underlying3 rfl rfl rfl (by first | exact of_decide_eq_true rfl | omega) (rfl : _ = Value.int _ _)) ?_
                                      refine r_val .none rfl (p_ne rfl rfl) ?_
                                      refine r_val .none rfl (p_move rfl) ?_
                                      refine r_splitd (d := 47) rfl (fun h_20 => ?_) (fun h_20 => ?_)
                                      · skip
                                        first
                                          | (exfalso; omega)
                                          | (
                                            refine r_skip rfl (.no rfl rfl) ?_
                                            refine r_skip rfl (.no rfl rfl) ?_
                                            refine r_skip rfl (.no rfl rfl) ?_
                                            refine r_skip rfl (.no rfl rfl) ?_
                                            refine r_skip rfl (.no rfl rfl) ?_
                                            refine r_skip rfl (.no rfl rfl) ?_
                                            refine r_val .none rfl (p_pick_t rfl rfl) ?_
                                            refine r_nil ?_
                                            refine e_next ?_
                                            refine c_cond_t rfl ?_
                                            refine c_seq ?_
                                            refine c_region ?_
                                            refine r_val .none rfl (p_assign rfl) ?_
                                            refine r_nil ?_
                                            refine e_next ?_
                                            refine c_ret ?_
                                            refine e_ret_block ?_
                                            refine e_ret_then ?_
                                            refine e_ret_then ?_
                                            refine e_ret_block ?_
                                            refine e_ret_then ?_
                                            refine e_ret1 Try.results14 (.tmp rfl .nil) (fun w hm => ⟨?_, hm.since⟩)
                                            rw [check_eq c d, show max d 1 = d by omega]
                                            have e5 : (0 : Int) = rs.length ∨ 0 < rs.length := (by omega)
                                            first
                                            | exact congrArg (Value.int .i64) (if_pos (by omega)).symm
                                            | exact congrArg (Value.int .i64) ((if_neg (by omega)).trans ((if_neg (by omega)).trans (if_pos (by omega)))).symm
                                            | exact congrArg (Value.int .i64) ((if_neg (by omega)).trans ((if_neg (by omega)).trans ((if_neg (by omega)).trans (if_pos (by first | (right; omega) | (left; simp_all [headOk]; done)))))).symm
                                            | exact congrArg (Value.int .i64) ((if_neg (by omega)).trans ((if_neg (by omega)).trans ((if_neg (by omega)).trans (if_neg (by rintro (hx | hx) <;> first | omega | (simp_all [headOk]; done)))))).symm
                                            | exact congrArg (Value.int .i64) ((if_neg (by omega)).trans ((if_pos (by omega)).trans (if_pos (headNone_no (by omega))))).symm
                                            | exact congrArg (Value.int .i64) ((if_neg (by omega)).trans ((if_pos (by omega)).trans ((if_neg (headNone_yes (by omega))).trans (if_pos (by omega))))).symm
                                            | exact congrArg (Value.int .i64) ((if_neg (by omega)).trans ((if_pos (by omega)).trans ((if_neg (headNone_yes (by omega))).trans ((if_neg (by omega)).trans (by rw [← hphi.2, map_drop (i := k) (d := d0) (by omega), checkL_no hE]))))).symm
                                            | exact congrArg (Value.int .i64) ((if_neg (by omega)).trans ((if_pos (by omega)).trans ((if_neg (headNone_yes (by omega))).trans ((if_neg (by omega)).trans (by rw [← hphi.2, List.drop_eq_nil_of_le (by simp; omega), checkL]))))).symm
                                            )
                                      · skip
                                        first
                                          | (exfalso; omega)
                                          | (
                                            refine r_val (.some rfl rfl) rfl (p_move rfl) ?_
                                            refine r_val (.some rfl rfl) rfl (p_field Try.underlying38 rfl sz35 rfl) ?_
                                            refine r_val (.some rfl rfl) rfl (p_iaddr (k := 2) Try.underlying35 sz34 rfl rfl (by first | exact of_decide_eq_true rfl | omega)) ?_
                                            refine r_val (.some rfl rfl) rfl (p_field Try.underlying34 rfl sz3 rfl) ?_
                                            refine r_val (.some rfl rfl) rfl (p_ld (k := 0) Try.underlying3 rfl rfl rfl (by first | exact of_decide_eq_true rfl | omega) (rfl : _ = Value.int _ _)) ?_
                                            refine r_val (.some rfl rfl) rfl (p_ne rfl rfl) ?_
                                            refine r_val .none rfl (p_pick_f rfl rfl) ?_
                                            refine r_nil ?_
                                            refine e_next ?_
                                            refine c_splitd (d := 54) rfl (fun h_21 => ?_) (fun h_21 => ?_)
                                            · skip
                                              first
                                                | (exfalso; omega)
                                                | (
                                                  refine c_cond_t rfl ?_
                                                  refine c_seq ?_
                                                  refine c_region ?_
                                                  refine r_val .none rfl (p_assign rfl) ?_
                                                  refine r_nil ?_
                                                  refine e_next ?_
                                                  refine c_ret ?_
                                                  refine e_ret_block ?_
                                                  refine e_ret_then ?_
                                                  refine e_ret_then ?_
                                                  refine e_ret_block ?_
                                                  refine e_ret_then ?_
                                                  refine e_ret1 Try.results14 (.tmp rfl .nil) (fun w hm => ⟨?_, hm.since⟩)
                                                  rw [check_eq c d, show max d 1 = d by omega]
                                                  have e5 : (0 : Int) = rs.length ∨ 0 < rs.length := (by omega)
                                                  first
                                                  | exact congrArg (Value.int .i64) (if_pos (by omega)).symm
                                                  | exact congrArg (Value.int .i64) ((if_neg (by omega)).trans ((if_neg (by omega)).trans (if_pos (by omega)))).symm
                                                  | exact congrArg (Value.int .i64) ((if_neg (by omega)).trans ((if_neg (by omega)).trans ((if_neg (by omega)).trans (if_pos (by first | (right; omega) | (left; simp_all [headOk]; done)))))).symm
                                                  | exact congrArg (Value.int .i64) ((if_neg (by omega)).trans ((if_neg (by omega)).trans ((if_neg (by omega)).trans (if_neg (by rintro (hx | hx) <;> first | omega | (simp_all [headOk]; done)))))).symm
                                                  | exact congrArg (Value.int .i64) ((if_neg (by omega)).trans ((if_pos (by omega)).trans (if_pos (headNone_no (by omega))))).symm
                                                  | exact congrArg (Value.int .i64) ((if_neg (by omega)).trans ((if_pos (by omega)).trans ((if_neg (headNone_yes (by omega))).trans (if_pos (by omega))))).symm
                                                  | exact congrArg (Value.int .i64) ((if_neg (by omega)).trans ((if_pos (by omega)).trans ((if_neg (headNone_yes (by omega))).trans ((if_neg (by omega)).trans (by rw [← hphi.2, map_drop (i := k) (d := d0) (by omega), checkL_no hE]))))).symm
                                                  | exact congrArg (Value.int .i64) ((if_neg (by omega)).trans ((if_pos (by omega)).trans ((if_neg (headNone_yes (by omega))).trans ((if_neg (by omega)).trans (by rw [← hphi.2, List.drop_eq_nil_of_le (by simp; omega), checkL]))))).symm
                                                  )
                                            · skip
                                              first
                                                | (exfalso; omega)
                                                | (
                                                  refine c_cond_f rfl ?_
                                                  refine c_skip ?_
                                                  refine e_norm_block ?_
                                                  refine e_next ?_
                                                  refine c_region ?_
                                                  refine r_val .none rfl (p_move rfl) ?_
                                                  refine r_val .none rfl (p_add rfl rfl (by omega)) ?_
                                                  refine r_val .none rfl (p_assign rfl) ?_
                                                  refine r_nil ?_
                                                  refine e_again ?_
                                                  refine l_round (n := 0) ?_
                                                  refine c_seq ?_
                                                  refine c_seq ?_
                                                  refine c_region ?_
                                                  refine r_val .none rfl (p_move rfl) ?_
                                                  refine r_val .none rfl (p_lt rfl rfl) ?_
                                                  refine r_say (d := 38) (v := Value.bool false) rfl ?_
                                                  refine r_nil ?_
                                                  refine e_next ?_
                                                  refine c_cond_f rfl ?_
                                                  refine c_exit ?_
                                                  refine e_exit_then ?_
                                                  refine e_exit_then ?_
                                                  refine e_exit_block ?_
                                                  refine e_next ?_
                                                  refine c_seq ?_
                                                  refine c_seq ?_
                                                  refine c_region ?_
                                                  refine r_val .none rfl (p_field Try.underlying38 rfl sz36 rfl) ?_
                                                  refine r_val .none rfl (p_ld (k := 0) Try.underlying36 rfl rfl rfl (by first | exact of_decide_eq_true rfl | omega) rfl) ?_
                                                  refine r_val .none rfl (p_leng Try.underlying36 rfl hr) ?_
                                                  have bd_22 := (hr).bound
                                                  refine r_val .none rfl (p_eq rfl rfl) ?_
                                                  refine r_nil ?_
                                                  refine e_next ?_
                                                  refine c_splitd (d := 58) rfl (fun h_23 => ?_) (fun h_23 => ?_)
                                                  · skip
                                                    first
                                                      | (exfalso; omega)
                                                      | (
                                                        refine c_cond_t rfl ?_
                                                        refine c_seq ?_
                                                        refine c_region ?_
                                                        refine r_val .none rfl (p_assign rfl) ?_
                                                        refine r_nil ?_
                                                        refine e_next ?_
                                                        refine c_ret ?_
                                                        refine e_ret_then ?_
                                                        refine e_ret1 Try.results14 (.tmp rfl .nil) (fun w hm => ⟨?_, hm.since⟩)
                                                        rw [check_eq c d, show max d 1 = d by omega]
                                                        have e5 : (0 : Int) = rs.length ∨ 0 < rs.length := (by omega)
                                                        first
                                                        | exact congrArg (Value.int .i64) (if_pos (by omega)).symm
                                                        | exact congrArg (Value.int .i64) ((if_neg (by omega)).trans ((if_neg (by omega)).trans (if_pos (by omega)))).symm
                                                        | exact congrArg (Value.int .i64) ((if_neg (by omega)).trans ((if_neg (by omega)).trans ((if_neg (by omega)).trans (if_pos (by first | (right; omega) | (left; simp_all [headOk]; done)))))).symm
                                                        | exact congrArg (Value.int .i64) ((if_neg (by omega)).trans ((if_neg (by omega)).trans ((if_neg (by omega)).trans (if_neg (by rintro (hx | hx) <;> first | omega | (simp_all [headOk]; done)))))).symm
                                                        | exact congrArg (Value.int .i64) ((if_neg (by omega)).trans ((if_pos (by omega)).trans (if_pos (headNone_no (by omega))))).symm
                                                        | exact congrArg (Value.int .i64) ((if_neg (by omega)).trans ((if_pos (by omega)).trans ((if_neg (headNone_yes (by omega))).trans (if_pos (by omega))))).symm
                                                        | exact congrArg (Value.int .i64) ((if_neg (by omega)).trans ((if_pos (by omega)).trans ((if_neg (headNone_yes (by omega))).trans ((if_neg (by omega)).trans (by rw [← hphi.2, map_drop (i := k) (d := d0) (by omega), checkL_no hE]))))).symm
                                                        | exact congrArg (Value.int .i64) ((if_neg (by omega)).trans ((if_pos (by omega)).trans ((if_neg (headNone_yes (by omega))).trans ((if_neg (by omega)).trans (by rw [← hphi.2, List.drop_eq_nil_of_le (by simp; omega), checkL]))))).symm
                                                        )
                                                  · skip
                                                    first
                                                      | (exfalso; omega)
                                                      | (
                                                        refine c_cond_f rfl ?_
                                                        refine c_skip ?_
                                                        refine e_next ?_
                                                        refine c_seq ?_
                                                        refine c_seq ?_
                                                        refine c_region ?_
                                                        refine r_val .none rfl (p_field Try.underlying38 rfl sz36 rfl) ?_
                                                        refine r_val .none rfl (p_ld (k := 0) Try.underlying36 rfl rfl rfl (by first | exact of_decide_eq_true rfl | omega) rfl) ?_
                                                        refine r_val .none rfl (p_leng Try.underlying36 rfl hr) ?_
                                                        have bd_24 := (hr).bound
                                                        refine r_val .none rfl (p_move rfl) ?_
                                                        refine r_nil ?_
                                                        refine e_next ?_
                                                        refine c_block ?_
                                                        refine c_name (d := 1) rfl (fun u_25 hu_25 => ?_)
                                                        refine c_name (d := 60) rfl (fun u_26 hu_26 => ?_)
                                                        refine c_name (d := 61) rfl (fun u_27 hu_27 => ?_)
                                                        refine c_nameL (k := 0) rfl (fun A_28 hA_28 => ?_)
                                                        refine c_loop (σ := Nat) (fun k => [(62, Value.int .i64 (k : Nat)), (1, u_25), (60, u_26), (61, u_27)]) (fun k => [A_28]) (fun _ => _) (fun k => k ≤ rs.length ∧ checkL ((rs.map Prod.fst).drop k) (d + 1) = checkL c.subs (d + 1)) (fun k => rs.length - k) (0) ⟨Nat.zero_le _, by rw [hl]; rfl⟩ rfl ⟨rfl, rfl, rfl, rfl, trivial⟩ (.keep (fun _ _ h => h) (.nil)) (fun k hphi => ?_)
                                                        subst hu_25
                                                        subst hu_26
                                                        subst hu_27
                                                        subst hA_28
                                                        refine c_seq ?_
                                                        refine c_region ?_
                                                        refine r_val .none rfl (p_lt rfl rfl) ?_
                                                        refine r_nil ?_
                                                        refine e_next ?_
                                                        refine c_seq ?_
                                                        refine c_splitd (d := 63) rfl (fun h_29 => ?_) (fun h_29 => ?_)
                                                        · skip
                                                          first
                                                            | (exfalso; omega)
                                                            | (
                                                              refine c_cond_t rfl ?_
                                                              refine c_skip ?_
                                                              refine e_next ?_
                                                              refine c_seq ?_
                                                              refine c_block ?_
                                                              refine c_seq ?_
                                                              refine c_region ?_
                                                              refine r_iaddr_g .none rfl Try.underlying36 sz38 rfl hr rfl (by first | exact of_decide_eq_true rfl | omega) (fun p_31 o_32 R_30 => ?_)
                                                              have hc_33 := hp _ (getD_mem (i := k) (d := d0) (by omega))
                                                              refine r_val .none rfl (p_ldga0 Try.underlying38 rfl sz38 rfl R_30 (by first | exact of_decide_eq_true rfl | omega) (rfl : _ = Value.agg #[_, _, _, _, _, _, _, _])) ?_
                                                              refine r_alloc .none rfl zr38 (IsRow.lit _) (fun b_2 => ?_)
                                                              refine r_stw (k := 0) .none sz38 rfl rfl (IsRow.lit _) (one_lit rfl (all_cons rfl (all_cons rfl (all_cons rfl (all_cons rfl (all_cons rfl (all_cons rfl (all_cons rfl (all_cons (hc_33).one rfl))))))))) rfl ?_
                                                              refine r_nil ?_
                                                              refine e_next ?_
                                                              refine c_seq ?_
                                                              refine c_region ?_
                                                              refine r_val .none rfl (p_ldw (k := 0) Try.underlying38 rfl sz38 rfl rfl (rfl : _ = Value.agg #[_, _, _, _, _, _, _, _])) ?_
                                                              refine r_val .none rfl (p_move rfl) ?_
                                                              refine r_val .none rfl (p_add rfl rfl (by omega)) ?_
                                                              refine r_call (vs := [_, _]) .none rfl cl14 rfl (fun w hw => ih (rs.getD k d0).1 _ _ _ w (size_at hl (by omega) hz) (by omega) hc_33 hw) ?_
                                                              refine r_val .none rfl (p_assign rfl) ?_
                                                              refine r_nil ?_
                                                              refine e_next ?_
                                                              refine c_seq ?_
                                                              refine c_region ?_
                                                              refine r_val .none rfl (p_move rfl) ?_
                                                              refine r_val .none rfl (p_ne rfl rfl) ?_
                                                              refine r_nil ?_
                                                              refine e_next ?_
                                                              refine c_splitd (d := 71) rfl (fun h_34 => ?_) (fun h_34 => ?_)
                                                              · skip
                                                                have hE := h_34
                                                                first
                                                                  | (exfalso; omega)
                                                                  | (
                                                                    refine c_cond_t rfl ?_
                                                                    refine c_seq ?_
                                                                    refine c_region ?_
                                                                    refine r_val .none rfl (p_move rfl) ?_
                                                                    refine r_val .none rfl (p_assign rfl) ?_
                                                                    refine r_nil ?_
                                                                    refine e_next ?_
                                                                    refine c_ret ?_
                                                                    refine e_ret_block ?_
                                                                    refine e_ret_then ?_
                                                                    refine e_ret_then ?_
                                                                    refine e_ret_block ?_
                                                                    refine e_ret_then ?_
                                                                    refine e_ret1 Try.results14 (.tmp rfl .nil) (fun w hm => ⟨?_, hm.since⟩)
                                                                    rw [check_eq c d, show max d 1 = d by omega]
                                                                    have e5 : (0 : Int) = rs.length ∨ 0 < rs.length := (by omega)
                                                                    first
                                                                    | exact congrArg (Value.int .i64) (if_pos (by omega)).symm
                                                                    | exact congrArg (Value.int .i64) ((if_neg (by omega)).trans ((if_neg (by omega)).trans (if_pos (by omega)))).symm
                                                                    | exact congrArg (Value.int .i64) ((if_neg (by omega)).trans ((if_neg (by omega)).trans ((if_neg (by omega)).trans (if_pos (by first | (right; omega) | (left; simp_all [headOk]; done)))))).symm
                                                                    | exact congrArg (Value.int .i64) ((if_neg (by omega)).trans ((if_neg (by omega)).trans ((if_neg (by omega)).trans (if_neg (by rintro (hx | hx) <;> first | omega | (simp_all [headOk]; done)))))).symm
                                                                    | exact congrArg (Value.int .i64) ((if_neg (by omega)).trans ((if_pos (by omega)).trans (if_pos (headNone_no (by omega))))).symm
                                                                    | exact congrArg (Value.int .i64) ((if_neg (by omega)).trans ((if_pos (by omega)).trans ((if_neg (headNone_yes (by omega))).trans (if_pos (by omega))))).symm
                                                                    | exact congrArg (Value.int .i64) ((if_neg (by omega)).trans ((if_pos (by omega)).trans ((if_neg (headNone_yes (by omega))).trans ((if_neg (by omega)).trans (by rw [← hphi.2, map_drop (i := k) (d := d0) (by omega), checkL_no hE]))))).symm
                                                                    | exact congrArg (Value.int .i64) ((if_neg (by omega)).trans ((if_pos (by omega)).trans ((if_neg (headNone_yes (by omega))).trans ((if_neg (by omega)).trans (by rw [← hphi.2, List.drop_eq_nil_of_le (by simp; omega), checkL]))))).symm
                                                                    )
                                                              · skip
                                                                have hE := Decidable.not_not.1 h_34
                                                                first
                                                                  | (exfalso; omega)
                                                                  | (
                                                                    refine c_cond_f rfl ?_
                                                                    refine c_skip ?_
                                                                    refine e_norm_block ?_
                                                                    refine e_next ?_
                                                                    refine c_region ?_
                                                                    refine r_val .none rfl (p_add rfl rfl (by omega)) ?_
                                                                    refine r_val .none rfl (p_move rfl) ?_
                                                                    refine r_nil ?_
                                                                    refine e_round (k + 1) ⟨⟨by omega, by rw [← hphi.2, map_drop (i := k) (d := d0) (by omega), checkL_ok hE]⟩, by omega⟩ rfl ⟨rfl, rfl, rfl, rfl, trivial⟩ (.drop (.keep (fun _ _ h => h) (.nil)))
                                                                    )
                                                              )
                                                        · skip
                                                          first
                                                            | (exfalso; omega)
                                                            | (
                                                              refine c_cond_f rfl ?_
                                                              refine c_exit ?_
                                                              refine e_exit_then ?_
                                                              refine e_exit_then ?_
                                                              refine e_exit_block ?_
                                                              refine e_next ?_
                                                              refine c_seq ?_
                                                              refine c_region ?_
                                                              refine r_val .none rfl (p_assign rfl) ?_
                                                              refine r_nil ?_
                                                              refine e_next ?_
                                                              refine c_ret ?_
                                                              refine e_ret1 Try.results14 (.tmp rfl .nil) (fun w hm => ⟨?_, hm.since⟩)
                                                              rw [check_eq c d, show max d 1 = d by omega]
                                                              have e5 : (0 : Int) = rs.length ∨ 0 < rs.length := (by omega)
                                                              first
                                                              | exact congrArg (Value.int .i64) (if_pos (by omega)).symm
                                                              | exact congrArg (Value.int .i64) ((if_neg (by omega)).trans ((if_neg (by omega)).trans (if_pos (by omega)))).symm
                                                              | exact congrArg (Value.int .i64) ((if_neg (by omega)).trans ((if_neg (by omega)).trans ((if_neg (by omega)).trans (if_pos (by first | (right; omega) | (left; simp_all [headOk]; done)))))).symm
                                                              | exact congrArg (Value.int .i64) ((if_neg (by omega)).trans ((if_neg (by omega)).trans ((if_neg (by omega)).trans (if_neg (by rintro (hx | hx) <;> first | omega | (simp_all [headOk]; done)))))).symm
                                                              | exact congrArg (Value.int .i64) ((if_neg (by omega)).trans ((if_pos (by omega)).trans (if_pos (headNone_no (by omega))))).symm
                                                              | exact congrArg (Value.int .i64) ((if_neg (by omega)).trans ((if_pos (by omega)).trans ((if_neg (headNone_yes (by omega))).trans (if_pos (by omega))))).symm
                                                              | exact congrArg (Value.int .i64) ((if_neg (by omega)).trans ((if_pos (by omega)).trans ((if_neg (headNone_yes (by omega))).trans ((if_neg (by omega)).trans (by rw [← hphi.2, map_drop (i := k) (d := d0) (by omega), checkL_no hE]))))).symm
                                                              | exact congrArg (Value.int .i64) ((if_neg (by omega)).trans ((if_pos (by omega)).trans ((if_neg (headNone_yes (by omega))).trans ((if_neg (by omega)).trans (by rw [← hphi.2, List.drop_eq_nil_of_le (by simp; omega), checkL]))))).symm
                                                              )
                                                        )
                                                  )
                                            )
                                      )
                                )
                          )
                    )
              )
        )
theorem c_rcheck_n : ∀ n, RcheckIs n
  | 0 => fun c sv d G w hz hd hs hG => absurd hz (by have := size_subs c; omega)
  | n + 1 => fun c sv d G w hz hd hs hG => c_rcheck_s n (c_rcheck_n n) c sv d hz hd hs w hG
theorem c_rcheck (c : CT) (sv : Value) (d : Int) {G : Ghost} (hd : 1 ≤ d) (hs : Rs G sv c.subs) (w : World) (hG : Has G w) : Calls Try.prog 14 #[Value.agg #[Value.int .i64 c.h.k, Value.int .i64 (vi c.h.v0), Value.int .i64 c.h.n0, Value.int .i64 (vi c.h.v1), Value.int .i64 c.h.n1, Value.int .i64 (vi c.h.v2), Value.int .i64 c.h.n2, sv], Value.int .i64 d] w (Ret fun r w' => r = Value.int .i64 (check c d) ∧ Since nX w w') := c_rcheck_n _ c sv d G w (Nat.le_refl _) hd hs hG
end Go.Proofs.Ytpcpbfajadgmpaa
