/- Texts of this work, laid together: a logic of steps, plain laws, and walks of Go functions, each without a condition but those that its theorems name. -/
import Derived.Test.YtpcpbfajadgmpaaKCondCopies1
import Derived.Test.YtpcpbfajadgmpaaRows
import Derived.Maps.RangeRun
import Derived.Sort.Row
import Derived.Sort.Grow
import Derived.Shelf.Slices.CompactI
import Derived.Shelf.SlIterI.Nil
/- Walks: what Go functions of this chapter come to, each as a function on plain data; no condition but those that each theorem names. Printed by a program of this work (gen.py). -/
namespace Go.Proofs.Ytpcpbfajadgmpaa
open Go.Gx Go.Gx.T3 Go.Gx.T4 Go.Gx.T3
theorem sz34 : SzIs Try.prog 34 2 := by
 unfold SzIs
 kernel_rfl
theorem sz35 : SzIs Try.prog 35 6 := by
 unfold SzIs
 kernel_rfl
theorem sz36 : SzIs Try.prog 36 1 := by
 unfold SzIs
 kernel_rfl
theorem sz38 : SzIs Try.prog 38 8 := by
 unfold SzIs
 kernel_rfl
theorem zr38 : ZeroIs Try.prog 38 (Value.agg #[Value.int .i64 0, Value.int .i64 0, Value.int .i64 0, Value.int .i64 0, Value.int .i64 0, Value.int .i64 0, Value.int .i64 0, Value.slice none 0 0]) := by
 unfold ZeroIs
 kernel_rfl
theorem cl14 : Callable Try.prog 14 := callable Try.func14 (by kernel_rfl) rfl
theorem cl37 : Callable Try.prog 37 := callable Try.func37 (by kernel_rfl) rfl
def RcheckIs (n : Nat) : Prop := ∀ (c : CT) (sv : Value) (d : Int) (G : Ghost) (w : World), SizeOf.sizeOf c ≤ n → 1 ≤ d → Rs G sv c.subs → Has G w → Calls Try.prog 14 #[Value.agg #[Value.int .i64 c.h.k, Value.int .i64 (vi c.h.v0), Value.int .i64 c.h.n0, Value.int .i64 (vi c.h.v1), Value.int .i64 c.h.n1, Value.int .i64 (vi c.h.v2), Value.int .i64 c.h.n2, sv], Value.int .i64 d] w (Ret fun r w' => r = Value.int .i64 (check c d) ∧ Since nX w w')
theorem c_rright (b : Bool) (n : Int)  (w : World)  :
    Calls Try.prog 37 #[Value.agg #[Value.int .i64 (vi b), Value.int .i64 n]] w (Ret fun r w' => r = Value.bool (termRight b n) ∧ Since nX w w') := by
 refine enter (args := [_]) (X := nX) (G := (fun _ => none)) (l := [(0, Value.agg #[Value.int .i64 (vi b), Value.int .i64 n])]) Try.func37 rfl Try.ntmps37 (fun _ _ h => by cases h) ⟨rfl, trivial⟩ (Nat.le_of_ble_eq_true rfl) ?_
 refine c_seq (c_region ?_)
 refine r_box .none rfl rfl (IsRow.lit _) (fun b_1 => ?_)
 refine r_val .none rfl (p_assign rfl) (r_nil (e_next (c_seq (c_seq ?_))))
 refine c_region ?_
 refine r_val .none rfl (p_field Try.underlying34 rfl sz3 rfl) ?_
 refine r_val .none rfl (p_ld (k := 0) Try.underlying3 rfl rfl rfl (by first | exact odt rfl | omega) (rfl : _ = Value.int _ _)) ?_
 refine r_val .none rfl (p_eq rfl rfl) ?_
 refine r_nil (e_next ?_)
 refine c_splitd (d := 5) rfl (fun h_1 => ?_) (fun h_1 => ?_)
 · (
 refine c_cond_t rfl (c_seq (c_region ?_))
 refine r_val .none rfl (p_field Try.underlying34 rfl sz3 rfl) ?_
 refine r_val .none rfl (p_ld (k := 0) Try.underlying3 rfl rfl rfl (by first | exact odt rfl | omega) (rfl : _ = Value.int _ _)) ?_
 refine r_val .none rfl (p_ge rfl rfl) ?_
 refine r_val .none rfl (p_move rfl) ?_
 refine' r_and (c := 9) (d := 13) [_, _, _, _] rfl (fun h_2 Q_3 hQ_4 => ?_) (fun h_2 Q_3 hQ_4 => ?_) ?_
 rotate_left 1
 · (
 replace h_2 := of_decide_eq_true h_2
 refine r_val (.some rfl rfl) rfl (p_field Try.underlying34 rfl sz3 rfl) ?_
 refine r_val (.some rfl rfl) rfl (p_ld (k := 0) Try.underlying3 rfl rfl rfl (by first | exact odt rfl | omega) (rfl : _ = Value.int _ _)) ?_
 refine r_val (.some rfl rfl) rfl (p_le rfl rfl) ?_
 refine r_val .none rfl (p_pick_t rfl rfl) ?_
 refine r_nil (e_fin (d := 13) hQ_4 rfl (by repeat (first | exact .refl | refine .put rfl ?_ | refine .say rfl ?_ | refine .say2 rfl (by first | assumption | simp_all) ?_))))
 · (
 repeat (first | refine r_skip rfl (.no rfl rfl) ?_ | refine r_skip rfl (.un rfl rfl) ?_)
 refine r_val (by first | exact .none | exact .some rfl rfl) rfl (p_pick_f rfl rfl) ?_
 refine r_nil (e_fin (d := 13) hQ_4 rfl (by repeat (first | exact .refl | refine .put rfl ?_ | refine .say rfl ?_ | refine .say2 rfl (by first | assumption | simp_all) ?_))))
 refine r_val .none rfl (p_assign rfl) (r_nil (e_next ?_))
 refine c_ret ?_
 refine e_ret_then ?_
 refine e_ret1 Try.results37 (.tmp rfl .nil) (fun w hm => ⟨?_, hm.since⟩)
 (cases b <;> simp_all [termRight, vi] <;> try omega))
 · (
 refine c_cond_f rfl (c_skip (e_next (c_seq (c_region ?_))))
 refine r_val .none rfl (p_field Try.underlying34 rfl sz3 rfl) ?_
 refine r_val .none rfl (p_ld (k := 0) Try.underlying3 rfl rfl rfl (by first | exact odt rfl | omega) (rfl : _ = Value.int _ _)) ?_
 refine r_val .none rfl (p_ge rfl rfl) ?_
 refine r_val .none rfl (p_move rfl) ?_
 refine' r_and (c := 17) (d := 21) [_, _, _, _] rfl (fun h_6 Q_7 hQ_8 => ?_) (fun h_6 Q_7 hQ_8 => ?_) ?_
 rotate_left 1
 · (
 replace h_6 := of_decide_eq_true h_6
 refine r_val (.some rfl rfl) rfl (p_field Try.underlying34 rfl sz3 rfl) ?_
 refine r_val (.some rfl rfl) rfl (p_ld (k := 0) Try.underlying3 rfl rfl rfl (by first | exact odt rfl | omega) (rfl : _ = Value.int _ _)) ?_
 refine r_val (.some rfl rfl) rfl (p_le rfl rfl) ?_
 refine r_val .none rfl (p_pick_t rfl rfl) ?_
 refine r_nil (e_fin (d := 21) hQ_8 rfl (by repeat (first | exact .refl | refine .put rfl ?_ | refine .say rfl ?_ | refine .say2 rfl (by first | assumption | simp_all) ?_))))
 · (
 repeat (first | refine r_skip rfl (.no rfl rfl) ?_ | refine r_skip rfl (.un rfl rfl) ?_)
 refine r_val (by first | exact .none | exact .some rfl rfl) rfl (p_pick_f rfl rfl) ?_
 refine r_nil (e_fin (d := 21) hQ_8 rfl (by repeat (first | exact .refl | refine .put rfl ?_ | refine .say rfl ?_ | refine .say2 rfl (by first | assumption | simp_all) ?_))))
 refine r_val .none rfl (p_assign rfl) (r_nil (e_next ?_))
 refine c_ret ?_
 refine e_ret1 Try.results37 (.tmp rfl .nil) (fun w hm => ⟨?_, hm.since⟩)
 (cases b <;> simp_all [termRight, vi] <;> try omega))
theorem c_rcheck_s (n : Nat) (ih : RcheckIs n) (c : CT) (sv : Value) (d : Int) {G : Ghost} (hz : SizeOf.sizeOf c ≤ n + 1) (hd : 1 ≤ d) (hs : Rs G sv c.subs) (w : World) (hG : Has G w) :
    Calls Try.prog 14 #[Value.agg #[Value.int .i64 c.h.k, Value.int .i64 (vi c.h.v0), Value.int .i64 c.h.n0, Value.int .i64 (vi c.h.v1), Value.int .i64 c.h.n1, Value.int .i64 (vi c.h.v2), Value.int .i64 c.h.n2, sv], Value.int .i64 d] w (Ret fun r w' => r = Value.int .i64 (check c d) ∧ Since nX w w') := by
 refine enter (args := [_, _]) (X := nX) (G := G) (l := [(0, Value.agg #[Value.int .i64 c.h.k, Value.int .i64 (vi c.h.v0), Value.int .i64 c.h.n0, Value.int .i64 (vi c.h.v1), Value.int .i64 c.h.n1, Value.int .i64 (vi c.h.v2), Value.int .i64 c.h.n2, sv]), (1, Value.int .i64 d)]) Try.func14 rfl Try.ntmps14 hG ⟨rfl, rfl, trivial⟩ (Nat.le_of_ble_eq_true rfl) ?_
 obtain ⟨rs, hr, hp, hl⟩ := hs.inv
 have hlen : c.subs.length = rs.length := by rw [hl]; simp
 have hbd := hr.bound
 have hb0 : vi c.h.v0 = 0 ∨ vi c.h.v0 = 1 := (by cases c.h.v0 <;> simp [vi])
 have hb1 : vi c.h.v1 = 0 ∨ vi c.h.v1 = 1 := (by cases c.h.v1 <;> simp [vi])
 have hb2 : vi c.h.v2 = 0 ∨ vi c.h.v2 = 1 := (by cases c.h.v2 <;> simp [vi])
 refine c_seq (c_region ?_)
 refine r_box .none rfl rfl (IsRow.lit _) (fun b_1 => ?_)
 refine r_val .none rfl (p_assign rfl) (r_nil (e_next (c_seq (c_seq ?_))))
 refine c_region (r_val .none rfl (p_move rfl) ?_)
 refine r_val .none rfl (p_gt rfl rfl) ?_
 refine r_nil (e_next ?_)
 refine c_splitd (d := 11) rfl (fun h_1 => ?_) (fun h_1 => ?_)
 · (
 first
 | (exfalso; omega)
 | (
 refine c_cond_t rfl (c_seq (c_region (r_val .none rfl (p_assign rfl) (r_nil ?_))))
 refine e_next ?_
 refine c_ret ?_
 refine e_ret_then ?_
 refine e_ret1 Try.results14 (.tmp rfl .nil) (fun w hm => ⟨?_, hm.since⟩)
 rw [check_eq c d, show max d 1 = d by omega]
 have e5 : (0 : Int) = rs.length ∨ 0 < rs.length := (by omega)
 first
 | exact congrArg (Value.int .i64) (if_pos (by omega)).symm
 | exact congrArg (Value.int .i64) ((if_neg (by omega)).trans ((if_neg (by omega)).trans (if_pos (by omega)))).symm
 | exact congrArg (Value.int .i64) ((if_neg (by omega)).trans ((if_neg (by omega)).trans ((if_neg (by omega)).trans (if_pos (by first | (right; omega) | (left; simp_all [headOk]; done)))))).symm
 | exact congrArg (Value.int .i64) ((if_neg (by omega)).trans ((if_neg (by omega)).trans ((if_neg (by omega)).trans (if_neg (by rintro (hx | hx) <;> first | omega | (simp_all [headOk]; done)))))).symm
 | exact congrArg (Value.int .i64) ((if_neg (by omega)).trans ((if_pos (by omega)).trans (if_pos (headNone_no (by omega))))).symm
 | exact congrArg (Value.int .i64) ((if_neg (by omega)).trans ((if_pos (by omega)).trans ((if_neg (headNone_yes (by omega))).trans (if_pos (by omega))))).symm
 | exact congrArg (Value.int .i64) ((if_neg (by omega)).trans ((if_pos (by omega)).trans ((if_neg (headNone_yes (by omega))).trans ((if_neg (by omega)).trans (by rw [← hphi.2, map_drop (i := k) (d := d0) (by omega), checkL_no hE]))))).symm
 | exact congrArg (Value.int .i64) ((if_neg (by omega)).trans ((if_pos (by omega)).trans ((if_neg (headNone_yes (by omega))).trans ((if_neg (by omega)).trans (by rw [← hphi.2, List.drop_eq_nil_of_le (by simp; omega), checkL]))))).symm))
 · (
 first
 | (exfalso; omega)
 | (
 refine c_cond_f rfl (c_skip (e_next (c_seq (c_seq ?_))))
 refine c_region ?_
 refine r_val .none rfl (p_field Try.underlying38 rfl sz3 rfl) ?_
 refine r_val .none rfl (p_ld (k := 0) Try.underlying3 rfl rfl rfl (by first | exact odt rfl | omega) (rfl : _ = Value.int _ _)) ?_
 refine r_val .none rfl (p_lt rfl rfl) ?_
 refine r_val .none rfl (p_move rfl) ?_
 refine' r_or (c := 15) (d := 19) [_, _, _, _] rfl (fun h_2 Q_3 hQ_4 => ?_) (fun h_2 Q_3 hQ_4 => ?_) ?_
 rotate_left 1
 · (
 replace h_2 := of_decide_eq_false h_2
 refine r_val (.some rfl rfl) rfl (p_field Try.underlying38 rfl sz3 rfl) ?_
 refine r_val (.some rfl rfl) rfl (p_ld (k := 0) Try.underlying3 rfl rfl rfl (by first | exact odt rfl | omega) (rfl : _ = Value.int _ _)) ?_
 refine r_val (.some rfl rfl) rfl (p_gt rfl rfl) ?_
 refine r_val .none rfl (p_pick_f rfl rfl) ?_
 refine r_nil (e_fin (d := 19) hQ_4 rfl (by repeat (first | exact .refl | refine .put rfl ?_ | refine .say rfl ?_ | refine .say2 rfl (by first | assumption | simp_all) ?_))))
 · (
 repeat (first | refine r_skip rfl (.no rfl rfl) ?_ | refine r_skip rfl (.un rfl rfl) ?_)
 refine r_val (by first | exact .none | exact .some rfl rfl) rfl (p_pick_t rfl rfl) ?_
 refine r_nil (e_fin (d := 19) hQ_4 rfl (by repeat (first | exact .refl | refine .put rfl ?_ | refine .say rfl ?_ | refine .say2 rfl (by first | assumption | simp_all) ?_))))
 refine r_nil (e_next ?_)
 refine c_split (d := 19) rfl (fun h_6 => ?_) (fun h_6 => ?_)
 · (
 try simp only [norms] at h_6
 first
 | (exfalso; omega)
 | (
 refine c_cond_t rfl (c_seq (c_region (r_val .none rfl (p_assign rfl) (r_nil ?_))))
 refine e_next ?_
 refine c_ret ?_
 refine e_ret_then ?_
 refine e_ret1 Try.results14 (.tmp rfl .nil) (fun w hm => ⟨?_, hm.since⟩)
 rw [check_eq c d, show max d 1 = d by omega]
 have e5 : (0 : Int) = rs.length ∨ 0 < rs.length := (by omega)
 first
 | exact congrArg (Value.int .i64) (if_pos (by omega)).symm
 | exact congrArg (Value.int .i64) ((if_neg (by omega)).trans ((if_neg (by omega)).trans (if_pos (by omega)))).symm
 | exact congrArg (Value.int .i64) ((if_neg (by omega)).trans ((if_neg (by omega)).trans ((if_neg (by omega)).trans (if_pos (by first | (right; omega) | (left; simp_all [headOk]; done)))))).symm
 | exact congrArg (Value.int .i64) ((if_neg (by omega)).trans ((if_neg (by omega)).trans ((if_neg (by omega)).trans (if_neg (by rintro (hx | hx) <;> first | omega | (simp_all [headOk]; done)))))).symm
 | exact congrArg (Value.int .i64) ((if_neg (by omega)).trans ((if_pos (by omega)).trans (if_pos (headNone_no (by omega))))).symm
 | exact congrArg (Value.int .i64) ((if_neg (by omega)).trans ((if_pos (by omega)).trans ((if_neg (headNone_yes (by omega))).trans (if_pos (by omega))))).symm
 | exact congrArg (Value.int .i64) ((if_neg (by omega)).trans ((if_pos (by omega)).trans ((if_neg (headNone_yes (by omega))).trans ((if_neg (by omega)).trans (by rw [← hphi.2, map_drop (i := k) (d := d0) (by omega), checkL_no hE]))))).symm
 | exact congrArg (Value.int .i64) ((if_neg (by omega)).trans ((if_pos (by omega)).trans ((if_neg (headNone_yes (by omega))).trans ((if_neg (by omega)).trans (by rw [← hphi.2, List.drop_eq_nil_of_le (by simp; omega), checkL]))))).symm))
 · (
 try simp only [norms] at h_6
 first
 | (exfalso; omega)
 | (
 refine c_cond_f rfl (c_skip (e_next (c_seq (c_seq ?_))))
 refine c_region ?_
 refine r_val .none rfl (p_field Try.underlying38 rfl sz3 rfl) ?_
 refine r_val .none rfl (p_ld (k := 0) Try.underlying3 rfl rfl rfl (by first | exact odt rfl | omega) (rfl : _ = Value.int _ _)) ?_
 refine r_val .none rfl (p_lt rfl rfl) ?_
 refine r_nil (e_next ?_)
 refine c_splitd (d := 22) rfl (fun h_7 => ?_) (fun h_7 => ?_)
 · (
 first
 | (exfalso; omega)
 | (
 refine c_cond_t rfl (c_seq (c_seq (c_region (r_val .none rfl (p_assign rfl) ?_))))
 refine r_nil (e_next (c_block ?_))
 refine c_unroll 4 ?_
 refine l_round (n := 3) ?_
 refine c_seq (c_seq (c_region (r_val .none rfl (p_move rfl) ?_)))
 refine r_val .none rfl (p_lt rfl rfl) ?_
 refine r_say (d := 24) (v := Value.bool true) rfl ?_
 refine r_nil (e_next (c_cond_t rfl (c_skip (e_next ?_))))
 refine c_seq (c_block (c_seq (c_region (r_val .none rfl (p_move rfl) ?_))))
 refine r_val .none rfl (p_field Try.underlying38 rfl sz35 rfl) ?_
 refine r_val .none rfl (p_iaddr (k := 0) Try.underlying35 sz34 rfl rfl (by first | exact odt rfl | omega)) ?_
 refine r_val .none rfl (p_lda (k := 0) Try.underlying34 rfl sz34 rfl rfl (by first | exact odt rfl | omega) (rfl : _ = Value.agg #[_, _])) ?_
 refine r_call (vs := [_]) .none rfl cl37 rfl (fun w hw => c_rright _ _ w) ?_
 refine r_val .none rfl (p_not rfl) ?_
 refine r_nil (e_next ?_)
 refine c_splitn (d := 32) rfl (fun h_8 => ?_) (fun h_8 => ?_)
 · (
 first
 | (exfalso; omega)
 | (
 refine c_cond_t rfl (c_seq (c_region (r_val .none rfl (p_assign rfl) (r_nil ?_))))
 refine e_next ?_
 refine c_ret ?_
 refine e_ret_block ?_
 refine e_ret_then ?_
 refine e_ret_then ?_
 refine e_ret_block ?_
 refine e_ret_then ?_
 refine e_ret_then ?_
 refine e_ret1 Try.results14 (.tmp rfl .nil) (fun w hm => ⟨?_, hm.since⟩)
 rw [check_eq c d, show max d 1 = d by omega]
 have e5 : (0 : Int) = rs.length ∨ 0 < rs.length := (by omega)
 first
 | exact congrArg (Value.int .i64) (if_pos (by omega)).symm
 | exact congrArg (Value.int .i64) ((if_neg (by omega)).trans ((if_neg (by omega)).trans (if_pos (by omega)))).symm
 | exact congrArg (Value.int .i64) ((if_neg (by omega)).trans ((if_neg (by omega)).trans ((if_neg (by omega)).trans (if_pos (by first | (right; omega) | (left; simp_all [headOk]; done)))))).symm
 | exact congrArg (Value.int .i64) ((if_neg (by omega)).trans ((if_neg (by omega)).trans ((if_neg (by omega)).trans (if_neg (by rintro (hx | hx) <;> first | omega | (simp_all [headOk]; done)))))).symm
 | exact congrArg (Value.int .i64) ((if_neg (by omega)).trans ((if_pos (by omega)).trans (if_pos (headNone_no (by omega))))).symm
 | exact congrArg (Value.int .i64) ((if_neg (by omega)).trans ((if_pos (by omega)).trans ((if_neg (headNone_yes (by omega))).trans (if_pos (by omega))))).symm
 | exact congrArg (Value.int .i64) ((if_neg (by omega)).trans ((if_pos (by omega)).trans ((if_neg (headNone_yes (by omega))).trans ((if_neg (by omega)).trans (by rw [← hphi.2, map_drop (i := k) (d := d0) (by omega), checkL_no hE]))))).symm
 | exact congrArg (Value.int .i64) ((if_neg (by omega)).trans ((if_pos (by omega)).trans ((if_neg (headNone_yes (by omega))).trans ((if_neg (by omega)).trans (by rw [← hphi.2, List.drop_eq_nil_of_le (by simp; omega), checkL]))))).symm))
 · (
 first
 | (exfalso; omega)
 | (
 refine c_cond_f rfl (c_skip ?_)
 refine e_norm_block ?_
 refine e_next (c_region (r_val .none rfl (p_move rfl) ?_))
 refine r_val .none rfl (p_add rfl rfl (by omega)) ?_
 refine r_val .none rfl (p_assign rfl) (r_nil ?_)
 refine e_again ?_
 refine l_round (n := 2) ?_
 refine c_seq (c_seq (c_region (r_val .none rfl (p_move rfl) ?_)))
 refine r_val .none rfl (p_lt rfl rfl) ?_
 refine r_say (d := 24) (v := Value.bool true) rfl ?_
 refine r_nil (e_next (c_cond_t rfl (c_skip (e_next ?_))))
 refine c_seq (c_block (c_seq (c_region (r_val .none rfl (p_move rfl) ?_))))
 refine r_val .none rfl (p_field Try.underlying38 rfl sz35 rfl) ?_
 refine r_val .none rfl (p_iaddr (k := 1) Try.underlying35 sz34 rfl rfl (by first | exact odt rfl | omega)) ?_
 refine r_val .none rfl (p_lda (k := 0) Try.underlying34 rfl sz34 rfl rfl (by first | exact odt rfl | omega) (rfl : _ = Value.agg #[_, _])) ?_
 refine r_call (vs := [_]) .none rfl cl37 rfl (fun w hw => c_rright _ _ w) ?_
 refine r_val .none rfl (p_not rfl) ?_
 refine r_nil (e_next ?_)
 refine c_splitn (d := 32) rfl (fun h_9 => ?_) (fun h_9 => ?_)
 · (
 first
 | (exfalso; omega)
 | (
 refine c_cond_t rfl (c_seq (c_region (r_val .none rfl (p_assign rfl) (r_nil ?_))))
 refine e_next ?_
 refine c_ret ?_
 refine e_ret_block ?_
 refine e_ret_then ?_
 refine e_ret_then ?_
 refine e_ret_block ?_
 refine e_ret_then ?_
 refine e_ret_then ?_
 refine e_ret1 Try.results14 (.tmp rfl .nil) (fun w hm => ⟨?_, hm.since⟩)
 rw [check_eq c d, show max d 1 = d by omega]
 have e5 : (0 : Int) = rs.length ∨ 0 < rs.length := (by omega)
 first
 | exact congrArg (Value.int .i64) (if_pos (by omega)).symm
 | exact congrArg (Value.int .i64) ((if_neg (by omega)).trans ((if_neg (by omega)).trans (if_pos (by omega)))).symm
 | exact congrArg (Value.int .i64) ((if_neg (by omega)).trans ((if_neg (by omega)).trans ((if_neg (by omega)).trans (if_pos (by first | (right; omega) | (left; simp_all [headOk]; done)))))).symm
 | exact congrArg (Value.int .i64) ((if_neg (by omega)).trans ((if_neg (by omega)).trans ((if_neg (by omega)).trans (if_neg (by rintro (hx | hx) <;> first | omega | (simp_all [headOk]; done)))))).symm
 | exact congrArg (Value.int .i64) ((if_neg (by omega)).trans ((if_pos (by omega)).trans (if_pos (headNone_no (by omega))))).symm
 | exact congrArg (Value.int .i64) ((if_neg (by omega)).trans ((if_pos (by omega)).trans ((if_neg (headNone_yes (by omega))).trans (if_pos (by omega))))).symm
 | exact congrArg (Value.int .i64) ((if_neg (by omega)).trans ((if_pos (by omega)).trans ((if_neg (headNone_yes (by omega))).trans ((if_neg (by omega)).trans (by rw [← hphi.2, map_drop (i := k) (d := d0) (by omega), checkL_no hE]))))).symm
 | exact congrArg (Value.int .i64) ((if_neg (by omega)).trans ((if_pos (by omega)).trans ((if_neg (headNone_yes (by omega))).trans ((if_neg (by omega)).trans (by rw [← hphi.2, List.drop_eq_nil_of_le (by simp; omega), checkL]))))).symm))
 · (
 first
 | (exfalso; omega)
 | (
 refine c_cond_f rfl (c_skip ?_)
 refine e_norm_block ?_
 refine e_next (c_region (r_val .none rfl (p_move rfl) ?_))
 refine r_val .none rfl (p_add rfl rfl (by omega)) ?_
 refine r_val .none rfl (p_assign rfl) (r_nil ?_)
 refine e_again ?_
 refine l_round (n := 1) ?_
 refine c_seq (c_seq (c_region (r_val .none rfl (p_move rfl) ?_)))
 refine r_val .none rfl (p_lt rfl rfl) ?_
 refine r_say (d := 24) (v := Value.bool true) rfl ?_
 refine r_nil (e_next (c_cond_t rfl (c_skip (e_next ?_))))
 refine c_seq (c_block (c_seq (c_region (r_val .none rfl (p_move rfl) ?_))))
 refine r_val .none rfl (p_field Try.underlying38 rfl sz35 rfl) ?_
 refine r_val .none rfl (p_iaddr (k := 2) Try.underlying35 sz34 rfl rfl (by first | exact odt rfl | omega)) ?_
 refine r_val .none rfl (p_lda (k := 0) Try.underlying34 rfl sz34 rfl rfl (by first | exact odt rfl | omega) (rfl : _ = Value.agg #[_, _])) ?_
 refine r_call (vs := [_]) .none rfl cl37 rfl (fun w hw => c_rright _ _ w) ?_
 refine r_val .none rfl (p_not rfl) ?_
 refine r_nil (e_next ?_)
 refine c_splitn (d := 32) rfl (fun h_10 => ?_) (fun h_10 => ?_)
 · (
 first
 | (exfalso; omega)
 | (
 refine c_cond_t rfl (c_seq (c_region (r_val .none rfl (p_assign rfl) (r_nil ?_))))
 refine e_next ?_
 refine c_ret ?_
 refine e_ret_block ?_
 refine e_ret_then ?_
 refine e_ret_then ?_
 refine e_ret_block ?_
 refine e_ret_then ?_
 refine e_ret_then ?_
 refine e_ret1 Try.results14 (.tmp rfl .nil) (fun w hm => ⟨?_, hm.since⟩)
 rw [check_eq c d, show max d 1 = d by omega]
 have e5 : (0 : Int) = rs.length ∨ 0 < rs.length := (by omega)
 first
 | exact congrArg (Value.int .i64) (if_pos (by omega)).symm
 | exact congrArg (Value.int .i64) ((if_neg (by omega)).trans ((if_neg (by omega)).trans (if_pos (by omega)))).symm
 | exact congrArg (Value.int .i64) ((if_neg (by omega)).trans ((if_neg (by omega)).trans ((if_neg (by omega)).trans (if_pos (by first | (right; omega) | (left; simp_all [headOk]; done)))))).symm
 | exact congrArg (Value.int .i64) ((if_neg (by omega)).trans ((if_neg (by omega)).trans ((if_neg (by omega)).trans (if_neg (by rintro (hx | hx) <;> first | omega | (simp_all [headOk]; done)))))).symm
 | exact congrArg (Value.int .i64) ((if_neg (by omega)).trans ((if_pos (by omega)).trans (if_pos (headNone_no (by omega))))).symm
 | exact congrArg (Value.int .i64) ((if_neg (by omega)).trans ((if_pos (by omega)).trans ((if_neg (headNone_yes (by omega))).trans (if_pos (by omega))))).symm
 | exact congrArg (Value.int .i64) ((if_neg (by omega)).trans ((if_pos (by omega)).trans ((if_neg (headNone_yes (by omega))).trans ((if_neg (by omega)).trans (by rw [← hphi.2, map_drop (i := k) (d := d0) (by omega), checkL_no hE]))))).symm
 | exact congrArg (Value.int .i64) ((if_neg (by omega)).trans ((if_pos (by omega)).trans ((if_neg (headNone_yes (by omega))).trans ((if_neg (by omega)).trans (by rw [← hphi.2, List.drop_eq_nil_of_le (by simp; omega), checkL]))))).symm))
 · (
 first
 | (exfalso; omega)
 | (
 refine c_cond_f rfl (c_skip ?_)
 refine e_norm_block ?_
 refine e_next (c_region (r_val .none rfl (p_move rfl) ?_))
 refine r_val .none rfl (p_add rfl rfl (by omega)) ?_
 refine r_val .none rfl (p_assign rfl) (r_nil ?_)
 refine e_again ?_
 refine l_round (n := 0) ?_
 refine c_seq (c_seq (c_region (r_val .none rfl (p_move rfl) ?_)))
 refine r_val .none rfl (p_lt rfl rfl) ?_
 refine r_say (d := 24) (v := Value.bool false) rfl ?_
 refine r_nil (e_next (c_cond_f rfl (c_exit (e_exit_then ?_))))
 refine e_exit_then ?_
 refine e_exit_block ?_
 refine e_next (c_seq (c_seq (c_region ?_)))
 refine r_val .none rfl (p_field Try.underlying38 rfl sz36 rfl) ?_
 refine r_val .none rfl (p_ld (k := 0) Try.underlying36 rfl rfl rfl (by first | exact odt rfl | omega) rfl) ?_
 refine r_val .none rfl (p_leng Try.underlying36 rfl hr) ?_
 have bd_11 := (hr).bound
 refine r_val .none rfl (p_gt rfl rfl) ?_
 refine r_nil (e_next ?_)
 refine c_splitd (d := 36) rfl (fun h_12 => ?_) (fun h_12 => ?_)
 · (
 first
 | (exfalso; omega)
 | (
 refine c_cond_t rfl (c_seq (c_region (r_val .none rfl (p_assign rfl) (r_nil ?_))))
 refine e_next ?_
 refine c_ret ?_
 refine e_ret_then ?_
 refine e_ret_then ?_
 refine e_ret1 Try.results14 (.tmp rfl .nil) (fun w hm => ⟨?_, hm.since⟩)
 rw [check_eq c d, show max d 1 = d by omega]
 have e5 : (0 : Int) = rs.length ∨ 0 < rs.length := (by omega)
 first
 | exact congrArg (Value.int .i64) (if_pos (by omega)).symm
 | exact congrArg (Value.int .i64) ((if_neg (by omega)).trans ((if_neg (by omega)).trans (if_pos (by omega)))).symm
 | exact congrArg (Value.int .i64) ((if_neg (by omega)).trans ((if_neg (by omega)).trans ((if_neg (by omega)).trans (if_pos (by first | (right; omega) | (left; simp_all [headOk]; done)))))).symm
 | exact congrArg (Value.int .i64) ((if_neg (by omega)).trans ((if_neg (by omega)).trans ((if_neg (by omega)).trans (if_neg (by rintro (hx | hx) <;> first | omega | (simp_all [headOk]; done)))))).symm
 | exact congrArg (Value.int .i64) ((if_neg (by omega)).trans ((if_pos (by omega)).trans (if_pos (headNone_no (by omega))))).symm
 | exact congrArg (Value.int .i64) ((if_neg (by omega)).trans ((if_pos (by omega)).trans ((if_neg (headNone_yes (by omega))).trans (if_pos (by omega))))).symm
 | exact congrArg (Value.int .i64) ((if_neg (by omega)).trans ((if_pos (by omega)).trans ((if_neg (headNone_yes (by omega))).trans ((if_neg (by omega)).trans (by rw [← hphi.2, map_drop (i := k) (d := d0) (by omega), checkL_no hE]))))).symm
 | exact congrArg (Value.int .i64) ((if_neg (by omega)).trans ((if_pos (by omega)).trans ((if_neg (headNone_yes (by omega))).trans ((if_neg (by omega)).trans (by rw [← hphi.2, List.drop_eq_nil_of_le (by simp; omega), checkL]))))).symm))
 · (
 first
 | (exfalso; omega)
 | (
 refine c_cond_f rfl (c_skip (e_next (c_seq (c_region ?_))))
 refine r_val .none rfl (p_assign rfl) (r_nil (e_next ?_))
 refine c_ret ?_
 refine e_ret_then ?_
 refine e_ret1 Try.results14 (.tmp rfl .nil) (fun w hm => ⟨?_, hm.since⟩)
 rw [check_eq c d, show max d 1 = d by omega]
 have e5 : (0 : Int) = rs.length ∨ 0 < rs.length := (by omega)
 first
 | exact congrArg (Value.int .i64) (if_pos (by omega)).symm
 | exact congrArg (Value.int .i64) ((if_neg (by omega)).trans ((if_neg (by omega)).trans (if_pos (by omega)))).symm
 | exact congrArg (Value.int .i64) ((if_neg (by omega)).trans ((if_neg (by omega)).trans ((if_neg (by omega)).trans (if_pos (by first | (right; omega) | (left; simp_all [headOk]; done)))))).symm
 | exact congrArg (Value.int .i64) ((if_neg (by omega)).trans ((if_neg (by omega)).trans ((if_neg (by omega)).trans (if_neg (by rintro (hx | hx) <;> first | omega | (simp_all [headOk]; done)))))).symm
 | exact congrArg (Value.int .i64) ((if_neg (by omega)).trans ((if_pos (by omega)).trans (if_pos (headNone_no (by omega))))).symm
 | exact congrArg (Value.int .i64) ((if_neg (by omega)).trans ((if_pos (by omega)).trans ((if_neg (headNone_yes (by omega))).trans (if_pos (by omega))))).symm
 | exact congrArg (Value.int .i64) ((if_neg (by omega)).trans ((if_pos (by omega)).trans ((if_neg (headNone_yes (by omega))).trans ((if_neg (by omega)).trans (by rw [← hphi.2, map_drop (i := k) (d := d0) (by omega), checkL_no hE]))))).symm
 | exact congrArg (Value.int .i64) ((if_neg (by omega)).trans ((if_pos (by omega)).trans ((if_neg (headNone_yes (by omega))).trans ((if_neg (by omega)).trans (by rw [← hphi.2, List.drop_eq_nil_of_le (by simp; omega), checkL]))))).symm))))))))))
 · (
 first
 | (exfalso; omega)
 | (
 refine c_cond_f rfl (c_skip (e_next (c_seq (c_seq ?_))))
 refine c_region (r_val .none rfl (p_assign rfl) (r_nil (e_next (c_block ?_))))
 refine c_unroll 4 ?_
 refine l_round (n := 3) ?_
 refine c_seq (c_seq (c_region (r_val .none rfl (p_move rfl) ?_)))
 refine r_val .none rfl (p_lt rfl rfl) ?_
 refine r_say (d := 38) (v := Value.bool true) rfl ?_
 refine r_nil (e_next (c_cond_t rfl (c_skip (e_next ?_))))
 refine c_seq (c_block (c_seq (c_region (r_val .none rfl (p_move rfl) ?_))))
 refine r_val .none rfl (p_field Try.underlying38 rfl sz35 rfl) ?_
 refine r_val .none rfl (p_iaddr (k := 0) Try.underlying35 sz34 rfl rfl (by first | exact odt rfl | omega)) ?_
 refine r_val .none rfl (p_field Try.underlying34 rfl sz3 rfl) ?_
 refine r_val .none rfl (p_ld (k := 0) Try.underlying3 rfl rfl rfl (by first | exact odt rfl | omega) (rfl : _ = Value.int _ _)) ?_
 refine r_val .none rfl (p_ne rfl rfl) ?_
 refine r_val .none rfl (p_move rfl) ?_
 refine' r_or (c := 47) (d := 54) [_, _, _, _, _, _, _] rfl (fun h_13 Q_14 hQ_15 => ?_) (fun h_13 Q_14 hQ_15 => ?_) ?_
 rotate_left 1
 · (
 replace h_13 := of_decide_eq_false h_13
 refine r_val (.some rfl rfl) rfl (p_move rfl) ?_
 refine r_val (.some rfl rfl) rfl (p_field Try.underlying38 rfl sz35 rfl) ?_
 refine r_val (.some rfl rfl) rfl (p_iaddr (k := 0) Try.underlying35 sz34 rfl rfl (by first | exact odt rfl | omega)) ?_
 refine r_val (.some rfl rfl) rfl (p_field Try.underlying34 rfl sz3 rfl) ?_
 refine r_val (.some rfl rfl) rfl (p_ld (k := 0) Try.underlying3 rfl rfl rfl (by first | exact odt rfl | omega) (rfl : _ = Value.int _ _)) ?_
 refine r_val (.some rfl rfl) rfl (p_ne rfl rfl) ?_
 refine r_val .none rfl (p_pick_f rfl rfl) ?_
 refine r_nil (e_fin (d := 54) hQ_15 rfl (by repeat (first | exact .refl | refine .put rfl ?_ | refine .say rfl ?_ | refine .say2 rfl (by first | assumption | simp_all) ?_))))
 · (
 repeat (first | refine r_skip rfl (.no rfl rfl) ?_ | refine r_skip rfl (.un rfl rfl) ?_)
 refine r_val (by first | exact .none | exact .some rfl rfl) rfl (p_pick_t rfl rfl) ?_
 refine r_nil (e_fin (d := 54) hQ_15 rfl (by repeat (first | exact .refl | refine .put rfl ?_ | refine .say rfl ?_ | refine .say2 rfl (by first | assumption | simp_all) ?_))))
 refine r_nil (e_next ?_)
 refine c_split (d := 54) rfl (fun h_17 => ?_) (fun h_17 => ?_)
 · (
 try simp only [norms] at h_17
 first
 | (exfalso; omega)
 | (
 refine c_cond_t rfl (c_seq (c_region (r_val .none rfl (p_assign rfl) (r_nil ?_))))
 refine e_next ?_
 refine c_ret ?_
 refine e_ret_block ?_
 refine e_ret_then ?_
 refine e_ret_then ?_
 refine e_ret_block ?_
 refine e_ret_then ?_
 refine e_ret1 Try.results14 (.tmp rfl .nil) (fun w hm => ⟨?_, hm.since⟩)
 rw [check_eq c d, show max d 1 = d by omega]
 have e5 : (0 : Int) = rs.length ∨ 0 < rs.length := (by omega)
 first
 | exact congrArg (Value.int .i64) (if_pos (by omega)).symm
 | exact congrArg (Value.int .i64) ((if_neg (by omega)).trans ((if_neg (by omega)).trans (if_pos (by omega)))).symm
 | exact congrArg (Value.int .i64) ((if_neg (by omega)).trans ((if_neg (by omega)).trans ((if_neg (by omega)).trans (if_pos (by first | (right; omega) | (left; simp_all [headOk]; done)))))).symm
 | exact congrArg (Value.int .i64) ((if_neg (by omega)).trans ((if_neg (by omega)).trans ((if_neg (by omega)).trans (if_neg (by rintro (hx | hx) <;> first | omega | (simp_all [headOk]; done)))))).symm
 | exact congrArg (Value.int .i64) ((if_neg (by omega)).trans ((if_pos (by omega)).trans (if_pos (headNone_no (by omega))))).symm
 | exact congrArg (Value.int .i64) ((if_neg (by omega)).trans ((if_pos (by omega)).trans ((if_neg (headNone_yes (by omega))).trans (if_pos (by omega))))).symm
 | exact congrArg (Value.int .i64) ((if_neg (by omega)).trans ((if_pos (by omega)).trans ((if_neg (headNone_yes (by omega))).trans ((if_neg (by omega)).trans (by rw [← hphi.2, map_drop (i := k) (d := d0) (by omega), checkL_no hE]))))).symm
 | exact congrArg (Value.int .i64) ((if_neg (by omega)).trans ((if_pos (by omega)).trans ((if_neg (headNone_yes (by omega))).trans ((if_neg (by omega)).trans (by rw [← hphi.2, List.drop_eq_nil_of_le (by simp; omega), checkL]))))).symm))
 · (
 try simp only [norms] at h_17
 first
 | (exfalso; omega)
 | (
 refine c_cond_f rfl (c_skip ?_)
 refine e_norm_block ?_
 refine e_next (c_region (r_val .none rfl (p_move rfl) ?_))
 refine r_val .none rfl (p_add rfl rfl (by omega)) ?_
 refine r_val .none rfl (p_assign rfl) (r_nil ?_)
 refine e_again ?_
 refine l_round (n := 2) ?_
 refine c_seq (c_seq (c_region (r_val .none rfl (p_move rfl) ?_)))
 refine r_val .none rfl (p_lt rfl rfl) ?_
 refine r_say (d := 38) (v := Value.bool true) rfl ?_
 refine r_nil (e_next (c_cond_t rfl (c_skip (e_next ?_))))
 refine c_seq (c_block (c_seq (c_region (r_val .none rfl (p_move rfl) ?_))))
 refine r_val .none rfl (p_field Try.underlying38 rfl sz35 rfl) ?_
 refine r_val .none rfl (p_iaddr (k := 1) Try.underlying35 sz34 rfl rfl (by first | exact odt rfl | omega)) ?_
 refine r_val .none rfl (p_field Try.underlying34 rfl sz3 rfl) ?_
 refine r_val .none rfl (p_ld (k := 0) Try.underlying3 rfl rfl rfl (by first | exact odt rfl | omega) (rfl : _ = Value.int _ _)) ?_
 refine r_val .none rfl (p_ne rfl rfl) ?_
 refine r_val .none rfl (p_move rfl) ?_
 refine r_splitd (d := 47) rfl (fun h_18 => ?_) (fun h_18 => ?_)
 · (
 first
 | (exfalso; omega)
 | (
 refine r_skip rfl (.no rfl rfl) ?_
 refine r_skip rfl (.no rfl rfl) ?_
 refine r_skip rfl (.no rfl rfl) ?_
 refine r_skip rfl (.no rfl rfl) ?_
 refine r_skip rfl (.no rfl rfl) ?_
 refine r_skip rfl (.no rfl rfl) ?_
 refine r_val .none rfl (p_pick_t rfl rfl) ?_
 refine r_nil (e_next (c_cond_t rfl (c_seq (c_region ?_))))
 refine r_val .none rfl (p_assign rfl) (r_nil (e_next ?_))
 refine c_ret ?_
 refine e_ret_block ?_
 refine e_ret_then ?_
 refine e_ret_then ?_
 refine e_ret_block ?_
 refine e_ret_then ?_
 refine e_ret1 Try.results14 (.tmp rfl .nil) (fun w hm => ⟨?_, hm.since⟩)
 rw [check_eq c d, show max d 1 = d by omega]
 have e5 : (0 : Int) = rs.length ∨ 0 < rs.length := (by omega)
 first
 | exact congrArg (Value.int .i64) (if_pos (by omega)).symm
 | exact congrArg (Value.int .i64) ((if_neg (by omega)).trans ((if_neg (by omega)).trans (if_pos (by omega)))).symm
 | exact congrArg (Value.int .i64) ((if_neg (by omega)).trans ((if_neg (by omega)).trans ((if_neg (by omega)).trans (if_pos (by first | (right; omega) | (left; simp_all [headOk]; done)))))).symm
 | exact congrArg (Value.int .i64) ((if_neg (by omega)).trans ((if_neg (by omega)).trans ((if_neg (by omega)).trans (if_neg (by rintro (hx | hx) <;> first | omega | (simp_all [headOk]; done)))))).symm
 | exact congrArg (Value.int .i64) ((if_neg (by omega)).trans ((if_pos (by omega)).trans (if_pos (headNone_no (by omega))))).symm
 | exact congrArg (Value.int .i64) ((if_neg (by omega)).trans ((if_pos (by omega)).trans ((if_neg (headNone_yes (by omega))).trans (if_pos (by omega))))).symm
 | exact congrArg (Value.int .i64) ((if_neg (by omega)).trans ((if_pos (by omega)).trans ((if_neg (headNone_yes (by omega))).trans ((if_neg (by omega)).trans (by rw [← hphi.2, map_drop (i := k) (d := d0) (by omega), checkL_no hE]))))).symm
 | exact congrArg (Value.int .i64) ((if_neg (by omega)).trans ((if_pos (by omega)).trans ((if_neg (headNone_yes (by omega))).trans ((if_neg (by omega)).trans (by rw [← hphi.2, List.drop_eq_nil_of_le (by simp; omega), checkL]))))).symm))
 · (
 first
 | (exfalso; omega)
 | (
 refine r_val (.some rfl rfl) rfl (p_move rfl) ?_
 refine r_val (.some rfl rfl) rfl (p_field Try.underlying38 rfl sz35 rfl) ?_
 refine r_val (.some rfl rfl) rfl (p_iaddr (k := 1) Try.underlying35 sz34 rfl rfl (by first | exact odt rfl | omega)) ?_
 refine r_val (.some rfl rfl) rfl (p_field Try.underlying34 rfl sz3 rfl) ?_
 refine r_val (.some rfl rfl) rfl (p_ld (k := 0) Try.underlying3 rfl rfl rfl (by first | exact odt rfl | omega) (rfl : _ = Value.int _ _)) ?_
 refine r_val (.some rfl rfl) rfl (p_ne rfl rfl) ?_
 refine r_val .none rfl (p_pick_f rfl rfl) ?_
 refine r_nil (e_next ?_)
 refine c_splitd (d := 54) rfl (fun h_19 => ?_) (fun h_19 => ?_)
 · (
 first
 | (exfalso; omega)
 | (
 refine c_cond_t rfl (c_seq (c_region (r_val .none rfl (p_assign rfl) (r_nil ?_))))
 refine e_next ?_
 refine c_ret ?_
 refine e_ret_block ?_
 refine e_ret_then ?_
 refine e_ret_then ?_
 refine e_ret_block ?_
 refine e_ret_then ?_
 refine e_ret1 Try.results14 (.tmp rfl .nil) (fun w hm => ⟨?_, hm.since⟩)
 rw [check_eq c d, show max d 1 = d by omega]
 have e5 : (0 : Int) = rs.length ∨ 0 < rs.length := (by omega)
 first
 | exact congrArg (Value.int .i64) (if_pos (by omega)).symm
 | exact congrArg (Value.int .i64) ((if_neg (by omega)).trans ((if_neg (by omega)).trans (if_pos (by omega)))).symm
 | exact congrArg (Value.int .i64) ((if_neg (by omega)).trans ((if_neg (by omega)).trans ((if_neg (by omega)).trans (if_pos (by first | (right; omega) | (left; simp_all [headOk]; done)))))).symm
 | exact congrArg (Value.int .i64) ((if_neg (by omega)).trans ((if_neg (by omega)).trans ((if_neg (by omega)).trans (if_neg (by rintro (hx | hx) <;> first | omega | (simp_all [headOk]; done)))))).symm
 | exact congrArg (Value.int .i64) ((if_neg (by omega)).trans ((if_pos (by omega)).trans (if_pos (headNone_no (by omega))))).symm
 | exact congrArg (Value.int .i64) ((if_neg (by omega)).trans ((if_pos (by omega)).trans ((if_neg (headNone_yes (by omega))).trans (if_pos (by omega))))).symm
 | exact congrArg (Value.int .i64) ((if_neg (by omega)).trans ((if_pos (by omega)).trans ((if_neg (headNone_yes (by omega))).trans ((if_neg (by omega)).trans (by rw [← hphi.2, map_drop (i := k) (d := d0) (by omega), checkL_no hE]))))).symm
 | exact congrArg (Value.int .i64) ((if_neg (by omega)).trans ((if_pos (by omega)).trans ((if_neg (headNone_yes (by omega))).trans ((if_neg (by omega)).trans (by rw [← hphi.2, List.drop_eq_nil_of_le (by simp; omega), checkL]))))).symm))
 · (
 first
 | (exfalso; omega)
 | (
 refine c_cond_f rfl (c_skip ?_)
 refine e_norm_block ?_
 refine e_next (c_region (r_val .none rfl (p_move rfl) ?_))
 refine r_val .none rfl (p_add rfl rfl (by omega)) ?_
 refine r_val .none rfl (p_assign rfl) (r_nil ?_)
 refine e_again ?_
 refine l_round (n := 1) ?_
 refine c_seq (c_seq (c_region (r_val .none rfl (p_move rfl) ?_)))
 refine r_val .none rfl (p_lt rfl rfl) ?_
 refine r_say (d := 38) (v := Value.bool true) rfl ?_
 refine r_nil (e_next (c_cond_t rfl (c_skip (e_next ?_))))
 refine c_seq (c_block (c_seq (c_region (r_val .none rfl (p_move rfl) ?_))))
 refine r_val .none rfl (p_field Try.underlying38 rfl sz35 rfl) ?_
 refine r_val .none rfl (p_iaddr (k := 2) Try.underlying35 sz34 rfl rfl (by first | exact odt rfl | omega)) ?_
 refine r_val .none rfl (p_field Try.underlying34 rfl sz3 rfl) ?_
 refine r_val .none rfl (p_ld (k := 0) Try.underlying3 rfl rfl rfl (by first | exact odt rfl | omega) (rfl : _ = Value.int _ _)) ?_
 refine r_val .none rfl (p_ne rfl rfl) ?_
 refine r_val .none rfl (p_move rfl) ?_
 refine r_splitd (d := 47) rfl (fun h_20 => ?_) (fun h_20 => ?_)
 · (
 first
 | (exfalso; omega)
 | (
 refine r_skip rfl (.no rfl rfl) ?_
 refine r_skip rfl (.no rfl rfl) ?_
 refine r_skip rfl (.no rfl rfl) ?_
 refine r_skip rfl (.no rfl rfl) ?_
 refine r_skip rfl (.no rfl rfl) ?_
 refine r_skip rfl (.no rfl rfl) ?_
 refine r_val .none rfl (p_pick_t rfl rfl) ?_
 refine r_nil (e_next (c_cond_t rfl (c_seq (c_region ?_))))
 refine r_val .none rfl (p_assign rfl) (r_nil (e_next ?_))
 refine c_ret ?_
 refine e_ret_block ?_
 refine e_ret_then ?_
 refine e_ret_then ?_
 refine e_ret_block ?_
 refine e_ret_then ?_
 refine e_ret1 Try.results14 (.tmp rfl .nil) (fun w hm => ⟨?_, hm.since⟩)
 rw [check_eq c d, show max d 1 = d by omega]
 have e5 : (0 : Int) = rs.length ∨ 0 < rs.length := (by omega)
 first
 | exact congrArg (Value.int .i64) (if_pos (by omega)).symm
 | exact congrArg (Value.int .i64) ((if_neg (by omega)).trans ((if_neg (by omega)).trans (if_pos (by omega)))).symm
 | exact congrArg (Value.int .i64) ((if_neg (by omega)).trans ((if_neg (by omega)).trans ((if_neg (by omega)).trans (if_pos (by first | (right; omega) | (left; simp_all [headOk]; done)))))).symm
 | exact congrArg (Value.int .i64) ((if_neg (by omega)).trans ((if_neg (by omega)).trans ((if_neg (by omega)).trans (if_neg (by rintro (hx | hx) <;> first | omega | (simp_all [headOk]; done)))))).symm
 | exact congrArg (Value.int .i64) ((if_neg (by omega)).trans ((if_pos (by omega)).trans (if_pos (headNone_no (by omega))))).symm
 | exact congrArg (Value.int .i64) ((if_neg (by omega)).trans ((if_pos (by omega)).trans ((if_neg (headNone_yes (by omega))).trans (if_pos (by omega))))).symm
 | exact congrArg (Value.int .i64) ((if_neg (by omega)).trans ((if_pos (by omega)).trans ((if_neg (headNone_yes (by omega))).trans ((if_neg (by omega)).trans (by rw [← hphi.2, map_drop (i := k) (d := d0) (by omega), checkL_no hE]))))).symm
 | exact congrArg (Value.int .i64) ((if_neg (by omega)).trans ((if_pos (by omega)).trans ((if_neg (headNone_yes (by omega))).trans ((if_neg (by omega)).trans (by rw [← hphi.2, List.drop_eq_nil_of_le (by simp; omega), checkL]))))).symm))
 · (
 first
 | (exfalso; omega)
 | (
 refine r_val (.some rfl rfl) rfl (p_move rfl) ?_
 refine r_val (.some rfl rfl) rfl (p_field Try.underlying38 rfl sz35 rfl) ?_
 refine r_val (.some rfl rfl) rfl (p_iaddr (k := 2) Try.underlying35 sz34 rfl rfl (by first | exact odt rfl | omega)) ?_
 refine r_val (.some rfl rfl) rfl (p_field Try.underlying34 rfl sz3 rfl) ?_
 refine r_val (.some rfl rfl) rfl (p_ld (k := 0) Try.underlying3 rfl rfl rfl (by first | exact odt rfl | omega) (rfl : _ = Value.int _ _)) ?_
 refine r_val (.some rfl rfl) rfl (p_ne rfl rfl) ?_
 refine r_val .none rfl (p_pick_f rfl rfl) ?_
 refine r_nil (e_next ?_)
 refine c_splitd (d := 54) rfl (fun h_21 => ?_) (fun h_21 => ?_)
 · (
 first
 | (exfalso; omega)
 | (
 refine c_cond_t rfl (c_seq (c_region (r_val .none rfl (p_assign rfl) (r_nil ?_))))
 refine e_next ?_
 refine c_ret ?_
 refine e_ret_block ?_
 refine e_ret_then ?_
 refine e_ret_then ?_
 refine e_ret_block ?_
 refine e_ret_then ?_
 refine e_ret1 Try.results14 (.tmp rfl .nil) (fun w hm => ⟨?_, hm.since⟩)
 rw [check_eq c d, show max d 1 = d by omega]
 have e5 : (0 : Int) = rs.length ∨ 0 < rs.length := (by omega)
 first
 | exact congrArg (Value.int .i64) (if_pos (by omega)).symm
 | exact congrArg (Value.int .i64) ((if_neg (by omega)).trans ((if_neg (by omega)).trans (if_pos (by omega)))).symm
 | exact congrArg (Value.int .i64) ((if_neg (by omega)).trans ((if_neg (by omega)).trans ((if_neg (by omega)).trans (if_pos (by first | (right; omega) | (left; simp_all [headOk]; done)))))).symm
 | exact congrArg (Value.int .i64) ((if_neg (by omega)).trans ((if_neg (by omega)).trans ((if_neg (by omega)).trans (if_neg (by rintro (hx | hx) <;> first | omega | (simp_all [headOk]; done)))))).symm
 | exact congrArg (Value.int .i64) ((if_neg (by omega)).trans ((if_pos (by omega)).trans (if_pos (headNone_no (by omega))))).symm
 | exact congrArg (Value.int .i64) ((if_neg (by omega)).trans ((if_pos (by omega)).trans ((if_neg (headNone_yes (by omega))).trans (if_pos (by omega))))).symm
 | exact congrArg (Value.int .i64) ((if_neg (by omega)).trans ((if_pos (by omega)).trans ((if_neg (headNone_yes (by omega))).trans ((if_neg (by omega)).trans (by rw [← hphi.2, map_drop (i := k) (d := d0) (by omega), checkL_no hE]))))).symm
 | exact congrArg (Value.int .i64) ((if_neg (by omega)).trans ((if_pos (by omega)).trans ((if_neg (headNone_yes (by omega))).trans ((if_neg (by omega)).trans (by rw [← hphi.2, List.drop_eq_nil_of_le (by simp; omega), checkL]))))).symm))
 · (
 first
 | (exfalso; omega)
 | (
 refine c_cond_f rfl (c_skip ?_)
 refine e_norm_block ?_
 refine e_next (c_region (r_val .none rfl (p_move rfl) ?_))
 refine r_val .none rfl (p_add rfl rfl (by omega)) ?_
 refine r_val .none rfl (p_assign rfl) (r_nil ?_)
 refine e_again ?_
 refine l_round (n := 0) ?_
 refine c_seq (c_seq (c_region (r_val .none rfl (p_move rfl) ?_)))
 refine r_val .none rfl (p_lt rfl rfl) ?_
 refine r_say (d := 38) (v := Value.bool false) rfl ?_
 refine r_nil (e_next (c_cond_f rfl (c_exit (e_exit_then ?_))))
 refine e_exit_then ?_
 refine e_exit_block ?_
 refine e_next (c_seq (c_seq (c_region ?_)))
 refine r_val .none rfl (p_field Try.underlying38 rfl sz36 rfl) ?_
 refine r_val .none rfl (p_ld (k := 0) Try.underlying36 rfl rfl rfl (by first | exact odt rfl | omega) rfl) ?_
 refine r_val .none rfl (p_leng Try.underlying36 rfl hr) ?_
 have bd_22 := (hr).bound
 refine r_val .none rfl (p_eq rfl rfl) ?_
 refine r_nil (e_next ?_)
 refine c_splitd (d := 58) rfl (fun h_23 => ?_) (fun h_23 => ?_)
 · (
 first
 | (exfalso; omega)
 | (
 refine c_cond_t rfl (c_seq (c_region (r_val .none rfl (p_assign rfl) (r_nil ?_))))
 refine e_next ?_
 refine c_ret ?_
 refine e_ret_then ?_
 refine e_ret1 Try.results14 (.tmp rfl .nil) (fun w hm => ⟨?_, hm.since⟩)
 rw [check_eq c d, show max d 1 = d by omega]
 have e5 : (0 : Int) = rs.length ∨ 0 < rs.length := (by omega)
 first
 | exact congrArg (Value.int .i64) (if_pos (by omega)).symm
 | exact congrArg (Value.int .i64) ((if_neg (by omega)).trans ((if_neg (by omega)).trans (if_pos (by omega)))).symm
 | exact congrArg (Value.int .i64) ((if_neg (by omega)).trans ((if_neg (by omega)).trans ((if_neg (by omega)).trans (if_pos (by first | (right; omega) | (left; simp_all [headOk]; done)))))).symm
 | exact congrArg (Value.int .i64) ((if_neg (by omega)).trans ((if_neg (by omega)).trans ((if_neg (by omega)).trans (if_neg (by rintro (hx | hx) <;> first | omega | (simp_all [headOk]; done)))))).symm
 | exact congrArg (Value.int .i64) ((if_neg (by omega)).trans ((if_pos (by omega)).trans (if_pos (headNone_no (by omega))))).symm
 | exact congrArg (Value.int .i64) ((if_neg (by omega)).trans ((if_pos (by omega)).trans ((if_neg (headNone_yes (by omega))).trans (if_pos (by omega))))).symm
 | exact congrArg (Value.int .i64) ((if_neg (by omega)).trans ((if_pos (by omega)).trans ((if_neg (headNone_yes (by omega))).trans ((if_neg (by omega)).trans (by rw [← hphi.2, map_drop (i := k) (d := d0) (by omega), checkL_no hE]))))).symm
 | exact congrArg (Value.int .i64) ((if_neg (by omega)).trans ((if_pos (by omega)).trans ((if_neg (headNone_yes (by omega))).trans ((if_neg (by omega)).trans (by rw [← hphi.2, List.drop_eq_nil_of_le (by simp; omega), checkL]))))).symm))
 · (
 first
 | (exfalso; omega)
 | (
 refine c_cond_f rfl (c_skip (e_next (c_seq (c_seq ?_))))
 refine c_region ?_
 refine r_val .none rfl (p_field Try.underlying38 rfl sz36 rfl) ?_
 refine r_val .none rfl (p_ld (k := 0) Try.underlying36 rfl rfl rfl (by first | exact odt rfl | omega) rfl) ?_
 refine r_val .none rfl (p_leng Try.underlying36 rfl hr) ?_
 have bd_24 := (hr).bound
 refine r_val .none rfl (p_move rfl) (r_nil (e_next (c_block ?_)))
 refine c_name (d := 1) rfl (fun u_25 hu_25 => ?_)
 refine c_name (d := 60) rfl (fun u_26 hu_26 => ?_)
 refine c_name (d := 61) rfl (fun u_27 hu_27 => ?_)
 refine c_nameL (k := 0) rfl (fun A_28 hA_28 => ?_)
 refine c_loop (σ := Nat) (fun k => [(62, Value.int .i64 (k : Nat)), (1, u_25), (60, u_26), (61, u_27)]) (fun k => [A_28]) (fun _ => _) (fun k => k ≤ rs.length ∧ checkL ((rs.map Prod.fst).drop k) (d + 1) = checkL c.subs (d + 1)) (fun k => rs.length - k) (0) ⟨Nat.zero_le _, by rw [hl]; rfl⟩ rfl ⟨rfl, rfl, rfl, rfl, trivial⟩ (.keep (fun _ _ h => h) (.nil)) (fun k hphi => ?_)
 subst hu_25
 subst hu_26
 subst hu_27
 subst hA_28
 refine c_seq (c_region ?_)
 refine r_val .none rfl (p_lt rfl rfl) ?_
 refine r_nil (e_next (c_seq ?_))
 refine c_splitd (d := 63) rfl (fun h_29 => ?_) (fun h_29 => ?_)
 · (
 first
 | (exfalso; omega)
 | (
 refine c_cond_t rfl (c_skip (e_next (c_seq (c_block ?_))))
 refine c_seq (c_region ?_)
 refine r_iaddr_g .none rfl Try.underlying36 sz38 rfl hr rfl (by first | exact odt rfl | omega) (fun p_31 o_32 R_30 => ?_)
 have hc_33 := hp _ (getD_mem (i := k) (d := d0) (by omega))
 refine r_val .none rfl (p_ldga0 Try.underlying38 rfl sz38 rfl R_30 (by first | exact odt rfl | omega) (rfl : _ = Value.agg #[_, _, _, _, _, _, _, _])) ?_
 refine r_alloc .none rfl zr38 (IsRow.lit _) (fun b_2 => ?_)
 refine r_stw (k := 0) .none sz38 rfl rfl (IsRow.lit _) (one_lit rfl (all_cons rfl (all_cons rfl (all_cons rfl (all_cons rfl (all_cons rfl (all_cons rfl (all_cons rfl (all_cons (hc_33).one rfl))))))))) rfl ?_
 refine r_nil (e_next (c_seq (c_region ?_)))
 refine r_val .none rfl (p_ldw (k := 0) Try.underlying38 rfl sz38 rfl rfl (rfl : _ = Value.agg #[_, _, _, _, _, _, _, _])) ?_
 refine r_val .none rfl (p_move rfl) ?_
 refine r_val .none rfl (p_add rfl rfl (by omega)) ?_
 refine r_call (vs := [_, _]) .none rfl cl14 rfl (fun w hw => ih (rs.getD k d0).1 _ _ _ w (size_at hl (by omega) hz) (by omega) hc_33 hw) ?_
 refine r_val .none rfl (p_assign rfl) (r_nil (e_next (c_seq (c_region ?_))))
 refine r_val .none rfl (p_move rfl) ?_
 refine r_val .none rfl (p_ne rfl rfl) ?_
 refine r_nil (e_next ?_)
 refine c_splitd (d := 71) rfl (fun h_34 => ?_) (fun h_34 => ?_)
 · (
 have hE := h_34
 first
 | (exfalso; omega)
 | (
 refine c_cond_t rfl (c_seq (c_region (r_val .none rfl (p_move rfl) (r_val .none rfl (p_assign rfl) ?_))))
 refine r_nil (e_next ?_)
 refine c_ret ?_
 refine e_ret_block ?_
 refine e_ret_then ?_
 refine e_ret_then ?_
 refine e_ret_block ?_
 refine e_ret_then ?_
 refine e_ret1 Try.results14 (.tmp rfl .nil) (fun w hm => ⟨?_, hm.since⟩)
 rw [check_eq c d, show max d 1 = d by omega]
 have e5 : (0 : Int) = rs.length ∨ 0 < rs.length := (by omega)
 first
 | exact congrArg (Value.int .i64) (if_pos (by omega)).symm
 | exact congrArg (Value.int .i64) ((if_neg (by omega)).trans ((if_neg (by omega)).trans (if_pos (by omega)))).symm
 | exact congrArg (Value.int .i64) ((if_neg (by omega)).trans ((if_neg (by omega)).trans ((if_neg (by omega)).trans (if_pos (by first | (right; omega) | (left; simp_all [headOk]; done)))))).symm
 | exact congrArg (Value.int .i64) ((if_neg (by omega)).trans ((if_neg (by omega)).trans ((if_neg (by omega)).trans (if_neg (by rintro (hx | hx) <;> first | omega | (simp_all [headOk]; done)))))).symm
 | exact congrArg (Value.int .i64) ((if_neg (by omega)).trans ((if_pos (by omega)).trans (if_pos (headNone_no (by omega))))).symm
 | exact congrArg (Value.int .i64) ((if_neg (by omega)).trans ((if_pos (by omega)).trans ((if_neg (headNone_yes (by omega))).trans (if_pos (by omega))))).symm
 | exact congrArg (Value.int .i64) ((if_neg (by omega)).trans ((if_pos (by omega)).trans ((if_neg (headNone_yes (by omega))).trans ((if_neg (by omega)).trans (by rw [← hphi.2, map_drop (i := k) (d := d0) (by omega), checkL_no hE]))))).symm
 | exact congrArg (Value.int .i64) ((if_neg (by omega)).trans ((if_pos (by omega)).trans ((if_neg (headNone_yes (by omega))).trans ((if_neg (by omega)).trans (by rw [← hphi.2, List.drop_eq_nil_of_le (by simp; omega), checkL]))))).symm))
 · (
 have hE := Decidable.not_not.1 h_34
 first
 | (exfalso; omega)
 | (
 refine c_cond_f rfl (c_skip ?_)
 refine e_norm_block ?_
 refine e_next (c_region ?_)
 refine r_val .none rfl (p_add rfl rfl (by omega)) ?_
 refine r_val .none rfl (p_move rfl) (r_nil ?_)
 refine e_round (k + 1) ⟨⟨by omega, by rw [← hphi.2, map_drop (i := k) (d := d0) (by omega), checkL_ok hE]⟩, by omega⟩ rfl ⟨rfl, rfl, rfl, rfl, trivial⟩ (.drop (.keep (fun _ _ h => h) (.nil)))))))
 · (
 first
 | (exfalso; omega)
 | (
 refine c_cond_f rfl (c_exit (e_exit_then (e_exit_then ?_)))
 refine e_exit_block ?_
 refine e_next (c_seq (c_region (r_val .none rfl (p_assign rfl) (r_nil ?_))))
 refine e_next ?_
 refine c_ret ?_
 refine e_ret1 Try.results14 (.tmp rfl .nil) (fun w hm => ⟨?_, hm.since⟩)
 rw [check_eq c d, show max d 1 = d by omega]
 have e5 : (0 : Int) = rs.length ∨ 0 < rs.length := (by omega)
 first
 | exact congrArg (Value.int .i64) (if_pos (by omega)).symm
 | exact congrArg (Value.int .i64) ((if_neg (by omega)).trans ((if_neg (by omega)).trans (if_pos (by omega)))).symm
 | exact congrArg (Value.int .i64) ((if_neg (by omega)).trans ((if_neg (by omega)).trans ((if_neg (by omega)).trans (if_pos (by first | (right; omega) | (left; simp_all [headOk]; done)))))).symm
 | exact congrArg (Value.int .i64) ((if_neg (by omega)).trans ((if_neg (by omega)).trans ((if_neg (by omega)).trans (if_neg (by rintro (hx | hx) <;> first | omega | (simp_all [headOk]; done)))))).symm
 | exact congrArg (Value.int .i64) ((if_neg (by omega)).trans ((if_pos (by omega)).trans (if_pos (headNone_no (by omega))))).symm
 | exact congrArg (Value.int .i64) ((if_neg (by omega)).trans ((if_pos (by omega)).trans ((if_neg (headNone_yes (by omega))).trans (if_pos (by omega))))).symm
 | exact congrArg (Value.int .i64) ((if_neg (by omega)).trans ((if_pos (by omega)).trans ((if_neg (headNone_yes (by omega))).trans ((if_neg (by omega)).trans (by rw [← hphi.2, map_drop (i := k) (d := d0) (by omega), checkL_no hE]))))).symm
 | exact congrArg (Value.int .i64) ((if_neg (by omega)).trans ((if_pos (by omega)).trans ((if_neg (headNone_yes (by omega))).trans ((if_neg (by omega)).trans (by rw [← hphi.2, List.drop_eq_nil_of_le (by simp; omega), checkL]))))).symm))))))))))))))))))))
theorem c_rcheck_n : ∀ n, RcheckIs n
 | 0 => fun c sv d G w hz hd hs hG => absurd hz (by have := size_subs c; omega)
 | n + 1 => fun c sv d G w hz hd hs hG => c_rcheck_s n (c_rcheck_n n) c sv d hz hd hs w hG
theorem c_rcheck (c : CT) (sv : Value) (d : Int) {G : Ghost} (hd : 1 ≤ d) (hs : Rs G sv c.subs) (w : World) (hG : Has G w) : Calls Try.prog 14 #[Value.agg #[Value.int .i64 c.h.k, Value.int .i64 (vi c.h.v0), Value.int .i64 c.h.n0, Value.int .i64 (vi c.h.v1), Value.int .i64 c.h.n1, Value.int .i64 (vi c.h.v2), Value.int .i64 c.h.n2, sv], Value.int .i64 d] w (Ret fun r w' => r = Value.int .i64 (check c d) ∧ Since nX w w') := c_rcheck_n _ c sv d G w (Nat.le_refl _) hd hs hG
end Go.Proofs.Ytpcpbfajadgmpaa

/- Walks: what Go functions of this chapter come to, each as a function on plain data; no condition but those that each theorem names. Printed by a program of this work (gen.py). -/
namespace Go.Proofs.Ytpcpbfajadgmpaa
open Go.Gx Go.Gx.T3 Go.Gx.T4 Go.Gx.T3
theorem zr23 : ZeroIs Try.prog 23 (Value.agg #[Value.bool false, Value.int .i64 0]) := by
 unfold ZeroIs
 kernel_rfl
theorem zr35 : ZeroIs Try.prog 35 (Value.agg #[Value.int .i64 0, Value.int .i64 0, Value.int .i64 0, Value.int .i64 0, Value.int .i64 0, Value.int .i64 0]) := by
 unfold ZeroIs
 kernel_rfl
theorem cl15 : Callable Try.prog 15 := callable Try.func15 (by kernel_rfl) rfl
theorem cl38 : Callable Try.prog 38 := callable Try.func38 (by kernel_rfl) rfl
theorem bl38_0i1_1a6 (x0 : Int) (x1 : Value) (x2 : Value) (x3 : Value) (x4 : Value) (x5 : Value) (x6 : Value) : Program.built Try.prog 38 [(0, Value.int .i64 x0), (1, Value.agg #[x1, x2, x3, x4, x5, x6])] = some #[Value.int .i64 x0, x1, x2, x3, x4, x5, x6, Value.slice none 0 0] := by
 kernel_rfl
theorem bs38_10a8 (a0 a1 a2 a3 a4 a5 a6 a7 : Value) : Instr.fill (fun i => some (i * 8, 8)) ((Array.range (1 * 8)).map ((Value.agg #[Value.int .i64 0, Value.int .i64 0, Value.int .i64 0, Value.int .i64 0, Value.int .i64 0, Value.int .i64 0, Value.int .i64 0, Value.slice none 0 0]).cells[· % (Value.agg #[Value.int .i64 0, Value.int .i64 0, Value.int .i64 0, Value.int .i64 0, Value.int .i64 0, Value.int .i64 0, Value.int .i64 0, Value.slice none 0 0]).cells.size]!)) [(0, Value.agg #[a0, a1, a2, a3, a4, a5, a6, a7])] = some #[a0, a1, a2, a3, a4, a5, a6, a7] := by
 kernel_rfl
theorem el38 : ElemIs Try.prog 38 8 80 (Value.agg #[Value.int .i64 0, Value.int .i64 0, Value.int .i64 0, Value.int .i64 0, Value.int .i64 0, Value.int .i64 0, Value.int .i64 0, Value.slice none 0 0]) := by
 unfold ElemIs
 kernel_rfl
def RefIs (n : Nat) : Prop := ∀ (c : CT) (sv : Value) (G : Ghost) (w : World), SizeOf.sizeOf c ≤ n → size c ≤ 1000 → Cs G sv c.subs → Has G w → Calls Try.prog 15 #[Value.agg #[Value.int .i64 c.h.k, Value.bool c.h.v0, Value.int .i64 c.h.n0, Value.bool c.h.v1, Value.int .i64 c.h.n1, Value.bool c.h.v2, Value.int .i64 c.h.n2, sv]] w (Ret fun r w' => ∃ G', GNew w nX G G' ∧ Has G' w' ∧ (∃ u, r = Value.agg #[Value.int .i64 c.h.k, Value.int .i64 (vi c.h.v0), Value.int .i64 c.h.n0, Value.int .i64 (vi c.h.v1), Value.int .i64 c.h.n1, Value.int .i64 (vi c.h.v2), Value.int .i64 c.h.n2, u] ∧ Rs G' u c.subs) ∧ Since nX w w')
theorem c_ref (v0 : Bool) (n0 : Int) (v1 : Bool) (n1 : Int) (v2 : Bool) (n2 : Int)  (w : World)  :
    Calls Try.prog 38 #[Value.agg #[Value.bool v0, Value.int .i64 n0, Value.bool v1, Value.int .i64 n1, Value.bool v2, Value.int .i64 n2]] w (Ret fun r w' => r = Value.agg #[Value.int .i64 (vi v0), Value.int .i64 n0, Value.int .i64 (vi v1), Value.int .i64 n1, Value.int .i64 (vi v2), Value.int .i64 n2] ∧ Since nX w w') := by
 refine enter (args := [_]) (X := nX) (G := (fun _ => none)) (l := [(0, Value.agg #[Value.bool v0, Value.int .i64 n0, Value.bool v1, Value.int .i64 n1, Value.bool v2, Value.int .i64 n2])]) Try.func38 rfl Try.ntmps38 (fun _ _ h => by cases h) ⟨rfl, trivial⟩ (Nat.le_of_ble_eq_true rfl) ?_
 refine c_seq (c_region ?_)
 refine r_box .none rfl rfl (IsRow.lit _) (fun b_1 => ?_)
 refine r_alloc .none rfl zr35 (IsRow.lit _) (fun b_2 => ?_)
 refine r_nil (e_next (c_seq (c_region ?_)))
 refine r_alloc .none rfl zr35 (IsRow.lit _) (fun b_3 => ?_)
 refine r_nil (e_next (c_seq (c_seq (c_region ?_))))
 refine r_val .none rfl (p_ldw (k := 2) Try.underlying24 rfl sz24 rfl rfl (rfl : _ = Value.agg #[_, _, _, _, _, _])) ?_
 refine r_val .none rfl (p_move rfl) (r_nil (e_next (c_block ?_)))
 refine c_unroll 4 ?_
 refine l_round (n := 3) ?_
 refine c_seq (c_region ?_)
 refine r_val .none rfl (p_lt rfl rfl) ?_
 refine r_say (d := 8) (v := Value.bool true) rfl ?_
 refine r_nil (e_next (c_seq (c_cond_t rfl (c_skip ?_))))
 refine e_next (c_seq (c_block (c_seq (c_region ?_))))
 refine r_val .none rfl (p_move rfl) ?_
 refine r_val .none rfl (p_indexa (k := 0) Try.underlying24 Try.underlying23 rfl sz23 rfl (IsRow.lit _) rfl rfl (by first | exact odt rfl | omega) (rfl : _ = Value.agg #[_, _])) ?_
 refine r_alloc .none rfl zr23 (IsRow.lit _) (fun b_4 => ?_)
 refine r_val .none rfl (p_assign rfl) ?_
 refine r_stw (k := 0) .none sz23 rfl rfl (IsRow.lit _) (one_lit rfl rfl) rfl ?_
 refine r_nil (e_next (c_seq (c_region (r_val .none rfl (p_move rfl) ?_))))
 refine r_val .none rfl (p_field Try.underlying23 rfl sz3 rfl) ?_
 refine r_val .none rfl (p_ld (k := 0) Try.underlying3 rfl rfl rfl (by first | exact odt rfl | omega) (rfl : _ = Value.int _ _)) ?_
 refine r_val .none rfl (p_iaddr (k := 0) Try.underlying35 sz34 rfl rfl (by first | exact odt rfl | omega)) ?_
 refine r_val .none rfl (p_field Try.underlying34 rfl sz3 rfl) ?_
 refine r_st (k := 1) .none sz3 rfl rfl rfl rfl (by first | exact odt rfl | omega) ?_
 refine r_nil (e_next (c_seq (c_region ?_)))
 refine r_val .none rfl (p_field Try.underlying23 rfl sz4 rfl) ?_
 refine r_val .none rfl (p_ld (k := 0) Try.underlying4 rfl rfl rfl (by first | exact odt rfl | omega) (rfl : _ = Value.bool _)) ?_
 refine r_nil (e_next ?_)
 refine c_split (d := 17) rfl (fun h_1 => ?_) (fun h_1 => ?_)
 · (
 first
 | (exfalso; omega)
 | (
 refine c_cond_t rfl (c_region (r_val .none rfl (p_move rfl) ?_))
 refine r_val .none rfl (p_iaddr (k := 0) Try.underlying35 sz34 rfl rfl (by first | exact odt rfl | omega)) ?_
 refine r_val .none rfl (p_field Try.underlying34 rfl sz3 rfl) ?_
 refine r_st (k := 1) .none sz3 rfl rfl rfl rfl (by first | exact odt rfl | omega) ?_
 refine r_nil ?_
 refine e_norm_block ?_
 refine e_next (c_region ?_)
 refine r_val .none rfl (p_add rfl rfl (by omega)) ?_
 refine r_val .none rfl (p_move rfl) (r_nil ?_)
 refine e_again ?_
 refine l_round (n := 2) ?_
 refine c_seq (c_region ?_)
 refine r_val .none rfl (p_lt rfl rfl) ?_
 refine r_say (d := 8) (v := Value.bool true) rfl ?_
 refine r_nil (e_next (c_seq (c_cond_t rfl (c_skip ?_))))
 refine e_next (c_seq (c_block (c_seq (c_region ?_))))
 refine r_val .none rfl (p_move rfl) ?_
 refine r_val .none rfl (p_indexa (k := 1) Try.underlying24 Try.underlying23 rfl sz23 rfl (IsRow.lit _) rfl rfl (by first | exact odt rfl | omega) (rfl : _ = Value.agg #[_, _])) ?_
 refine r_alloc .none rfl zr23 (IsRow.lit _) (fun b_5 => ?_)
 refine r_val .none rfl (p_assign rfl) ?_
 refine r_stw (k := 0) .none sz23 rfl rfl (IsRow.lit _) (one_lit rfl rfl) rfl ?_
 refine r_nil (e_next (c_seq (c_region (r_val .none rfl (p_move rfl) ?_))))
 refine r_val .none rfl (p_field Try.underlying23 rfl sz3 rfl) ?_
 refine r_val .none rfl (p_ld (k := 0) Try.underlying3 rfl rfl rfl (by first | exact odt rfl | omega) (rfl : _ = Value.int _ _)) ?_
 refine r_val .none rfl (p_iaddr (k := 1) Try.underlying35 sz34 rfl rfl (by first | exact odt rfl | omega)) ?_
 refine r_val .none rfl (p_field Try.underlying34 rfl sz3 rfl) ?_
 refine r_st (k := 2) .none sz3 rfl rfl rfl rfl (by first | exact odt rfl | omega) ?_
 refine r_nil (e_next (c_seq (c_region ?_)))
 refine r_val .none rfl (p_field Try.underlying23 rfl sz4 rfl) ?_
 refine r_val .none rfl (p_ld (k := 0) Try.underlying4 rfl rfl rfl (by first | exact odt rfl | omega) (rfl : _ = Value.bool _)) ?_
 refine r_nil (e_next ?_)
 refine c_split (d := 17) rfl (fun h_2 => ?_) (fun h_2 => ?_)
 · (
 first
 | (exfalso; omega)
 | (
 refine c_cond_t rfl (c_region (r_val .none rfl (p_move rfl) ?_))
 refine r_val .none rfl (p_iaddr (k := 1) Try.underlying35 sz34 rfl rfl (by first | exact odt rfl | omega)) ?_
 refine r_val .none rfl (p_field Try.underlying34 rfl sz3 rfl) ?_
 refine r_st (k := 2) .none sz3 rfl rfl rfl rfl (by first | exact odt rfl | omega) ?_
 refine r_nil ?_
 refine e_norm_block ?_
 refine e_next (c_region ?_)
 refine r_val .none rfl (p_add rfl rfl (by omega)) ?_
 refine r_val .none rfl (p_move rfl) (r_nil ?_)
 refine e_again ?_
 refine l_round (n := 1) ?_
 refine c_seq (c_region ?_)
 refine r_val .none rfl (p_lt rfl rfl) ?_
 refine r_say (d := 8) (v := Value.bool true) rfl ?_
 refine r_nil (e_next (c_seq (c_cond_t rfl (c_skip ?_))))
 refine e_next (c_seq (c_block (c_seq (c_region ?_))))
 refine r_val .none rfl (p_move rfl) ?_
 refine r_val .none rfl (p_indexa (k := 2) Try.underlying24 Try.underlying23 rfl sz23 rfl (IsRow.lit _) rfl rfl (by first | exact odt rfl | omega) (rfl : _ = Value.agg #[_, _])) ?_
 refine r_alloc .none rfl zr23 (IsRow.lit _) (fun b_6 => ?_)
 refine r_val .none rfl (p_assign rfl) ?_
 refine r_stw (k := 0) .none sz23 rfl rfl (IsRow.lit _) (one_lit rfl rfl) rfl ?_
 refine r_nil (e_next (c_seq (c_region (r_val .none rfl (p_move rfl) ?_))))
 refine r_val .none rfl (p_field Try.underlying23 rfl sz3 rfl) ?_
 refine r_val .none rfl (p_ld (k := 0) Try.underlying3 rfl rfl rfl (by first | exact odt rfl | omega) (rfl : _ = Value.int _ _)) ?_
 refine r_val .none rfl (p_iaddr (k := 2) Try.underlying35 sz34 rfl rfl (by first | exact odt rfl | omega)) ?_
 refine r_val .none rfl (p_field Try.underlying34 rfl sz3 rfl) ?_
 refine r_st (k := 3) .none sz3 rfl rfl rfl rfl (by first | exact odt rfl | omega) ?_
 refine r_nil (e_next (c_seq (c_region ?_)))
 refine r_val .none rfl (p_field Try.underlying23 rfl sz4 rfl) ?_
 refine r_val .none rfl (p_ld (k := 0) Try.underlying4 rfl rfl rfl (by first | exact odt rfl | omega) (rfl : _ = Value.bool _)) ?_
 refine r_nil (e_next ?_)
 refine c_split (d := 17) rfl (fun h_3 => ?_) (fun h_3 => ?_)
 · (
 first
 | (exfalso; omega)
 | (
 refine c_cond_t rfl (c_region (r_val .none rfl (p_move rfl) ?_))
 refine r_val .none rfl (p_iaddr (k := 2) Try.underlying35 sz34 rfl rfl (by first | exact odt rfl | omega)) ?_
 refine r_val .none rfl (p_field Try.underlying34 rfl sz3 rfl) ?_
 refine r_st (k := 3) .none sz3 rfl rfl rfl rfl (by first | exact odt rfl | omega) ?_
 refine r_nil ?_
 refine e_norm_block ?_
 refine e_next (c_region ?_)
 refine r_val .none rfl (p_add rfl rfl (by omega)) ?_
 refine r_val .none rfl (p_move rfl) (r_nil ?_)
 refine e_again ?_
 refine l_round (n := 0) ?_
 refine c_seq (c_region ?_)
 refine r_val .none rfl (p_lt rfl rfl) ?_
 refine r_say (d := 8) (v := Value.bool false) rfl ?_
 refine r_nil (e_next (c_seq (c_cond_f rfl (c_exit ?_))))
 refine e_exit_then (e_exit_then ?_)
 refine e_exit_block ?_
 refine e_next (c_seq (c_region ?_))
 refine r_val .none rfl (p_ldw (k := 3) Try.underlying35 rfl sz35 rfl rfl (rfl : _ = Value.agg #[_, _, _, _, _, _])) ?_
 refine r_stw (k := 4) .none sz35 rfl rfl (IsRow.lit _) (one_lit rfl rfl) rfl ?_
 refine r_nil (e_next ?_)
 refine c_ret ?_
 refine e_ret1 Try.results38 (.cell (k := 4) rfl Try.underlying35 rfl sz35 rfl (rfl : _ = Value.agg #[_, _, _, _, _, _]) .nil) (fun w hm => ⟨?_, hm.since⟩)
 subst_vars; rfl))
 · (
 first
 | (exfalso; omega)
 | (
 refine c_cond_f rfl (c_skip ?_)
 refine e_norm_block ?_
 refine e_next (c_region ?_)
 refine r_val .none rfl (p_add rfl rfl (by omega)) ?_
 refine r_val .none rfl (p_move rfl) (r_nil ?_)
 refine e_again ?_
 refine l_round (n := 0) ?_
 refine c_seq (c_region ?_)
 refine r_val .none rfl (p_lt rfl rfl) ?_
 refine r_say (d := 8) (v := Value.bool false) rfl ?_
 refine r_nil (e_next (c_seq (c_cond_f rfl (c_exit ?_))))
 refine e_exit_then (e_exit_then ?_)
 refine e_exit_block ?_
 refine e_next (c_seq (c_region ?_))
 refine r_val .none rfl (p_ldw (k := 3) Try.underlying35 rfl sz35 rfl rfl (rfl : _ = Value.agg #[_, _, _, _, _, _])) ?_
 refine r_stw (k := 4) .none sz35 rfl rfl (IsRow.lit _) (one_lit rfl rfl) rfl ?_
 refine r_nil (e_next ?_)
 refine c_ret ?_
 refine e_ret1 Try.results38 (.cell (k := 4) rfl Try.underlying35 rfl sz35 rfl (rfl : _ = Value.agg #[_, _, _, _, _, _]) .nil) (fun w hm => ⟨?_, hm.since⟩)
 subst_vars; rfl))))
 · (
 first
 | (exfalso; omega)
 | (
 refine c_cond_f rfl (c_skip ?_)
 refine e_norm_block ?_
 refine e_next (c_region ?_)
 refine r_val .none rfl (p_add rfl rfl (by omega)) ?_
 refine r_val .none rfl (p_move rfl) (r_nil ?_)
 refine e_again ?_
 refine l_round (n := 1) ?_
 refine c_seq (c_region ?_)
 refine r_val .none rfl (p_lt rfl rfl) ?_
 refine r_say (d := 8) (v := Value.bool true) rfl ?_
 refine r_nil (e_next (c_seq (c_cond_t rfl (c_skip ?_))))
 refine e_next (c_seq (c_block (c_seq (c_region ?_))))
 refine r_val .none rfl (p_move rfl) ?_
 refine r_val .none rfl (p_indexa (k := 2) Try.underlying24 Try.underlying23 rfl sz23 rfl (IsRow.lit _) rfl rfl (by first | exact odt rfl | omega) (rfl : _ = Value.agg #[_, _])) ?_
 refine r_alloc .none rfl zr23 (IsRow.lit _) (fun b_7 => ?_)
 refine r_val .none rfl (p_assign rfl) ?_
 refine r_stw (k := 0) .none sz23 rfl rfl (IsRow.lit _) (one_lit rfl rfl) rfl ?_
 refine r_nil (e_next (c_seq (c_region (r_val .none rfl (p_move rfl) ?_))))
 refine r_val .none rfl (p_field Try.underlying23 rfl sz3 rfl) ?_
 refine r_val .none rfl (p_ld (k := 0) Try.underlying3 rfl rfl rfl (by first | exact odt rfl | omega) (rfl : _ = Value.int _ _)) ?_
 refine r_val .none rfl (p_iaddr (k := 2) Try.underlying35 sz34 rfl rfl (by first | exact odt rfl | omega)) ?_
 refine r_val .none rfl (p_field Try.underlying34 rfl sz3 rfl) ?_
 refine r_st (k := 3) .none sz3 rfl rfl rfl rfl (by first | exact odt rfl | omega) ?_
 refine r_nil (e_next (c_seq (c_region ?_)))
 refine r_val .none rfl (p_field Try.underlying23 rfl sz4 rfl) ?_
 refine r_val .none rfl (p_ld (k := 0) Try.underlying4 rfl rfl rfl (by first | exact odt rfl | omega) (rfl : _ = Value.bool _)) ?_
 refine r_nil (e_next ?_)
 refine c_split (d := 17) rfl (fun h_4 => ?_) (fun h_4 => ?_)
 · (
 first
 | (exfalso; omega)
 | (
 refine c_cond_t rfl (c_region (r_val .none rfl (p_move rfl) ?_))
 refine r_val .none rfl (p_iaddr (k := 2) Try.underlying35 sz34 rfl rfl (by first | exact odt rfl | omega)) ?_
 refine r_val .none rfl (p_field Try.underlying34 rfl sz3 rfl) ?_
 refine r_st (k := 3) .none sz3 rfl rfl rfl rfl (by first | exact odt rfl | omega) ?_
 refine r_nil ?_
 refine e_norm_block ?_
 refine e_next (c_region ?_)
 refine r_val .none rfl (p_add rfl rfl (by omega)) ?_
 refine r_val .none rfl (p_move rfl) (r_nil ?_)
 refine e_again ?_
 refine l_round (n := 0) ?_
 refine c_seq (c_region ?_)
 refine r_val .none rfl (p_lt rfl rfl) ?_
 refine r_say (d := 8) (v := Value.bool false) rfl ?_
 refine r_nil (e_next (c_seq (c_cond_f rfl (c_exit ?_))))
 refine e_exit_then (e_exit_then ?_)
 refine e_exit_block ?_
 refine e_next (c_seq (c_region ?_))
 refine r_val .none rfl (p_ldw (k := 3) Try.underlying35 rfl sz35 rfl rfl (rfl : _ = Value.agg #[_, _, _, _, _, _])) ?_
 refine r_stw (k := 4) .none sz35 rfl rfl (IsRow.lit _) (one_lit rfl rfl) rfl ?_
 refine r_nil (e_next ?_)
 refine c_ret ?_
 refine e_ret1 Try.results38 (.cell (k := 4) rfl Try.underlying35 rfl sz35 rfl (rfl : _ = Value.agg #[_, _, _, _, _, _]) .nil) (fun w hm => ⟨?_, hm.since⟩)
 subst_vars; rfl))
 · (
 first
 | (exfalso; omega)
 | (
 refine c_cond_f rfl (c_skip ?_)
 refine e_norm_block ?_
 refine e_next (c_region ?_)
 refine r_val .none rfl (p_add rfl rfl (by omega)) ?_
 refine r_val .none rfl (p_move rfl) (r_nil ?_)
 refine e_again ?_
 refine l_round (n := 0) ?_
 refine c_seq (c_region ?_)
 refine r_val .none rfl (p_lt rfl rfl) ?_
 refine r_say (d := 8) (v := Value.bool false) rfl ?_
 refine r_nil (e_next (c_seq (c_cond_f rfl (c_exit ?_))))
 refine e_exit_then (e_exit_then ?_)
 refine e_exit_block ?_
 refine e_next (c_seq (c_region ?_))
 refine r_val .none rfl (p_ldw (k := 3) Try.underlying35 rfl sz35 rfl rfl (rfl : _ = Value.agg #[_, _, _, _, _, _])) ?_
 refine r_stw (k := 4) .none sz35 rfl rfl (IsRow.lit _) (one_lit rfl rfl) rfl ?_
 refine r_nil (e_next ?_)
 refine c_ret ?_
 refine e_ret1 Try.results38 (.cell (k := 4) rfl Try.underlying35 rfl sz35 rfl (rfl : _ = Value.agg #[_, _, _, _, _, _]) .nil) (fun w hm => ⟨?_, hm.since⟩)
 subst_vars; rfl))))))
 · (
 first
 | (exfalso; omega)
 | (
 refine c_cond_f rfl (c_skip ?_)
 refine e_norm_block ?_
 refine e_next (c_region ?_)
 refine r_val .none rfl (p_add rfl rfl (by omega)) ?_
 refine r_val .none rfl (p_move rfl) (r_nil ?_)
 refine e_again ?_
 refine l_round (n := 2) ?_
 refine c_seq (c_region ?_)
 refine r_val .none rfl (p_lt rfl rfl) ?_
 refine r_say (d := 8) (v := Value.bool true) rfl ?_
 refine r_nil (e_next (c_seq (c_cond_t rfl (c_skip ?_))))
 refine e_next (c_seq (c_block (c_seq (c_region ?_))))
 refine r_val .none rfl (p_move rfl) ?_
 refine r_val .none rfl (p_indexa (k := 1) Try.underlying24 Try.underlying23 rfl sz23 rfl (IsRow.lit _) rfl rfl (by first | exact odt rfl | omega) (rfl : _ = Value.agg #[_, _])) ?_
 refine r_alloc .none rfl zr23 (IsRow.lit _) (fun b_8 => ?_)
 refine r_val .none rfl (p_assign rfl) ?_
 refine r_stw (k := 0) .none sz23 rfl rfl (IsRow.lit _) (one_lit rfl rfl) rfl ?_
 refine r_nil (e_next (c_seq (c_region (r_val .none rfl (p_move rfl) ?_))))
 refine r_val .none rfl (p_field Try.underlying23 rfl sz3 rfl) ?_
 refine r_val .none rfl (p_ld (k := 0) Try.underlying3 rfl rfl rfl (by first | exact odt rfl | omega) (rfl : _ = Value.int _ _)) ?_
 refine r_val .none rfl (p_iaddr (k := 1) Try.underlying35 sz34 rfl rfl (by first | exact odt rfl | omega)) ?_
 refine r_val .none rfl (p_field Try.underlying34 rfl sz3 rfl) ?_
 refine r_st (k := 2) .none sz3 rfl rfl rfl rfl (by first | exact odt rfl | omega) ?_
 refine r_nil (e_next (c_seq (c_region ?_)))
 refine r_val .none rfl (p_field Try.underlying23 rfl sz4 rfl) ?_
 refine r_val .none rfl (p_ld (k := 0) Try.underlying4 rfl rfl rfl (by first | exact odt rfl | omega) (rfl : _ = Value.bool _)) ?_
 refine r_nil (e_next ?_)
 refine c_split (d := 17) rfl (fun h_5 => ?_) (fun h_5 => ?_)
 · (
 first
 | (exfalso; omega)
 | (
 refine c_cond_t rfl (c_region (r_val .none rfl (p_move rfl) ?_))
 refine r_val .none rfl (p_iaddr (k := 1) Try.underlying35 sz34 rfl rfl (by first | exact odt rfl | omega)) ?_
 refine r_val .none rfl (p_field Try.underlying34 rfl sz3 rfl) ?_
 refine r_st (k := 2) .none sz3 rfl rfl rfl rfl (by first | exact odt rfl | omega) ?_
 refine r_nil ?_
 refine e_norm_block ?_
 refine e_next (c_region ?_)
 refine r_val .none rfl (p_add rfl rfl (by omega)) ?_
 refine r_val .none rfl (p_move rfl) (r_nil ?_)
 refine e_again ?_
 refine l_round (n := 1) ?_
 refine c_seq (c_region ?_)
 refine r_val .none rfl (p_lt rfl rfl) ?_
 refine r_say (d := 8) (v := Value.bool true) rfl ?_
 refine r_nil (e_next (c_seq (c_cond_t rfl (c_skip ?_))))
 refine e_next (c_seq (c_block (c_seq (c_region ?_))))
 refine r_val .none rfl (p_move rfl) ?_
 refine r_val .none rfl (p_indexa (k := 2) Try.underlying24 Try.underlying23 rfl sz23 rfl (IsRow.lit _) rfl rfl (by first | exact odt rfl | omega) (rfl : _ = Value.agg #[_, _])) ?_
 refine r_alloc .none rfl zr23 (IsRow.lit _) (fun b_9 => ?_)
 refine r_val .none rfl (p_assign rfl) ?_
 refine r_stw (k := 0) .none sz23 rfl rfl (IsRow.lit _) (one_lit rfl rfl) rfl ?_
 refine r_nil (e_next (c_seq (c_region (r_val .none rfl (p_move rfl) ?_))))
 refine r_val .none rfl (p_field Try.underlying23 rfl sz3 rfl) ?_
 refine r_val .none rfl (p_ld (k := 0) Try.underlying3 rfl rfl rfl (by first | exact odt rfl | omega) (rfl : _ = Value.int _ _)) ?_
 refine r_val .none rfl (p_iaddr (k := 2) Try.underlying35 sz34 rfl rfl (by first | exact odt rfl | omega)) ?_
 refine r_val .none rfl (p_field Try.underlying34 rfl sz3 rfl) ?_
 refine r_st (k := 3) .none sz3 rfl rfl rfl rfl (by first | exact odt rfl | omega) ?_
 refine r_nil (e_next (c_seq (c_region ?_)))
 refine r_val .none rfl (p_field Try.underlying23 rfl sz4 rfl) ?_
 refine r_val .none rfl (p_ld (k := 0) Try.underlying4 rfl rfl rfl (by first | exact odt rfl | omega) (rfl : _ = Value.bool _)) ?_
 refine r_nil (e_next ?_)
 refine c_split (d := 17) rfl (fun h_6 => ?_) (fun h_6 => ?_)
 · (
 first
 | (exfalso; omega)
 | (
 refine c_cond_t rfl (c_region (r_val .none rfl (p_move rfl) ?_))
 refine r_val .none rfl (p_iaddr (k := 2) Try.underlying35 sz34 rfl rfl (by first | exact odt rfl | omega)) ?_
 refine r_val .none rfl (p_field Try.underlying34 rfl sz3 rfl) ?_
 refine r_st (k := 3) .none sz3 rfl rfl rfl rfl (by first | exact odt rfl | omega) ?_
 refine r_nil ?_
 refine e_norm_block ?_
 refine e_next (c_region ?_)
 refine r_val .none rfl (p_add rfl rfl (by omega)) ?_
 refine r_val .none rfl (p_move rfl) (r_nil ?_)
 refine e_again ?_
 refine l_round (n := 0) ?_
 refine c_seq (c_region ?_)
 refine r_val .none rfl (p_lt rfl rfl) ?_
 refine r_say (d := 8) (v := Value.bool false) rfl ?_
 refine r_nil (e_next (c_seq (c_cond_f rfl (c_exit ?_))))
 refine e_exit_then (e_exit_then ?_)
 refine e_exit_block ?_
 refine e_next (c_seq (c_region ?_))
 refine r_val .none rfl (p_ldw (k := 3) Try.underlying35 rfl sz35 rfl rfl (rfl : _ = Value.agg #[_, _, _, _, _, _])) ?_
 refine r_stw (k := 4) .none sz35 rfl rfl (IsRow.lit _) (one_lit rfl rfl) rfl ?_
 refine r_nil (e_next ?_)
 refine c_ret ?_
 refine e_ret1 Try.results38 (.cell (k := 4) rfl Try.underlying35 rfl sz35 rfl (rfl : _ = Value.agg #[_, _, _, _, _, _]) .nil) (fun w hm => ⟨?_, hm.since⟩)
 subst_vars; rfl))
 · (
 first
 | (exfalso; omega)
 | (
 refine c_cond_f rfl (c_skip ?_)
 refine e_norm_block ?_
 refine e_next (c_region ?_)
 refine r_val .none rfl (p_add rfl rfl (by omega)) ?_
 refine r_val .none rfl (p_move rfl) (r_nil ?_)
 refine e_again ?_
 refine l_round (n := 0) ?_
 refine c_seq (c_region ?_)
 refine r_val .none rfl (p_lt rfl rfl) ?_
 refine r_say (d := 8) (v := Value.bool false) rfl ?_
 refine r_nil (e_next (c_seq (c_cond_f rfl (c_exit ?_))))
 refine e_exit_then (e_exit_then ?_)
 refine e_exit_block ?_
 refine e_next (c_seq (c_region ?_))
 refine r_val .none rfl (p_ldw (k := 3) Try.underlying35 rfl sz35 rfl rfl (rfl : _ = Value.agg #[_, _, _, _, _, _])) ?_
 refine r_stw (k := 4) .none sz35 rfl rfl (IsRow.lit _) (one_lit rfl rfl) rfl ?_
 refine r_nil (e_next ?_)
 refine c_ret ?_
 refine e_ret1 Try.results38 (.cell (k := 4) rfl Try.underlying35 rfl sz35 rfl (rfl : _ = Value.agg #[_, _, _, _, _, _]) .nil) (fun w hm => ⟨?_, hm.since⟩)
 subst_vars; rfl))))
 · (
 first
 | (exfalso; omega)
 | (
 refine c_cond_f rfl (c_skip ?_)
 refine e_norm_block ?_
 refine e_next (c_region ?_)
 refine r_val .none rfl (p_add rfl rfl (by omega)) ?_
 refine r_val .none rfl (p_move rfl) (r_nil ?_)
 refine e_again ?_
 refine l_round (n := 1) ?_
 refine c_seq (c_region ?_)
 refine r_val .none rfl (p_lt rfl rfl) ?_
 refine r_say (d := 8) (v := Value.bool true) rfl ?_
 refine r_nil (e_next (c_seq (c_cond_t rfl (c_skip ?_))))
 refine e_next (c_seq (c_block (c_seq (c_region ?_))))
 refine r_val .none rfl (p_move rfl) ?_
 refine r_val .none rfl (p_indexa (k := 2) Try.underlying24 Try.underlying23 rfl sz23 rfl (IsRow.lit _) rfl rfl (by first | exact odt rfl | omega) (rfl : _ = Value.agg #[_, _])) ?_
 refine r_alloc .none rfl zr23 (IsRow.lit _) (fun b_10 => ?_)
 refine r_val .none rfl (p_assign rfl) ?_
 refine r_stw (k := 0) .none sz23 rfl rfl (IsRow.lit _) (one_lit rfl rfl) rfl ?_
 refine r_nil (e_next (c_seq (c_region (r_val .none rfl (p_move rfl) ?_))))
 refine r_val .none rfl (p_field Try.underlying23 rfl sz3 rfl) ?_
 refine r_val .none rfl (p_ld (k := 0) Try.underlying3 rfl rfl rfl (by first | exact odt rfl | omega) (rfl : _ = Value.int _ _)) ?_
 refine r_val .none rfl (p_iaddr (k := 2) Try.underlying35 sz34 rfl rfl (by first | exact odt rfl | omega)) ?_
 refine r_val .none rfl (p_field Try.underlying34 rfl sz3 rfl) ?_
 refine r_st (k := 3) .none sz3 rfl rfl rfl rfl (by first | exact odt rfl | omega) ?_
 refine r_nil (e_next (c_seq (c_region ?_)))
 refine r_val .none rfl (p_field Try.underlying23 rfl sz4 rfl) ?_
 refine r_val .none rfl (p_ld (k := 0) Try.underlying4 rfl rfl rfl (by first | exact odt rfl | omega) (rfl : _ = Value.bool _)) ?_
 refine r_nil (e_next ?_)
 refine c_split (d := 17) rfl (fun h_7 => ?_) (fun h_7 => ?_)
 · (
 first
 | (exfalso; omega)
 | (
 refine c_cond_t rfl (c_region (r_val .none rfl (p_move rfl) ?_))
 refine r_val .none rfl (p_iaddr (k := 2) Try.underlying35 sz34 rfl rfl (by first | exact odt rfl | omega)) ?_
 refine r_val .none rfl (p_field Try.underlying34 rfl sz3 rfl) ?_
 refine r_st (k := 3) .none sz3 rfl rfl rfl rfl (by first | exact odt rfl | omega) ?_
 refine r_nil ?_
 refine e_norm_block ?_
 refine e_next (c_region ?_)
 refine r_val .none rfl (p_add rfl rfl (by omega)) ?_
 refine r_val .none rfl (p_move rfl) (r_nil ?_)
 refine e_again ?_
 refine l_round (n := 0) ?_
 refine c_seq (c_region ?_)
 refine r_val .none rfl (p_lt rfl rfl) ?_
 refine r_say (d := 8) (v := Value.bool false) rfl ?_
 refine r_nil (e_next (c_seq (c_cond_f rfl (c_exit ?_))))
 refine e_exit_then (e_exit_then ?_)
 refine e_exit_block ?_
 refine e_next (c_seq (c_region ?_))
 refine r_val .none rfl (p_ldw (k := 3) Try.underlying35 rfl sz35 rfl rfl (rfl : _ = Value.agg #[_, _, _, _, _, _])) ?_
 refine r_stw (k := 4) .none sz35 rfl rfl (IsRow.lit _) (one_lit rfl rfl) rfl ?_
 refine r_nil (e_next ?_)
 refine c_ret ?_
 refine e_ret1 Try.results38 (.cell (k := 4) rfl Try.underlying35 rfl sz35 rfl (rfl : _ = Value.agg #[_, _, _, _, _, _]) .nil) (fun w hm => ⟨?_, hm.since⟩)
 subst_vars; rfl))
 · (
 first
 | (exfalso; omega)
 | (
 refine c_cond_f rfl (c_skip ?_)
 refine e_norm_block ?_
 refine e_next (c_region ?_)
 refine r_val .none rfl (p_add rfl rfl (by omega)) ?_
 refine r_val .none rfl (p_move rfl) (r_nil ?_)
 refine e_again ?_
 refine l_round (n := 0) ?_
 refine c_seq (c_region ?_)
 refine r_val .none rfl (p_lt rfl rfl) ?_
 refine r_say (d := 8) (v := Value.bool false) rfl ?_
 refine r_nil (e_next (c_seq (c_cond_f rfl (c_exit ?_))))
 refine e_exit_then (e_exit_then ?_)
 refine e_exit_block ?_
 refine e_next (c_seq (c_region ?_))
 refine r_val .none rfl (p_ldw (k := 3) Try.underlying35 rfl sz35 rfl rfl (rfl : _ = Value.agg #[_, _, _, _, _, _])) ?_
 refine r_stw (k := 4) .none sz35 rfl rfl (IsRow.lit _) (one_lit rfl rfl) rfl ?_
 refine r_nil (e_next ?_)
 refine c_ret ?_
 refine e_ret1 Try.results38 (.cell (k := 4) rfl Try.underlying35 rfl sz35 rfl (rfl : _ = Value.agg #[_, _, _, _, _, _]) .nil) (fun w hm => ⟨?_, hm.since⟩)
 subst_vars; rfl))))))
theorem c_ref4_s (n : Nat) (ih : RefIs n) (c : CT) (sv : Value)  {G : Ghost} (hz : SizeOf.sizeOf c ≤ n + 1) (hsz : size c ≤ 1000) (hs : Cs G sv c.subs) (w : World) (hG : Has G w) :
    Calls Try.prog 15 #[Value.agg #[Value.int .i64 c.h.k, Value.bool c.h.v0, Value.int .i64 c.h.n0, Value.bool c.h.v1, Value.int .i64 c.h.n1, Value.bool c.h.v2, Value.int .i64 c.h.n2, sv]] w (Ret fun r w' => ∃ G', GNew w nX G G' ∧ Has G' w' ∧ (∃ u, r = Value.agg #[Value.int .i64 c.h.k, Value.int .i64 (vi c.h.v0), Value.int .i64 c.h.n0, Value.int .i64 (vi c.h.v1), Value.int .i64 c.h.n1, Value.int .i64 (vi c.h.v2), Value.int .i64 c.h.n2, u] ∧ Rs G' u c.subs) ∧ Since nX w w') := by
 refine enter (args := [_]) (X := nX) (G := G) (l := [(0, Value.agg #[Value.int .i64 c.h.k, Value.bool c.h.v0, Value.int .i64 c.h.n0, Value.bool c.h.v1, Value.int .i64 c.h.n1, Value.bool c.h.v2, Value.int .i64 c.h.n2, sv])]) Try.func15 rfl Try.ntmps15 hG ⟨rfl, trivial⟩ (Nat.le_of_ble_eq_true rfl) ?_
 obtain ⟨rs, hr, hp, hl⟩ := hs.inv
 have hlen : c.subs.length = rs.length := by rw [hl]; simp
 have hbd := hr.bound
 have hl1 := size_len hl hsz
 refine c_seq (c_region ?_)
 refine r_box .none rfl rfl (IsRow.lit _) (fun b_1 => ?_)
 refine r_alloc .none rfl zr38 (IsRow.lit _) (fun b_2 => ?_)
 refine r_nil (e_next (c_seq ?_))
 refine c_region_d (fun _ => false) _ mixed (.keep (fun _ _ h => h) (.keep (fun _ _ h => h) (.nil))) ?_
 refine d_val1 0 rfl rfl (by kernel_rfl) (fun _ _ => rfl) .none rfl (p_field Try.underlying27 rfl sz3 rfl) ?_
 refine d_val1 1 rfl rfl (by kernel_rfl) (fun _ _ => rfl) .none rfl (p_ld (k := 1) Try.underlying3 rfl rfl rfl (by first | exact odt rfl | omega) (rfl : _ = Value.int _ _)) ?_
 refine d_val1 2 rfl rfl (by kernel_rfl) (fun _ _ => rfl) .none rfl (p_field Try.underlying27 rfl sz24 rfl) ?_
 refine d_val1 3 rfl rfl (by kernel_rfl) (fun _ _ => rfl) .none rfl (p_lda (k := 1) Try.underlying24 rfl sz24 rfl rfl (by first | exact odt rfl | omega) (rfl : _ = Value.agg #[_, _, _, _, _, _])) ?_
 refine d_eff2 4 6 rfl rfl (by kernel_rfl) (fun K_1 hKK_1 hcK_1 => ?_) (fun K_1 hKK_1 hcK_1 => ?_)
 · (
 refine r_call (vs := [_]) .none rfl cl38 rfl (fun w hw => c_ref _ _ _ _ _ _ w) ?_
 refine r_nil (e_d (i := 4) (brk := (fun _ => false)) (ph' := true) hKK_1 hcK_1 rfl (fun _ => GLe.refl _) (fun _ => .keep (fun _ _ h => h) (.keep (fun _ _ h => h) (.nil))) ?_)
 clear hKK_1 hcK_1 K_1
 refine d_val1 5 rfl rfl (by kernel_rfl) (fun _ _ => rfl) .none rfl (p_build (vs := [(0, Value.int _ _), (1, Value.agg #[_, _, _, _, _, _])]) rfl (bl38_0i1_1a6 _ _ _ _ _ _ _)) ?_
 refine d_eff 6 rfl (by kernel_rfl) (fun K_2 hKK_2 hcK_2 => ?_)
 refine r_alloc .none rfl zr38 (IsRow.lit _) (fun b_3 => ?_)
 refine r_nil (e_d (i := 6) (brk := (fun _ => false)) (ph' := true) hKK_2 hcK_2 rfl (fun _ => GLe.refl _) (fun _ => .drop (.keep (fun _ _ h => h) (.keep (fun _ _ h => h) (.nil)))) ?_)
 clear hKK_2 hcK_2 K_2
 refine d_eff 7 rfl (by kernel_rfl) (fun K_3 hKK_3 hcK_3 => ?_)
 refine r_stw (k := 0) .none sz38 rfl rfl (IsRow.lit _) (one_lit rfl rfl) rfl ?_
 refine r_nil (e_d (i := 7) (brk := (fun _ => false)) (ph' := true) hKK_3 hcK_3 rfl (fun _ => GLe.refl _) (fun _ => .drop (.keep (fun _ _ h => h) (.keep (fun _ _ h => h) (.nil)))) ?_)
 clear hKK_3 hcK_3 K_3
 refine d_nil (by kernel_rfl) ?_
 refine e_next (c_seq (c_seq (c_region ?_)))
 refine r_val .none rfl (p_field Try.underlying27 rfl sz25 rfl) ?_
 refine r_val .none rfl (p_ld (k := 2) Try.underlying25 rfl rfl rfl (by first | exact odt rfl | omega) rfl) ?_
 refine r_val .none rfl (p_leng Try.underlying25 rfl hr) ?_
 have bd_4 := (hr).bound
 refine r_val .none rfl (p_move rfl) (r_nil (e_next (c_block ?_)))
 refine c_nilrow 38 8 ?_
 refine c_name (d := 2) rfl (fun u_5 hu_5 => ?_)
 refine c_name (d := 3) rfl (fun u_6 hu_6 => ?_)
 refine c_name (d := 13) rfl (fun u_7 hu_7 => ?_)
 refine c_name (d := 14) rfl (fun u_8 hu_8 => ?_)
 refine c_nameL (k := 2) rfl (fun A_9 hA_9 => ?_)
 refine c_nameL (k := 3) rfl (fun A_10 hA_10 => ?_)
 refine c_loop (σ := Nat × Value × List (CT × Value) × Ghost) (fun s => [(15, Value.int .i64 (s.1 : Nat)), (2, u_5), (3, u_6), (13, u_7), (14, u_8)]) (fun s => [rowA (s.2.1) 38 8 (s.2.2.1).length ((s.2.2.1).flatMap rvC), box b_3 8 38 (at_ [.int .i64 c.h.k, .int .i64 (vi c.h.v0), .int .i64 c.h.n0, .int .i64 (vi c.h.v1), .int .i64 c.h.n1, .int .i64 (vi c.h.v2), .int .i64 c.h.n2, s.2.1]), A_9, A_10]) (fun s => s.2.2.2) (fun s => s.1 ≤ rs.length ∧ s.2.2.1.map Prod.fst = (rs.map Prod.fst).take s.1 ∧ (∀ p ∈ s.2.2.1, Rs s.2.2.2 p.2 p.1.subs) ∧ GNew w nX G s.2.2.2) (fun s => rs.length - s.1) ((0, _, [], _)) ⟨Nat.zero_le _, rfl, by simp, GNew.refl _ _ _⟩ rfl ⟨rfl, rfl, rfl, rfl, rfl, trivial⟩ (.keep (fun _ _ h => rowA_nil rfl _ _ h) (.keep (fun _ _ h => box_congr (fun i hi => by match i, hi with | 0, _ => rfl | 1, _ => rfl | 2, _ => rfl | 3, _ => rfl | 4, _ => rfl | 5, _ => rfl | 6, _ => rfl | 7, _ => rfl) _ _ h) (.keep (fun _ _ h => h) (.keep (fun _ _ h => h) (.nil))))) (fun s hphi => ?_)
 subst hu_5
 subst hu_6
 subst hu_7
 subst hu_8
 subst hA_9
 subst hA_10
 obtain ⟨k, v, qs, H⟩ := s
 obtain ⟨hk, hq, hqs, hgn⟩ := hphi
 dsimp only at hk hq hqs hgn ⊢
 have hql : qs.length ≤ k := (by have := congrArg List.length hq; simp at this; omega)
 refine c_row1 (k := 0) rfl (fun ov => ?_)
 refine c_rowlen (k := 0) rfl (fun l63 => ?_)
 replace hp := fun p hm0 => (hp p hm0).mono hgn.le
 replace hr := hr.mono hgn.le
 refine c_seq (c_region ?_)
 refine r_val .none rfl (p_lt rfl rfl) ?_
 refine r_nil (e_next (c_seq ?_))
 refine c_splitd (d := 16) rfl (fun h_11 => ?_) (fun h_11 => ?_)
 · (
 first
 | (exfalso; omega)
 | (
 refine c_cond_t rfl (c_skip (e_next (c_seq (c_block ?_))))
 refine c_seq (c_region ?_)
 refine r_iaddr_g .none rfl Try.underlying25 sz27 rfl hr rfl (by first | exact odt rfl | omega) (fun p_13 o_14 R_12 => ?_)
 have hc_15 := hp _ (getD_mem (i := k) (d := d0) (by omega))
 refine r_val .none rfl (p_ldga0 Try.underlying27 rfl sz27 rfl R_12 (by first | exact odt rfl | omega) (rfl : _ = Value.agg #[_, _, _, _, _, _, _, _])) ?_
 refine r_alloc .none rfl zr27 (IsRow.lit _) (fun b_4 => ?_)
 refine r_stw (k := 0) .none sz27 rfl rfl (IsRow.lit _) (one_lit rfl (all_cons rfl (all_cons rfl (all_cons rfl (all_cons rfl (all_cons rfl (all_cons rfl (all_cons rfl (all_cons (hc_15).one rfl))))))))) rfl ?_
 refine r_nil (e_next ?_)
 refine c_region_d (fun j => [5, 6, 7].contains j) _ mixed (.keep (fun _ _ h => h) (.keep (fun _ _ h => h) (.keep (fun _ _ h => h) (.keep (fun _ _ h => h) (.keep (fun _ _ h => h) (.nil)))))) ?_
 refine d_val1 0 rfl rfl (by kernel_rfl) (fun j hj => by have h : 7 < j := (Nat.lt_of_lt_of_le (by decide : 7 < 8) hj); simp; omega) .none rfl (p_field Try.underlying38 rfl sz36 rfl) ?_
 refine d_val1 1 rfl rfl (by kernel_rfl) (fun j hj => by have h : 7 < j := (Nat.lt_of_lt_of_le (by decide : 7 < 8) hj); simp; omega) .none rfl (p_ld (k := 2) Try.underlying36 rfl rfl rfl (by first | exact odt rfl | omega) rfl) ?_
 refine d_val1 2 rfl rfl (by kernel_rfl) (fun j hj => by have h : 7 < j := (Nat.lt_of_lt_of_le (by decide : 7 < 8) hj); simp; omega) .none rfl (p_ldw (k := 0) Try.underlying27 rfl sz27 rfl rfl (rfl : _ = Value.agg #[_, _, _, _, _, _, _, _])) ?_
 refine d_eff 3 rfl (by kernel_rfl) (fun K_16 hKK_16 hcK_16 => ?_)
 refine r_callm (vs := [_]) .none rfl cl15 rfl (fun w hw => ih (rs.getD k d0).1 _ _ w (size_at hl (by omega) hz) (size_child hl (by omega) hsz) hc_15 hw) (fun G_17 v_20 hn_18 hr_19 => ?_)
 replace hp := fun p hm0 => (hp p hm0).mono hn_18.le
 replace hr := hr.mono hn_18.le
 replace hqs := fun p hm0 => (hqs p hm0).mono hn_18.le
 replace R_12 := R_12.mono hn_18.le
 replace hc_15 := hc_15.mono hn_18.le
 obtain ⟨u_21, rfl, u_21s⟩ := hr_19
 refine r_nil (e_d (i := 3) (brk := (fun j => [5, 6, 7].contains j)) (ph' := true) hKK_16 hcK_16 rfl (fun _ => hn_18.le) (fun _ => .keep (fun _ _ h => h) (.keep (fun _ _ h => h) (.keep (fun _ _ h => h) (.keep (fun _ _ h => h) (.keep (fun _ _ h => h) (.nil)))))) ?_)
 clear hKK_16 hcK_16 K_16
 refine d_eff 4 rfl (by kernel_rfl) (fun K_22 hKK_22 hcK_22 => ?_)
 refine r_bslice (vs := [(0, Value.agg #[_, _, _, _, _, _, _, _])]) (c := #[_, _, _, _, _, _, _, _]) .none rfl Try.underlying36 el38 rfl rfl rfl (bs38_10a8 _ _ _ _ _ _ _ _) (IsRow.lit _) (fun b_5 => ?_)
 refine r_nil (e_d (i := 4) (brk := (fun j => [5, 6, 7].contains j)) (ph' := true) hKK_22 hcK_22 rfl (fun _ => hn_18.le) (fun _ => .drop (.keep (fun _ _ h => h) (.keep (fun _ _ h => h) (.keep (fun _ _ h => h) (.keep (fun _ _ h => h) (.keep (fun _ _ h => h) (.nil))))))) ?_)
 clear hKK_22 hcK_22 K_22
 refine d_eff 5 rfl (by kernel_rfl) (fun K_23 hKK_23 hcK_23 => ?_)
 refine r_append (k := 2) (k2 := 0) .none rfl Try.underlying36 el38 rfl (by decide) rfl rfl rfl rfl rfl (one_lit rfl (all_cons rfl (all_cons rfl (all_cons rfl (all_cons rfl (all_cons rfl (all_cons rfl (all_cons rfl (all_cons (u_21s).one rfl))))))))) (by simp only [maxLen]; omega) (by omega) (fun v_24 => ?_)
 refine r_row1 (k := 2) rfl (fun o_25 => ?_)
 refine r_nil (e_d (i := 5) (brk := (fun j => [5, 6, 7].contains j)) (ph' := false) hKK_23 hcK_23 rfl (fun h => by cases h) (fun h => by cases h) ?_)
 clear hKK_23 hcK_23 K_23
 refine d_val2 6 rfl rfl (by kernel_rfl) .none rfl (fun _ => p_field Try.underlying38 rfl sz36 rfl) ?_
 refine d_eff 7 rfl (by kernel_rfl) (fun K_26 hKK_26 hcK_26 => ?_)
 refine r_st (k := 3) .none sz36 rfl rfl o_25 rfl (by first | exact odt rfl | omega) ?_
 refine r_nil (e_d (i := 7) (brk := (fun j => [5, 6, 7].contains j)) (ph' := false) hKK_26 hcK_26 rfl (fun h => by cases h) (fun h => by cases h) ?_)
 clear hKK_26 hcK_26 K_26
 refine d_nil (by kernel_rfl) ?_
 refine e_norm_block ?_
 refine e_next (c_region ?_)
 refine r_val .none rfl (p_add rfl rfl (by omega)) ?_
 refine r_val .none rfl (p_move rfl) (r_nil ?_)
 refine e_round ((k + 1, _, qs ++ [((rs.getD k d0).1, u_21)], _)) ⟨⟨by dsimp only; omega, by rw [map_take (d := d0) (by omega), List.map_append, hq]; rfl, (fun p hp' => by rcases List.mem_append.1 hp' with h | h; exact hqs p h; rw [List.mem_singleton.1 h]; exact u_21s), (hgn.trans hn_18)⟩, by dsimp only; omega⟩ rfl ⟨rfl, rfl, rfl, rfl, rfl, trivial⟩ (.drop (.drop (.keep (fun _ _ h => rowA_snoc (l := qs) (x := ((rs.getD k d0).1, u_21)) rfl rfl rfl rfl _ _ h) (.keep (fun _ _ h => box_congr (fun i hi => by match i, hi with | 0, _ => rfl | 1, _ => rfl | 2, _ => rfl | 3, _ => rfl | 4, _ => rfl | 5, _ => rfl | 6, _ => rfl | 7, _ => rfl) _ _ h) (.keep (fun _ _ h => h) (.keep (fun _ _ h => h) (.nil)))))))))
 · (
 first
 | (exfalso; omega)
 | (
 refine c_cond_f rfl (c_exit (e_exit_then (e_exit_then ?_)))
 refine e_exit_block ?_
 refine e_next (c_seq (c_region ?_))
 refine r_val .none rfl (p_ldw (k := 1) Try.underlying38 rfl sz38 rfl rfl (rfl : _ = Value.agg #[_, _, _, _, _, _, _, _])) ?_
 refine r_stw (k := 2) .none sz38 rfl rfl (IsRow.lit _) (one_lit rfl (all_cons rfl (all_cons rfl (all_cons rfl (all_cons rfl (all_cons rfl (all_cons rfl (all_cons rfl (all_cons ov rfl))))))))) rfl ?_
 refine r_nil (e_next ?_)
 refine c_ret ?_
 refine e_freeze (k := 0) rfl (fun G_27 hn_28 hs_29 => ?_)
 replace hp := fun p hm0 => (hp p hm0).mono hn_28.le
 replace hr := hr.mono hn_28.le
 replace hqs := fun p hm0 => (hqs p hm0).mono hn_28.le
 refine e_ret1 Try.results15 (.cell (k := 1) rfl Try.underlying38 rfl sz38 rfl (rfl : _ = Value.agg #[_, _, _, _, _, _, _, _]) .nil) (fun w hm => ⟨_, (hgn.trans hn_28), hm.has, ⟨_, rfl, ?_⟩, hm.since⟩)
 rw [show c.subs = qs.map Prod.fst by rw [hl, hq, List.take_of_length_le (by simp; omega)]]
 exact Tr.mk qs (SlL.of d0 (fun _ => rfl) rfl hs_29) hqs)))
 · (
 refine r_alloc .none rfl zr38 (IsRow.lit _) (fun b_6 => ?_)
 refine r_nil (e_d (i := 6) (brk := (fun _ => false)) (ph' := true) hKK_1 hcK_1 rfl (fun _ => GLe.refl _) (fun _ => .drop (.keep (fun _ _ h => h) (.keep (fun _ _ h => h) (.nil)))) ?_)
 clear hKK_1 hcK_1 K_1
 refine d_eff 4 rfl (by kernel_rfl) (fun K_30 hKK_30 hcK_30 => ?_)
 refine r_call (vs := [_]) .none rfl cl38 rfl (fun w hw => c_ref _ _ _ _ _ _ w) ?_
 refine r_nil (e_d (i := 4) (brk := (fun _ => false)) (ph' := true) hKK_30 hcK_30 rfl (fun _ => GLe.refl _) (fun _ => .drop (.keep (fun _ _ h => h) (.keep (fun _ _ h => h) (.nil)))) ?_)
 clear hKK_30 hcK_30 K_30
 refine d_val1 5 rfl rfl (by kernel_rfl) (fun _ _ => rfl) .none rfl (p_build (vs := [(0, Value.int _ _), (1, Value.agg #[_, _, _, _, _, _])]) rfl (bl38_0i1_1a6 _ _ _ _ _ _ _)) ?_
 refine d_eff 7 rfl (by kernel_rfl) (fun K_31 hKK_31 hcK_31 => ?_)
 refine r_stw (k := 0) .none sz38 rfl rfl (IsRow.lit _) (one_lit rfl rfl) rfl ?_
 refine r_nil (e_d (i := 7) (brk := (fun _ => false)) (ph' := true) hKK_31 hcK_31 rfl (fun _ => GLe.refl _) (fun _ => .drop (.keep (fun _ _ h => h) (.keep (fun _ _ h => h) (.nil)))) ?_)
 clear hKK_31 hcK_31 K_31
 refine d_nil (by kernel_rfl) ?_
 refine e_next (c_seq (c_seq (c_region ?_)))
 refine r_val .none rfl (p_field Try.underlying27 rfl sz25 rfl) ?_
 refine r_val .none rfl (p_ld (k := 2) Try.underlying25 rfl rfl rfl (by first | exact odt rfl | omega) rfl) ?_
 refine r_val .none rfl (p_leng Try.underlying25 rfl hr) ?_
 have bd_32 := (hr).bound
 refine r_val .none rfl (p_move rfl) (r_nil (e_next (c_block ?_)))
 refine c_nilrow 38 8 ?_
 refine c_name (d := 2) rfl (fun u_33 hu_33 => ?_)
 refine c_name (d := 3) rfl (fun u_34 hu_34 => ?_)
 refine c_name (d := 13) rfl (fun u_35 hu_35 => ?_)
 refine c_name (d := 14) rfl (fun u_36 hu_36 => ?_)
 refine c_nameL (k := 2) rfl (fun A_37 hA_37 => ?_)
 refine c_nameL (k := 3) rfl (fun A_38 hA_38 => ?_)
 refine c_loop (σ := Nat × Value × List (CT × Value) × Ghost) (fun s => [(15, Value.int .i64 (s.1 : Nat)), (2, u_33), (3, u_34), (13, u_35), (14, u_36)]) (fun s => [rowA (s.2.1) 38 8 (s.2.2.1).length ((s.2.2.1).flatMap rvC), box b_6 8 38 (at_ [.int .i64 c.h.k, .int .i64 (vi c.h.v0), .int .i64 c.h.n0, .int .i64 (vi c.h.v1), .int .i64 c.h.n1, .int .i64 (vi c.h.v2), .int .i64 c.h.n2, s.2.1]), A_37, A_38]) (fun s => s.2.2.2) (fun s => s.1 ≤ rs.length ∧ s.2.2.1.map Prod.fst = (rs.map Prod.fst).take s.1 ∧ (∀ p ∈ s.2.2.1, Rs s.2.2.2 p.2 p.1.subs) ∧ GNew w nX G s.2.2.2) (fun s => rs.length - s.1) ((0, _, [], _)) ⟨Nat.zero_le _, rfl, by simp, GNew.refl _ _ _⟩ rfl ⟨rfl, rfl, rfl, rfl, rfl, trivial⟩ (.keep (fun _ _ h => rowA_nil rfl _ _ h) (.keep (fun _ _ h => box_congr (fun i hi => by match i, hi with | 0, _ => rfl | 1, _ => rfl | 2, _ => rfl | 3, _ => rfl | 4, _ => rfl | 5, _ => rfl | 6, _ => rfl | 7, _ => rfl) _ _ h) (.keep (fun _ _ h => h) (.keep (fun _ _ h => h) (.nil))))) (fun s hphi => ?_)
 subst hu_33
 subst hu_34
 subst hu_35
 subst hu_36
 subst hA_37
 subst hA_38
 obtain ⟨k, v, qs, H⟩ := s
 obtain ⟨hk, hq, hqs, hgn⟩ := hphi
 dsimp only at hk hq hqs hgn ⊢
 have hql : qs.length ≤ k := (by have := congrArg List.length hq; simp at this; omega)
 refine c_row1 (k := 0) rfl (fun ov => ?_)
 refine c_rowlen (k := 0) rfl (fun l63 => ?_)
 replace hp := fun p hm0 => (hp p hm0).mono hgn.le
 replace hr := hr.mono hgn.le
 refine c_seq (c_region ?_)
 refine r_val .none rfl (p_lt rfl rfl) ?_
 refine r_nil (e_next (c_seq ?_))
 refine c_splitd (d := 16) rfl (fun h_39 => ?_) (fun h_39 => ?_)
 · (
 first
 | (exfalso; omega)
 | (
 refine c_cond_t rfl (c_skip (e_next (c_seq (c_block ?_))))
 refine c_seq (c_region ?_)
 refine r_iaddr_g .none rfl Try.underlying25 sz27 rfl hr rfl (by first | exact odt rfl | omega) (fun p_41 o_42 R_40 => ?_)
 have hc_43 := hp _ (getD_mem (i := k) (d := d0) (by omega))
 refine r_val .none rfl (p_ldga0 Try.underlying27 rfl sz27 rfl R_40 (by first | exact odt rfl | omega) (rfl : _ = Value.agg #[_, _, _, _, _, _, _, _])) ?_
 refine r_alloc .none rfl zr27 (IsRow.lit _) (fun b_7 => ?_)
 refine r_stw (k := 0) .none sz27 rfl rfl (IsRow.lit _) (one_lit rfl (all_cons rfl (all_cons rfl (all_cons rfl (all_cons rfl (all_cons rfl (all_cons rfl (all_cons rfl (all_cons (hc_43).one rfl))))))))) rfl ?_
 refine r_nil (e_next ?_)
 refine c_region_d (fun j => [5, 6, 7].contains j) _ mixed (.keep (fun _ _ h => h) (.keep (fun _ _ h => h) (.keep (fun _ _ h => h) (.keep (fun _ _ h => h) (.keep (fun _ _ h => h) (.nil)))))) ?_
 refine d_val1 0 rfl rfl (by kernel_rfl) (fun j hj => by have h : 7 < j := (Nat.lt_of_lt_of_le (by decide : 7 < 8) hj); simp; omega) .none rfl (p_field Try.underlying38 rfl sz36 rfl) ?_
 refine d_val1 1 rfl rfl (by kernel_rfl) (fun j hj => by have h : 7 < j := (Nat.lt_of_lt_of_le (by decide : 7 < 8) hj); simp; omega) .none rfl (p_ld (k := 2) Try.underlying36 rfl rfl rfl (by first | exact odt rfl | omega) rfl) ?_
 refine d_val1 2 rfl rfl (by kernel_rfl) (fun j hj => by have h : 7 < j := (Nat.lt_of_lt_of_le (by decide : 7 < 8) hj); simp; omega) .none rfl (p_ldw (k := 0) Try.underlying27 rfl sz27 rfl rfl (rfl : _ = Value.agg #[_, _, _, _, _, _, _, _])) ?_
 refine d_eff 3 rfl (by kernel_rfl) (fun K_44 hKK_44 hcK_44 => ?_)
 refine r_callm (vs := [_]) .none rfl cl15 rfl (fun w hw => ih (rs.getD k d0).1 _ _ w (size_at hl (by omega) hz) (size_child hl (by omega) hsz) hc_43 hw) (fun G_45 v_48 hn_46 hr_47 => ?_)
 replace hp := fun p hm0 => (hp p hm0).mono hn_46.le
 replace hr := hr.mono hn_46.le
 replace hqs := fun p hm0 => (hqs p hm0).mono hn_46.le
 replace R_40 := R_40.mono hn_46.le
 replace hc_43 := hc_43.mono hn_46.le
 obtain ⟨u_49, rfl, u_49s⟩ := hr_47
 refine r_nil (e_d (i := 3) (brk := (fun j => [5, 6, 7].contains j)) (ph' := true) hKK_44 hcK_44 rfl (fun _ => hn_46.le) (fun _ => .keep (fun _ _ h => h) (.keep (fun _ _ h => h) (.keep (fun _ _ h => h) (.keep (fun _ _ h => h) (.keep (fun _ _ h => h) (.nil)))))) ?_)
 clear hKK_44 hcK_44 K_44
 refine d_eff 4 rfl (by kernel_rfl) (fun K_50 hKK_50 hcK_50 => ?_)
 refine r_bslice (vs := [(0, Value.agg #[_, _, _, _, _, _, _, _])]) (c := #[_, _, _, _, _, _, _, _]) .none rfl Try.underlying36 el38 rfl rfl rfl (bs38_10a8 _ _ _ _ _ _ _ _) (IsRow.lit _) (fun b_8 => ?_)
 refine r_nil (e_d (i := 4) (brk := (fun j => [5, 6, 7].contains j)) (ph' := true) hKK_50 hcK_50 rfl (fun _ => hn_46.le) (fun _ => .drop (.keep (fun _ _ h => h) (.keep (fun _ _ h => h) (.keep (fun _ _ h => h) (.keep (fun _ _ h => h) (.keep (fun _ _ h => h) (.nil))))))) ?_)
 clear hKK_50 hcK_50 K_50
 refine d_eff 5 rfl (by kernel_rfl) (fun K_51 hKK_51 hcK_51 => ?_)
 refine r_append (k := 2) (k2 := 0) .none rfl Try.underlying36 el38 rfl (by decide) rfl rfl rfl rfl rfl (one_lit rfl (all_cons rfl (all_cons rfl (all_cons rfl (all_cons rfl (all_cons rfl (all_cons rfl (all_cons rfl (all_cons (u_49s).one rfl))))))))) (by simp only [maxLen]; omega) (by omega) (fun v_52 => ?_)
 refine r_row1 (k := 2) rfl (fun o_53 => ?_)
 refine r_nil (e_d (i := 5) (brk := (fun j => [5, 6, 7].contains j)) (ph' := false) hKK_51 hcK_51 rfl (fun h => by cases h) (fun h => by cases h) ?_)
 clear hKK_51 hcK_51 K_51
 refine d_val2 6 rfl rfl (by kernel_rfl) .none rfl (fun _ => p_field Try.underlying38 rfl sz36 rfl) ?_
 refine d_eff 7 rfl (by kernel_rfl) (fun K_54 hKK_54 hcK_54 => ?_)
 refine r_st (k := 3) .none sz36 rfl rfl o_53 rfl (by first | exact odt rfl | omega) ?_
 refine r_nil (e_d (i := 7) (brk := (fun j => [5, 6, 7].contains j)) (ph' := false) hKK_54 hcK_54 rfl (fun h => by cases h) (fun h => by cases h) ?_)
 clear hKK_54 hcK_54 K_54
 refine d_nil (by kernel_rfl) ?_
 refine e_norm_block ?_
 refine e_next (c_region ?_)
 refine r_val .none rfl (p_add rfl rfl (by omega)) ?_
 refine r_val .none rfl (p_move rfl) (r_nil ?_)
 refine e_round ((k + 1, _, qs ++ [((rs.getD k d0).1, u_49)], _)) ⟨⟨by dsimp only; omega, by rw [map_take (d := d0) (by omega), List.map_append, hq]; rfl, (fun p hp' => by rcases List.mem_append.1 hp' with h | h; exact hqs p h; rw [List.mem_singleton.1 h]; exact u_49s), (hgn.trans hn_46)⟩, by dsimp only; omega⟩ rfl ⟨rfl, rfl, rfl, rfl, rfl, trivial⟩ (.drop (.drop (.keep (fun _ _ h => rowA_snoc (l := qs) (x := ((rs.getD k d0).1, u_49)) rfl rfl rfl rfl _ _ h) (.keep (fun _ _ h => box_congr (fun i hi => by match i, hi with | 0, _ => rfl | 1, _ => rfl | 2, _ => rfl | 3, _ => rfl | 4, _ => rfl | 5, _ => rfl | 6, _ => rfl | 7, _ => rfl) _ _ h) (.keep (fun _ _ h => h) (.keep (fun _ _ h => h) (.nil)))))))))
 · (
 first
 | (exfalso; omega)
 | (
 refine c_cond_f rfl (c_exit (e_exit_then (e_exit_then ?_)))
 refine e_exit_block ?_
 refine e_next (c_seq (c_region ?_))
 refine r_val .none rfl (p_ldw (k := 1) Try.underlying38 rfl sz38 rfl rfl (rfl : _ = Value.agg #[_, _, _, _, _, _, _, _])) ?_
 refine r_stw (k := 2) .none sz38 rfl rfl (IsRow.lit _) (one_lit rfl (all_cons rfl (all_cons rfl (all_cons rfl (all_cons rfl (all_cons rfl (all_cons rfl (all_cons rfl (all_cons ov rfl))))))))) rfl ?_
 refine r_nil (e_next ?_)
 refine c_ret ?_
 refine e_freeze (k := 0) rfl (fun G_55 hn_56 hs_57 => ?_)
 replace hp := fun p hm0 => (hp p hm0).mono hn_56.le
 replace hr := hr.mono hn_56.le
 replace hqs := fun p hm0 => (hqs p hm0).mono hn_56.le
 refine e_ret1 Try.results15 (.cell (k := 1) rfl Try.underlying38 rfl sz38 rfl (rfl : _ = Value.agg #[_, _, _, _, _, _, _, _]) .nil) (fun w hm => ⟨_, (hgn.trans hn_56), hm.has, ⟨_, rfl, ?_⟩, hm.since⟩)
 rw [show c.subs = qs.map Prod.fst by rw [hl, hq, List.take_of_length_le (by simp; omega)]]
 exact Tr.mk qs (SlL.of d0 (fun _ => rfl) rfl hs_57) hqs)))
theorem c_ref4_n : ∀ n, RefIs n
 | 0 => fun c sv G w hz hsz hs hG => absurd hz (by have := size_subs c; omega)
 | n + 1 => fun c sv G w hz hsz hs hG => c_ref4_s n (c_ref4_n n) c sv hz hsz hs w hG
theorem c_ref4 (c : CT) (sv : Value) {G : Ghost} (hsz : size c ≤ 1000) (hs : Cs G sv c.subs) (w : World) (hG : Has G w) : Calls Try.prog 15 #[Value.agg #[Value.int .i64 c.h.k, Value.bool c.h.v0, Value.int .i64 c.h.n0, Value.bool c.h.v1, Value.int .i64 c.h.n1, Value.bool c.h.v2, Value.int .i64 c.h.n2, sv]] w (Ret fun r w' => ∃ G', GNew w nX G G' ∧ Has G' w' ∧ (∃ u, r = Value.agg #[Value.int .i64 c.h.k, Value.int .i64 (vi c.h.v0), Value.int .i64 c.h.n0, Value.int .i64 (vi c.h.v1), Value.int .i64 c.h.n1, Value.int .i64 (vi c.h.v2), Value.int .i64 c.h.n2, u] ∧ Rs G' u c.subs) ∧ Since nX w w') := c_ref4_n _ c sv G w (Nat.le_refl _) hsz hs hG
end Go.Proofs.Ytpcpbfajadgmpaa

/-
  GX: a block of the call's own stays as it is from now on, and is a slice. Generic in the program.
-/
namespace Go.Gx
open Go.RowKit

section
variable {P : Program} {ops : Array Oper} {Q : Exit → Act → World → Prop} {N : Nat} {X : Nat → Prop} {w0 : World} {G : Ghost} {l : List (Nat × Value)} {L : List Asrt}
variable {rest : List Oper}

theorem Mem.freezeB {w : World} {k n m sz b : Nat} {E : TypeId} {f : Nat → Value} (h : Mem X w0 G w L) (hL : L[k]? = some (box b n E f)) (hn : n = m * sz) (hm : m ≤ 1000) :
    ∃ G', GNew w0 X G G' ∧ SlG G' (.slice (some ⟨b, 0, none⟩) m m) m sz (fun i j => f (i * sz + j)) ∧ Mem X w0 G' w (L.eraseIdx k) := by
  obtain ⟨F, ⟨⟨c, hc, hr⟩, hF⟩, hU, hsep⟩ := h.sep.erase hL
  have hgF : F b := (hF b).2 rfl
  have hgU := hU b hgF
  refine ⟨fun b' => if b' = b then some (.cells c E (0, 0)) else G b', ⟨fun b' o e => ?_, fun b' e e' => ?_⟩, ?_, h.since, fun b' o e => ?_, hsep.mono (fun b' _ hb => ⟨hb.1.1, ?_⟩)⟩
  · have : b' ≠ b := fun e2 => by subst e2; rw [hgU.2] at e; cases e
    simp only [if_neg this]; exact e
  · by_cases e2 : b' = b
    · subst e2; exact hgU.1
    · simp only [if_neg e2] at e'; exact absurd e e'
  · refine ⟨some ⟨b, 0, none⟩, m, rfl, ⟨Nat.le_refl _, by simp only [maxLen]; omega⟩, fun _ => ⟨b, 0, rfl, fun i hi => ⟨c, E, (0, 0), by simp, fun j hj => ?_⟩⟩⟩
    have hlt : i * sz + j < n := by
      have := Nat.mul_le_mul_right sz (show i + 1 ≤ m from hi)
      rw [Nat.add_mul, Nat.one_mul] at this; omega
    rw [Nat.zero_add]
    exact hr.get _ hlt
  · by_cases e2 : b' = b
    · subst e2; simp only [if_true, Option.some.injEq] at e; subst e; exact hc
    · simp only [if_neg e2] at e; exact h.has b' o e
  · have : b' ≠ b := fun e2 => hb.2 (by rw [e2]; exact hgF)
    simp only [if_neg this]; exact hb.1.2

theorem r_freezeB {k n b E : Nat} {f : Nat → Value} (m sz : Nat) (hL : L[k]? = some (box b n E f)) (hn : n = m * sz) (hm : m ≤ 1000)
    (h : ∀ G', GNew w0 X G G' → SlG G' (.slice (some ⟨b, 0, none⟩) m m) m sz (fun i j => f (i * sz + j)) → Runs P ops Q N X w0 G' rest l (L.eraseIdx k)) : Runs P ops Q N X w0 G rest l L := by
  intro a w hS
  obtain ⟨G', h1, h2, h3⟩ := hS.mem.freezeB hL hn hm
  exact h G' h1 h2 a w ⟨hS.fr, h3⟩

end

section
variable {P : Program} {ops : Array Oper} {brk : Nat → Bool} {G0 : Ghost} {L0 : List Asrt} {Q : Exit → Act → World → Prop} {N : Nat} {X : Nat → Prop} {w0 : World} {G : Ghost} {l : List (Nat × Value)} {L : List Asrt}
variable {d n : Nat} {listed : Array Bool} {ty : TypeId} {pos : String} {after : Array Edge} {gd : Option (Nat × Bool)} {v : Value} {T E : TypeId} {m sz : Nat} {q : IntKind} {f : Nat → Nat → Value} {x o : Operand}
end

/-- One element in a block of its own. -/
theorem SlG.single {α : Type} {G : Ghost} {v : Value} {sz : Nat} {f : Nat → Nat → Value} {cells : α → List Value} {e : α} (a : α) (h : SlG G v 1 sz f) (hc : ∀ j, j < sz → f 0 j = at_ (cells a) j) : SlL G v sz cells e [a] := by
  refine SlG.congr h (fun i hi j hj => ?_)
  have hi' : i < 1 := hi
  obtain rfl : i = 0 := by omega
  exact hc j hj
end Go.Gx
namespace Go.Gx
open Go.RowKit
section
variable {P : Program} {ops : Array Oper} {brk : Nat → Bool} {G0 : Ghost} {L0 : List Asrt} {Q : Exit → Act → World → Prop} {N : Nat} {X : Nat → Prop} {w0 : World} {G : Ghost} {l : List (Nat × Value)} {L : List Asrt}
variable {d n : Nat} {listed : Array Bool} {ty : TypeId} {pos : String} {after : Array Edge} {gd : Option (Nat × Bool)} {v : Value} {T E : TypeId} {m sz : Nat} {q : IntKind} {f : Nat → Nat → Value} {x y : Operand}
end
end Go.Gx

/- Walks: what Go functions of this chapter come to, each as a function on plain data; no condition but those that each theorem names. Printed by a program of this work (gen.py). -/
namespace Go.Proofs.Ytpcpbfajadgmpaa
open Go.Gx Go.Gx.T3 Go.Gx.T4 Go.Gx.T3
theorem cl32 : Callable Try.prog 32 := callable Try.func32 (by kernel_rfl) rfl
theorem bl23_1i1 (x0 : Int) : Program.built Try.prog 23 [(1, Value.int .i64 x0)] = some #[Value.bool false, Value.int .i64 x0] := by
 kernel_rfl
theorem bl23_0b1_1i1 (x0 : Bool) (x1 : Int) : Program.built Try.prog 23 [(0, Value.bool x0), (1, Value.int .i64 x1)] = some #[Value.bool x0, Value.int .i64 x1] := by
 kernel_rfl
theorem bl24_0a2_1a2_2a2 (x0 : Value) (x1 : Value) (x2 : Value) (x3 : Value) (x4 : Value) (x5 : Value) : Program.built Try.prog 24 [(0, Value.agg #[x0, x1]), (1, Value.agg #[x2, x3]), (2, Value.agg #[x4, x5])] = some #[x0, x1, x2, x3, x4, x5] := by
 kernel_rfl
theorem bl27_0i1_1a6 (x0 : Int) (x1 : Value) (x2 : Value) (x3 : Value) (x4 : Value) (x5 : Value) (x6 : Value) : Program.built Try.prog 27 [(0, Value.int .i64 x0), (1, Value.agg #[x1, x2, x3, x4, x5, x6])] = some #[Value.int .i64 x0, x1, x2, x3, x4, x5, x6, Value.slice none 0 0] := by
 kernel_rfl
theorem bl27_0i1_2s3 (x0 : Int) (x1 : Option Addr) (x2 : Nat) (x3 : Nat) : Program.built Try.prog 27 [(0, Value.int .i64 x0), (2, Value.slice x1 x2 x3)] = some #[Value.int .i64 x0, Value.bool false, Value.int .i64 0, Value.bool false, Value.int .i64 0, Value.bool false, Value.int .i64 0, Value.slice x1 x2 x3] := by
 kernel_rfl
theorem bs27_10a8 (a0 a1 a2 a3 a4 a5 a6 a7 : Value) : Instr.fill (fun i => some (i * 8, 8)) ((Array.range (1 * 8)).map ((Value.agg #[Value.int .i64 0, Value.bool false, Value.int .i64 0, Value.bool false, Value.int .i64 0, Value.bool false, Value.int .i64 0, Value.slice none 0 0]).cells[· % (Value.agg #[Value.int .i64 0, Value.bool false, Value.int .i64 0, Value.bool false, Value.int .i64 0, Value.bool false, Value.int .i64 0, Value.slice none 0 0]).cells.size]!)) [(0, Value.agg #[a0, a1, a2, a3, a4, a5, a6, a7])] = some #[a0, a1, a2, a3, a4, a5, a6, a7] := by
 kernel_rfl
theorem el27 : ElemIs Try.prog 27 8 80 (Value.agg #[Value.int .i64 0, Value.bool false, Value.int .i64 0, Value.bool false, Value.int .i64 0, Value.bool false, Value.int .i64 0, Value.slice none 0 0]) := by
 unfold ElemIs
 kernel_rfl
def SizeIs (n : Nat) : Prop := ∀ (c : CT) (sv : Value) (G : Ghost) (w : World), SizeOf.sizeOf c ≤ n → size c ≤ 1000 → Cs G sv c.subs → Has G w → Calls Try.prog 32 #[Value.agg #[Value.int .i64 c.h.k, Value.bool c.h.v0, Value.int .i64 c.h.n0, Value.bool c.h.v1, Value.int .i64 c.h.n1, Value.bool c.h.v2, Value.int .i64 c.h.n2, sv]] w (Ret fun r w' => r = Value.int .i64 (size c : Nat) ∧ Since nX w w')
theorem c_size_s (n : Nat) (ih : SizeIs n) (c : CT) (sv : Value)  {G : Ghost} (hz : SizeOf.sizeOf c ≤ n + 1) (hsz : size c ≤ 1000) (hs : Cs G sv c.subs) (w : World) (hG : Has G w) :
    Calls Try.prog 32 #[Value.agg #[Value.int .i64 c.h.k, Value.bool c.h.v0, Value.int .i64 c.h.n0, Value.bool c.h.v1, Value.int .i64 c.h.n1, Value.bool c.h.v2, Value.int .i64 c.h.n2, sv]] w (Ret fun r w' => r = Value.int .i64 (size c : Nat) ∧ Since nX w w') := by
 refine enter (args := [_]) (X := nX) (G := G) (l := [(0, Value.agg #[Value.int .i64 c.h.k, Value.bool c.h.v0, Value.int .i64 c.h.n0, Value.bool c.h.v1, Value.int .i64 c.h.n1, Value.bool c.h.v2, Value.int .i64 c.h.n2, sv])]) Try.func32 rfl Try.ntmps32 hG ⟨rfl, trivial⟩ (Nat.le_of_ble_eq_true rfl) ?_
 obtain ⟨rs, hr, hp, hl⟩ := hs.inv
 have hlen : c.subs.length = rs.length := by rw [hl]; simp
 have hbd := hr.bound
 refine c_seq (c_region ?_)
 refine r_box .none rfl rfl (IsRow.lit _) (fun b_1 => ?_)
 refine r_val .none rfl (p_assign rfl) (r_nil (e_next (c_seq (c_region ?_))))
 refine r_val .none rfl (p_assign rfl) (r_nil (e_next (c_seq (c_seq ?_))))
 refine c_region ?_
 refine r_val .none rfl (p_field Try.underlying27 rfl sz25 rfl) ?_
 refine r_val .none rfl (p_ld (k := 0) Try.underlying25 rfl rfl rfl (by first | exact odt rfl | omega) rfl) ?_
 refine r_val .none rfl (p_leng Try.underlying25 rfl hr) ?_
 have bd_1 := (hr).bound
 refine r_val .none rfl (p_move rfl) (r_nil (e_next (c_block ?_)))
 refine c_name (d := 2) rfl (fun u_2 hu_2 => ?_)
 refine c_name (d := 7) rfl (fun u_3 hu_3 => ?_)
 refine c_name (d := 8) rfl (fun u_4 hu_4 => ?_)
 refine c_nameL (k := 0) rfl (fun A_5 hA_5 => ?_)
 refine c_loop (σ := Nat) (fun k => [(9, Value.int .i64 (k : Nat)), (3, Value.int .i64 (1 + sizeL ((rs.map Prod.fst).take k) : Nat)), (2, u_2), (7, u_3), (8, u_4)]) (fun k => [A_5]) (fun _ => _) (fun k => k ≤ rs.length) (fun k => rs.length - k) (0) (by omega) rfl ⟨rfl, rfl, rfl, rfl, rfl, trivial⟩ (.keep (fun _ _ h => h) (.nil)) (fun k hphi => ?_)
 subst hu_2
 subst hu_3
 subst hu_4
 subst hA_5
 refine c_seq (c_region ?_)
 refine r_val .none rfl (p_lt rfl rfl) ?_
 refine r_nil (e_next (c_seq ?_))
 refine c_splitd (d := 10) rfl (fun h_6 => ?_) (fun h_6 => ?_)
 · (
 first
 | (exfalso; omega)
 | (
 refine c_cond_t rfl (c_skip (e_next (c_seq (c_block ?_))))
 refine c_seq (c_region ?_)
 refine r_iaddr_g .none rfl Try.underlying25 sz27 rfl hr rfl (by first | exact odt rfl | omega) (fun p_8 o_9 R_7 => ?_)
 have hc_10 := hp _ (getD_mem (i := k) (d := d0) (by omega))
 have hz3 := size_child (i := k) hl (by omega) hsz
 refine r_val .none rfl (p_ldga0 Try.underlying27 rfl sz27 rfl R_7 (by first | exact odt rfl | omega) (rfl : _ = Value.agg #[_, _, _, _, _, _, _, _])) ?_
 refine r_alloc .none rfl zr27 (IsRow.lit _) (fun b_2 => ?_)
 refine r_stw (k := 0) .none sz27 rfl rfl (IsRow.lit _) (one_lit rfl (all_cons rfl (all_cons rfl (all_cons rfl (all_cons rfl (all_cons rfl (all_cons rfl (all_cons rfl (all_cons (hc_10).one rfl))))))))) rfl ?_
 refine r_nil (e_next (c_region (r_val .none rfl (p_move rfl) ?_)))
 refine r_val .none rfl (p_ldw (k := 0) Try.underlying27 rfl sz27 rfl rfl (rfl : _ = Value.agg #[_, _, _, _, _, _, _, _])) ?_
 refine r_call (vs := [_]) .none rfl cl32 rfl (fun w hw => ih (rs.getD k d0).1 _ _ w (size_at hl (by omega) hz) hz3 hc_10 hw) ?_
 refine r_val .none rfl (p_add rfl rfl (by have h1 := sizeL_take_le (rs.map Prod.fst) k; have h2 := size_eq c; rw [hl] at h2; omega)) ?_
 refine r_val .none rfl (p_assign rfl) (r_nil ?_)
 refine e_norm_block ?_
 refine e_next (c_region ?_)
 refine r_val .none rfl (p_add rfl rfl (by omega)) ?_
 refine r_val .none rfl (p_move rfl) (r_nil ?_)
 refine e_round (k + 1) ⟨by omega, by omega⟩ rfl ⟨rfl, (congrArg (fun z => some (Value.int .i64 z)) (by rw [sizeL_take (by omega)]; omega)), rfl, rfl, rfl, trivial⟩ (.drop (.keep (fun _ _ h => h) (.nil)))))
 · (
 first
 | (exfalso; omega)
 | (
 refine c_cond_f rfl (c_exit (e_exit_then (e_exit_then ?_)))
 refine e_exit_block ?_
 refine e_next (c_seq (c_region (r_val .none rfl (p_move rfl) (r_val .none rfl (p_assign rfl) ?_))))
 refine r_nil (e_next ?_)
 refine c_ret ?_
 refine e_ret1 Try.results32 (.tmp rfl .nil) (fun w hm => ⟨?_, hm.since⟩)
 have hk : k = rs.length := by omega
 subst hk
 rw [size_eq, hl, List.take_of_length_le (by simp)]))
theorem c_size_n : ∀ n, SizeIs n
 | 0 => fun c sv G w hz hsz hs hG => absurd hz (by have := size_subs c; omega)
 | n + 1 => fun c sv G w hz hsz hs hG => c_size_s n (c_size_n n) c sv hz hsz hs w hG
theorem c_size (c : CT) (sv : Value) {G : Ghost} (hsz : size c ≤ 1000) (hs : Cs G sv c.subs) (w : World) (hG : Has G w) : Calls Try.prog 32 #[Value.agg #[Value.int .i64 c.h.k, Value.bool c.h.v0, Value.int .i64 c.h.n0, Value.bool c.h.v1, Value.int .i64 c.h.n1, Value.bool c.h.v2, Value.int .i64 c.h.n2, sv]] w (Ret fun r w' => r = Value.int .i64 (size c : Nat) ∧ Since nX w w') := c_size_n _ c sv G w (Nat.le_refl _) hsz hs hG
theorem c_awake4   (w : World)  :
    Calls Try.prog 12 #[] w (Ret fun r w' => r = Value.bool true ∧ Since nX w w') := by
 refine enter (args := []) (X := nX) (G := (fun _ => none)) (l := []) Try.func12 rfl Try.ntmps12 (fun _ _ h => by cases h) trivial (Nat.le_of_ble_eq_true rfl) ?_
 refine c_seq (c_region (r_val .none rfl (p_assign rfl) (r_nil (e_next ?_))))
 refine c_seq (c_region ?_)
 refine r_val .none rfl (p_build (vs := [(1, Value.int _ _)]) rfl (bl23_1i1 _)) ?_
 refine r_val .none rfl (p_build (vs := [(1, Value.int _ _)]) rfl (bl23_1i1 _)) ?_
 refine r_val .none rfl (p_build (vs := [(0, Value.bool _), (1, Value.int _ _)]) rfl (bl23_0b1_1i1 _ _)) ?_
 refine r_val .none rfl (p_build (vs := [(0, Value.agg #[_, _]), (1, Value.agg #[_, _]), (2, Value.agg #[_, _])]) rfl (bl24_0a2_1a2_2a2 _ _ _ _ _ _)) ?_
 refine r_val .none rfl (p_build (vs := [(0, Value.int _ _), (1, Value.agg #[_, _, _, _, _, _])]) rfl (bl27_0i1_1a6 _ _ _ _ _ _ _)) ?_
 refine r_alloc .none rfl zr27 (IsRow.lit _) (fun b_1 => ?_)
 refine r_stw (k := 0) .none sz27 rfl rfl (IsRow.lit _) (one_lit rfl rfl) rfl ?_
 refine r_nil (e_next (c_seq (c_region ?_)))
 refine r_val .none rfl (p_ldw (k := 0) Try.underlying27 rfl sz27 rfl rfl (rfl : _ = Value.agg #[_, _, _, _, _, _, _, _])) ?_
 refine r_call (vs := [_, _]) .none rfl cl13 rfl (fun w hw => c_check cA _ 1 Tr.nil w hw) ?_
 refine r_val .none rfl (p_assign rfl) (r_nil (e_next (c_seq (c_seq ?_))))
 refine c_region (r_val .none rfl (p_move rfl) (r_nil (e_next (c_block ?_))))
 refine c_unroll 4 ?_
 refine l_round (n := 3) ?_
 refine c_seq (c_region ?_)
 refine r_val .none rfl (p_lt rfl rfl) ?_
 refine r_say (d := 11) (v := Value.bool true) rfl ?_
 refine r_nil (e_next (c_seq (c_cond_t rfl (c_skip ?_))))
 refine e_next (c_seq (c_block (c_region ?_)))
 refine r_val .none rfl (p_ldw (k := 0) Try.underlying27 rfl sz27 rfl rfl (rfl : _ = Value.agg #[_, _, _, _, _, _, _, _])) ?_
 refine r_bslice (vs := [(0, Value.agg #[_, _, _, _, _, _, _, _])]) (c := #[_, _, _, _, _, _, _, _]) .none rfl Try.underlying25 el27 rfl rfl rfl (bs27_10a8 _ _ _ _ _ _ _ _) (IsRow.lit _) (fun b_2 => ?_)
 refine r_freezeB (k := 0) 1 8 rfl rfl (by decide) (fun G_1 hn_2 hs_3 => ?_)
 have hl_5 : SlL G_1 (.slice (some ⟨b_2, 0, none⟩) 1 1) 8 cvC d0 [(cA, (Value.slice none 0 0))] := SlG.single (cA, (Value.slice none 0 0)) hs_3 (fun j hj => by match j, hj with | 0, _ => rfl | 1, _ => rfl | 2, _ => rfl | 3, _ => rfl | 4, _ => rfl | 5, _ => rfl | 6, _ => rfl | 7, _ => rfl)
 have ht_4 : Cs G_1 (.slice (some ⟨b_2, 0, none⟩) 1 1) [cA] := Tr.mk [(cA, (Value.slice none 0 0))] hl_5 (fun p hm0 => by rw [List.mem_singleton.1 hm0]; exact Tr.nil)
 refine r_val .none rfl (p_build (vs := [(0, Value.int _ _), (2, Value.slice _ _ _)]) rfl (bl27_0i1_2s3 _ _ _ _)) ?_
 refine r_stw (k := 0) .none sz27 rfl rfl (IsRow.lit _) (one_lit rfl (all_cons rfl (all_cons rfl (all_cons rfl (all_cons rfl (all_cons rfl (all_cons rfl (all_cons rfl (all_cons (hl_5).one rfl))))))))) rfl ?_
 refine r_nil ?_
 refine e_norm_block ?_
 refine e_next (c_region ?_)
 refine r_val .none rfl (p_add rfl rfl (by omega)) ?_
 refine r_val .none rfl (p_move rfl) (r_nil ?_)
 refine e_again ?_
 refine l_round (n := 2) ?_
 refine c_seq (c_region ?_)
 refine r_val .none rfl (p_lt rfl rfl) ?_
 refine r_say (d := 11) (v := Value.bool true) rfl ?_
 refine r_nil (e_next (c_seq (c_cond_t rfl (c_skip ?_))))
 refine e_next (c_seq (c_block (c_region ?_)))
 refine r_val .none rfl (p_ldw (k := 0) Try.underlying27 rfl sz27 rfl rfl (rfl : _ = Value.agg #[_, _, _, _, _, _, _, _])) ?_
 refine r_bslice (vs := [(0, Value.agg #[_, _, _, _, _, _, _, _])]) (c := #[_, _, _, _, _, _, _, _]) .none rfl Try.underlying25 el27 rfl rfl rfl (bs27_10a8 _ _ _ _ _ _ _ _) (IsRow.lit _) (fun b_3 => ?_)
 refine r_freezeB (k := 0) 1 8 rfl rfl (by decide) (fun G_6 hn_7 hs_8 => ?_)
 replace ht_4 := ht_4.mono hn_7.le
 replace hl_5 := hl_5.mono hn_7.le
 have hl_10 : SlL G_6 (.slice (some ⟨b_3, 0, none⟩) 1 1) 8 cvC d0 [((cB cA), (Value.slice (some ⟨b_2, 0, none⟩) 1 1))] := SlG.single ((cB cA), (Value.slice (some ⟨b_2, 0, none⟩) 1 1)) hs_8 (fun j hj => by match j, hj with | 0, _ => rfl | 1, _ => rfl | 2, _ => rfl | 3, _ => rfl | 4, _ => rfl | 5, _ => rfl | 6, _ => rfl | 7, _ => rfl)
 have ht_9 : Cs G_6 (.slice (some ⟨b_3, 0, none⟩) 1 1) [(cB cA)] := Tr.mk [((cB cA), (Value.slice (some ⟨b_2, 0, none⟩) 1 1))] hl_10 (fun p hm0 => by rw [List.mem_singleton.1 hm0]; exact ht_4)
 refine r_val .none rfl (p_build (vs := [(0, Value.int _ _), (2, Value.slice _ _ _)]) rfl (bl27_0i1_2s3 _ _ _ _)) ?_
 refine r_stw (k := 0) .none sz27 rfl rfl (IsRow.lit _) (one_lit rfl (all_cons rfl (all_cons rfl (all_cons rfl (all_cons rfl (all_cons rfl (all_cons rfl (all_cons rfl (all_cons (hl_10).one rfl))))))))) rfl ?_
 refine r_nil ?_
 refine e_norm_block ?_
 refine e_next (c_region ?_)
 refine r_val .none rfl (p_add rfl rfl (by omega)) ?_
 refine r_val .none rfl (p_move rfl) (r_nil ?_)
 refine e_again ?_
 refine l_round (n := 1) ?_
 refine c_seq (c_region ?_)
 refine r_val .none rfl (p_lt rfl rfl) ?_
 refine r_say (d := 11) (v := Value.bool true) rfl ?_
 refine r_nil (e_next (c_seq (c_cond_t rfl (c_skip ?_))))
 refine e_next (c_seq (c_block (c_region ?_)))
 refine r_val .none rfl (p_ldw (k := 0) Try.underlying27 rfl sz27 rfl rfl (rfl : _ = Value.agg #[_, _, _, _, _, _, _, _])) ?_
 refine r_bslice (vs := [(0, Value.agg #[_, _, _, _, _, _, _, _])]) (c := #[_, _, _, _, _, _, _, _]) .none rfl Try.underlying25 el27 rfl rfl rfl (bs27_10a8 _ _ _ _ _ _ _ _) (IsRow.lit _) (fun b_4 => ?_)
 refine r_freezeB (k := 0) 1 8 rfl rfl (by decide) (fun G_11 hn_12 hs_13 => ?_)
 replace ht_4 := ht_4.mono hn_12.le
 replace hl_5 := hl_5.mono hn_12.le
 replace ht_9 := ht_9.mono hn_12.le
 replace hl_10 := hl_10.mono hn_12.le
 have hl_15 : SlL G_11 (.slice (some ⟨b_4, 0, none⟩) 1 1) 8 cvC d0 [((cB (cB cA)), (Value.slice (some ⟨b_3, 0, none⟩) 1 1))] := SlG.single ((cB (cB cA)), (Value.slice (some ⟨b_3, 0, none⟩) 1 1)) hs_13 (fun j hj => by match j, hj with | 0, _ => rfl | 1, _ => rfl | 2, _ => rfl | 3, _ => rfl | 4, _ => rfl | 5, _ => rfl | 6, _ => rfl | 7, _ => rfl)
 have ht_14 : Cs G_11 (.slice (some ⟨b_4, 0, none⟩) 1 1) [(cB (cB cA))] := Tr.mk [((cB (cB cA)), (Value.slice (some ⟨b_3, 0, none⟩) 1 1))] hl_15 (fun p hm0 => by rw [List.mem_singleton.1 hm0]; exact ht_9)
 refine r_val .none rfl (p_build (vs := [(0, Value.int _ _), (2, Value.slice _ _ _)]) rfl (bl27_0i1_2s3 _ _ _ _)) ?_
 refine r_stw (k := 0) .none sz27 rfl rfl (IsRow.lit _) (one_lit rfl (all_cons rfl (all_cons rfl (all_cons rfl (all_cons rfl (all_cons rfl (all_cons rfl (all_cons rfl (all_cons (hl_15).one rfl))))))))) rfl ?_
 refine r_nil ?_
 refine e_norm_block ?_
 refine e_next (c_region ?_)
 refine r_val .none rfl (p_add rfl rfl (by omega)) ?_
 refine r_val .none rfl (p_move rfl) (r_nil ?_)
 refine e_again ?_
 refine l_round (n := 0) ?_
 refine c_seq (c_region ?_)
 refine r_val .none rfl (p_lt rfl rfl) ?_
 refine r_say (d := 11) (v := Value.bool false) rfl ?_
 refine r_nil (e_next (c_seq (c_cond_f rfl (c_exit ?_))))
 refine e_exit_then (e_exit_then ?_)
 refine e_exit_block ?_
 refine e_next (c_seq (c_region (r_val .none rfl (p_move rfl) ?_)))
 refine r_val .none rfl (p_eq rfl rfl) ?_
 refine r_val .none rfl (p_move rfl) ?_
 refine' r_and (c := 18) (d := 22) [_, _, _, _] rfl (fun h_16 Q_17 hQ_18 => ?_) (fun h_16 Q_17 hQ_18 => ?_) ?_
 rotate_left 1
 · (
 replace h_16 := of_decide_eq_true h_16
 refine r_val (.some rfl rfl) rfl (p_ldw (k := 0) Try.underlying27 rfl sz27 rfl rfl (rfl : _ = Value.agg #[_, _, _, _, _, _, _, _])) ?_
 refine r_call (vs := [_, _]) (.some rfl rfl) rfl cl13 rfl (fun w hw => c_check (cB (cB (cB cA))) _ 1 ht_14 w hw) ?_
 refine r_val (.some rfl rfl) rfl (p_eq rfl rfl) ?_
 refine r_val .none rfl (p_pick_t rfl rfl) ?_
 refine r_nil (e_fin (d := 22) hQ_18 rfl (by repeat (first | exact .refl | refine .put rfl ?_ | refine .say rfl ?_ | refine .say2 rfl (by first | assumption | simp_all) ?_))))
 · (
 repeat (first | refine r_skip rfl (.no rfl rfl) ?_ | refine r_skip rfl (.un rfl rfl) ?_)
 refine r_val (by first | exact .none | exact .some rfl rfl) rfl (p_pick_f rfl rfl) ?_
 refine r_nil (e_fin (d := 22) hQ_18 rfl (by repeat (first | exact .refl | refine .put rfl ?_ | refine .say rfl ?_ | refine .say2 rfl (by first | assumption | simp_all) ?_))))
 refine r_val .none rfl (p_move rfl) ?_
 refine' r_and (c := 23) (d := 30) [_, _, _, _, _, _, _] rfl (fun h_20 Q_21 hQ_22 => ?_) (fun h_20 Q_21 hQ_22 => ?_) ?_
 rotate_left 1
 · (
 try simp only [norms] at h_20
 refine r_val (.some rfl rfl) rfl (p_field Try.underlying27 rfl sz25 rfl) ?_
 refine r_val (.some rfl rfl) rfl (p_ld (k := 0) Try.underlying25 rfl rfl rfl (by first | exact odt rfl | omega) rfl) ?_
 refine r_iaddr_g (i := 0) (.some rfl rfl) rfl Try.underlying25 sz27 rfl hl_15 rfl (by first | exact odt rfl | omega) (fun p_25 o_26 R_24 => ?_)
 refine r_val (.some rfl rfl) rfl (p_ldga0 Try.underlying27 rfl sz27 rfl R_24 (by first | exact odt rfl | omega) (rfl : _ = Value.agg #[_, _, _, _, _, _, _, _])) ?_
 refine r_call (vs := [_, _]) (.some rfl rfl) rfl cl13 rfl (fun w hw => c_check (cB (cB cA)) _ 1 ht_9 w hw) ?_
 refine r_val (.some rfl rfl) rfl (p_eq rfl rfl) ?_
 refine r_val .none rfl (p_pick_t rfl rfl) ?_
 refine r_nil (e_fin (d := 30) hQ_22 rfl (by repeat (first | exact .refl | refine .put rfl ?_ | refine .say rfl ?_ | refine .say2 rfl (by first | assumption | simp_all) ?_))))
 · (
 repeat (first | refine r_skip rfl (.no rfl rfl) ?_ | refine r_skip rfl (.un rfl rfl) ?_)
 refine r_val (by first | exact .none | exact .some rfl rfl) rfl (p_pick_f rfl rfl) ?_
 refine r_nil (e_fin (d := 30) hQ_22 rfl (by repeat (first | exact .refl | refine .put rfl ?_ | refine .say rfl ?_ | refine .say2 rfl (by first | assumption | simp_all) ?_))))
 refine r_val .none rfl (p_move rfl) ?_
 refine' r_and (c := 31) (d := 38) [_, _, _, _, _, _, _] rfl (fun h_27 Q_28 hQ_29 => ?_) (fun h_27 Q_28 hQ_29 => ?_) ?_
 rotate_left 1
 · (
 try simp only [norms] at h_27
 refine r_val (.some rfl rfl) rfl (p_field Try.underlying27 rfl sz25 rfl) ?_
 refine r_val (.some rfl rfl) rfl (p_ld (k := 0) Try.underlying25 rfl rfl rfl (by first | exact odt rfl | omega) rfl) ?_
 refine r_iaddr_g (i := 0) (.some rfl rfl) rfl Try.underlying25 sz27 rfl hl_15 rfl (by first | exact odt rfl | omega) (fun p_32 o_33 R_31 => ?_)
 refine r_val (.some rfl rfl) rfl (p_ldga0 Try.underlying27 rfl sz27 rfl R_31 (by first | exact odt rfl | omega) (rfl : _ = Value.agg #[_, _, _, _, _, _, _, _])) ?_
 refine r_call (vs := [_]) (.some rfl rfl) rfl cl32 rfl (fun w hw => c_size (cB (cB cA)) _ (by decide) ht_9 w hw) ?_
 refine r_val (.some rfl rfl) rfl (p_eq rfl rfl) ?_
 refine r_val .none rfl (p_pick_t rfl rfl) ?_
 refine r_nil (e_fin (d := 38) hQ_29 rfl (by repeat (first | exact .refl | refine .put rfl ?_ | refine .say rfl ?_ | refine .say2 rfl (by first | assumption | simp_all) ?_))))
 · (
 repeat (first | refine r_skip rfl (.no rfl rfl) ?_ | refine r_skip rfl (.un rfl rfl) ?_)
 refine r_val (by first | exact .none | exact .some rfl rfl) rfl (p_pick_f rfl rfl) ?_
 refine r_nil (e_fin (d := 38) hQ_29 rfl (by repeat (first | exact .refl | refine .put rfl ?_ | refine .say rfl ?_ | refine .say2 rfl (by first | assumption | simp_all) ?_))))
 refine r_val .none rfl (p_assign rfl) (r_nil (e_next ?_))
 refine c_ret ?_
 refine e_ret1 Try.results12 (.tmp rfl .nil) (fun w hm => ⟨?_, hm.since⟩)
 exact congrArg Value.bool (by decide +kernel)
end Go.Proofs.Ytpcpbfajadgmpaa

/-
  GX: a range over a map of the call's own that stays as it is meanwhile. Generic in the program.
-/
namespace Go.Gx
open Go.RowKit Go.MapKept

section
variable {κ ν : Type} {ke : κ → Value} {ve : ν → Value}

def ranA (m r : Nat) (ke : κ → Value) (ve : ν → Value) (l lft : List (κ × ν)) : Asrt where
  holds w F := (∃ es clock since c0 seen, MapIs w m ke ve l es clock ∧ w.heap[r]? = some (.mapIter (some m) since seen c0) ∧ (∀ x ∈ es.toList, x.born < since) ∧ since ≤ c0 ∧ since ≤ clock ∧
    (es.toList.filter fun e => !seen.contains e.born).map kv = lft.map (enc ke ve)) ∧ ∀ b, F b ↔ b = m ∨ b = r
  frame := by
    rintro w w' F ⟨⟨es, c, s, c0, se, h1, h2, h3⟩, hF⟩ hk
    exact ⟨⟨es, c, s, c0, se, ⟨by rw [hk m ((hF m).2 (.inl rfl))]; exact h1.heap, h1.st, h1.eq⟩, by rw [hk r ((hF r).2 (.inr rfl))]; exact h2, h3⟩, hF⟩
  dom := by
    rintro w F b ⟨⟨es, c, s, c0, se, h1, h2, _⟩, hF⟩ hb
    rcases (hF b).1 hb with rfl | rfl
    · exact lt_of_heap h1.heap
    · exact lt_of_heap h2

/-- The same, just behind a step that yielded p. -/
def ranE (m r : Nat) (ke : κ → Value) (ve : ν → Value) (l lft : List (κ × ν)) (p : κ × ν) : Asrt where
  holds w F := (∃ es clock since seen, MapIs w m ke ve l es clock ∧ w.heap[r]? = some (.mapIter (some m) since seen clock) ∧ (∀ x ∈ es.toList, x.born < since) ∧ since ≤ clock ∧
    (es.toList.filter fun e => !seen.contains e.born).map kv = lft.map (enc ke ve) ∧ ∃ e ∈ es.toList, ∃ s0 : Array Nat, seen = s0.push e.born ∧ kv e = enc ke ve p) ∧ ∀ b, F b ↔ b = m ∨ b = r
  frame := by
    rintro w w' F ⟨⟨es, c, s, se, h1, h2, h3⟩, hF⟩ hk
    exact ⟨⟨es, c, s, se, ⟨by rw [hk m ((hF m).2 (.inl rfl))]; exact h1.heap, h1.st, h1.eq⟩, by rw [hk r ((hF r).2 (.inr rfl))]; exact h2, h3⟩, hF⟩
  dom := by
    rintro w F b ⟨⟨es, c, s, se, h1, h2, _⟩, hF⟩ hb
    rcases (hF b).1 hb with rfl | rfl
    · exact lt_of_heap h1.heap
    · exact lt_of_heap h2

variable {P : Program} {ops : Array Oper} {Q : Exit → Act → World → Prop} {N : Nat} {X : Nat → Prop} {w0 : World} {G : Ghost} {l : List (Nat × Value)} {L : List Asrt}
variable {rest : List Oper} {d i m r : Nat} {ty : TypeId} {pos : String} {after : Array Edge} {gd : Option (Nat × Bool)} {x : Operand} {T K E : TypeId} {mv lft : List (κ × ν)}

end
end Go.Gx

/-
  GX: a string made of the call's own bytes. Generic in the program.
-/
namespace Go.Gx
open Go.RowKit

def bytesF (n : Nat) (f : Nat → Nat) : ByteArray := ⟨((List.range n).map fun i => UInt8.ofNat (f i)).toArray⟩

section
variable {P : Program} {N : Nat} {X : Nat → Prop} {w0 : World} {G : Ghost} {l : List (Nat × Value)} {L : List Asrt}
variable {d : Nat} {ty : TypeId} {pos : String} {after : Array Edge} {gd : Option (Nat × Bool)} {x : Operand} {T U E E' : TypeId} {b k : Nat} {f : Nat → Value}

end
end Go.Gx

/-
  GX: a row of the call's own is sorted, or its runs are made one, by the library (whose contracts come in as premises). Generic in the program.
-/
namespace Go.Gx
open Go.RowKit Go.Sort

section
variable {α : Type} [Inhabited α]

end

abbrev sortI (zs : List Int) : List Int := zs.mergeSort fun x y => decide (x ≤ y)
abbrev cI (z : Int) : List Value := [.int .i64 z]

/-- The library's contract of slices.Sort at []int. -/
def SortC (P : Program) (f : FuncId) : Prop := ∀ (blk off cap : Nat) (zs : List Int) (w : World), Holds (Value.int .i64) w blk off zs.toArray → blk < w.heap.size → zs.length < 4611686018427387904 →
  Calls P f #[.slice (some ⟨blk, off, none⟩) zs.length cap] w fun e w' => e = .returned (.tuple #[]) ∧ ∃ n os, w' = grow (putRow (Value.int .i64) (Sort.ahead w n) blk off (sortI zs).toArray) os
def SortN (P : Program) (f : FuncId) : Prop := ∀ (p : Option Addr) (cap : Nat) (w : World), Calls P f #[.slice p 0 cap] w fun e w' => e = .returned (.tuple #[]) ∧ w' = w
/-- .. and of slices.Compact. -/
def CompC (P : Program) (f : FuncId) : Prop := ∀ (blk off cap : Nat) (zs : List Int) (w : World), Holds (Value.int .i64) w blk off zs.toArray → zs.length ≤ 9223372036854775807 → zs.length ≤ cap →
  Calls P f #[.slice (some ⟨blk, off, none⟩) zs.length cap] w fun e w' => e = .returned (.slice (some ⟨blk, off, none⟩) (Lib.compact zs).length cap) ∧ ∃ q, w' = putRow (Value.int .i64) (Sort.ahead w q) blk off (Lib.compact zs ++ List.replicate (zs.length - (Lib.compact zs).length) 0).toArray
def CompN (P : Program) (f : FuncId) : Prop := ∀ (a : Option Addr) (cap : Nat) (w : World), Calls P f #[.slice a 0 cap] w fun e w' => e = .returned (.slice a 0 cap) ∧ w' = w

section
variable {P : Program} {ops : Array Oper} {Q : Exit → Act → World → Prop} {N : Nat} {X : Nat → Prop} {w0 : World} {G : Ghost} {l : List (Nat × Value)} {L : List Asrt}
variable {rest : List Oper} {d k n : Nat} {ty : TypeId} {pos : String} {after : Array Edge} {gd : Option (Nat × Bool)} {v : Value} {E : TypeId} {zs : List Int} {f : FuncId} {xs : List Operand} {ats : Array TypeId}

end
end Go.Gx

/-
  GX: the keys of a map of the call's own, sorted by the library (its contracts come in as premises). Generic in the program.
-/
namespace Go.Gx
open Go.RowKit Go.Sort Go.Maps
open Go.WideElems (Fit rd rg)

/-- How an element reads, where nothing is asked of it. -/
def R0 : Value → Option (DataW Unit × List MemPlace) := fun _ => some (.nil, [])

section
variable {ν : Type} {P : Program} {K : TypeId}
end

/-- slices.Sorted(maps.Keys(m)): the second call, of what the first one made. -/
def KeysC (P : Program) (f g : FuncId) (K : TypeId) : Prop := ∀ (Bm b nn : Nat) (D0 : DataW Unit) (w : World), w.cell? ⟨Bm, 0, none⟩ = some (.map (some b)) → Bm < w.heap.size → w.ownsMap P K R0 b nn D0 → Maps.size D0 ≤ maxLen → Maps.size D0 * 8 ≤ 140737488355328 →
  Calls P f #[.func (.func g) #[] #[.pointer (some ⟨Bm, 0, none⟩)]] w fun e w' => ∃ (v : Value) (ss : List Int), e = .returned v ∧ ss.Perm (intKeys D0) ∧ w'.ownsRow w.heap.size K 1 v ss.length ((ss.mergeSort fun x y => decide (x ≤ y)).map (Value.int .i64)) ∧ Below w.heap.size w w'

section
variable {P : Program} {ops : Array Oper} {Q : Exit → Act → World → Prop} {N : Nat} {X : Nat → Prop} {w0 : World} {G : Ghost} {l : List (Nat × Value)} {L : List Asrt} {ν : Type}
variable {rest : List Oper} {d i j m Bm : Nat} {ty : TypeId} {pos : String} {after : Array Edge} {gd : Option (Nat × Bool)} {K T : TypeId} {f g : FuncId} {x : Operand} {ats : Array TypeId} {ve : ν → Value} {mv : List (Int × ν)}

theorem Mem.add {w w' : World} {A : Asrt} {F' : Nat → Prop} (h : Mem X w0 G w L) (hs : Since nX w w') (hA : A.holds w' F') (hF : ∀ b, F' b → w.heap.size ≤ b) : Mem X w0 G w' (A :: L) := by
  have h1 := h.call hs
  refine ⟨h1.since, h1.has, F', hA, fun b hb => ⟨.inl (Nat.le_trans h.since.size (hF b hb)), h.has.fresh (hF b hb)⟩, ?_⟩
  refine Sep.keep (h.sep.mono (fun b hb hu => ⟨hu, fun hf => ?_⟩)) (fun b hb _ => hs.block b hb id)
  have := hF b hf
  omega

end
end Go.Gx

/-
  GX: a method that keeps (or changes) its object and hands back memory that stays. Generic in the program.
-/
namespace Go.Gx
open Go.RowKit

def KeptG (A : Asrt) (F : Nat → Prop) (G' : Ghost) (w w' : World) : Prop := Since F w w' ∧ ∃ F', A.holds w' F' ∧ (∀ b, F' b → F b ∨ w.heap.size ≤ b) ∧ ∀ b, F' b → G' b = none

section
variable {P : Program} {ops : Array Oper} {Q : Exit → Act → World → Prop} {N : Nat} {X : Nat → Prop} {w0 : World} {G : Ghost} {l : List (Nat × Value)} {L : List Asrt}
variable {rest : List Oper} {d k : Nat} {ty : TypeId} {pos : String} {after : Array Edge} {gd : Option (Nat × Bool)}

end
end Go.Gx

/-
  GX: function values: they are made, and called. Generic in the program.
-/
namespace Go.Gx
open Go.RowKit

section
variable {P : Program} {ops : Array Oper} {Q : Exit → Act → World → Prop} {N : Nat} {X : Nat → Prop} {w0 : World} {G : Ghost} {l : List (Nat × Value)} {L : List Asrt}
variable {rest : List Oper} {ty : TypeId} {pos : String} {after : Array Edge} {gd : Option (Nat × Bool)}

theorem fun_same {f : FuncId} {dst : Option Nat} {y : Operand} {xs : List Operand} {cs : List Value} {ats : Array TypeId} {a : Act} (hF : Fr N a l) (hy : ev l y = some (.func (.func f) #[] cs.toArray)) :
    execOp a.eval ⟨dst, .call ⟨.value y, xs.toArray, ats⟩, ty, pos, after, gd⟩ = execOp a.eval ⟨dst, .call ⟨.value (.func f), (xs ++ cs.map Operand.const).toArray, ats⟩, ty, pos, after, gd⟩ := by
  have h2 : execOp a.eval ⟨dst, .call ⟨.value (.func f), (xs ++ cs.map Operand.const).toArray, ats⟩, ty, pos, after, gd⟩ = callFunc f (#[] ++ (xs ++ cs.map Operand.const).toArray.map a.eval ++ #[]) := rfl
  have h3 : (Deferred.ofValue (.func (.func f) #[] cs.toArray) (xs.toArray.map a.eval) >>= fun t => invoke t.target t.args) = callFunc f ((#[] ++ xs.toArray.map a.eval) ++ cs.toArray) := rfl
  have h4 : execOp a.eval ⟨dst, .call ⟨.value y, xs.toArray, ats⟩, ty, pos, after, gd⟩ = (Deferred.ofValue (a.eval y) (xs.toArray.map a.eval) >>= fun t => invoke t.target t.args) := rfl
  rw [h2, h4, hF.eval hy, h3]
  have h5 : (List.map a.eval (cs.map Operand.const)) = cs := by
    rw [List.map_map]
    exact (List.map_congr_left (fun x _ => rfl)).trans (List.map_id cs)
  congr 1
  apply Array.toList_inj.1
  simp only [Array.toList_append, List.append_toArray, Array.toList_map, List.map_append, h5]
  simp

/-- A call of a function value is a call of its function with what it has caught behind the arguments. -/
theorem r_fun {f : FuncId} {dst : Option Nat} {y : Operand} {xs : List Operand} {cs : List Value} {ats : Array TypeId} (hw : Wt ops l gd) (hy : ev l y = some (.func (.func f) #[] cs.toArray))
    (h : Runs P ops Q N X w0 G (⟨dst, .call ⟨.value (.func f), (xs ++ cs.map Operand.const).toArray, ats⟩, ty, pos, after, gd⟩ :: rest) l L) :
    Runs P ops Q N X w0 G (⟨dst, .call ⟨.value y, xs.toArray, ats⟩, ty, pos, after, gd⟩ :: rest) l L := by
  intro a w hS
  have h1 := h a w hS
  unfold wpList at h1 ⊢
  rw [if_pos (hw.wanted hS.fr)] at h1 ⊢
  have e := fun_same (ty := ty) (pos := pos) (after := after) (gd := gd) (dst := dst) (xs := xs) (ats := ats) hS.fr hy
  rcases h1 with h1 | ⟨h1, h2⟩
  · left
    show Oper.upon P _ a _ Q _
    rw [e]
    exact h1
  · right
    refine ⟨?_, h2⟩
    simp only [Oper.asks] at h1 ⊢
    rw [e]
    exact h1
end
end Go.Gx

/-
  GX: what closures want: a block that they have caught; a slice held against nil; a row without elements; an object that grows by what is found. Generic in the program.
-/
namespace Go.Gx
open Go.RowKit

section
variable {P : Program} {ops : Array Oper} {Q : Exit → Act → World → Prop} {N : Nat} {X : Nat → Prop} {w0 : World} {G : Ghost} {l : List (Nat × Value)} {L : List Asrt}
variable {rest : List Oper} {d : Nat} {ty : TypeId} {pos : String} {after : Array Edge} {gd : Option (Nat × Bool)} {x y : Operand} {v : Value}

end

section
variable {P : Program} {ops : Array Oper} {Q : Exit → Act → World → Prop} {N : Nat} {X : Nat → Prop} {w0 : World} {G : Ghost} {l : List (Nat × Value)} {L : List Asrt}
variable {rest : List Oper} {d : Nat} {ty : TypeId} {pos : String} {after : Array Edge} {gd : Option (Nat × Bool)} {x y : Operand} {v u : Value}
end

/-! ### slices of slices -/
section
variable {α : Type}
/-- The cells of an element that is a slice. -/
def lC (p : α × Value) : List Value := [p.2]
/-- The value v is a slice of slices, of which each is what T says. -/
def Ls (T : Ghost → Value → α → Prop) (e : α) (G : Ghost) (v : Value) (l : List α) : Prop := ∃ rs : List (α × Value), SlL G v 1 lC (e, .slice none 0 0) rs ∧ (∀ p ∈ rs, T G p.2 p.1) ∧ l = rs.map Prod.fst
theorem Ls.mk {T : Ghost → Value → α → Prop} {e : α} {G : Ghost} {v : Value} (rs : List (α × Value)) (h : SlL G v 1 lC (e, .slice none 0 0) rs) (hp : ∀ p ∈ rs, T G p.2 p.1) : Ls T e G v (rs.map Prod.fst) := ⟨rs, h, hp, rfl⟩

/-- A variable that holds a row of slices. -/
def outA (T E : TypeId) (p : Nat) (rs : List (α × Value)) : Asrt := exA fun v : Value => starL [box p 1 T (at_ [v]), rowA v E 1 rs.length (rs.flatMap lC)]

section
variable {P : Program} {ops : Array Oper} {Q : Exit → Act → World → Prop} {N : Nat} {X : Nat → Prop} {w0 : World} {G : Ghost} {l : List (Nat × Value)} {L : List Asrt}
variable {rest : List Oper} {T E p : Nat} {rs : List (α × Value)}
end
end
end Go.Gx

/-
  GX: what is known of memory that is new since a ghost; such memory is written again: numbers and truths in it may turn, lists may end. Generic in the program.
-/
namespace Go.Gx
open Go.RowKit
def softB : Obj → Bool
  | .cells _ _ f => decide (f = (0, 0))
  | _ => false
/-- What is known of blocks that were unknown: rows of cells that may be written. -/
def dif (G G' : Ghost) : Ghost := fun b => match G b with
  | some _ => none
  | none => match G' b with
    | some o => bif softB o then some o else none
    | none => none
theorem dif_some {G G' : Ghost} {b : Nat} {o : Obj} (h : dif G G' b = some o) : G b = none ∧ G' b = some o ∧ softB o = true := by
  unfold dif at h
  cases e : G b with
  | some _ => simp [e] at h
  | none =>
    cases e2 : G' b with
    | none => simp [e, e2] at h
    | some o2 =>
      cases e3 : softB o2 with
      | false => simp [e, e2, e3] at h
      | true => simp only [e, e2, e3, cond_true, Option.some.injEq] at h; subst h; exact ⟨rfl, rfl, e3⟩
theorem dif_of {G G' : Ghost} {b : Nat} {o : Obj} (h : G b = none) (h' : G' b = some o) (hs : softB o = true) : dif G G' b = some o := by
  simp [dif, h, h', hs]
theorem dif_le (G G' : Ghost) : GLe (dif G G') G' := fun _ _ h => (dif_some h).2.1
theorem dif_mono {G G' G'' : Ghost} (h : GLe G' G'') : GLe (dif G G') (dif G G'') := fun b o e => by
  obtain ⟨h1, h2, h3⟩ := dif_some e
  exact dif_of h1 (h b o h2) h3
theorem dif_up {G0 G G' : Ghost} (h : GLe G0 G) : GLe (dif G G') (dif G0 G') := fun b o e => by
  obtain ⟨h1, h2, h3⟩ := dif_some e
  refine dif_of ?_ h2 h3
  cases e2 : G0 b with
  | none => rfl
  | some o2 => rw [h b o2 e2] at h1; cases h1
/-- Blocks that were unknown are as they are now, all others as an elder ghost says. -/
def gd (Gs G G' : Ghost) : Ghost := fun b => match G b with
  | some _ => Gs b
  | none => G' b
/-- What is known but for some blocks. -/
def but (G H : Ghost) : Ghost := fun b => match H b with
  | some _ => none
  | none => G b
theorem but_le (G H : Ghost) : GLe (but G H) G := fun b o e => by
  unfold but at e
  cases e2 : H b with
  | none => simpa [e2] using e
  | some _ => simp [e2] at e
theorem but_old {G0 G G1 : Ghost} (h : GLe G0 G) : GLe G0 (but G (dif G0 G1)) := fun b o e => by
  unfold but
  cases e2 : dif G0 G1 b with
  | none => exact h b o e
  | some o2 => rw [(dif_some e2).1] at e; cases e
/-! ### memory that turns -/
def okc (z : Bool) (v v' : Value) : Prop := v' = v ∨ (∃ k n m, v = .int k n ∧ v' = .int k m) ∨ (∃ a b, v = .bool a ∧ v' = .bool b) ∨ (z = true ∧ (∃ a n c, v = .slice a n c) ∧ v' = .slice none 0 0)
def okcs (z : Bool) (c c' : Array Value) : Prop := c'.size = c.size ∧ ∀ (i : Nat) (v : Value), c[i]? = some v → ∃ v', c'[i]? = some v' ∧ okc z v v'
theorem okcs.refl (z : Bool) (c : Array Value) : okcs z c c := ⟨rfl, fun _ v h => ⟨v, h, .inl rfl⟩⟩
def spoilA (z : Bool) (H : Ghost) : Asrt where
  holds w F := (∀ b, F b ↔ H b ≠ none) ∧ ∀ b o, H b = some o → ∃ c c' T, o = .cells c T (0, 0) ∧ w.heap[b]? = some (.cells c' T (0, 0)) ∧ okcs z c c'
  frame := by
    rintro w w' F ⟨hF, h⟩ hk
    refine ⟨hF, fun b o e => ?_⟩
    obtain ⟨c, c', T, h1, h2, h3⟩ := h b o e
    exact ⟨c, c', T, h1, by rw [hk b ((hF b).2 (by rw [e]; simp))]; exact h2, h3⟩
  dom := by
    rintro w F b ⟨hF, h⟩ hb
    have h0 := (hF b).1 hb
    cases e : H b with
    | none => exact absurd e h0
    | some o =>
      obtain ⟨c, c', T, _, h2, _⟩ := h b o e
      exact lt_of_heap h2
section
variable {P : Program} {ops : Array Oper} {Q : Exit → Act → World → Prop} {N : Nat} {X : Nat → Prop} {w0 : World} {G : Ghost} {l : List (Nat × Value)} {L : List Asrt}
variable {rest : List Oper} {d : Nat} {ty : TypeId} {pos : String} {after : Array Edge} {gd : Option (Nat × Bool)} {x y : Operand} {v : Value} {z : Bool} {H : Ghost}
/-- A row of the call's own stays as it is from now on: it was unknown. -/
theorem Mem.freezeD {w : World} {k n sz : Nat} {E : TypeId} {xs : List Value} (h : Mem X w0 G w L) (hL : L[k]? = some (rowA v E sz n xs)) :
    ∃ G', GNew w0 X G G' ∧ SlG (dif G G') v n sz (fun i j => xs.getD (i * sz + j) undef) ∧ Mem X w0 G' w (L.eraseIdx k) := by
  obtain ⟨F, ⟨hown, hF⟩, hU, hsep⟩ := h.sep.erase hL
  obtain ⟨G', h1, h2, h3⟩ := h.freeze hL
  refine ⟨G', h1, ?_, h3⟩
  obtain ⟨a, cap', e1, hb, h5⟩ := h2
  refine ⟨a, cap', e1, hb, fun h0 => ?_⟩
  obtain ⟨b, o, e3, h8⟩ := h5 h0
  refine ⟨b, o, e3, fun i hi => ?_⟩
  obtain ⟨c9, T9, f9, h9, h10⟩ := h8 i hi
  rcases hown.2 with ⟨rfl, e2⟩ | ⟨g, cap, cur, rfl, _, hg, _⟩
  · subst e3; cases e1
  · simp only [Value.slice.injEq] at e1
    rw [← e1.1] at e3
    simp only [Option.some.injEq, Addr.mk.injEq] at e3
    have e4 : g = b := e3.1
    subst e4
    have h7 := h3.has g _ h9
    rw [hg] at h7
    simp only [Option.some.injEq, Obj.cells.injEq] at h7
    exact ⟨c9, T9, f9, dif_of (hU g ((hF.1 g).2 rfl)).2 h9 (by rw [← h7.2.2]; simp [softB]), h10⟩
theorem e_freezeD {e : Exit} {k n sz : Nat} {E : TypeId} {xs : List Value} (hL : L[k]? = some (rowA v E sz n xs))
    (h : ∀ G', GNew w0 X G G' → SlG (dif G G') v n sz (fun i j => xs.getD (i * sz + j) undef) → ERuns Q e N X w0 G' l (L.eraseIdx k)) : ERuns Q e N X w0 G l L := by
  intro a w hS
  obtain ⟨G', h1, h2, h3⟩ := hS.mem.freezeD hL
  exact h G' h1 h2 a w ⟨hS.fr, h3⟩
/-- Memory that was laid since an elder ghost is one's own again; all that is known besides stays. -/
theorem Mem.thaw {G0 G1 G' Gn : Ghost} {w : World} (z : Bool) (hm : Mem X w0 G' w L) (hn : GNew w0 X G0 G1) (hle : GLe G1 G') (hg : GLe Gn G') (hd : ∀ b, dif G0 G1 b ≠ none → Gn b = none) : Mem X w0 Gn w (spoilA z (dif G0 G1) :: L) := by
  refine ⟨hm.since, fun b o e => hm.has b o (hg b o e), fun b => dif G0 G1 b ≠ none, ⟨fun _ => Iff.rfl, fun b o e => ?_⟩, fun b hb => ⟨?_, hd b hb⟩, ?_⟩
  · obtain ⟨_, h2, h3⟩ := dif_some e
    have h4 := hm.has b o (hle b o h2)
    cases o with
    | cells c T f =>
      have : f = (0, 0) := by simpa [softB] using h3
      subst this
      exact ⟨c, c, T, rfl, h4, okcs.refl _ _⟩
    | _ => simp [softB] at h3
  · cases e : dif G0 G1 b with
    | none => exact absurd e hb
    | some o =>
      obtain ⟨h1, h2, _⟩ := dif_some e
      exact hn.new b h1 (by rw [h2]; simp)
  · refine hm.sep.mono (fun b _ hu => ⟨⟨hu.1, ?_⟩, fun hb => ?_⟩)
    · cases e : Gn b with
      | none => rfl
      | some o => rw [hg b o e] at hu; exact absurd hu.2 (by simp)
    · cases e : dif G0 G1 b with
      | none => exact hb e
      | some o =>
        have := hle b o (dif_some e).2.1
        rw [hu.2] at this; cases this
theorem but_no {G0 G1 G' : Ghost} (b : Nat) (h : dif G0 G1 b ≠ none) : but G' (dif G0 G1) b = none := by
  unfold but
  cases e : dif G0 G1 b with
  | none => exact absurd e h
  | some o => rfl
/-- All stays known but for what was laid then. -/
theorem r_thaw {G0 G1 G' : Ghost} (z : Bool) (hn : GNew w0 X G0 G1) (hle : GLe G1 G') (h : Runs P ops Q N X w0 (but G' (dif G0 G1)) rest l (spoilA z (dif G0 G1) :: L)) : Runs P ops Q N X w0 G' rest l L :=
  fun a w hS => h a w ⟨hS.fr, hS.mem.thaw z hn hle (but_le _ _) but_no⟩
theorem spoil_cell {w : World} {F : Nat → Prop} {b o n j : Nat} {g : Nat → Value} (hA : (spoilA z H).holds w F) (hR : RowAt H b o n g) (hj : j < n) : ∃ v', w.cell? ⟨b, o + j, none⟩ = some v' ∧ okc z (g j) v' := by
  obtain ⟨c, T, f, h1, h2⟩ := hR
  obtain ⟨c1, c2, T2, h3, h4, h5, h6⟩ := hA.2 b _ h1
  simp only [Obj.cells.injEq] at h3
  obtain ⟨v', h7, h8⟩ := h6 _ _ (by rw [← h3.1]; exact h2 j hj)
  exact ⟨v', by rw [cell_of_row w b (o + j) c2 T2 (0, 0) h4]; exact h7, h8⟩
/-- The address of an element. -/
theorem r_iaddr_s {T E : TypeId} {n sz i : Nat} {q : IntKind} {f : Nat → Nat → Value} (hw : Wt ops l gd) (hd : Nat.blt d N = true) (hT : P.underlying T = some (.slice E)) (hE : SzIs P E sz) (hx : ev l x = some v) (hs : SlG H v n sz f) (hy : ev l y = some (.int q (i : Nat))) (hi : i < n)
    (h : ∀ b o, RowAt H b o sz (f i) → Runs P ops Q N X w0 G rest ((d, .pointer (some ⟨b, o, none⟩)) :: l) L) : Runs P ops Q N X w0 G (⟨some d, .indexAddr T x y, ty, pos, after, gd⟩ :: rest) l L := by
  obtain ⟨a, cap, rfl, _, h1⟩ := hs
  obtain ⟨b, o, rfl, h2⟩ := h1 (by omega)
  refine r_val hw hd (v := .pointer (some ⟨b, o + i * sz, none⟩)) (fun ac w hS => ?_) (h b _ (h2 i hi))
  simp only [execOp, hS.fr.eval hx, hS.fr.eval hy]
  simp [Instr.indexAt, asIntOf, run_underlying hT, hE.run, addr_add, hi]
theorem pick_cells {n : Nat} {p : Nat → Value → Prop} : (∀ j, j < n → ∃ v, p j v) → ∃ f : Nat → Value, ∀ j, j < n → p j (f j) := fun h =>
  ⟨fun j => if hj : j < n then Classical.choose (h j hj) else undef, fun j hj => by
    simp only [dif_pos hj]; exact Classical.choose_spec (h j hj)⟩
/-- A load of several. -/
theorem r_ldasp {T : TypeId} {e : TypeDesc} {b o m k : Nat} {g : Nat → Value} (hw : Wt ops l gd) (hd : Nat.blt d N = true) (hT : P.underlying T = some e) (hs : e.aggB = true) (hm : SzIs P T m) (hx : ev l x = some (.pointer (some ⟨b, o, none⟩))) (hL : L[k]? = some (spoilA z H)) (hR : RowAt H b o m g)
    (h : ∀ f : Nat → Value, (∀ j, j < m → okc z (g j) (f j)) → Runs P ops Q N X w0 G rest ((d, aggF m f) :: l) L) : Runs P ops Q N X w0 G (⟨some d, .load T x, ty, pos, after, gd⟩ :: rest) l L := by
  refine Runs.step hw (fun a w hS => ?_)
  show Oper.upon P _ a _ Q _
  obtain ⟨F, hA, _⟩ := hS.mem.take hL
  obtain ⟨f, hf⟩ := pick_cells (fun j (hj : j < m) => spoil_cell hA hR hj)
  have hr : (execOp a.eval ⟨some d, .load T x, ty, pos, after, gd⟩).run P w = .ok (.value (aggF m f)) w := by
    simp [execOp, hS.fr.eval hx, Instr.loadAt, Instr.sureAddr, run_loadVar_agg (P := P) (i := o) (f := f) hT hs hm (fun j hj => (hf j hj).1)]
  rw [hr, Oper.upon_value]
  exact h f (fun j hj => (hf j hj).2) _ _ ⟨hS.fr.put (by simpa using hd) _, hS.mem⟩
theorem spoil_one {w : World} {F : Nat → Prop} {b i : Nat} {c : Array Value} {T : TypeId} {f : Nat × Nat} {u : Value} (hA : (spoilA z H).holds w F) (hb : H b = some (.cells c T f)) {v0 : Value} (hi : c[i]? = some v0) (ho : okc z v0 u) (hu : u.oneCell' = true) :
    (store ⟨b, i, none⟩ u).run P w = .ok () (w.setCell ⟨b, i, none⟩ u) ∧ (spoilA z H).holds (w.setCell ⟨b, i, none⟩ u) F ∧ Since F w (w.setCell ⟨b, i, none⟩ u) := by
  obtain ⟨c1, c2, T2, h3, h4, h5, h6⟩ := hA.2 b _ hb
  simp only [Obj.cells.injEq] at h3
  obtain ⟨rfl, rfl, rfl⟩ := h3
  obtain ⟨v', h7, h8⟩ := h6 i v0 hi
  have hF : F b := (hA.1 b).2 (by rw [hb]; simp)
  refine ⟨?_, ⟨hA.1, fun b' o' e => ?_⟩, since_setCell w b i u F hF⟩
  · rw [run_store P w _ u _ hu, cell_of_row w b i c2 T (0, 0) h4, h7]
    simp [frozen_of_row w b i c2 T h4]
  · by_cases e2 : b' = b
    · subst e2
      rw [hb] at e; cases e
      refine ⟨c, c2.setIfInBounds i u, T, rfl, heap_setCell_same w b' i c2 T u h4, by simp [h5], fun j v hj => ?_⟩
      by_cases e3 : i = j
      · subst e3
        rw [hi] at hj; cases hj
        have hlt : i < c2.size := by
          rcases Nat.lt_or_ge i c2.size with h | h
          · exact h
          · rw [Array.getElem?_eq_none h] at h7; cases h7
        exact ⟨u, by simp [hlt], ho⟩
      · obtain ⟨v2, h9, h10⟩ := h6 j v hj
        exact ⟨v2, by rw [Array.getElem?_setIfInBounds_ne e3]; exact h9, h10⟩
    · obtain ⟨c3, c4, T3, h9, h10, h11⟩ := hA.2 b' o' e
      exact ⟨c3, c4, T3, h9, by rw [heap_setCell_other w _ b' u e2]; exact h10, h11⟩
theorem spoil_many {b : Nat} {c : Array Value} {T : TypeId} {f : Nat × Nat} (hb : H b = some (.cells c T f)) : ∀ (vs : List Value) (i j : Nat) (w : World) (F : Nat → Prop), (spoilA z H).holds w F →
    (∀ m v, vs[m]? = some v → ∃ v0, c[i + (j + m)]? = some v0 ∧ okc z v0 v ∧ v.oneCell' = true) → ∃ w', (storeCells ⟨b, i, none⟩ vs j).run P w = .ok () w' ∧ (spoilA z H).holds w' F ∧ Since F w w'
  | [], i, j, w, F, hA, _ => ⟨w, by simp [storeCells], hA, Since.refl _ _⟩
  | v :: vs, i, j, w, F, hA, hv => by
    obtain ⟨v0, h1, h2, h3⟩ := hv 0 v rfl
    obtain ⟨h4, h5, h6⟩ := spoil_one (P := P) hA hb h1 h2 h3
    obtain ⟨w', hr, h7, h8⟩ := spoil_many hb vs i (j + 1) _ F h5 (fun m u hm => by
      obtain ⟨u0, h9, h10⟩ := hv (m + 1) u (by simpa using hm)
      exact ⟨u0, by rw [show i + (j + 1 + m) = i + (j + (m + 1)) by omega]; exact h9, h10⟩)
    refine ⟨w', ?_, h7, h6.trans h8⟩
    rw [Nat.add_zero] at h4
    simp only [storeCells, addr_add, Sem.run_bind, h4, Result.andThen_ok]
    exact hr
/-- A store of several. -/
theorem r_stasp {T : TypeId} {b o m k : Nat} {g g' : Nat → Value} (hw : Wt ops l gd) (hs : SzIs P T m)
    (hx : ev l x = some (.pointer (some ⟨b, o, none⟩))) (hy : ev l y = some v) (hg : IsRow v.cells m g') (h1 : ∀ j, j < m → (g' j).oneCell' = true) (hL : L[k]? = some (spoilA z H)) (hR : RowAt H b o m g) (ho : ∀ j, j < m → okc z (g j) (g' j))
    (h : Runs P ops Q N X w0 G rest l (L.set k (spoilA z H))) : Runs P ops Q N X w0 G (⟨none, .store T x y, ty, pos, after, gd⟩ :: rest) l L := by
  refine Runs.step hw (fun a w hS => ?_)
  show Oper.upon P _ a _ Q _
  obtain ⟨F, hA, _, hput⟩ := hS.mem.take hL
  obtain ⟨c, T2, f, h2, h3⟩ := hR
  have hc := hg.eq
  obtain ⟨w', hr, h4, h5⟩ := spoil_many (P := P) h2 (row g' 0 m) o 0 w F hA (fun i u hu => by
    have him : i < m := by
      rcases Nat.lt_or_ge i m with h | h
      · exact h
      · rw [List.getElem?_eq_none (by rw [row_length]; exact h)] at hu; cases hu
    rw [row_get g' m 0 i him] at hu
    simp only [Nat.zero_add, Option.some.injEq] at hu
    subst hu
    exact ⟨g i, by rw [Nat.zero_add]; exact h3 i him, ho i him, h1 i him⟩)
  have hr : (execOp a.eval ⟨none, .store T x y, ty, pos, after, gd⟩).run P w = .ok .skip w' := by
    simp only [execOp, hS.fr.eval hx, hS.fr.eval hy]
    simp [Instr.storeAt, Instr.sureAddr, storeVar, hs.run, hc, row_length, hr]
  rw [hr, Oper.upon_skip]
  exact h _ _ ⟨hS.fr, hput _ _ F h5 h4 (fun b hb => .inl hb)⟩
end
end Go.Gx

/- Plain laws of conditions: which are alike; what becomes of a spoiled one; no program in sight. -/
namespace Go.Gx.T4
open Go.Gx Go.Gx.T3
def hEq (a b : Hd) : Bool := csEq [.bool a.v0, .int .i64 a.n0, .bool a.v1, .int .i64 a.n1, .bool a.v2, .int .i64 a.n2] [.bool b.v0, .int .i64 b.n0, .bool b.v1, .int .i64 b.n1, .bool b.v2, .int .i64 b.n2]
def rEq (a b : Hd) : Bool := csEq [.int .i64 (vi a.v0), .int .i64 a.n0, .int .i64 (vi a.v1), .int .i64 a.n1, .int .i64 (vi a.v2), .int .i64 a.n2] [.int .i64 (vi b.v0), .int .i64 b.n0, .int .i64 (vi b.v1), .int .i64 b.n1, .int .i64 (vi b.v2), .int .i64 b.n2]
theorem rEq_eq (a b : Hd) : rEq a b = hEq a b := by
  unfold rEq hEq
  cases a.v0 <;> cases a.v1 <;> cases a.v2 <;> cases b.v0 <;> cases b.v1 <;> cases b.v2 <;> simp [csEq, cEq, vi]
theorem hEq_iff {a b : Hd} : hEq a b = true ↔ (a.v0 = b.v0 ∧ a.n0 = b.n0 ∧ a.v1 = b.v1 ∧ a.n1 = b.n1 ∧ a.v2 = b.v2 ∧ a.n2 = b.n2) := by
  simp [hEq, csEq, cEq]
theorem hd_eq {a b : Hd} (hk : a.k = b.k) (h : hEq a b = true) : a = b := by
  obtain ⟨h0, h1, h2, h3, h4, h5⟩ := hEq_iff.1 h
  cases a; cases b; simp_all
mutual
def cSame : CT → CT → Bool
  | .mk h l, .mk h' l' => (decide (h.k = h'.k) && hEq h h') && cSameL l l'
def cSameL : List CT → List CT → Bool
  | [], [] => true
  | c :: t, c' :: t' => cSame c c' && cSameL t t'
  | _, _ => false
end
theorem cSame_eq (a b : CT) : cSame a b = ((decide (a.h.k = b.h.k) && hEq a.h b.h) && cSameL a.subs b.subs) := by cases a; cases b; rw [cSame]; rfl
theorem cSameL_len : ∀ {l l' : List CT}, l.length ≠ l'.length → cSameL l l' = false
  | [], [], h => absurd rfl h
  | [], _ :: _, _ => by simp [cSameL]
  | _ :: _, [], _ => by simp [cSameL]
  | c :: t, c' :: t', h => by rw [cSameL, cSameL_len (by simpa using h), Bool.and_false]
theorem cSameL_no {rs rs2 : List (CT × Value)} {k : Nat} (h1 : k < rs.length) (h2 : k < rs2.length) (h : cSame (rs.getD k d0).1 (rs2.getD k d0).1 = false) : cSameL ((rs.map Prod.fst).drop k) ((rs2.map Prod.fst).drop k) = false := by
  rw [map_drop (d := d0) h1, map_drop (d := d0) h2, cSameL, h, Bool.false_and]
theorem cSameL_yes {rs rs2 : List (CT × Value)} {k : Nat} (h1 : k < rs.length) (h2 : k < rs2.length) (h : cSame (rs.getD k d0).1 (rs2.getD k d0).1 = true) : cSameL ((rs.map Prod.fst).drop (k + 1)) ((rs2.map Prod.fst).drop (k + 1)) = cSameL ((rs.map Prod.fst).drop k) ((rs2.map Prod.fst).drop k) := by
  rw [map_drop (d := d0) h1, map_drop (d := d0) h2, cSameL, h, Bool.true_and]
mutual
theorem cSame_iff : ∀ (c c' : CT), cSame c c' = true ↔ c = c'
  | .mk h l, .mk h' l' => by
    rw [cSame, Bool.and_eq_true, Bool.and_eq_true, decide_eq_true_iff, cSameL_iff l l']
    constructor
    · rintro ⟨⟨h1, h2⟩, rfl⟩
      rw [hd_eq h1 h2]
    · intro e
      cases e
      exact ⟨⟨rfl, hEq_iff.2 ⟨rfl, rfl, rfl, rfl, rfl, rfl⟩⟩, rfl⟩
theorem cSameL_iff : ∀ (l l' : List CT), cSameL l l' = true ↔ l = l'
  | [], [] => by simp [cSameL]
  | [], _ :: _ => by simp [cSameL]
  | _ :: _, [] => by simp [cSameL]
  | c :: t, c' :: t' => by
    rw [cSameL, Bool.and_eq_true, cSame_iff c c', cSameL_iff t t']
    simp
end
theorem cSame_self (c : CT) : cSame c c = true := (cSame_iff c c).2 rfl
/-- What stands below a condition that may have been spoiled. -/
theorem okc_tree {H : Ghost} {u v' : Value} {l : List CT} {n : Nat} (hs : Cs H u l) (hz : ∀ x ∈ l, SizeOf.sizeOf x < n) (h : okc true u v') : ∃ l', Cs H v' l' ∧ ∀ x ∈ l', SizeOf.sizeOf x < n := by
  rcases h with rfl | ⟨_, _, _, rfl, _⟩ | ⟨_, _, rfl, _⟩ | ⟨_, _, rfl⟩
  · exact ⟨l, hs, hz⟩
  · obtain ⟨_, hr, _⟩ := hs.inv
    obtain ⟨_, _, e⟩ := SlG.len hr
    cases e
  · obtain ⟨_, hr, _⟩ := hs.inv
    obtain ⟨_, _, e⟩ := SlG.len hr
    cases e
  · exact ⟨[], Tr.nil, by simp⟩
theorem cs_slice {H : Ghost} {u : Value} {l : List CT} (hs : Cs H u l) : ∃ a n c, u = .slice a n c := by
  obtain ⟨_, hr, _⟩ := hs.inv
  obtain ⟨a, c, e⟩ := SlG.len hr
  exact ⟨a, _, c, e⟩
end Go.Gx.T4

/- Walks: what Go functions of this chapter come to, each as a function on plain data; no condition but those that each theorem names. Printed by a program of this work (gen.py). -/
namespace Go.Proofs.Ytpcpbfajadgmpaa
open Go.Gx Go.Gx.T3 Go.Gx.T4 Go.Gx.T3
theorem lf35 : leafT Try.prog 9 35 = some [3, 3, 3, 3, 3, 3] := by
 kernel_rfl
theorem ef35 : eqT Try.prog 9 35 = true := by
 kernel_rfl
theorem eg35 : Try.prog.eqGuardType Try.prog.depth 35 = false := by
 kernel_rfl
theorem cl16 : Callable Try.prog 16 := callable Try.func16 (by kernel_rfl) rfl
theorem cl17 : Callable Try.prog 17 := callable Try.func17 (by kernel_rfl) rfl
theorem cl18 : Callable Try.prog 18 := callable Try.func18 (by kernel_rfl) rfl
theorem cl39 : Callable Try.prog 39 := callable Try.func39 (by kernel_rfl) rfl
def Csame4Is (n : Nat) : Prop := ∀ (c c2 : CT) (sv sv2 : Value) (G : Ghost) (w : World), SizeOf.sizeOf c ≤ n → Cs G sv c.subs → Cs G sv2 c2.subs → Has G w → Calls Try.prog 16 #[Value.agg #[Value.int .i64 c.h.k, Value.bool c.h.v0, Value.int .i64 c.h.n0, Value.bool c.h.v1, Value.int .i64 c.h.n1, Value.bool c.h.v2, Value.int .i64 c.h.n2, sv], Value.agg #[Value.int .i64 c2.h.k, Value.bool c2.h.v0, Value.int .i64 c2.h.n0, Value.bool c2.h.v1, Value.int .i64 c2.h.n1, Value.bool c2.h.v2, Value.int .i64 c2.h.n2, sv2]] w (Ret fun r w' => r = Value.bool (cSame c c2) ∧ Since nX w w')
def Rsame4Is (n : Nat) : Prop := ∀ (c c2 : CT) (sv sv2 : Value) (G : Ghost) (w : World), SizeOf.sizeOf c ≤ n → Rs G sv c.subs → Rs G sv2 c2.subs → Has G w → Calls Try.prog 17 #[Value.agg #[Value.int .i64 c.h.k, Value.int .i64 (vi c.h.v0), Value.int .i64 c.h.n0, Value.int .i64 (vi c.h.v1), Value.int .i64 c.h.n1, Value.int .i64 (vi c.h.v2), Value.int .i64 c.h.n2, sv], Value.agg #[Value.int .i64 c2.h.k, Value.int .i64 (vi c2.h.v0), Value.int .i64 c2.h.n0, Value.int .i64 (vi c2.h.v1), Value.int .i64 c2.h.n1, Value.int .i64 (vi c2.h.v2), Value.int .i64 c2.h.n2, sv2]] w (Ret fun r w' => r = Value.bool (cSame c c2) ∧ Since nX w w')
def CopyIs (n : Nat) : Prop := ∀ (c : CT) (sv : Value) (G : Ghost) (w : World), SizeOf.sizeOf c ≤ n → size c ≤ 1000 → Cs G sv c.subs → Has G w → Calls Try.prog 18 #[Value.agg #[Value.int .i64 c.h.k, Value.bool c.h.v0, Value.int .i64 c.h.n0, Value.bool c.h.v1, Value.int .i64 c.h.n1, Value.bool c.h.v2, Value.int .i64 c.h.n2, sv]] w (Ret fun r w' => ∃ G', GNew w nX G G' ∧ Has G' w' ∧ (∃ u, r = Value.agg #[Value.int .i64 c.h.k, Value.bool c.h.v0, Value.int .i64 c.h.n0, Value.bool c.h.v1, Value.int .i64 c.h.n1, Value.bool c.h.v2, Value.int .i64 c.h.n2, u] ∧ Cs (dif G G') u c.subs) ∧ Since nX w w')
theorem c_eqfC (n : Nat) (ih : Csame4Is n) (v v2 : Value) (l l2 : List CT) {G : Ghost} (hz : ∀ x ∈ l, SizeOf.sizeOf x ≤ n) (hs : Cs G v l) (hs2 : Cs G v2 l2) (w : World) (hG : Has G w) :
    Calls Try.prog 39 #[v, v2, Value.func (.func 16) #[] #[]] w (Ret fun r w' => r = Value.bool (cSameL l l2) ∧ Since nX w w') := by
 refine enter (args := [_, _, _]) (X := nX) (G := G) (l := [(0, v), (1, v2), (2, Value.func (.func 16) #[] #[])]) Try.func39 rfl Try.ntmps39 hG ⟨rfl, rfl, rfl, trivial⟩ (Nat.le_of_ble_eq_true rfl) ?_
 obtain ⟨rs, hr, hp, hl⟩ := hs.inv
 obtain ⟨rs2, hr2, hp2, hl2⟩ := hs2.inv
 have hbd := hr.bound
 have hbd2 := hr2.bound
 refine c_seq (c_region (r_val .none rfl (p_assign rfl) (r_nil (e_next ?_))))
 refine c_seq (c_seq (c_region (r_val .none rfl (p_move rfl) ?_)))
 refine r_val .none rfl (p_leng Try.underlying25 rfl hr) ?_
 have bd_1 := (hr).bound
 refine r_val .none rfl (p_move rfl) ?_
 refine r_val .none rfl (p_leng Try.underlying25 rfl hr2) ?_
 have bd_2 := (hr2).bound
 refine r_val .none rfl (p_ne rfl rfl) ?_
 refine r_nil (e_next ?_)
 refine c_splitd (d := 14) rfl (fun h_3 => ?_) (fun h_3 => ?_)
 · (
 first
 | (exfalso; omega)
 | (
 refine c_cond_t rfl (c_seq (c_region (r_val .none rfl (p_assign rfl) (r_nil ?_))))
 refine e_next ?_
 refine c_ret ?_
 refine e_ret_then ?_
 refine e_ret1 Try.results39 (.tmp rfl .nil) (fun w hm => ⟨?_, hm.since⟩)
 first
 | (rw [hl, hl2, cSameL_len (by simp; omega)])
 | (rw [hl, hl2, ← hphi.2.2, cSameL_no (by omega) (by omega) hE])
 | (rw [hl, hl2, ← hphi.2.2, List.drop_eq_nil_of_le (by simp; omega), List.drop_eq_nil_of_le (by simp; omega)]; rfl)))
 · (
 first
 | (exfalso; omega)
 | (
 refine c_cond_f rfl (c_skip (e_next (c_seq (c_seq ?_))))
 refine c_region (r_val .none rfl (p_move rfl) ?_)
 refine r_val .none rfl (p_leng Try.underlying25 rfl hr) ?_
 have bd_4 := (hr).bound
 refine r_val .none rfl (p_move rfl) (r_nil (e_next (c_block ?_)))
 refine c_name (d := 1) rfl (fun u_5 hu_5 => ?_)
 refine c_name (d := 2) rfl (fun u_6 hu_6 => ?_)
 refine c_name (d := 15) rfl (fun u_7 hu_7 => ?_)
 refine c_name (d := 16) rfl (fun u_8 hu_8 => ?_)
 refine c_loop (σ := Nat) (fun k => [(17, Value.int .i64 (k : Nat)), (1, u_5), (2, u_6), (15, u_7), (16, u_8)]) (fun k => []) (fun _ => _) (fun k => k ≤ rs.length ∧ rs.length = rs2.length ∧ cSameL ((rs.map Prod.fst).drop k) ((rs2.map Prod.fst).drop k) = cSameL (rs.map Prod.fst) (rs2.map Prod.fst)) (fun k => rs.length - k) (0) ⟨Nat.zero_le _, by omega, rfl⟩ rfl ⟨rfl, rfl, rfl, rfl, rfl, trivial⟩ (.nil) (fun k hphi => ?_)
 subst hu_5
 subst hu_6
 subst hu_7
 subst hu_8
 refine c_seq (c_region ?_)
 refine r_val .none rfl (p_lt rfl rfl) ?_
 refine r_nil (e_next (c_seq ?_))
 refine c_splitd (d := 18) rfl (fun h_9 => ?_) (fun h_9 => ?_)
 · (
 first
 | (exfalso; omega)
 | (
 refine c_cond_t rfl (c_skip (e_next (c_seq (c_block ?_))))
 refine c_seq (c_region (r_val .none rfl (p_move rfl) ?_))
 refine r_iaddr_g .none rfl Try.underlying25 sz27 rfl hr rfl (by first | exact odt rfl | omega) (fun p_11 o_12 R_10 => ?_)
 have hc_13 := hp _ (getD_mem (i := k) (d := d0) (by omega))
 refine r_val .none rfl (p_ldga0 Try.underlying27 rfl sz27 rfl R_10 (by first | exact odt rfl | omega) (rfl : _ = Value.agg #[_, _, _, _, _, _, _, _])) ?_
 refine r_alloc .none rfl zr27 (IsRow.lit _) (fun b_1 => ?_)
 refine r_val .none rfl (p_assign rfl) ?_
 refine r_stw (k := 0) .none sz27 rfl rfl (IsRow.lit _) (one_lit rfl (all_cons rfl (all_cons rfl (all_cons rfl (all_cons rfl (all_cons rfl (all_cons rfl (all_cons rfl (all_cons (hc_13).one rfl))))))))) rfl ?_
 refine r_nil (e_next (c_seq (c_region (r_val .none rfl (p_move rfl) ?_))))
 refine r_val .none rfl (p_move rfl) ?_
 refine r_iaddr_g .none rfl Try.underlying25 sz27 rfl hr2 rfl (by first | exact odt rfl | omega) (fun p_15 o_16 R_14 => ?_)
 have hc_17 := hp2 _ (getD_mem (i := k) (d := d0) (by omega))
 refine r_val .none rfl (p_ldga0 Try.underlying27 rfl sz27 rfl R_14 (by first | exact odt rfl | omega) (rfl : _ = Value.agg #[_, _, _, _, _, _, _, _])) ?_
 refine r_alloc .none rfl zr27 (IsRow.lit _) (fun b_2 => ?_)
 refine r_stw (k := 0) .none sz27 rfl rfl (IsRow.lit _) (one_lit rfl (all_cons rfl (all_cons rfl (all_cons rfl (all_cons rfl (all_cons rfl (all_cons rfl (all_cons rfl (all_cons (hc_17).one rfl))))))))) rfl ?_
 refine r_nil (e_next (c_seq (c_region (r_val .none rfl (p_move rfl) ?_))))
 refine r_val .none rfl (p_ldw (k := 1) Try.underlying27 rfl sz27 rfl rfl (rfl : _ = Value.agg #[_, _, _, _, _, _, _, _])) ?_
 refine r_val .none rfl (p_ldw (k := 0) Try.underlying27 rfl sz27 rfl rfl (rfl : _ = Value.agg #[_, _, _, _, _, _, _, _])) ?_
 refine r_fun (cs := []) .none rfl ?_
 refine r_call (vs := [_, _]) .none rfl cl16 rfl (fun w hw => ih (rs.getD k d0).1 _ _ _ _ w (hz _ (by rw [hl]; exact List.mem_map.2 ⟨_, getD_mem (by omega), rfl⟩)) hc_13 hc_17 hw) ?_
 refine r_val .none rfl (p_not rfl) ?_
 refine r_nil (e_next ?_)
 refine c_splitn (d := 30) rfl (fun h_18 => ?_) (fun h_18 => ?_)
 · (
 have hE := h_18
 first
 | (exfalso; omega)
 | (
 refine c_cond_t rfl (c_seq (c_region (r_val .none rfl (p_assign rfl) (r_nil ?_))))
 refine e_next ?_
 refine c_ret ?_
 refine e_ret_block ?_
 refine e_ret_then ?_
 refine e_ret_then ?_
 refine e_ret_block ?_
 refine e_ret_then ?_
 refine e_ret1 Try.results39 (.tmp rfl .nil) (fun w hm => ⟨?_, hm.since⟩)
 first
 | (rw [hl, hl2, cSameL_len (by simp; omega)])
 | (rw [hl, hl2, ← hphi.2.2, cSameL_no (by omega) (by omega) hE])
 | (rw [hl, hl2, ← hphi.2.2, List.drop_eq_nil_of_le (by simp; omega), List.drop_eq_nil_of_le (by simp; omega)]; rfl)))
 · (
 have hE := h_18
 first
 | (exfalso; omega)
 | (
 refine c_cond_f rfl (c_skip ?_)
 refine e_norm_block ?_
 refine e_next (c_region ?_)
 refine r_val .none rfl (p_add rfl rfl (by omega)) ?_
 refine r_val .none rfl (p_move rfl) (r_nil ?_)
 refine e_round (k + 1) ⟨⟨by omega, hphi.2.1, by rw [cSameL_yes (by omega) (by omega) hE]; exact hphi.2.2⟩, by omega⟩ rfl ⟨rfl, rfl, rfl, rfl, rfl, trivial⟩ (.drop (.drop (.nil)))))))
 · (
 first
 | (exfalso; omega)
 | (
 refine c_cond_f rfl (c_exit (e_exit_then (e_exit_then ?_)))
 refine e_exit_block ?_
 refine e_next (c_seq (c_region (r_val .none rfl (p_assign rfl) (r_nil ?_))))
 refine e_next ?_
 refine c_ret ?_
 refine e_ret1 Try.results39 (.tmp rfl .nil) (fun w hm => ⟨?_, hm.since⟩)
 first
 | (rw [hl, hl2, cSameL_len (by simp; omega)])
 | (rw [hl, hl2, ← hphi.2.2, cSameL_no (by omega) (by omega) hE])
 | (rw [hl, hl2, ← hphi.2.2, List.drop_eq_nil_of_le (by simp; omega), List.drop_eq_nil_of_le (by simp; omega)]; rfl)))))
theorem c_csame4_s (n : Nat) (ih : Csame4Is n) (c c2 : CT) (sv sv2 : Value) {G : Ghost} (hz : SizeOf.sizeOf c ≤ n + 1) (hs : Cs G sv c.subs) (hs2 : Cs G sv2 c2.subs) (w : World) (hG : Has G w) :
    Calls Try.prog 16 #[Value.agg #[Value.int .i64 c.h.k, Value.bool c.h.v0, Value.int .i64 c.h.n0, Value.bool c.h.v1, Value.int .i64 c.h.n1, Value.bool c.h.v2, Value.int .i64 c.h.n2, sv], Value.agg #[Value.int .i64 c2.h.k, Value.bool c2.h.v0, Value.int .i64 c2.h.n0, Value.bool c2.h.v1, Value.int .i64 c2.h.n1, Value.bool c2.h.v2, Value.int .i64 c2.h.n2, sv2]] w (Ret fun r w' => r = Value.bool (cSame c c2) ∧ Since nX w w') := by
 refine enter (args := [_, _]) (X := nX) (G := G) (l := [(0, Value.agg #[Value.int .i64 c.h.k, Value.bool c.h.v0, Value.int .i64 c.h.n0, Value.bool c.h.v1, Value.int .i64 c.h.n1, Value.bool c.h.v2, Value.int .i64 c.h.n2, sv]), (1, Value.agg #[Value.int .i64 c2.h.k, Value.bool c2.h.v0, Value.int .i64 c2.h.n0, Value.bool c2.h.v1, Value.int .i64 c2.h.n1, Value.bool c2.h.v2, Value.int .i64 c2.h.n2, sv2])]) Try.func16 rfl Try.ntmps16 hG ⟨rfl, rfl, trivial⟩ (Nat.le_of_ble_eq_true rfl) ?_
 refine c_seq (c_region ?_)
 refine r_box .none rfl rfl (IsRow.lit _) (fun b_1 => ?_)
 refine r_box .none rfl rfl (IsRow.lit _) (fun b_2 => ?_)
 refine r_val .none rfl (p_assign rfl) (r_nil (e_next (c_seq (c_region ?_))))
 refine r_val .none rfl (p_field Try.underlying27 rfl sz3 rfl) ?_
 refine r_val .none rfl (p_ld (k := 1) Try.underlying3 rfl rfl rfl (by first | exact odt rfl | omega) (rfl : _ = Value.int _ _)) ?_
 refine r_val .none rfl (p_field Try.underlying27 rfl sz3 rfl) ?_
 refine r_val .none rfl (p_ld (k := 0) Try.underlying3 rfl rfl rfl (by first | exact odt rfl | omega) (rfl : _ = Value.int _ _)) ?_
 refine r_val .none rfl (p_eq rfl rfl) ?_
 refine r_val .none rfl (p_move rfl) ?_
 refine' r_and (c := 10) (d := 16) [_, _, _, _, _, _] rfl (fun h_1 Q_2 hQ_3 => ?_) (fun h_1 Q_2 hQ_3 => ?_) ?_
 rotate_left 1
 · (
 replace h_1 := of_decide_eq_true h_1
 refine r_val (.some rfl rfl) rfl (p_field Try.underlying27 rfl sz24 rfl) ?_
 refine r_val (.some rfl rfl) rfl (p_lda (k := 1) Try.underlying24 rfl sz24 rfl rfl (by first | exact odt rfl | omega) (rfl : _ = Value.agg #[_, _, _, _, _, _])) ?_
 refine r_val (.some rfl rfl) rfl (p_field Try.underlying27 rfl sz24 rfl) ?_
 refine r_val (.some rfl rfl) rfl (p_lda (k := 0) Try.underlying24 rfl sz24 rfl rfl (by first | exact odt rfl | omega) (rfl : _ = Value.agg #[_, _, _, _, _, _])) ?_
 refine r_val (.some rfl rfl) rfl (p_eqa rfl rfl (eq_flat Try.underlying24 rfl lf24 ef24 eg24 (.cons (.bool Try.underlying4) (.cons (.int Try.underlying3) (.cons (.bool Try.underlying4) (.cons (.int Try.underlying3) (.cons (.bool Try.underlying4) (.cons (.int Try.underlying3) (.nil))))))) (.cons (.bool Try.underlying4) (.cons (.int Try.underlying3) (.cons (.bool Try.underlying4) (.cons (.int Try.underlying3) (.cons (.bool Try.underlying4) (.cons (.int Try.underlying3) (.nil))))))))) ?_
 refine r_val .none rfl (p_pick_t rfl rfl) ?_
 refine r_nil (e_fin (d := 16) hQ_3 rfl (by repeat (first | exact .refl | refine .put rfl ?_ | refine .say rfl ?_ | refine .say2 rfl (by first | assumption | simp_all) ?_))))
 · (
 repeat (first | refine r_skip rfl (.no rfl rfl) ?_ | refine r_skip rfl (.un rfl rfl) ?_)
 refine r_val (by first | exact .none | exact .some rfl rfl) rfl (p_pick_f rfl rfl) ?_
 refine r_nil (e_fin (d := 16) hQ_3 rfl (by repeat (first | exact .refl | refine .put rfl ?_ | refine .say rfl ?_ | refine .say2 rfl (by first | assumption | simp_all) ?_))))
 refine r_val .none rfl (p_move rfl) ?_
 refine' r_and (c := 17) (d := 23) [_, _, _, _, _, _] rfl (fun h_5 Q_6 hQ_7 => ?_) (fun h_5 Q_6 hQ_7 => ?_) ?_
 rotate_left 1
 · (
 try simp only [norms] at h_5
 refine r_val (.some rfl rfl) rfl (p_field Try.underlying27 rfl sz25 rfl) ?_
 refine r_val (.some rfl rfl) rfl (p_ld (k := 1) Try.underlying25 rfl rfl rfl (by first | exact odt rfl | omega) rfl) ?_
 refine r_val (.some rfl rfl) rfl (p_field Try.underlying27 rfl sz25 rfl) ?_
 refine r_val (.some rfl rfl) rfl (p_ld (k := 0) Try.underlying25 rfl rfl rfl (by first | exact odt rfl | omega) rfl) ?_
 refine r_call (vs := [_, _, _]) (.some rfl rfl) rfl cl39 rfl (fun w hw => c_eqfC n ih _ _ _ _ (fun x hx => by have := size_mem hx; omega) hs hs2 w hw) ?_
 refine r_val .none rfl (p_pick_t rfl rfl) ?_
 refine r_nil (e_fin (d := 23) hQ_7 rfl (by repeat (first | exact .refl | refine .put rfl ?_ | refine .say rfl ?_ | refine .say2 rfl (by first | assumption | simp_all) ?_))))
 · (
 repeat (first | refine r_skip rfl (.no rfl rfl) ?_ | refine r_skip rfl (.un rfl rfl) ?_)
 refine r_val (by first | exact .none | exact .some rfl rfl) rfl (p_pick_f rfl rfl) ?_
 refine r_nil (e_fin (d := 23) hQ_7 rfl (by repeat (first | exact .refl | refine .put rfl ?_ | refine .say rfl ?_ | refine .say2 rfl (by first | assumption | simp_all) ?_))))
 refine r_val .none rfl (p_assign rfl) (r_nil (e_next ?_))
 refine c_ret ?_
 refine e_ret1 Try.results16 (.tmp rfl .nil) (fun w hm => ⟨?_, hm.since⟩)
 rw [cSame_eq]
 first
 | rfl
 | (show _ = _; congr 1; simp only [Bool.and_assoc]; rfl)
theorem c_csame4_n : ∀ n, Csame4Is n
 | 0 => fun c c2 sv sv2 G w hz _ _ _ => absurd hz (by have := size_subs c; omega)
 | n + 1 => fun c c2 sv sv2 G w hz hs hs2 hG => c_csame4_s n (c_csame4_n n) c c2 sv sv2 hz hs hs2 w hG
theorem c_csame4 (c c2 : CT) (sv sv2 : Value) {G : Ghost} (hs : Cs G sv c.subs) (hs2 : Cs G sv2 c2.subs) (w : World) (hG : Has G w) : Calls Try.prog 16 #[Value.agg #[Value.int .i64 c.h.k, Value.bool c.h.v0, Value.int .i64 c.h.n0, Value.bool c.h.v1, Value.int .i64 c.h.n1, Value.bool c.h.v2, Value.int .i64 c.h.n2, sv], Value.agg #[Value.int .i64 c2.h.k, Value.bool c2.h.v0, Value.int .i64 c2.h.n0, Value.bool c2.h.v1, Value.int .i64 c2.h.n1, Value.bool c2.h.v2, Value.int .i64 c2.h.n2, sv2]] w (Ret fun r w' => r = Value.bool (cSame c c2) ∧ Since nX w w') := c_csame4_n _ c c2 sv sv2 G w (Nat.le_refl _) hs hs2 hG
theorem c_rsame4_s (n : Nat) (ih : Rsame4Is n) (c c2 : CT) (sv sv2 : Value) {G : Ghost} (hz : SizeOf.sizeOf c ≤ n + 1) (hs : Rs G sv c.subs) (hs2 : Rs G sv2 c2.subs) (w : World) (hG : Has G w) :
    Calls Try.prog 17 #[Value.agg #[Value.int .i64 c.h.k, Value.int .i64 (vi c.h.v0), Value.int .i64 c.h.n0, Value.int .i64 (vi c.h.v1), Value.int .i64 c.h.n1, Value.int .i64 (vi c.h.v2), Value.int .i64 c.h.n2, sv], Value.agg #[Value.int .i64 c2.h.k, Value.int .i64 (vi c2.h.v0), Value.int .i64 c2.h.n0, Value.int .i64 (vi c2.h.v1), Value.int .i64 c2.h.n1, Value.int .i64 (vi c2.h.v2), Value.int .i64 c2.h.n2, sv2]] w (Ret fun r w' => r = Value.bool (cSame c c2) ∧ Since nX w w') := by
 refine enter (args := [_, _]) (X := nX) (G := G) (l := [(0, Value.agg #[Value.int .i64 c.h.k, Value.int .i64 (vi c.h.v0), Value.int .i64 c.h.n0, Value.int .i64 (vi c.h.v1), Value.int .i64 c.h.n1, Value.int .i64 (vi c.h.v2), Value.int .i64 c.h.n2, sv]), (1, Value.agg #[Value.int .i64 c2.h.k, Value.int .i64 (vi c2.h.v0), Value.int .i64 c2.h.n0, Value.int .i64 (vi c2.h.v1), Value.int .i64 c2.h.n1, Value.int .i64 (vi c2.h.v2), Value.int .i64 c2.h.n2, sv2])]) Try.func17 rfl Try.ntmps17 hG ⟨rfl, rfl, trivial⟩ (Nat.le_of_ble_eq_true rfl) ?_
 obtain ⟨rs, hr, hp, hl⟩ := hs.inv
 obtain ⟨rs2, hr2, hp2, hl2⟩ := hs2.inv
 have hbd := hr.bound
 have hbd2 := hr2.bound
 have hlr : c.subs.length = rs.length := by rw [hl]; simp
 have hlr2 : c2.subs.length = rs2.length := by rw [hl2]; simp
 refine c_seq (c_region ?_)
 refine r_box .none rfl rfl (IsRow.lit _) (fun b_1 => ?_)
 refine r_box .none rfl rfl (IsRow.lit _) (fun b_2 => ?_)
 refine r_val .none rfl (p_assign rfl) (r_nil (e_next (c_seq (c_seq ?_))))
 refine c_region ?_
 refine r_val .none rfl (p_field Try.underlying38 rfl sz3 rfl) ?_
 refine r_val .none rfl (p_ld (k := 1) Try.underlying3 rfl rfl rfl (by first | exact odt rfl | omega) (rfl : _ = Value.int _ _)) ?_
 refine r_val .none rfl (p_field Try.underlying38 rfl sz3 rfl) ?_
 refine r_val .none rfl (p_ld (k := 0) Try.underlying3 rfl rfl rfl (by first | exact odt rfl | omega) (rfl : _ = Value.int _ _)) ?_
 refine r_val .none rfl (p_ne rfl rfl) ?_
 refine r_val .none rfl (p_move rfl) ?_
 refine' r_or (c := 11) (d := 17) [_, _, _, _, _, _] rfl (fun h_1 Q_2 hQ_3 => ?_) (fun h_1 Q_2 hQ_3 => ?_) ?_
 rotate_left 1
 · (
 replace h_1 := of_decide_eq_false h_1
 refine r_val (.some rfl rfl) rfl (p_field Try.underlying38 rfl sz35 rfl) ?_
 refine r_val (.some rfl rfl) rfl (p_lda (k := 1) Try.underlying35 rfl sz35 rfl rfl (by first | exact odt rfl | omega) (rfl : _ = Value.agg #[_, _, _, _, _, _])) ?_
 refine r_val (.some rfl rfl) rfl (p_field Try.underlying38 rfl sz35 rfl) ?_
 refine r_val (.some rfl rfl) rfl (p_lda (k := 0) Try.underlying35 rfl sz35 rfl rfl (by first | exact odt rfl | omega) (rfl : _ = Value.agg #[_, _, _, _, _, _])) ?_
 refine r_val (.some rfl rfl) rfl (p_nea rfl rfl (eq_flat Try.underlying35 rfl lf35 ef35 eg35 (.cons (.int Try.underlying3) (.cons (.int Try.underlying3) (.cons (.int Try.underlying3) (.cons (.int Try.underlying3) (.cons (.int Try.underlying3) (.cons (.int Try.underlying3) (.nil))))))) (.cons (.int Try.underlying3) (.cons (.int Try.underlying3) (.cons (.int Try.underlying3) (.cons (.int Try.underlying3) (.cons (.int Try.underlying3) (.cons (.int Try.underlying3) (.nil))))))))) ?_
 refine r_val .none rfl (p_pick_f rfl rfl) ?_
 refine r_nil (e_fin (d := 17) hQ_3 rfl (by repeat (first | exact .refl | refine .put rfl ?_ | refine .say rfl ?_ | refine .say2 rfl (by first | assumption | simp_all) ?_))))
 · (
 repeat (first | refine r_skip rfl (.no rfl rfl) ?_ | refine r_skip rfl (.un rfl rfl) ?_)
 refine r_val (by first | exact .none | exact .some rfl rfl) rfl (p_pick_t rfl rfl) ?_
 refine r_nil (e_fin (d := 17) hQ_3 rfl (by repeat (first | exact .refl | refine .put rfl ?_ | refine .say rfl ?_ | refine .say2 rfl (by first | assumption | simp_all) ?_))))
 refine r_val .none rfl (p_move rfl) ?_
 refine' r_or (c := 18) (d := 26) [_, _, _, _, _, _, _, _] rfl (fun h_5 Q_6 hQ_7 => ?_) (fun h_5 Q_6 hQ_7 => ?_) ?_
 rotate_left 1
 · (
 try simp only [norms] at h_5
 refine r_val (.some rfl rfl) rfl (p_field Try.underlying38 rfl sz36 rfl) ?_
 refine r_val (.some rfl rfl) rfl (p_ld (k := 1) Try.underlying36 rfl rfl rfl (by first | exact odt rfl | omega) rfl) ?_
 refine r_val (.some rfl rfl) rfl (p_leng Try.underlying36 rfl hr) ?_
 have bd_9 := (hr).bound
 refine r_val (.some rfl rfl) rfl (p_field Try.underlying38 rfl sz36 rfl) ?_
 refine r_val (.some rfl rfl) rfl (p_ld (k := 0) Try.underlying36 rfl rfl rfl (by first | exact odt rfl | omega) rfl) ?_
 refine r_val (.some rfl rfl) rfl (p_leng Try.underlying36 rfl hr2) ?_
 have bd_10 := (hr2).bound
 refine r_val (.some rfl rfl) rfl (p_ne rfl rfl) ?_
 refine r_val .none rfl (p_pick_f rfl rfl) ?_
 refine r_nil (e_fin (d := 26) hQ_7 rfl (by repeat (first | exact .refl | refine .put rfl ?_ | refine .say rfl ?_ | refine .say2 rfl (by first | assumption | simp_all) ?_))))
 · (
 repeat (first | refine r_skip rfl (.no rfl rfl) ?_ | refine r_skip rfl (.un rfl rfl) ?_)
 refine r_val (by first | exact .none | exact .some rfl rfl) rfl (p_pick_t rfl rfl) ?_
 refine r_nil (e_fin (d := 26) hQ_7 rfl (by repeat (first | exact .refl | refine .put rfl ?_ | refine .say rfl ?_ | refine .say2 rfl (by first | assumption | simp_all) ?_))))
 refine r_nil (e_next ?_)
 refine c_split (d := 26) rfl (fun h_11 => ?_) (fun h_11 => ?_)
 · (
 try simp only [norms] at h_11
 have hN : (¬ c.h.k = c2.h.k ∨ rEq c.h c2.h = false) ∨ ¬ (rs.length : Int) = rs2.length := h_11
 rw [rEq_eq] at hN
 first
 | (exfalso; omega)
 | (
 refine c_cond_t rfl (c_seq (c_region (r_val .none rfl (p_assign rfl) (r_nil ?_))))
 refine e_next ?_
 refine c_ret ?_
 refine e_ret_then ?_
 refine e_ret1 Try.results17 (.tmp rfl .nil) (fun w hm => ⟨?_, hm.since⟩)
 rw [cSame_eq]
 first
 | (rcases hN with (h | h) | h <;> first | (rw [decide_eq_false h]; rfl) | (rw [h, Bool.and_false]; rfl) | (rw [cSameL_len (by omega), Bool.and_false]))
 | (rw [decide_eq_true hN.1.1, hN.1.2, hl, hl2, ← hphi.2.2, cSameL_no (by omega) (by omega) hF]; rfl)
 | (rw [decide_eq_true hN.1.1, hN.1.2, hl, hl2, ← hphi.2.2, List.drop_eq_nil_of_le (by simp; omega), List.drop_eq_nil_of_le (by simp; omega)]; rfl)))
 · (
 try simp only [norms] at h_11
 have hN : (c.h.k = c2.h.k ∧ rEq c.h c2.h = true) ∧ (rs.length : Int) = rs2.length := h_11
 rw [rEq_eq] at hN
 first
 | (exfalso; omega)
 | (
 refine c_cond_f rfl (c_skip (e_next (c_seq (c_seq ?_))))
 refine c_region ?_
 refine r_val .none rfl (p_field Try.underlying38 rfl sz36 rfl) ?_
 refine r_val .none rfl (p_ld (k := 1) Try.underlying36 rfl rfl rfl (by first | exact odt rfl | omega) rfl) ?_
 refine r_val .none rfl (p_leng Try.underlying36 rfl hr) ?_
 have bd_12 := (hr).bound
 refine r_val .none rfl (p_move rfl) (r_nil (e_next (c_block ?_)))
 refine c_name (d := 2) rfl (fun u_13 hu_13 => ?_)
 refine c_name (d := 3) rfl (fun u_14 hu_14 => ?_)
 refine c_name (d := 29) rfl (fun u_15 hu_15 => ?_)
 refine c_nameL (k := 0) rfl (fun A_16 hA_16 => ?_)
 refine c_nameL (k := 1) rfl (fun A_17 hA_17 => ?_)
 refine c_loop (σ := Nat) (fun k => [(30, Value.int .i64 (k : Nat)), (2, u_13), (3, u_14), (29, u_15)]) (fun k => [A_16, A_17]) (fun _ => _) (fun k => k ≤ rs.length ∧ rs.length = rs2.length ∧ cSameL ((rs.map Prod.fst).drop k) ((rs2.map Prod.fst).drop k) = cSameL (rs.map Prod.fst) (rs2.map Prod.fst)) (fun k => rs.length - k) (0) ⟨Nat.zero_le _, by omega, rfl⟩ rfl ⟨rfl, rfl, rfl, rfl, trivial⟩ (.keep (fun _ _ h => h) (.keep (fun _ _ h => h) (.nil))) (fun k hphi => ?_)
 subst hu_13
 subst hu_14
 subst hu_15
 subst hA_16
 subst hA_17
 refine c_seq (c_region ?_)
 refine r_val .none rfl (p_lt rfl rfl) ?_
 refine r_nil (e_next (c_seq ?_))
 refine c_splitd (d := 31) rfl (fun h_18 => ?_) (fun h_18 => ?_)
 · (
 first
 | (exfalso; omega)
 | (
 refine c_cond_t rfl (c_skip (e_next (c_seq (c_block ?_))))
 refine c_seq (c_region (r_val .none rfl (p_move rfl) (r_val .none rfl (p_assign rfl) (r_nil ?_))))
 refine e_next (c_seq ?_)
 refine c_region_q mixed (by kernel_rfl) ?_
 refine q_val .none rfl (p_field Try.underlying38 rfl sz36 rfl) ?_
 refine q_val .none rfl (p_ld (k := 1) Try.underlying36 rfl rfl rfl (by first | exact odt rfl | omega) rfl) ?_
 refine q_val .none rfl (p_move rfl) ?_
 refine q_iaddr_g .none rfl Try.underlying36 sz38 rfl hr rfl (by first | exact odt rfl | omega) (fun p_20 o_21 R_19 => ?_)
 have hc_22 := hp _ (getD_mem (i := k) (d := d0) (by omega))
 refine q_val .none rfl (p_ldga0 Try.underlying38 rfl sz38 rfl R_19 (by first | exact odt rfl | omega) (rfl : _ = Value.agg #[_, _, _, _, _, _, _, _])) ?_
 refine q_val .none rfl (p_field Try.underlying38 rfl sz36 rfl) ?_
 refine q_val .none rfl (p_ld (k := 0) Try.underlying36 rfl rfl rfl (by first | exact odt rfl | omega) rfl) ?_
 refine q_val .none rfl (p_move rfl) ?_
 refine q_iaddr_g .none rfl Try.underlying36 sz38 rfl hr2 rfl (by first | exact odt rfl | omega) (fun p_24 o_25 R_23 => ?_)
 have hc_26 := hp2 _ (getD_mem (i := k) (d := d0) (by omega))
 refine q_val .none rfl (p_ldga0 Try.underlying38 rfl sz38 rfl R_23 (by first | exact odt rfl | omega) (rfl : _ = Value.agg #[_, _, _, _, _, _, _, _])) ?_
 refine q_call (vs := [_, _]) .none rfl cl17 rfl (fun w hw => ih (rs.getD k d0).1 _ _ _ _ w (size_at hl (by omega) hz) hc_22 hc_26 hw) ?_
 refine q_val .none rfl (p_not rfl) ?_
 refine q_nil ?_
 refine e_next ?_
 refine c_splitn (d := 44) rfl (fun h_27 => ?_) (fun h_27 => ?_)
 · (
 have hF := h_27
 first
 | (exfalso; omega)
 | (
 refine c_cond_t rfl (c_seq (c_region (r_val .none rfl (p_assign rfl) (r_nil ?_))))
 refine e_next ?_
 refine c_ret ?_
 refine e_ret_block ?_
 refine e_ret_then ?_
 refine e_ret_then ?_
 refine e_ret_block ?_
 refine e_ret_then ?_
 refine e_ret1 Try.results17 (.tmp rfl .nil) (fun w hm => ⟨?_, hm.since⟩)
 rw [cSame_eq]
 first
 | (rcases hN with (h | h) | h <;> first | (rw [decide_eq_false h]; rfl) | (rw [h, Bool.and_false]; rfl) | (rw [cSameL_len (by omega), Bool.and_false]))
 | (rw [decide_eq_true hN.1.1, hN.1.2, hl, hl2, ← hphi.2.2, cSameL_no (by omega) (by omega) hF]; rfl)
 | (rw [decide_eq_true hN.1.1, hN.1.2, hl, hl2, ← hphi.2.2, List.drop_eq_nil_of_le (by simp; omega), List.drop_eq_nil_of_le (by simp; omega)]; rfl)))
 · (
 have hF := h_27
 first
 | (exfalso; omega)
 | (
 refine c_cond_f rfl (c_skip ?_)
 refine e_norm_block ?_
 refine e_next (c_region ?_)
 refine r_val .none rfl (p_add rfl rfl (by omega)) ?_
 refine r_val .none rfl (p_move rfl) (r_nil ?_)
 refine e_round (k + 1) ⟨⟨by omega, hphi.2.1, by rw [cSameL_yes (by omega) (by omega) hF]; exact hphi.2.2⟩, by omega⟩ rfl ⟨rfl, rfl, rfl, rfl, trivial⟩ (.keep (fun _ _ h => h) (.keep (fun _ _ h => h) (.nil)))))))
 · (
 first
 | (exfalso; omega)
 | (
 refine c_cond_f rfl (c_exit (e_exit_then (e_exit_then ?_)))
 refine e_exit_block ?_
 refine e_next (c_seq (c_region (r_val .none rfl (p_assign rfl) (r_nil ?_))))
 refine e_next ?_
 refine c_ret ?_
 refine e_ret1 Try.results17 (.tmp rfl .nil) (fun w hm => ⟨?_, hm.since⟩)
 rw [cSame_eq]
 first
 | (rcases hN with (h | h) | h <;> first | (rw [decide_eq_false h]; rfl) | (rw [h, Bool.and_false]; rfl) | (rw [cSameL_len (by omega), Bool.and_false]))
 | (rw [decide_eq_true hN.1.1, hN.1.2, hl, hl2, ← hphi.2.2, cSameL_no (by omega) (by omega) hF]; rfl)
 | (rw [decide_eq_true hN.1.1, hN.1.2, hl, hl2, ← hphi.2.2, List.drop_eq_nil_of_le (by simp; omega), List.drop_eq_nil_of_le (by simp; omega)]; rfl)))))
theorem c_rsame4_n : ∀ n, Rsame4Is n
 | 0 => fun c c2 sv sv2 G w hz _ _ _ => absurd hz (by have := size_subs c; omega)
 | n + 1 => fun c c2 sv sv2 G w hz hs hs2 hG => c_rsame4_s n (c_rsame4_n n) c c2 sv sv2 hz hs hs2 w hG
theorem c_rsame4 (c c2 : CT) (sv sv2 : Value) {G : Ghost} (hs : Rs G sv c.subs) (hs2 : Rs G sv2 c2.subs) (w : World) (hG : Has G w) : Calls Try.prog 17 #[Value.agg #[Value.int .i64 c.h.k, Value.int .i64 (vi c.h.v0), Value.int .i64 c.h.n0, Value.int .i64 (vi c.h.v1), Value.int .i64 c.h.n1, Value.int .i64 (vi c.h.v2), Value.int .i64 c.h.n2, sv], Value.agg #[Value.int .i64 c2.h.k, Value.int .i64 (vi c2.h.v0), Value.int .i64 c2.h.n0, Value.int .i64 (vi c2.h.v1), Value.int .i64 c2.h.n1, Value.int .i64 (vi c2.h.v2), Value.int .i64 c2.h.n2, sv2]] w (Ret fun r w' => r = Value.bool (cSame c c2) ∧ Since nX w w') := c_rsame4_n _ c c2 sv sv2 G w (Nat.le_refl _) hs hs2 hG
theorem c_copy_s (n : Nat) (ih : CopyIs n) (c : CT) (sv : Value)  {G : Ghost} (hz : SizeOf.sizeOf c ≤ n + 1) (hsz : size c ≤ 1000) (hs : Cs G sv c.subs) (w : World) (hG : Has G w) :
    Calls Try.prog 18 #[Value.agg #[Value.int .i64 c.h.k, Value.bool c.h.v0, Value.int .i64 c.h.n0, Value.bool c.h.v1, Value.int .i64 c.h.n1, Value.bool c.h.v2, Value.int .i64 c.h.n2, sv]] w (Ret fun r w' => ∃ G', GNew w nX G G' ∧ Has G' w' ∧ (∃ u, r = Value.agg #[Value.int .i64 c.h.k, Value.bool c.h.v0, Value.int .i64 c.h.n0, Value.bool c.h.v1, Value.int .i64 c.h.n1, Value.bool c.h.v2, Value.int .i64 c.h.n2, u] ∧ Cs (dif G G') u c.subs) ∧ Since nX w w') := by
 refine enter (args := [_]) (X := nX) (G := G) (l := [(0, Value.agg #[Value.int .i64 c.h.k, Value.bool c.h.v0, Value.int .i64 c.h.n0, Value.bool c.h.v1, Value.int .i64 c.h.n1, Value.bool c.h.v2, Value.int .i64 c.h.n2, sv])]) Try.func18 rfl Try.ntmps18 hG ⟨rfl, trivial⟩ (Nat.le_of_ble_eq_true rfl) ?_
 obtain ⟨rs, hr, hp, hl⟩ := hs.inv
 have hlen : c.subs.length = rs.length := by rw [hl]; simp
 have hbd := hr.bound
 have hl1 := size_len hl hsz
 have hG0 := GLe.refl G
 refine c_seq (c_region ?_)
 refine r_box .none rfl rfl (IsRow.lit _) (fun b_1 => ?_)
 refine r_alloc .none rfl zr27 (IsRow.lit _) (fun b_2 => ?_)
 refine r_nil (e_next (c_seq (c_region ?_)))
 refine r_val .none rfl (p_field Try.underlying27 rfl sz25 rfl) ?_
 refine r_val .none rfl (p_ld (k := 1) Try.underlying25 rfl rfl rfl (by first | exact odt rfl | omega) rfl) ?_
 refine r_val .none rfl (p_assign rfl) (r_nil (e_next (c_seq (c_region ?_))))
 refine r_val .none rfl (p_field Try.underlying27 rfl sz25 rfl) ?_
 refine r_st (k := 1) .none sz25 rfl rfl rfl rfl (by first | exact odt rfl | omega) ?_
 refine r_nil (e_next (c_seq (c_seq (c_region ?_))))
 refine r_val .none rfl (p_move rfl) ?_
 refine r_val .none rfl (p_leng Try.underlying25 rfl hr) ?_
 have bd_1 := (hr).bound
 refine r_val .none rfl (p_move rfl) (r_nil (e_next (c_block ?_)))
 refine c_nilrow 27 8 ?_
 refine c_name (d := 1) rfl (fun u_2 hu_2 => ?_)
 refine c_name (d := 2) rfl (fun u_3 hu_3 => ?_)
 refine c_name (d := 9) rfl (fun u_4 hu_4 => ?_)
 refine c_name (d := 10) rfl (fun u_5 hu_5 => ?_)
 refine c_nameL (k := 1) rfl (fun A_6 hA_6 => ?_)
 refine c_loop (σ := Nat × Value × List (CT × Value) × Ghost) (fun s => [(11, Value.int .i64 (s.1 : Nat)), (1, u_2), (2, u_3), (9, u_4), (10, u_5)]) (fun s => [rowA (s.2.1) 27 8 (s.2.2.1).length ((s.2.2.1).flatMap cvC), A_6, box b_1 8 27 (at_ [.int .i64 c.h.k, .bool c.h.v0, .int .i64 c.h.n0, .bool c.h.v1, .int .i64 c.h.n1, .bool c.h.v2, .int .i64 c.h.n2, s.2.1])]) (fun s => s.2.2.2) (fun s => s.1 ≤ rs.length ∧ s.2.2.1.map Prod.fst = (rs.map Prod.fst).take s.1 ∧ (∀ p ∈ s.2.2.1, Cs (dif G s.2.2.2) p.2 p.1.subs) ∧ GNew w nX G s.2.2.2) (fun s => rs.length - s.1) ((0, _, [], _)) ⟨Nat.zero_le _, rfl, by simp, GNew.refl _ _ _⟩ rfl ⟨rfl, rfl, rfl, rfl, rfl, trivial⟩ (.keep (fun _ _ h => rowA_nil rfl _ _ h) (.keep (fun _ _ h => h) (.keep (fun _ _ h => box_congr (fun i hi => by match i, hi with | 0, _ => rfl | 1, _ => rfl | 2, _ => rfl | 3, _ => rfl | 4, _ => rfl | 5, _ => rfl | 6, _ => rfl | 7, _ => rfl) _ _ h) (.nil)))) (fun s hphi => ?_)
 subst hu_2
 subst hu_3
 subst hu_4
 subst hu_5
 subst hA_6
 obtain ⟨k, v, qs, H⟩ := s
 obtain ⟨hk, hq, hqs, hgn⟩ := hphi
 dsimp only at hk hq hqs hgn ⊢
 have hql : qs.length ≤ k := (by have := congrArg List.length hq; simp at this; omega)
 refine c_row1 (k := 0) rfl (fun ov => ?_)
 refine c_rowlen (k := 0) rfl (fun l63 => ?_)
 replace hp := fun p hm0 => (hp p hm0).mono hgn.le
 replace hr := hr.mono hgn.le
 replace hG0 := GLe.trans hG0 hgn.le
 refine c_seq (c_region ?_)
 refine r_val .none rfl (p_lt rfl rfl) ?_
 refine r_nil (e_next (c_seq ?_))
 refine c_splitd (d := 12) rfl (fun h_7 => ?_) (fun h_7 => ?_)
 · (
 first
 | (exfalso; omega)
 | (
 refine c_cond_t rfl (c_skip (e_next (c_seq (c_block ?_))))
 refine c_seq (c_region ?_)
 refine r_iaddr_g .none rfl Try.underlying25 sz27 rfl hr rfl (by first | exact odt rfl | omega) (fun p_9 o_10 R_8 => ?_)
 have hc_11 := hp _ (getD_mem (i := k) (d := d0) (by omega))
 refine r_val .none rfl (p_ldga0 Try.underlying27 rfl sz27 rfl R_8 (by first | exact odt rfl | omega) (rfl : _ = Value.agg #[_, _, _, _, _, _, _, _])) ?_
 refine r_alloc .none rfl zr27 (IsRow.lit _) (fun b_3 => ?_)
 refine r_stw (k := 0) .none sz27 rfl rfl (IsRow.lit _) (one_lit rfl (all_cons rfl (all_cons rfl (all_cons rfl (all_cons rfl (all_cons rfl (all_cons rfl (all_cons rfl (all_cons (hc_11).one rfl))))))))) rfl ?_
 refine r_nil (e_next ?_)
 refine c_region_d (fun j => [5, 6, 7].contains j) _ mixed (.keep (fun _ _ h => h) (.keep (fun _ _ h => h) (.keep (fun _ _ h => h) (.keep (fun _ _ h => h) (.nil))))) ?_
 refine d_val1 0 rfl rfl (by kernel_rfl) (fun j hj => by have h : 7 < j := (Nat.lt_of_lt_of_le (by decide : 7 < 8) hj); simp; omega) .none rfl (p_field Try.underlying27 rfl sz25 rfl) ?_
 refine d_val1 1 rfl rfl (by kernel_rfl) (fun j hj => by have h : 7 < j := (Nat.lt_of_lt_of_le (by decide : 7 < 8) hj); simp; omega) .none rfl (p_ld (k := 3) Try.underlying25 rfl rfl rfl (by first | exact odt rfl | omega) rfl) ?_
 refine d_val1 2 rfl rfl (by kernel_rfl) (fun j hj => by have h : 7 < j := (Nat.lt_of_lt_of_le (by decide : 7 < 8) hj); simp; omega) .none rfl (p_ldw (k := 0) Try.underlying27 rfl sz27 rfl rfl (rfl : _ = Value.agg #[_, _, _, _, _, _, _, _])) ?_
 refine d_eff 3 rfl (by kernel_rfl) (fun K_12 hKK_12 hcK_12 => ?_)
 refine r_callm (vs := [_]) .none rfl cl18 rfl (fun w hw => ih (rs.getD k d0).1 _ _ w (size_at hl (by omega) hz) (size_child hl (by omega) hsz) hc_11 hw) (fun G_13 v_16 hn_14 hr_15 => ?_)
 obtain ⟨u_17, rfl, u_17s⟩ := hr_15
 replace u_17s := Tr.mono u_17s (dif_up hG0)
 replace hp := fun p hm0 => (hp p hm0).mono hn_14.le
 replace hr := hr.mono hn_14.le
 replace hG0 := GLe.trans hG0 hn_14.le
 replace hqs := fun p hm0 => (hqs p hm0).mono (dif_mono hn_14.le)
 replace R_8 := R_8.mono hn_14.le
 replace hc_11 := hc_11.mono hn_14.le
 refine r_nil (e_d (i := 3) (brk := (fun j => [5, 6, 7].contains j)) (ph' := true) hKK_12 hcK_12 rfl (fun _ => hn_14.le) (fun _ => .keep (fun _ _ h => h) (.keep (fun _ _ h => h) (.keep (fun _ _ h => h) (.keep (fun _ _ h => h) (.nil))))) ?_)
 clear hKK_12 hcK_12 K_12
 refine d_eff 4 rfl (by kernel_rfl) (fun K_18 hKK_18 hcK_18 => ?_)
 refine r_bslice (vs := [(0, Value.agg #[_, _, _, _, _, _, _, _])]) (c := #[_, _, _, _, _, _, _, _]) .none rfl Try.underlying25 el27 rfl rfl rfl (bs27_10a8 _ _ _ _ _ _ _ _) (IsRow.lit _) (fun b_4 => ?_)
 refine r_nil (e_d (i := 4) (brk := (fun j => [5, 6, 7].contains j)) (ph' := true) hKK_18 hcK_18 rfl (fun _ => hn_14.le) (fun _ => .drop (.keep (fun _ _ h => h) (.keep (fun _ _ h => h) (.keep (fun _ _ h => h) (.keep (fun _ _ h => h) (.nil)))))) ?_)
 clear hKK_18 hcK_18 K_18
 refine d_eff 5 rfl (by kernel_rfl) (fun K_19 hKK_19 hcK_19 => ?_)
 refine r_append (k := 2) (k2 := 0) .none rfl Try.underlying25 el27 rfl (by decide) rfl rfl rfl rfl rfl (one_lit rfl (all_cons rfl (all_cons rfl (all_cons rfl (all_cons rfl (all_cons rfl (all_cons rfl (all_cons rfl (all_cons (u_17s).one rfl))))))))) (by simp only [maxLen]; omega) (by omega) (fun v_20 => ?_)
 refine r_row1 (k := 2) rfl (fun o_21 => ?_)
 refine r_nil (e_d (i := 5) (brk := (fun j => [5, 6, 7].contains j)) (ph' := false) hKK_19 hcK_19 rfl (fun h => by cases h) (fun h => by cases h) ?_)
 clear hKK_19 hcK_19 K_19
 refine d_val2 6 rfl rfl (by kernel_rfl) .none rfl (fun _ => p_field Try.underlying27 rfl sz25 rfl) ?_
 refine d_eff 7 rfl (by kernel_rfl) (fun K_22 hKK_22 hcK_22 => ?_)
 refine r_st (k := 4) .none sz25 rfl rfl o_21 rfl (by first | exact odt rfl | omega) ?_
 refine r_nil (e_d (i := 7) (brk := (fun j => [5, 6, 7].contains j)) (ph' := false) hKK_22 hcK_22 rfl (fun h => by cases h) (fun h => by cases h) ?_)
 clear hKK_22 hcK_22 K_22
 refine d_nil (by kernel_rfl) ?_
 refine e_norm_block ?_
 refine e_next (c_region ?_)
 refine r_val .none rfl (p_add rfl rfl (by omega)) ?_
 refine r_val .none rfl (p_move rfl) (r_nil ?_)
 refine e_round ((k + 1, _, qs ++ [((rs.getD k d0).1, u_17)], _)) ⟨⟨by dsimp only; omega, by rw [map_take (d := d0) (by omega), List.map_append, hq]; rfl, (fun p hp' => by rcases List.mem_append.1 hp' with h | h; exact hqs p h; rw [List.mem_singleton.1 h]; exact u_17s), (hgn.trans hn_14)⟩, by dsimp only; omega⟩ rfl ⟨rfl, rfl, rfl, rfl, rfl, trivial⟩ (.drop (.drop (.keep (fun _ _ h => rowA_snoc (l := qs) (x := ((rs.getD k d0).1, u_17)) rfl rfl rfl rfl _ _ h) (.keep (fun _ _ h => h) (.keep (fun _ _ h => box_congr (fun i hi => by match i, hi with | 0, _ => rfl | 1, _ => rfl | 2, _ => rfl | 3, _ => rfl | 4, _ => rfl | 5, _ => rfl | 6, _ => rfl | 7, _ => rfl) _ _ h) (.nil))))))))
 · (
 first
 | (exfalso; omega)
 | (
 refine c_cond_f rfl (c_exit (e_exit_then (e_exit_then ?_)))
 refine e_exit_block ?_
 refine e_next (c_seq (c_region ?_))
 refine r_val .none rfl (p_ldw (k := 2) Try.underlying27 rfl sz27 rfl rfl (rfl : _ = Value.agg #[_, _, _, _, _, _, _, _])) ?_
 refine r_stw (k := 1) .none sz27 rfl rfl (IsRow.lit _) (one_lit rfl (all_cons rfl (all_cons rfl (all_cons rfl (all_cons rfl (all_cons rfl (all_cons rfl (all_cons rfl (all_cons ov rfl))))))))) rfl ?_
 refine r_nil (e_next ?_)
 refine c_ret ?_
 refine e_freezeD (k := 0) rfl (fun G_23 hn_24 hs_25 => ?_)
 replace hs_25 := SlG.mono hs_25 (dif_up hG0)
 replace hp := fun p hm0 => (hp p hm0).mono hn_24.le
 replace hr := hr.mono hn_24.le
 replace hG0 := GLe.trans hG0 hn_24.le
 replace hqs := fun p hm0 => (hqs p hm0).mono (dif_mono hn_24.le)
 refine e_ret1 Try.results18 (.cell (k := 0) rfl Try.underlying27 rfl sz27 rfl (rfl : _ = Value.agg #[_, _, _, _, _, _, _, _]) .nil) (fun w hm => ⟨_, (hgn.trans hn_24), hm.has, ⟨_, rfl, ?_⟩, hm.since⟩)
 rw [show c.subs = qs.map Prod.fst by rw [hl, hq, List.take_of_length_le (by simp; omega)]]
 exact Tr.mk qs (SlL.of d0 (fun _ => rfl) rfl hs_25) hqs))
theorem c_copy_n : ∀ n, CopyIs n
 | 0 => fun c sv G w hz hsz hs hG => absurd hz (by have := size_subs c; omega)
 | n + 1 => fun c sv G w hz hsz hs hG => c_copy_s n (c_copy_n n) c sv hz hsz hs w hG
theorem c_copy (c : CT) (sv : Value) {G : Ghost} (hsz : size c ≤ 1000) (hs : Cs G sv c.subs) (w : World) (hG : Has G w) : Calls Try.prog 18 #[Value.agg #[Value.int .i64 c.h.k, Value.bool c.h.v0, Value.int .i64 c.h.n0, Value.bool c.h.v1, Value.int .i64 c.h.n1, Value.bool c.h.v2, Value.int .i64 c.h.n2, sv]] w (Ret fun r w' => ∃ G', GNew w nX G G' ∧ Has G' w' ∧ (∃ u, r = Value.agg #[Value.int .i64 c.h.k, Value.bool c.h.v0, Value.int .i64 c.h.n0, Value.bool c.h.v1, Value.int .i64 c.h.n1, Value.bool c.h.v2, Value.int .i64 c.h.n2, u] ∧ Cs (dif G G') u c.subs) ∧ Since nX w w') := c_copy_n _ c sv G w (Nat.le_refl _) hsz hs hG
end Go.Proofs.Ytpcpbfajadgmpaa

/- Walks: what Go functions of this chapter come to, each as a function on plain data; no condition but those that each theorem names. Printed by a program of this work (gen.py). -/
namespace Go.Proofs.Ytpcpbfajadgmpaa
open Go.Gx Go.Gx.T3 Go.Gx.T4 Go.Gx.T3
theorem cl19 : Callable Try.prog 19 := callable Try.func19 (by kernel_rfl) rfl
theorem bl27_0i1 (x0 : Int) : Program.built Try.prog 27 [(0, Value.int .i64 x0)] = some #[Value.int .i64 x0, Value.bool false, Value.int .i64 0, Value.bool false, Value.int .i64 0, Value.bool false, Value.int .i64 0, Value.slice none 0 0] := by
 kernel_rfl
def SpoilIs (n : Nat) : Prop := ∀ (l : List CT) (f : Nat → Value) (H G : Ghost) (F : Nat → Prop) (w : World), (∀ x ∈ l, SizeOf.sizeOf x < n) → Cs H (f 7) l → Has G w → (spoilA true H).holds w F → (∀ b, F b → G b = none) → Calls Try.prog 19 #[aggF 8 f] w (Ret fun r w' => r = Value.tuple #[] ∧ Kept (spoilA true H) F w w')
theorem c_spoil_s (n : Nat) (ih : ∀ m, m < n → SpoilIs m) (l : List CT) (f : Nat → Value) {H G : Ghost} {F : Nat → Prop} (hz : ∀ x ∈ l, SizeOf.sizeOf x < n) (hs : Cs H (f 7) l) (w : World) (hG : Has G w) (hA : (spoilA true H).holds w F) (hFG : ∀ b, F b → G b = none) :
    Calls Try.prog 19 #[aggF 8 f] w (Ret fun r w' => r = Value.tuple #[] ∧ Kept (spoilA true H) F w w') := by
 refine enterO (args := [_]) (G := G) (A := spoilA true H) (l := [(0, aggF 8 f)]) Try.func19 rfl Try.ntmps19 hG hA hFG ⟨rfl, trivial⟩ (Nat.le_of_ble_eq_true rfl) ?_
 obtain ⟨rs, hr, hp, hl⟩ := hs.inv
 have hbd := SlG.bound hr
 refine c_seq (c_region ?_)
 refine r_box .none rfl rfl (IsRow.fn _ _) (fun b_1 => ?_)
 refine r_nil (e_next (c_seq (c_region ?_)))
 refine r_val .none rfl (p_field Try.underlying27 rfl sz25 rfl) ?_
 refine r_val .none rfl (p_ld (k := 0) Try.underlying25 rfl rfl rfl (by first | exact odt rfl | omega) rfl) ?_
 refine r_val .none rfl (p_lengx Try.underlying25 rfl hr) ?_
 have bd_1 := SlG.bound hr
 refine r_val .none rfl (p_move rfl) (r_nil (e_next (c_block ?_)))
 refine c_name (d := 1) rfl (fun u_2 hu_2 => ?_)
 refine c_name (d := 5) rfl (fun u_3 hu_3 => ?_)
 refine c_nameL (k := 0) rfl (fun A_4 hA_4 => ?_)
 refine c_nameL (k := 1) rfl (fun A_5 hA_5 => ?_)
 refine c_loop (σ := Nat) (fun k => [(6, Value.int .i64 (k : Nat)), (1, u_2), (5, u_3)]) (fun k => [A_4, A_5]) (fun _ => _) (fun k => k ≤ rs.length) (fun k => rs.length - k) (0) (Nat.zero_le _) rfl ⟨rfl, rfl, rfl, trivial⟩ (.keep (fun _ _ h => h) (.keep (fun _ _ h => h) (.nil))) (fun k hphi => ?_)
 subst hu_2
 subst hu_3
 subst hA_4
 subst hA_5
 refine c_seq (c_region ?_)
 refine r_val .none rfl (p_lt rfl rfl) ?_
 refine r_nil (e_next (c_seq ?_))
 refine c_splitd (d := 7) rfl (fun h_6 => ?_) (fun h_6 => ?_)
 · (
 first
 | (exfalso; omega)
 | (
 refine c_cond_t rfl (c_skip (e_next (c_seq (c_block ?_))))
 refine c_seq (c_region (r_val .none rfl (p_move rfl) (r_val .none rfl (p_assign rfl) (r_nil ?_))))
 refine e_next (c_seq (c_region ?_))
 refine r_val .none rfl (p_field Try.underlying27 rfl sz25 rfl) ?_
 refine r_val .none rfl (p_ld (k := 0) Try.underlying25 rfl rfl rfl (by first | exact odt rfl | omega) rfl) ?_
 refine r_val .none rfl (p_move rfl) ?_
 refine r_iaddr_s .none rfl Try.underlying25 sz27 rfl hr rfl (by first | exact odt rfl | omega) (fun p_8 o_9 R_7 => ?_)
 refine r_ldasp (k := 1) .none rfl Try.underlying27 rfl sz27 rfl rfl R_7 (fun v_11 hk_10 => ?_)
 obtain ⟨l9, hl9, hz9⟩ := okc_tree (hp _ (getD_mem (i := k) (d := d0) (by omega))) (fun x hx => size_mem hx) (hk_10 7 (by decide))
 refine r_callo (k := 1) (vs := [_]) .none rfl cl19 rfl rfl (fun w F hw hA hFG => ih _ (hz (rs.getD k d0).1 (by rw [hl]; exact List.mem_map.2 ⟨_, getD_mem (by omega), rfl⟩)) l9 v_11 _ _ F w hz9 hl9 hw hA hFG) ?_
 refine r_nil (e_next (c_region ?_))
 refine r_val .none rfl (p_field Try.underlying27 rfl sz25 rfl) ?_
 refine r_val .none rfl (p_ld (k := 0) Try.underlying25 rfl rfl rfl (by first | exact odt rfl | omega) rfl) ?_
 refine r_val .none rfl (p_move rfl) ?_
 refine r_val .none rfl (p_build (vs := [(0, Value.int _ _)]) rfl (bl27_0i1 _)) ?_
 refine r_iaddr_s .none rfl Try.underlying25 sz27 rfl hr rfl (by first | exact odt rfl | omega) (fun p_13 o_14 R_12 => ?_)
 refine r_stasp (k := 1) .none sz27 rfl rfl (IsRow.lit _) (one_lit rfl rfl) rfl R_12 (fun j hj => by match j, hj with | 0, _ => exact .inr (.inl ⟨_, _, _, rfl, rfl⟩) | 1, _ => exact .inr (.inr (.inl ⟨_, _, rfl, rfl⟩)) | 2, _ => exact .inr (.inl ⟨_, _, _, rfl, rfl⟩) | 3, _ => exact .inr (.inr (.inl ⟨_, _, rfl, rfl⟩)) | 4, _ => exact .inr (.inl ⟨_, _, _, rfl, rfl⟩) | 5, _ => exact .inr (.inr (.inl ⟨_, _, rfl, rfl⟩)) | 6, _ => exact .inr (.inl ⟨_, _, _, rfl, rfl⟩) | 7, _ => exact .inr (.inr (.inr ⟨rfl, cs_slice (hp _ (getD_mem (i := k) (d := d0) (by omega))), rfl⟩))) ?_
 refine r_nil ?_
 refine e_norm_block ?_
 refine e_next (c_region ?_)
 refine r_val .none rfl (p_add rfl rfl (by omega)) ?_
 refine r_val .none rfl (p_move rfl) (r_nil ?_)
 refine e_round (k + 1) ⟨by omega, by omega⟩ rfl ⟨rfl, rfl, rfl, trivial⟩ (.keep (fun _ _ h => h) (.keep (fun _ _ h => h) (.nil)))))
 · (
 first
 | (exfalso; omega)
 | (
 refine c_cond_f rfl (c_exit (e_exit_then (e_exit_then ?_)))
 refine e_exit_block ?_
 refine e_end0 Try.results19 (fun w hm => ⟨rfl, hm.kept [spoilA true H] (.drop (.keep (fun _ _ h => h) (.nil))) (spoilA true H) (fun F' h => starL_one h)⟩)))
theorem c_spoil_n (n : Nat) : SpoilIs n := Nat.strongRecOn n (fun n ih l f H G F w hz hs hG hA hFG => c_spoil_s n ih l f hz hs w hG hA hFG)
end Go.Proofs.Ytpcpbfajadgmpaa

/- Walks: what Go functions of this chapter come to, each as a function on plain data; no condition but those that each theorem names. Printed by a program of this work (gen.py). -/
namespace Go.Proofs.Ytpcpbfajadgmpaa
open Go.Gx Go.Gx.T3 Go.Gx.T4 Go.Gx.T3
theorem cl11 : Callable Try.prog 11 := callable Try.func11 (by kernel_rfl) rfl
theorem cl12 : Callable Try.prog 12 := callable Try.func12 (by kernel_rfl) rfl
set_option maxHeartbeats 2000000 in
theorem c_CondCopies (a : CT) (sa : Value) (b : CT) (sb : Value) {G : Ghost} (hsa : Cs G sa a.subs) (hsb : Cs G sb b.subs) (w : World) (hG : Has G w) :
    Calls Try.prog 5 #[Value.agg #[Value.int .i64 a.h.k, Value.bool a.h.v0, Value.int .i64 a.h.n0, Value.bool a.h.v1, Value.int .i64 a.h.n1, Value.bool a.h.v2, Value.int .i64 a.h.n2, sa], Value.agg #[Value.int .i64 b.h.k, Value.bool b.h.v0, Value.int .i64 b.h.n0, Value.bool b.h.v1, Value.int .i64 b.h.n1, Value.bool b.h.v2, Value.int .i64 b.h.n2, sb]] w (Ret fun r w' => r = Value.bool true ∧ Since nX w w') := by
 refine enter (args := [_, _]) (X := nX) (G := G) (l := [(0, Value.agg #[Value.int .i64 a.h.k, Value.bool a.h.v0, Value.int .i64 a.h.n0, Value.bool a.h.v1, Value.int .i64 a.h.n1, Value.bool a.h.v2, Value.int .i64 a.h.n2, sa]), (1, Value.agg #[Value.int .i64 b.h.k, Value.bool b.h.v0, Value.int .i64 b.h.n0, Value.bool b.h.v1, Value.int .i64 b.h.n1, Value.bool b.h.v2, Value.int .i64 b.h.n2, sb])]) Try.func5 rfl Try.ntmps5 hG ⟨rfl, rfl, trivial⟩ (Nat.le_of_ble_eq_true rfl) ?_
 refine c_seq (c_region ?_)
 refine r_box .none rfl rfl (IsRow.lit _) (fun b_1 => ?_)
 refine r_box .none rfl rfl (IsRow.lit _) (fun b_2 => ?_)
 refine r_val .none rfl (p_assign rfl) (r_nil (e_next (c_seq (c_seq ?_))))
 refine c_region ?_
 refine r_val .none rfl (p_ldw (k := 1) Try.underlying27 rfl sz27 rfl rfl (rfl : _ = Value.agg #[_, _, _, _, _, _, _, _])) ?_
 refine r_call (vs := [_, _]) .none rfl cl11 rfl (fun w hw => c_Small a sa 60 (by omega) hsa w hw) ?_
 refine r_val .none rfl (p_not rfl) ?_
 refine r_val .none rfl (p_move rfl) ?_
 refine' r_or (c := 10) (d := 14) [_, _, _, _] rfl (fun h_1 Q_2 hQ_3 => ?_) (fun h_1 Q_2 hQ_3 => ?_) ?_
 rotate_left 1
 · (
 try simp only [norms] at h_1
 refine r_val (.some rfl rfl) rfl (p_ldw (k := 0) Try.underlying27 rfl sz27 rfl rfl (rfl : _ = Value.agg #[_, _, _, _, _, _, _, _])) ?_
 refine r_call (vs := [_, _]) (.some rfl rfl) rfl cl11 rfl (fun w hw => c_Small b sb 60 (by omega) hsb w hw) ?_
 refine r_val (.some rfl rfl) rfl (p_not rfl) ?_
 refine r_val .none rfl (p_pick_f rfl rfl) ?_
 refine r_nil (e_fin (d := 14) hQ_3 rfl (by repeat (first | exact .refl | refine .put rfl ?_ | refine .say rfl ?_ | refine .say2 rfl (by first | assumption | simp_all) ?_))))
 · (
 repeat (first | refine r_skip rfl (.no rfl rfl) ?_ | refine r_skip rfl (.un rfl rfl) ?_)
 refine r_val (by first | exact .none | exact .some rfl rfl) rfl (p_pick_t rfl rfl) ?_
 refine r_nil (e_fin (d := 14) hQ_3 rfl (by repeat (first | exact .refl | refine .put rfl ?_ | refine .say rfl ?_ | refine .say2 rfl (by first | assumption | simp_all) ?_))))
 refine r_val .none rfl (p_move rfl) ?_
 refine r_split (d := 15) rfl (fun h_5 => ?_) (fun h_5 => ?_)
 · (
 try simp only [norms] at h_5
 first
 | (exfalso; omega)
 | (
 refine r_skip rfl (.no rfl rfl) ?_
 refine r_skip rfl (.no rfl rfl) ?_
 refine r_skip rfl (.no rfl rfl) ?_
 refine r_skip rfl (.no rfl rfl) ?_
 refine r_val .none rfl (p_pick_t rfl rfl) ?_
 refine r_val .none rfl (p_move rfl) ?_
 refine r_skip rfl (.no rfl rfl) ?_
 refine r_skip rfl (.no rfl rfl) ?_
 refine r_skip rfl (.no rfl rfl) ?_
 refine r_skip rfl (.no rfl rfl) ?_
 refine r_val .none rfl (p_pick_t rfl rfl) ?_
 refine r_nil (e_next (c_cond_t rfl (c_seq (c_region ?_))))
 refine r_call (vs := []) .none rfl cl12 rfl (fun w hw => c_awake4 w) ?_
 refine r_val .none rfl (p_assign rfl) (r_nil (e_next ?_))
 refine c_ret ?_
 refine e_ret_then ?_
 refine e_ret1 Try.results5 (.tmp rfl .nil) (fun w hm => ⟨?_, hm.since⟩)
 rfl))
 · (
 try simp only [norms] at h_5
 have hsza : size a ≤ 1000 := Nat.le_trans (small_le (m := 60) (h_5).1) (by decide)
 have hszb : size b ≤ 1000 := Nat.le_trans (small_le (m := 60) (h_5).2) (by decide)
 first
 | (exfalso; omega)
 | (
 refine r_val (.some rfl rfl) rfl (p_ldw (k := 1) Try.underlying27 rfl sz27 rfl rfl (rfl : _ = Value.agg #[_, _, _, _, _, _, _, _])) ?_
 refine r_callm (vs := [_]) (.some rfl rfl) rfl cl15 rfl (fun w hw => c_ref4 a sa hsza hsa w hw) (fun G_6 v_9 hn_7 hr_8 => ?_)
 replace hsa := hsa.mono hn_7.le
 replace hsb := hsb.mono hn_7.le
 obtain ⟨u_10, rfl, u_10s⟩ := hr_8
 refine r_call (vs := [_, _]) (.some rfl rfl) rfl cl14 rfl (fun w hw => c_rcheck a _ _ (by omega) u_10s w hw) ?_
 refine r_val (.some rfl rfl) rfl (p_ne rfl rfl) ?_
 refine r_val .none rfl (p_pick_f rfl rfl) ?_
 refine r_val .none rfl (p_move rfl) ?_
 refine r_splitd (d := 21) rfl (fun h_11 => ?_) (fun h_11 => ?_)
 · (
 first
 | (exfalso; omega)
 | (
 refine r_skip rfl (.no rfl rfl) ?_
 refine r_skip rfl (.no rfl rfl) ?_
 refine r_skip rfl (.no rfl rfl) ?_
 refine r_skip rfl (.no rfl rfl) ?_
 refine r_val .none rfl (p_pick_t rfl rfl) ?_
 refine r_nil (e_next (c_cond_t rfl (c_seq (c_region ?_))))
 refine r_call (vs := []) .none rfl cl12 rfl (fun w hw => c_awake4 w) ?_
 refine r_val .none rfl (p_assign rfl) (r_nil (e_next ?_))
 refine c_ret ?_
 refine e_ret_then ?_
 refine e_ret1 Try.results5 (.tmp rfl .nil) (fun w hm => ⟨?_, hm.since⟩)
 rfl))
 · (
 first
 | (exfalso; omega)
 | (
 refine r_val (.some rfl rfl) rfl (p_ldw (k := 0) Try.underlying27 rfl sz27 rfl rfl (rfl : _ = Value.agg #[_, _, _, _, _, _, _, _])) ?_
 refine r_callm (vs := [_]) (.some rfl rfl) rfl cl15 rfl (fun w hw => c_ref4 b sb hszb hsb w hw) (fun G_12 v_15 hn_13 hr_14 => ?_)
 replace hsa := hsa.mono hn_13.le
 replace hsb := hsb.mono hn_13.le
 replace u_10s := u_10s.mono hn_13.le
 obtain ⟨u_16, rfl, u_16s⟩ := hr_14
 refine r_call (vs := [_, _]) (.some rfl rfl) rfl cl14 rfl (fun w hw => c_rcheck b _ _ (by omega) u_16s w hw) ?_
 refine r_val (.some rfl rfl) rfl (p_ne rfl rfl) ?_
 refine r_val .none rfl (p_pick_f rfl rfl) ?_
 refine r_nil (e_next ?_)
 refine c_splitd (d := 26) rfl (fun h_17 => ?_) (fun h_17 => ?_)
 · (
 first
 | (exfalso; omega)
 | (
 refine c_cond_t rfl (c_seq (c_region ?_))
 refine r_call (vs := []) .none rfl cl12 rfl (fun w hw => c_awake4 w) ?_
 refine r_val .none rfl (p_assign rfl) (r_nil (e_next ?_))
 refine c_ret ?_
 refine e_ret_then ?_
 refine e_ret1 Try.results5 (.tmp rfl .nil) (fun w hm => ⟨?_, hm.since⟩)
 rfl))
 · (
 first
 | (exfalso; omega)
 | (
 refine c_cond_f rfl (c_skip (e_next (c_seq (c_seq ?_))))
 refine c_region_d (fun _ => false) _ mixed (.keep (fun _ _ h => h) (.keep (fun _ _ h => h) (.nil))) ?_
 refine d_val1 0 rfl rfl (by kernel_rfl) (fun _ _ => rfl) .none rfl (p_ldw (k := 1) Try.underlying27 rfl sz27 rfl rfl (rfl : _ = Value.agg #[_, _, _, _, _, _, _, _])) ?_
 refine d_val1 1 rfl rfl (by kernel_rfl) (fun _ _ => rfl) .none rfl (p_ldw (k := 0) Try.underlying27 rfl sz27 rfl rfl (rfl : _ = Value.agg #[_, _, _, _, _, _, _, _])) ?_
 refine d_val1 3 rfl rfl (by kernel_rfl) (fun _ _ => rfl) .none rfl (p_ldw (k := 1) Try.underlying27 rfl sz27 rfl rfl (rfl : _ = Value.agg #[_, _, _, _, _, _, _, _])) ?_
 refine d_val1 5 rfl rfl (by kernel_rfl) (fun _ _ => rfl) .none rfl (p_ldw (k := 0) Try.underlying27 rfl sz27 rfl rfl (rfl : _ = Value.agg #[_, _, _, _, _, _, _, _])) ?_
 refine d_eff 2 rfl (by kernel_rfl) (fun K_18 hKK_18 hcK_18 => ?_)
 refine r_call (vs := [_, _]) .none rfl cl16 rfl (fun w hw => c_csame4 a b sa sb hsa hsb w hw) ?_
 refine r_nil (e_d (i := 2) (brk := (fun _ => false)) (ph' := true) hKK_18 hcK_18 rfl (fun _ => GLe.refl _) (fun _ => .keep (fun _ _ h => h) (.keep (fun _ _ h => h) (.nil))) ?_)
 clear hKK_18 hcK_18 K_18
 refine d_eff 4 rfl (by kernel_rfl) (fun K_19 hKK_19 hcK_19 => ?_)
 refine r_callm (vs := [_]) .none rfl cl15 rfl (fun w hw => c_ref4 a sa hsza hsa w hw) (fun G_20 v_23 hn_21 hr_22 => ?_)
 replace hsa := hsa.mono hn_21.le
 replace hsb := hsb.mono hn_21.le
 replace u_10s := u_10s.mono hn_21.le
 replace u_16s := u_16s.mono hn_21.le
 obtain ⟨u_24, rfl, u_24s⟩ := hr_22
 refine r_nil (e_d (i := 4) (brk := (fun _ => false)) (ph' := true) hKK_19 hcK_19 rfl (fun _ => hn_21.le) (fun _ => .keep (fun _ _ h => h) (.keep (fun _ _ h => h) (.nil))) ?_)
 clear hKK_19 hcK_19 K_19
 refine d_eff 6 rfl (by kernel_rfl) (fun K_25 hKK_25 hcK_25 => ?_)
 refine r_callm (vs := [_]) .none rfl cl15 rfl (fun w hw => c_ref4 b sb hszb hsb w hw) (fun G_26 v_29 hn_27 hr_28 => ?_)
 replace hsa := hsa.mono hn_27.le
 replace hsb := hsb.mono hn_27.le
 replace u_10s := u_10s.mono hn_27.le
 replace u_16s := u_16s.mono hn_27.le
 replace u_24s := u_24s.mono hn_27.le
 obtain ⟨u_30, rfl, u_30s⟩ := hr_28
 refine r_nil (e_d (i := 6) (brk := (fun _ => false)) (ph' := true) hKK_25 hcK_25 rfl (fun _ => (hn_21.trans hn_27).le) (fun _ => .keep (fun _ _ h => h) (.keep (fun _ _ h => h) (.nil))) ?_)
 clear hKK_25 hcK_25 K_25
 refine d_eff 7 rfl (by kernel_rfl) (fun K_31 hKK_31 hcK_31 => ?_)
 refine r_call (vs := [_, _]) .none rfl cl17 rfl (fun w hw => c_rsame4 _ _ _ _ u_24s u_30s w hw) ?_
 refine r_nil (e_d (i := 7) (brk := (fun _ => false)) (ph' := true) hKK_31 hcK_31 rfl (fun _ => (hn_21.trans hn_27).le) (fun _ => .keep (fun _ _ h => h) (.keep (fun _ _ h => h) (.nil))) ?_)
 clear hKK_31 hcK_31 K_31
 refine d_val1 8 rfl rfl (by kernel_rfl) (fun _ _ => rfl) .none rfl (p_neb Try.underlying4 rfl rfl) ?_
 refine d_say (d := 36) (v := Value.bool false) (congrArg (fun z => some (Value.bool z)) (by simp)) ?_
 refine d_val1 9 rfl rfl (by kernel_rfl) (fun _ _ => rfl) .none rfl (p_move rfl) ?_
 refine d_val1 10 rfl rfl (by kernel_rfl) (fun _ _ => rfl) (.some rfl rfl) rfl (p_ldw (k := 1) Try.underlying27 rfl sz27 rfl rfl (rfl : _ = Value.agg #[_, _, _, _, _, _, _, _])) ?_
 refine d_val1 11 rfl rfl (by kernel_rfl) (fun _ _ => rfl) (.some rfl rfl) rfl (p_ldw (k := 1) Try.underlying27 rfl sz27 rfl rfl (rfl : _ = Value.agg #[_, _, _, _, _, _, _, _])) ?_
 refine d_eff 12 rfl (by kernel_rfl) (fun K_32 hKK_32 hcK_32 => ?_)
 refine r_call (vs := [_, _]) (.some rfl rfl) rfl cl16 rfl (fun w hw => c_csame4 a a sa sa hsa hsa w hw) ?_
 refine r_nil (e_d (i := 12) (brk := (fun _ => false)) (ph' := true) hKK_32 hcK_32 rfl (fun _ => (hn_21.trans hn_27).le) (fun _ => .keep (fun _ _ h => h) (.keep (fun _ _ h => h) (.nil))) ?_)
 clear hKK_32 hcK_32 K_32
 refine d_say (d := 40) (v := Value.bool true) (congrArg (fun z => some (Value.bool z)) (cSame_self a)) ?_
 refine d_val1 13 rfl rfl (by kernel_rfl) (fun _ _ => rfl) (.some rfl rfl) rfl (p_not rfl) ?_
 refine d_say (d := 41) (v := Value.bool false) rfl ?_
 refine d_val1 14 rfl rfl (by kernel_rfl) (fun _ _ => rfl) .none rfl (p_pick_f rfl rfl) ?_
 refine d_nil (by kernel_rfl) ?_
 refine e_next (c_cond_f rfl (c_skip (e_next (c_seq ?_))))
 refine c_region ?_
 refine r_val .none rfl (p_ldw (k := 1) Try.underlying27 rfl sz27 rfl rfl (rfl : _ = Value.agg #[_, _, _, _, _, _, _, _])) ?_
 refine r_callm (vs := [_]) .none rfl cl15 rfl (fun w hw => c_ref4 a sa hsza hsa w hw) (fun G_33 v_36 hn_34 hr_35 => ?_)
 replace hsa := hsa.mono hn_34.le
 replace hsb := hsb.mono hn_34.le
 replace u_10s := u_10s.mono hn_34.le
 replace u_16s := u_16s.mono hn_34.le
 replace u_24s := u_24s.mono hn_34.le
 replace u_30s := u_30s.mono hn_34.le
 obtain ⟨uw, rfl, hW⟩ := hr_35
 refine r_alloc .none rfl zr38 (IsRow.lit _) (fun b_3 => ?_)
 refine r_stw (k := 0) .none sz38 rfl rfl (IsRow.lit _) (one_lit rfl (all_cons rfl (all_cons rfl (all_cons rfl (all_cons rfl (all_cons rfl (all_cons rfl (all_cons rfl (all_cons (hW).one rfl))))))))) rfl ?_
 refine r_nil (e_next (c_seq (c_region ?_)))
 refine r_val .none rfl (p_ldw (k := 2) Try.underlying27 rfl sz27 rfl rfl (rfl : _ = Value.agg #[_, _, _, _, _, _, _, _])) ?_
 refine r_callm (vs := [_]) .none rfl cl18 rfl (fun w hw => c_copy a sa hsza hsa w hw) (fun G_38 v_41 hn_39 hr_40 => ?_)
 obtain ⟨uc, rfl, hC⟩ := hr_40
 have hn5 := hn_39
 have hsa5 := hsa
 have hW5 := hW
 replace hsa := hsa.mono hn_39.le
 replace hsb := hsb.mono hn_39.le
 replace u_10s := u_10s.mono hn_39.le
 replace u_16s := u_16s.mono hn_39.le
 replace u_24s := u_24s.mono hn_39.le
 replace u_30s := u_30s.mono hn_39.le
 replace hW := hW.mono hn_39.le
 have hle5 := GLe.refl G_38
 have hCm := Tr.mono hC (dif_le _ _)
 refine r_alloc .none rfl zr27 (IsRow.lit _) (fun b_4 => ?_)
 refine r_stw (k := 0) .none sz27 rfl rfl (IsRow.lit _) (one_lit rfl (all_cons rfl (all_cons rfl (all_cons rfl (all_cons rfl (all_cons rfl (all_cons rfl (all_cons rfl (all_cons (hCm).one rfl))))))))) rfl ?_
 refine r_nil (e_next (c_seq (c_seq ?_)))
 refine c_region_d (fun _ => false) _ mixed (.keep (fun _ _ h => h) (.keep (fun _ _ h => h) (.keep (fun _ _ h => h) (.keep (fun _ _ h => h) (.nil))))) ?_
 refine d_val1 0 rfl rfl (by kernel_rfl) (fun _ _ => rfl) .none rfl (p_ldw (k := 0) Try.underlying27 rfl sz27 rfl rfl (rfl : _ = Value.agg #[_, _, _, _, _, _, _, _])) ?_
 refine d_val1 2 rfl rfl (by kernel_rfl) (fun _ _ => rfl) .none rfl (p_ldw (k := 1) Try.underlying38 rfl sz38 rfl rfl (rfl : _ = Value.agg #[_, _, _, _, _, _, _, _])) ?_
 refine d_eff 1 rfl (by kernel_rfl) (fun K_43 hKK_43 hcK_43 => ?_)
 refine r_callm (vs := [_]) .none rfl cl15 rfl (fun w hw => c_ref4 a uc hsza hCm w hw) (fun G_44 v_47 hn_45 hr_46 => ?_)
 replace hsa := hsa.mono hn_45.le
 replace hsb := hsb.mono hn_45.le
 replace u_10s := u_10s.mono hn_45.le
 replace u_16s := u_16s.mono hn_45.le
 replace u_24s := u_24s.mono hn_45.le
 replace u_30s := u_30s.mono hn_45.le
 replace hW := hW.mono hn_45.le
 replace hle5 := GLe.trans hle5 hn_45.le
 replace hCm := hCm.mono hn_45.le
 obtain ⟨u_48, rfl, u_48s⟩ := hr_46
 refine r_nil (e_d (i := 1) (brk := (fun _ => false)) (ph' := true) hKK_43 hcK_43 rfl (fun _ => hn_45.le) (fun _ => .keep (fun _ _ h => h) (.keep (fun _ _ h => h) (.keep (fun _ _ h => h) (.keep (fun _ _ h => h) (.nil))))) ?_)
 clear hKK_43 hcK_43 K_43
 refine d_eff 3 rfl (by kernel_rfl) (fun K_49 hKK_49 hcK_49 => ?_)
 refine r_call (vs := [_, _]) .none rfl cl17 rfl (fun w hw => c_rsame4 _ _ _ _ u_48s hW w hw) ?_
 refine r_nil (e_d (i := 3) (brk := (fun _ => false)) (ph' := true) hKK_49 hcK_49 rfl (fun _ => hn_45.le) (fun _ => .keep (fun _ _ h => h) (.keep (fun _ _ h => h) (.keep (fun _ _ h => h) (.keep (fun _ _ h => h) (.nil))))) ?_)
 clear hKK_49 hcK_49 K_49
 refine d_say (d := 50) (v := Value.bool true) (congrArg (fun z => some (Value.bool z)) (cSame_self a)) ?_
 refine d_val1 4 rfl rfl (by kernel_rfl) (fun _ _ => rfl) .none rfl (p_not rfl) ?_
 refine d_say (d := 51) (v := Value.bool false) rfl ?_
 refine d_nil (by kernel_rfl) ?_
 refine e_next (c_cond_f rfl (c_skip (e_next (c_seq ?_))))
 refine c_region ?_
 refine r_thaw true hn5 hle5 ?_
 obtain ⟨Gt, hGt⟩ : ∃ Gt, Gt = but G_44 (dif G_33 G_38) := ⟨_, rfl⟩
 rw [← hGt]
 have hGo : GLe G_33 Gt := by rw [hGt]; exact but_old (GLe.trans hn5.le hle5)
 replace hsa := hsa5.mono hGo
 replace hW := hW5.mono hGo
 refine r_val .none rfl (p_ldw (k := 1) Try.underlying27 rfl sz27 rfl rfl (rfl : _ = Value.agg #[_, _, _, _, _, _, _, _])) ?_
 refine r_callo (k := 0) (vs := [_]) .none rfl cl19 rfl rfl (fun w F hw hA hFG => c_spoil_n (SizeOf.sizeOf a) a.subs (at_ [.int .i64 a.h.k, .bool a.h.v0, .int .i64 a.h.n0, .bool a.h.v1, .int .i64 a.h.n1, .bool a.h.v2, .int .i64 a.h.n2, uc]) _ _ F w (fun x hx => size_mem hx) hC hw hA hFG) ?_
 refine r_nil (e_next (c_seq ?_))
 refine c_region_d (fun _ => false) _ mixed (.keep (fun _ _ h => h) (.keep (fun _ _ h => h) (.keep (fun _ _ h => h) (.keep (fun _ _ h => h) (.keep (fun _ _ h => h) (.nil)))))) ?_
 refine d_val1 0 rfl rfl (by kernel_rfl) (fun _ _ => rfl) .none rfl (p_ldw (k := 4) Try.underlying27 rfl sz27 rfl rfl (rfl : _ = Value.agg #[_, _, _, _, _, _, _, _])) ?_
 refine d_val1 2 rfl rfl (by kernel_rfl) (fun _ _ => rfl) .none rfl (p_ldw (k := 2) Try.underlying38 rfl sz38 rfl rfl (rfl : _ = Value.agg #[_, _, _, _, _, _, _, _])) ?_
 refine d_eff 1 rfl (by kernel_rfl) (fun K_50 hKK_50 hcK_50 => ?_)
 refine r_callm (vs := [_]) .none rfl cl15 rfl (fun w hw => c_ref4 a sa hsza hsa w hw) (fun G_51 v_54 hn_52 hr_53 => ?_)
 replace hsa := hsa.mono hn_52.le
 replace hW := hW.mono hn_52.le
 obtain ⟨u_55, rfl, u_55s⟩ := hr_53
 refine r_nil (e_d (i := 1) (brk := (fun _ => false)) (ph' := true) hKK_50 hcK_50 rfl (fun _ => hn_52.le) (fun _ => .keep (fun _ _ h => h) (.keep (fun _ _ h => h) (.keep (fun _ _ h => h) (.keep (fun _ _ h => h) (.keep (fun _ _ h => h) (.nil)))))) ?_)
 clear hKK_50 hcK_50 K_50
 refine d_eff 3 rfl (by kernel_rfl) (fun K_56 hKK_56 hcK_56 => ?_)
 refine r_call (vs := [_, _]) .none rfl cl17 rfl (fun w hw => c_rsame4 _ _ _ _ u_55s hW w hw) ?_
 refine r_nil (e_d (i := 3) (brk := (fun _ => false)) (ph' := true) hKK_56 hcK_56 rfl (fun _ => hn_52.le) (fun _ => .keep (fun _ _ h => h) (.keep (fun _ _ h => h) (.keep (fun _ _ h => h) (.keep (fun _ _ h => h) (.keep (fun _ _ h => h) (.nil)))))) ?_)
 clear hKK_56 hcK_56 K_56
 refine d_say (d := 57) (v := Value.bool true) (congrArg (fun z => some (Value.bool z)) (cSame_self a)) ?_
 refine d_val1 4 rfl rfl (by kernel_rfl) (fun _ _ => rfl) .none rfl (p_move rfl) ?_
 refine d_eff 5 rfl (by kernel_rfl) (fun K_57 hKK_57 hcK_57 => ?_)
 refine r_call (vs := []) (.some rfl rfl) rfl cl12 rfl (fun w hw => c_awake4 w) ?_
 refine r_nil (e_d (i := 5) (brk := (fun _ => false)) (ph' := true) hKK_57 hcK_57 rfl (fun _ => hn_52.le) (fun _ => .keep (fun _ _ h => h) (.keep (fun _ _ h => h) (.keep (fun _ _ h => h) (.keep (fun _ _ h => h) (.keep (fun _ _ h => h) (.nil)))))) ?_)
 clear hKK_57 hcK_57 K_57
 refine d_val1 6 rfl rfl (by kernel_rfl) (fun _ _ => rfl) .none rfl (p_pick_t rfl rfl) ?_
 refine d_val1 7 rfl rfl (by kernel_rfl) (fun _ _ => rfl) .none rfl (p_assign rfl) ?_
 refine d_nil (by kernel_rfl) ?_
 refine e_next ?_
 refine c_ret ?_
 refine e_ret1 Try.results5 (.tmp rfl .nil) (fun w hm => ⟨?_, hm.since⟩)
 rfl))))))
end Go.Proofs.Ytpcpbfajadgmpaa

/- Walks: what Go functions of this chapter come to, each as a function on plain data; no condition but those that each theorem names. Printed by a program of this work (gen.py). -/
namespace Go.Proofs.Ytpcpbfajadgmpaa
open Go.Gx Go.Gx.T3 Go.Gx.T4 Go.Gx.T3 Go.ChangeShapes Go.WideShapes Go.ChangeAt Go.RowKit
theorem open_cond_l : leafT Try.prog 10 27 = some [3, 4, 3, 4, 3, 4, 3, 25] := by kernel_rfl
theorem open_cond_n {H : Type} {enc : TypeId × Value → H} {W : World} {base : Nat} {sp : Nat → Bool} {held : Bool} : ∀ (B n : Nat) (cs : List Value) (x : DataW H × List MemPlace), n ≤ B → DataW.trod enc Try.prog W base sp held n 27 cs = some x → ∃ a : CT × Value, cs = cvC a ∧ Cs (GW W) a.2 a.1.subs
 | 0, n, cs, x, hn, h => by
  obtain rfl : n = 0 := by omega
  simp [DataW.trod] at h
 | B + 1, n, cs, x, hn, h => by
  obtain ⟨n', rfl, hl⟩ := leavesB_struct 9 Try.underlying27 open_cond_l h
  obtain ⟨x0, r0, e0, f0, g0⟩ := hl.inv
  obtain ⟨a0, rfl, _⟩ := f0.leaf.int Try.underlying3
  obtain ⟨x1, r1, e1, f1, g1⟩ := g0.inv
  obtain ⟨a1, rfl⟩ := f1.leaf.bool Try.underlying4
  obtain ⟨x2, r2, e2, f2, g2⟩ := g1.inv
  obtain ⟨a2, rfl, _⟩ := f2.leaf.int Try.underlying3
  obtain ⟨x3, r3, e3, f3, g3⟩ := g2.inv
  obtain ⟨a3, rfl⟩ := f3.leaf.bool Try.underlying4
  obtain ⟨x4, r4, e4, f4, g4⟩ := g3.inv
  obtain ⟨a4, rfl, _⟩ := f4.leaf.int Try.underlying3
  obtain ⟨x5, r5, e5, f5, g5⟩ := g4.inv
  obtain ⟨a5, rfl⟩ := f5.leaf.bool Try.underlying4
  obtain ⟨x6, r6, e6, f6, g6⟩ := g5.inv
  obtain ⟨a6, rfl, _⟩ := f6.leaf.int Try.underlying3
  obtain ⟨x7, r7, e7, f7, g7⟩ := g6.inv
  have z := g7.inv0
  obtain ⟨l, h1, h2⟩ := open_slB (cells := cvC) (Qa := fun a => Cs (GW W) a.2 a.1.subs) d0 Try.underlying25 (show Program.cellsOf Try.prog 27 = 8 by kernel_rfl) (by decide) (fun m cs' y hm hy => open_cond_n B m cs' y (by omega) hy) f7
  refine ⟨(CT.mk ⟨a0, a1, a2, a3, a4, a5, a6⟩ (l.map Prod.fst), x7), ?_, Tr.mk l h1 h2⟩
  rw [e0, e1, e2, e3, e4, e5, e6, e7, z]; rfl
set_option maxRecDepth 100000 in
theorem open_cond {H : Type} {enc : TypeId × Value → H} {W : World} {base : Nat} {sp : Nat → Bool} {held : Bool} {r : Reach} {b0 : Nat} {v : Value} {y : DataW H} {ps : List MemPlace} (hv : Value.okWide Try.prog W r b0 27 v) (h : DataW.Trod enc Try.prog W base sp held 27 v y ps) : ∃ (c : CT) (sv : Value), v = Value.agg #[Value.int .i64 c.h.k, Value.bool c.h.v0, Value.int .i64 c.h.n0, Value.bool c.h.v1, Value.int .i64 c.h.n1, Value.bool c.h.v2, Value.int .i64 c.h.n2, sv] ∧ Cs (GW W) sv c.subs := by
 obtain ⟨cs, rfl⟩ := agg_of_wide Try.underlying27 rfl hv
 obtain ⟨fuel, hf⟩ := h
 obtain ⟨a, e, hs⟩ := open_cond_n fuel fuel cs.toList _ (Nat.le_refl _) hf
 refine ⟨a.1, a.2, ?_, hs⟩
 have : cs = (cvC a).toArray := by apply Array.ext'; simpa using e
 rw [this]; rfl
end Go.Proofs.Ytpcpbfajadgmpaa
