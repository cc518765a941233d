/- Texts of this work, laid together: a logic of steps, plain laws, and walks of Go functions, each without a condition but those that its theorems name. -/
import Derived.Test.YtoflaphnlfggkaaKCompSteps4
import Derived.Test.YtoflaphnlfggkaaRows
/- Walks: what Go functions of this chapter come to, each as a function on plain data; no condition but those that each theorem names. Printed by a program of this work (gen.py). -/
namespace Go.Proofs.Ytoflaphnlfggkaa
open Go.Gx Go.Gx.T4 Go.Gx.T3 Go.Gx.T6 Go.Gx.T8 Go.Gx.T4 Go.Gx.T3 Go.Gx.T8 Go.Gx.T4 Go.Gx.T3
theorem lf84 : leafT Try.prog 9 84 = some [3, 3, 3] := by
  kernel_rfl
theorem ef84 : eqT Try.prog 9 84 = true := by
  kernel_rfl
theorem eg84 : Try.prog.eqGuardType Try.prog.depth 84 = false := by
  kernel_rfl
theorem cl13 : Callable Try.prog 13 := callable Try.func13 (by kernel_rfl) rfl
theorem cl17 : Callable Try.prog 17 := callable Try.func17 (by kernel_rfl) rfl
theorem cl40 : Callable Try.prog 40 := callable Try.func40 (by kernel_rfl) rfl
theorem cl41 : Callable Try.prog 41 := callable Try.func41 (by kernel_rfl) rfl
theorem bl35_1i1 (x0 : Int) : Program.built Try.prog 35 [(1, Value.int .i64 x0)] = some #[Value.bool false, Value.int .i64 x0] := by
  kernel_rfl
theorem bl35_0b1_1i1 (x0 : Bool) (x1 : Int) : Program.built Try.prog 35 [(0, Value.bool x0), (1, Value.int .i64 x1)] = some #[Value.bool x0, Value.int .i64 x1] := by
  kernel_rfl
theorem bl36_0a2_1a2_2a2 (x0 : Value) (x1 : Value) (x2 : Value) (x3 : Value) (x4 : Value) (x5 : Value) : Program.built Try.prog 36 [(0, Value.agg #[x0, x1]), (1, Value.agg #[x2, x3]), (2, Value.agg #[x4, x5])] = some #[x0, x1, x2, x3, x4, x5] := by
  kernel_rfl
theorem bl38_0i1_1a6 (x0 : Int) (x1 : Value) (x2 : Value) (x3 : Value) (x4 : Value) (x5 : Value) (x6 : Value) : Program.built Try.prog 38 [(0, Value.int .i64 x0), (1, Value.agg #[x1, x2, x3, x4, x5, x6])] = some #[Value.int .i64 x0, x1, x2, x3, x4, x5, x6, Value.slice none 0 0] := by
  kernel_rfl
theorem bl38_0i1_2s3 (x0 : Int) (x1 : Option Addr) (x2 : Nat) (x3 : Nat) : Program.built Try.prog 38 [(0, Value.int .i64 x0), (2, Value.slice x1 x2 x3)] = some #[Value.int .i64 x0, Value.bool false, Value.int .i64 0, Value.bool false, Value.int .i64 0, Value.bool false, Value.int .i64 0, Value.slice x1 x2 x3] := by
  kernel_rfl
theorem bs38_20a8_1a8 (a0 a1 a2 a3 a4 a5 a6 a7 : Value) (a8 a9 a10 a11 a12 a13 a14 a15 : Value) : Instr.fill (fun i => some (i * 8, 8)) ((Array.range (2 * 8)).map ((Value.agg #[Value.int .i64 0, Value.bool false, Value.int .i64 0, Value.bool false, Value.int .i64 0, Value.bool false, Value.int .i64 0, Value.slice none 0 0]).cells[· % (Value.agg #[Value.int .i64 0, Value.bool false, Value.int .i64 0, Value.bool false, Value.int .i64 0, Value.bool false, Value.int .i64 0, Value.slice none 0 0]).cells.size]!)) [(0, Value.agg #[a0, a1, a2, a3, a4, a5, a6, a7]), (1, Value.agg #[a8, a9, a10, a11, a12, a13, a14, a15])] = some #[a0, a1, a2, a3, a4, a5, a6, a7, a8, a9, a10, a11, a12, a13, a14, a15] := by
  kernel_rfl
theorem bs38_30a8_1a8_2a8 (a0 a1 a2 a3 a4 a5 a6 a7 : Value) (a8 a9 a10 a11 a12 a13 a14 a15 : Value) (a16 a17 a18 a19 a20 a21 a22 a23 : Value) : Instr.fill (fun i => some (i * 8, 8)) ((Array.range (3 * 8)).map ((Value.agg #[Value.int .i64 0, Value.bool false, Value.int .i64 0, Value.bool false, Value.int .i64 0, Value.bool false, Value.int .i64 0, Value.slice none 0 0]).cells[· % (Value.agg #[Value.int .i64 0, Value.bool false, Value.int .i64 0, Value.bool false, Value.int .i64 0, Value.bool false, Value.int .i64 0, Value.slice none 0 0]).cells.size]!)) [(0, Value.agg #[a0, a1, a2, a3, a4, a5, a6, a7]), (1, Value.agg #[a8, a9, a10, a11, a12, a13, a14, a15]), (2, Value.agg #[a16, a17, a18, a19, a20, a21, a22, a23])] = some #[a0, a1, a2, a3, a4, a5, a6, a7, a8, a9, a10, a11, a12, a13, a14, a15, a16, a17, a18, a19, a20, a21, a22, a23] := by
  kernel_rfl
theorem c_one6 (n : Int)  (w : World)  :
    Calls Try.prog 40 #[Value.int .i64 n] w (Ret fun r w' => r = Value.agg #[Value.int .i64 1, Value.bool false, Value.int .i64 n, Value.bool false, Value.int .i64 1, Value.bool true, Value.int .i64 n, Value.slice none 0 0] ∧ Since nX w w') := by
  refine enter (args := [_]) (X := nX) (G := (fun _ => none)) (l := [(0, Value.int .i64 n)]) Try.func40 rfl Try.ntmps40 (fun _ _ h => by cases h) ⟨rfl, trivial⟩ (Nat.le_of_ble_eq_true rfl) ?_
  refine c_seq ?_
  refine c_region ?_
  refine r_alloc .none rfl zr38 (IsRow.lit _) (fun b_1 => ?_)
  refine r_nil ?_
  refine e_next ?_
  refine c_seq ?_
  refine c_region ?_
  refine r_val .none rfl (p_move rfl) ?_
  refine r_val .none rfl (p_build (vs := [(1, Value.int _ _)]) rfl (bl35_1i1 _)) ?_
  refine r_val .none rfl (p_build (vs := [(1, Value.int _ _)]) rfl (bl35_1i1 _)) ?_
  refine r_val .none rfl (p_move rfl) ?_
  refine r_val .none rfl (p_build (vs := [(0, Value.bool _), (1, Value.int _ _)]) rfl (bl35_0b1_1i1 _ _)) ?_
  refine r_val .none rfl (p_build (vs := [(0, Value.agg #[_, _]), (1, Value.agg #[_, _]), (2, Value.agg #[_, _])]) rfl (bl36_0a2_1a2_2a2 _ _ _ _ _ _)) ?_
  refine r_val .none rfl (p_build (vs := [(0, Value.int _ _), (1, Value.agg #[_, _, _, _, _, _])]) rfl (bl38_0i1_1a6 _ _ _ _ _ _ _)) ?_
  refine r_stw (k := 0) .none sz38 rfl rfl (IsRow.lit _) (one_lit rfl rfl) rfl ?_
  refine r_nil ?_
  refine e_next ?_
  refine c_ret ?_
  refine e_ret1 Try.results40 (.cell (k := 0) rfl Try.underlying38 rfl sz38 rfl (rfl : _ = Value.agg #[_, _, _, _, _, _, _, _]) .nil) (fun w hm => ⟨?_, hm.since⟩)
  rfl
theorem c_awake6   (w : World)  :
    Calls Try.prog 12 #[] w (Ret fun r w' => r = Value.bool true ∧ Since nX w w') := by
  refine enter (args := []) (X := nX) (G := (fun _ => none)) (l := []) Try.func12 rfl Try.ntmps12 (fun _ _ h => by cases h) trivial (Nat.le_of_ble_eq_true rfl) ?_
  refine c_seq ?_
  refine c_region ?_
  refine r_val .none rfl (p_assign rfl) ?_
  refine r_nil ?_
  refine e_next ?_
  refine c_seq ?_
  refine c_region ?_
  refine r_val .none rfl (p_assign rfl) ?_
  refine r_nil ?_
  refine e_next ?_
  refine c_seq ?_
  refine c_region ?_
  refine r_val .none rfl (p_move rfl) ?_
  refine r_fun (cs := []) .none rfl ?_
  refine r_call (vs := [_]) .none rfl cl40 rfl (fun w hw => c_one6 _ w) ?_
  refine r_val .none rfl (p_move rfl) ?_
  refine r_fun (cs := []) .none rfl ?_
  refine r_call (vs := [_]) .none rfl cl40 rfl (fun w hw => c_one6 _ w) ?_
  refine r_val .none rfl (p_move rfl) ?_
  refine r_fun (cs := []) .none rfl ?_
  refine r_call (vs := [_]) .none rfl cl40 rfl (fun w hw => c_one6 _ w) ?_
  refine r_bslice (vs := [(0, Value.agg #[_, _, _, _, _, _, _, _]), (1, Value.agg #[_, _, _, _, _, _, _, _])]) (c := #[_, _, _, _, _, _, _, _, _, _, _, _, _, _, _, _]) .none rfl Try.underlying22 el38 rfl rfl rfl (bs38_20a8_1a8 _ _ _ _ _ _ _ _ _ _ _ _ _ _ _ _) (IsRow.lit _) (fun b_1 => ?_)
  refine r_freezeB (k := 0) 2 8 rfl rfl (by decide) (fun G_1 hn_2 hs_3 => ?_)
  have h12 : SlL G_1 (Value.slice (some ⟨b_1, 0, none⟩) 2 2) 8 cvC d0 [(A6 2, (Value.slice none 0 0)), (A6 3, (Value.slice none 0 0))] := SlG.congr hs_3 (fun i hi j hj => by match i, hi with | 0, _ => (match j, hj with | 0, _ => rfl | 1, _ => rfl | 2, _ => rfl | 3, _ => rfl | 4, _ => rfl | 5, _ => rfl | 6, _ => rfl | 7, _ => rfl) | 1, _ => (match j, hj with | 0, _ => rfl | 1, _ => rfl | 2, _ => rfl | 3, _ => rfl | 4, _ => rfl | 5, _ => rfl | 6, _ => rfl | 7, _ => rfl))
  have th12 : Cs G_1 (Value.slice (some ⟨b_1, 0, none⟩) 2 2) ([A6 2, A6 3]) := Tr.mk _ h12 (by intro p hm0; simp only [List.mem_cons, List.not_mem_nil, or_false] at hm0; rcases hm0 with rfl | rfl; exact Tr.nil; exact Tr.nil)
  refine r_val .none rfl (p_build (vs := [(0, Value.int _ _), (2, Value.slice _ _ _)]) rfl (bl38_0i1_2s3 _ _ _ _)) ?_
  refine r_val .none rfl (p_move rfl) ?_
  refine r_fun (cs := []) .none rfl ?_
  refine r_call (vs := [_]) .none rfl cl40 rfl (fun w hw => c_one6 _ w) ?_
  refine r_bslice (vs := [(0, Value.agg #[_, _, _, _, _, _, _, _]), (1, Value.agg #[_, _, _, _, _, _, _, _]), (2, Value.agg #[_, _, _, _, _, _, _, _])]) (c := #[_, _, _, _, _, _, _, _, _, _, _, _, _, _, _, _, _, _, _, _, _, _, _, _]) .none rfl Try.underlying22 el38 rfl rfl rfl (bs38_30a8_1a8_2a8 _ _ _ _ _ _ _ _ _ _ _ _ _ _ _ _ _ _ _ _ _ _ _ _) (IsRow.lit _) (fun b_2 => ?_)
  refine r_freezeB (k := 0) 3 8 rfl rfl (by decide) (fun G_4 hn_5 hs_6 => ?_)
  replace h12 := h12.mono hn_5.le
  replace th12 := th12.mono hn_5.le
  have h16 : SlL G_4 (Value.slice (some ⟨b_2, 0, none⟩) 3 3) 8 cvC d0 [(A6 1, (Value.slice none 0 0)), (B6, Value.slice (some ⟨b_1, 0, none⟩) 2 2), (A6 4, (Value.slice none 0 0))] := SlG.congr hs_6 (fun i hi j hj => by match i, hi with | 0, _ => (match j, hj with | 0, _ => rfl | 1, _ => rfl | 2, _ => rfl | 3, _ => rfl | 4, _ => rfl | 5, _ => rfl | 6, _ => rfl | 7, _ => rfl) | 1, _ => (match j, hj with | 0, _ => rfl | 1, _ => rfl | 2, _ => rfl | 3, _ => rfl | 4, _ => rfl | 5, _ => rfl | 6, _ => rfl | 7, _ => rfl) | 2, _ => (match j, hj with | 0, _ => rfl | 1, _ => rfl | 2, _ => rfl | 3, _ => rfl | 4, _ => rfl | 5, _ => rfl | 6, _ => rfl | 7, _ => rfl))
  have th16 : Cs G_4 (Value.slice (some ⟨b_2, 0, none⟩) 3 3) (L6) := Tr.mk _ h16 (by intro p hm0; simp only [List.mem_cons, List.not_mem_nil, or_false] at hm0; rcases hm0 with rfl | rfl | rfl; exact Tr.nil; exact th12; exact Tr.nil)
  refine r_val .none rfl (p_assign rfl) ?_
  refine r_nil ?_
  refine e_next ?_
  refine c_seq ?_
  refine c_region ?_
  refine r_val .none rfl (p_move rfl) ?_
  refine r_callm (vs := [_]) .none rfl cl13 rfl (fun w hw => c_chains6 _ L6 (by decide) th16 w hw) (fun G_7 v_10 hn_8 hr_9 => ?_)
  replace h12 := h12.mono hn_8.le
  replace th12 := th12.mono hn_8.le
  replace h16 := h16.mono hn_8.le
  replace th16 := th16.mono hn_8.le
  obtain ⟨u_11qs, u_11q, u_11p, u_11l⟩ := hr_9
  have hq5 : u_11qs.length = 5 := by have h := congrArg List.length u_11l; rw [L6_len, List.length_map] at h; exact h.symm
  have hq3 : (u_11qs.getD 2 ([], Value.slice none 0 0)).1.length = 3 := by rw [← mapfst_getD, ← u_11l]; exact L6_len2
  refine r_val .none rfl (p_move rfl) ?_
  refine r_callm (vs := [_]) .none rfl cl17 rfl (fun w hw => c_own6 _ L6 (by decide) th16 w hw) (fun G_12 v_15 hn_13 hr_14 => ?_)
  replace h12 := h12.mono hn_13.le
  replace th12 := th12.mono hn_13.le
  replace h16 := h16.mono hn_13.le
  replace th16 := th16.mono hn_13.le
  replace u_11q := u_11q.mono hn_13.le
  replace u_11p := fun p hm0 => (u_11p p hm0).mono hn_13.le
  have u_16 := hr_14
  rw [L6_own] at u_16
  refine r_val .none rfl (p_move rfl) ?_
  refine r_callm (vs := [_]) .none rfl cl41 rfl (fun w hw => c_bnd _ L6 (by decide) th16 w hw) (fun G_17 v_20 hn_18 hr_19 => ?_)
  replace h12 := h12.mono hn_18.le
  replace th12 := th12.mono hn_18.le
  replace h16 := h16.mono hn_18.le
  replace th16 := th16.mono hn_18.le
  replace u_11q := u_11q.mono hn_18.le
  replace u_11p := fun p hm0 => (u_11p p hm0).mono hn_18.le
  replace u_16 := u_16.mono hn_18.le
  obtain ⟨u_21z, u_21p, u_21s, u_21q⟩ := hr_19
  have hz := L6_bound u_21p u_21s
  subst hz
  refine r_val .none rfl (p_assign rfl) ?_
  refine r_val .none rfl (p_assign rfl) ?_
  refine r_val .none rfl (p_assign rfl) ?_
  refine r_nil ?_
  refine e_next ?_
  refine c_seq ?_
  refine c_region ?_
  refine r_val .none rfl (p_move rfl) ?_
  refine r_val .none rfl (p_leng Try.underlying25 rfl u_11q) ?_
  have bd_22 := (u_11q).bound
  refine r_val .none rfl (p_eq rfl rfl) ?_
  refine r_val .none rfl (p_move rfl) ?_
  refine' r_and (c := 26) (d := 32) [_, _, _, _, _, _] rfl (fun h_23 Q_24 hQ_25 => ?_) (fun h_23 Q_24 hQ_25 => ?_) ?_
  rotate_left 1
  · skip
    replace h_23 := of_decide_eq_true h_23
    refine r_val (.some rfl rfl) rfl (p_move rfl) ?_
    refine r_iaddr_g (i := 2) (.some rfl rfl) rfl Try.underlying25 sz22 rfl u_11q rfl (by first | exact of_decide_eq_true rfl | omega) (fun p_28 o_29 R_27 => ?_)
    have hc_30 := u_11p _ (getD_mem (i := 2) (d := ([], Value.slice none 0 0)) (by omega))
    refine r_val (.some rfl rfl) rfl (p_ldg0 Try.underlying22 rfl rfl R_27 (by first | exact of_decide_eq_true rfl | omega) rfl) ?_
    obtain ⟨ff_35, hf_36⟩ := Tr.slg hc_30
    refine r_val (.some rfl rfl) rfl (p_leng Try.underlying22 rfl hf_36) ?_
    have bd_37 := (hf_36).bound
    refine r_val (.some rfl rfl) rfl (p_eq rfl rfl) ?_
    refine r_val .none rfl (p_pick_t rfl rfl) ?_
    refine r_nil (e_fin (d := 32) hQ_25 rfl (by repeat (first | exact .refl | refine .put rfl ?_ | refine .say rfl ?_ | refine .say2 rfl (by first | assumption | simp_all) ?_)))
  · skip
    repeat (first | refine r_skip rfl (.no rfl rfl) ?_ | refine r_skip rfl (.un rfl rfl) ?_)
    refine r_val (by first | exact .none | exact .some rfl rfl) rfl (p_pick_f rfl rfl) ?_
    refine r_nil (e_fin (d := 32) hQ_25 rfl (by repeat (first | exact .refl | refine .put rfl ?_ | refine .say rfl ?_ | refine .say2 rfl (by first | assumption | simp_all) ?_)))
  refine r_val .none rfl (p_move rfl) ?_
  refine' r_and (c := 33) (d := 37) [_, _, _, _] rfl (fun h_38 Q_39 hQ_40 => ?_) (fun h_38 Q_39 hQ_40 => ?_) ?_
  rotate_left 1
  · skip
    try simp only [norms] at h_38
    refine r_val (.some rfl rfl) rfl (p_move rfl) ?_
    refine r_val (.some rfl rfl) rfl (p_leng Try.underlying32 rfl u_16) ?_
    have bd_42 := (u_16).bound
    refine r_val (.some rfl rfl) rfl (p_eq rfl rfl) ?_
    refine r_val .none rfl (p_pick_t rfl rfl) ?_
    refine r_nil (e_fin (d := 37) hQ_40 rfl (by repeat (first | exact .refl | refine .put rfl ?_ | refine .say rfl ?_ | refine .say2 rfl (by first | assumption | simp_all) ?_)))
  · skip
    repeat (first | refine r_skip rfl (.no rfl rfl) ?_ | refine r_skip rfl (.un rfl rfl) ?_)
    refine r_val (by first | exact .none | exact .some rfl rfl) rfl (p_pick_f rfl rfl) ?_
    refine r_nil (e_fin (d := 37) hQ_40 rfl (by repeat (first | exact .refl | refine .put rfl ?_ | refine .say rfl ?_ | refine .say2 rfl (by first | assumption | simp_all) ?_)))
  refine r_val .none rfl (p_move rfl) ?_
  refine' r_and (c := 38) (d := 43) [_, _, _, _, _] rfl (fun h_43 Q_44 hQ_45 => ?_) (fun h_43 Q_44 hQ_45 => ?_) ?_
  rotate_left 1
  · skip
    try simp only [norms] at h_43
    refine r_val (.some rfl rfl) rfl (p_move rfl) ?_
    refine r_iaddr_g (i := 1) (.some rfl rfl) rfl Try.underlying32 sz3 rfl u_16 rfl (by first | exact of_decide_eq_true rfl | omega) (fun p_48 o_49 R_47 => ?_)
    refine r_val (.some rfl rfl) rfl (p_ldg0 Try.underlying3 rfl rfl R_47 (by first | exact of_decide_eq_true rfl | omega) (rfl : _ = Value.int _ _)) ?_
    refine r_val (.some rfl rfl) rfl (p_eq rfl rfl) ?_
    refine r_val .none rfl (p_pick_t rfl rfl) ?_
    refine r_nil (e_fin (d := 43) hQ_45 rfl (by repeat (first | exact .refl | refine .put rfl ?_ | refine .say rfl ?_ | refine .say2 rfl (by first | assumption | simp_all) ?_)))
  · skip
    repeat (first | refine r_skip rfl (.no rfl rfl) ?_ | refine r_skip rfl (.un rfl rfl) ?_)
    refine r_val (by first | exact .none | exact .some rfl rfl) rfl (p_pick_f rfl rfl) ?_
    refine r_nil (e_fin (d := 43) hQ_45 rfl (by repeat (first | exact .refl | refine .put rfl ?_ | refine .say rfl ?_ | refine .say2 rfl (by first | assumption | simp_all) ?_)))
  refine r_val .none rfl (p_move rfl) ?_
  refine' r_and (c := 44) (d := 49) [_, _, _, _, _] rfl (fun h_50 Q_51 hQ_52 => ?_) (fun h_50 Q_51 hQ_52 => ?_) ?_
  rotate_left 1
  · skip
    try simp only [norms] at h_50
    refine r_val (.some rfl rfl) rfl (p_move rfl) ?_
    refine r_iaddr_g (i := 2) (.some rfl rfl) rfl Try.underlying32 sz3 rfl u_16 rfl (by first | exact of_decide_eq_true rfl | omega) (fun p_55 o_56 R_54 => ?_)
    refine r_val (.some rfl rfl) rfl (p_ldg0 Try.underlying3 rfl rfl R_54 (by first | exact of_decide_eq_true rfl | omega) (rfl : _ = Value.int _ _)) ?_
    refine r_val (.some rfl rfl) rfl (p_eq rfl rfl) ?_
    refine r_val .none rfl (p_pick_t rfl rfl) ?_
    refine r_nil (e_fin (d := 49) hQ_52 rfl (by repeat (first | exact .refl | refine .put rfl ?_ | refine .say rfl ?_ | refine .say2 rfl (by first | assumption | simp_all) ?_)))
  · skip
    repeat (first | refine r_skip rfl (.no rfl rfl) ?_ | refine r_skip rfl (.un rfl rfl) ?_)
    refine r_val (by first | exact .none | exact .some rfl rfl) rfl (p_pick_f rfl rfl) ?_
    refine r_nil (e_fin (d := 49) hQ_52 rfl (by repeat (first | exact .refl | refine .put rfl ?_ | refine .say rfl ?_ | refine .say2 rfl (by first | assumption | simp_all) ?_)))
  refine r_val .none rfl (p_move rfl) ?_
  refine' r_and (c := 50) (d := 54) [_, _, _, _] rfl (fun h_57 Q_58 hQ_59 => ?_) (fun h_57 Q_58 hQ_59 => ?_) ?_
  rotate_left 1
  · skip
    try simp only [norms] at h_57
    refine r_val (.some rfl rfl) rfl (p_move rfl) ?_
    refine r_val (.some rfl rfl) rfl (p_leng Try.underlying81 rfl u_21q) ?_
    have bd_61 := (u_21q).bound
    refine r_val (.some rfl rfl) rfl (p_eq rfl rfl) ?_
    refine r_val .none rfl (p_pick_t rfl rfl) ?_
    refine r_nil (e_fin (d := 54) hQ_59 rfl (by repeat (first | exact .refl | refine .put rfl ?_ | refine .say rfl ?_ | refine .say2 rfl (by first | assumption | simp_all) ?_)))
  · skip
    repeat (first | refine r_skip rfl (.no rfl rfl) ?_ | refine r_skip rfl (.un rfl rfl) ?_)
    refine r_val (by first | exact .none | exact .some rfl rfl) rfl (p_pick_f rfl rfl) ?_
    refine r_nil (e_fin (d := 54) hQ_59 rfl (by repeat (first | exact .refl | refine .put rfl ?_ | refine .say rfl ?_ | refine .say2 rfl (by first | assumption | simp_all) ?_)))
  refine r_val .none rfl (p_move rfl) ?_
  refine' r_and (c := 55) (d := 61) [_, _, _, _, _, _] rfl (fun h_62 Q_63 hQ_64 => ?_) (fun h_62 Q_63 hQ_64 => ?_) ?_
  rotate_left 1
  · skip
    try simp only [norms] at h_62
    refine r_val (.some rfl rfl) rfl (p_move rfl) ?_
    refine r_iaddr_g (i := 1) (.some rfl rfl) rfl Try.underlying81 sz84 rfl u_21q rfl (by first | exact of_decide_eq_true rfl | omega) (fun p_67 o_68 R_66 => ?_)
    refine r_val (.some rfl rfl) rfl (p_ldga0 Try.underlying84 rfl sz84 rfl R_66 (by first | exact of_decide_eq_true rfl | omega) (rfl : _ = Value.agg #[_, _, _])) ?_
    refine r_val (.some rfl rfl) rfl (p_build (vs := [(0, Value.int _ _), (1, Value.int _ _), (2, Value.int _ _)]) rfl (bl84_0i1_1i1_2i1 _ _ _)) ?_
    refine r_val (.some rfl rfl) rfl (p_eqa rfl rfl (eq_flat Try.underlying84 rfl lf84 ef84 eg84 (.cons (.int Try.underlying3) (.cons (.int Try.underlying3) (.cons (.int Try.underlying3) (.nil)))) (.cons (.int Try.underlying3) (.cons (.int Try.underlying3) (.cons (.int Try.underlying3) (.nil)))))) ?_
    refine r_val .none rfl (p_pick_t rfl rfl) ?_
    refine r_nil (e_fin (d := 61) hQ_64 rfl (by repeat (first | exact .refl | refine .put rfl ?_ | refine .say rfl ?_ | refine .say2 rfl (by first | assumption | simp_all) ?_)))
  · skip
    repeat (first | refine r_skip rfl (.no rfl rfl) ?_ | refine r_skip rfl (.un rfl rfl) ?_)
    refine r_val (by first | exact .none | exact .some rfl rfl) rfl (p_pick_f rfl rfl) ?_
    refine r_nil (e_fin (d := 61) hQ_64 rfl (by repeat (first | exact .refl | refine .put rfl ?_ | refine .say rfl ?_ | refine .say2 rfl (by first | assumption | simp_all) ?_)))
  refine r_val .none rfl (p_assign rfl) ?_
  refine r_nil ?_
  refine e_next ?_
  refine c_ret ?_
  refine e_ret1 Try.results12 (.tmp rfl .nil) (fun w hm => ⟨?_, hm.since⟩)
  exact congrArg Value.bool (by rw [hq5, hq3]; decide +kernel)
end Go.Proofs.Ytoflaphnlfggkaa

/- Walks: what Go functions of this chapter come to, each as a function on plain data; no condition but those that each theorem names. Printed by a program of this work (gen.py). -/
namespace Go.Proofs.Ytoflaphnlfggkaa
open Go.Gx Go.Gx.T4 Go.Gx.T3 Go.Gx.T6 Go.Gx.T8 Go.Gx.T4 Go.Gx.T3 Go.Gx.T8 Go.Gx.T4 Go.Gx.T3 Go.Gx.T8 Go.Gx.T6 Go.Gx.T4 Go.Gx.T3
theorem sz61 : SzIs Try.prog 61 3 := by
  unfold SzIs
  kernel_rfl
theorem sz92 : SzIs Try.prog 92 3 := by
  unfold SzIs
  kernel_rfl
theorem zr61 : ZeroIs Try.prog 61 (Value.agg #[Value.int .i64 0, Value.int .i64 0, Value.int .i64 0]) := by
  unfold ZeroIs
  kernel_rfl
theorem zr92 : ZeroIs Try.prog 92 (Value.agg #[Value.int .i64 0, Value.int .i64 0, Value.int .i64 0]) := by
  unfold ZeroIs
  kernel_rfl
theorem lf35 : leafT Try.prog 9 35 = some [4, 3] := by
  kernel_rfl
theorem ef35 : eqT Try.prog 9 35 = true := by
  kernel_rfl
theorem eg35 : Try.prog.eqGuardType Try.prog.depth 35 = false := by
  kernel_rfl
theorem cl67 : Callable Try.prog 67 := callable Try.func67 (by kernel_rfl) rfl
theorem cl68 : Callable Try.prog 68 := callable Try.func68 (by kernel_rfl) rfl
theorem cl74 : Callable Try.prog 74 := callable Try.func74 (by kernel_rfl) rfl
theorem c_keyof (hh : Hd)  (w : World)  :
    Calls Try.prog 52 #[Value.agg #[Value.bool hh.v0, Value.int .i64 hh.n0, Value.bool hh.v1, Value.int .i64 hh.n1, Value.bool hh.v2, Value.int .i64 hh.n2]] w (Ret fun r w' => r = Value.agg #[Value.int .i64 (keyTo hh 3 0), Value.int .i64 (keyTo hh 3 1), Value.int .i64 (keyTo hh 3 2)] ∧ Since nX w w') := by
  refine enter (args := [_]) (X := nX) (G := (fun _ => none)) (l := [(0, Value.agg #[Value.bool hh.v0, Value.int .i64 hh.n0, Value.bool hh.v1, Value.int .i64 hh.n1, Value.bool hh.v2, Value.int .i64 hh.n2])]) Try.func52 rfl Try.ntmps52 (fun _ _ h => by cases h) ⟨rfl, trivial⟩ (Nat.le_of_ble_eq_true rfl) ?_
  refine c_seq ?_
  refine c_region ?_
  refine r_box .none rfl rfl (IsRow.lit _) (fun b_1 => ?_)
  refine r_alloc .none rfl zr61 (IsRow.lit _) (fun b_2 => ?_)
  refine r_nil ?_
  refine e_next ?_
  refine c_seq ?_
  refine c_region ?_
  refine r_alloc .none rfl zr61 (IsRow.lit _) (fun b_3 => ?_)
  refine r_nil ?_
  refine e_next ?_
  refine c_seq ?_
  refine c_seq ?_
  refine c_region ?_
  refine r_val .none rfl (p_ldw (k := 2) Try.underlying36 rfl sz36 rfl rfl (rfl : _ = Value.agg #[_, _, _, _, _, _])) ?_
  refine r_val .none rfl (p_move rfl) ?_
  refine r_nil ?_
  refine e_next ?_
  refine c_block ?_
  refine c_name (d := 2) rfl (fun u_1 hu_1 => ?_)
  refine c_name (d := 3) rfl (fun u_2 hu_2 => ?_)
  refine c_name (d := 6) rfl (fun u_3 hu_3 => ?_)
  refine c_nameL (k := 1) rfl (fun A_4 hA_4 => ?_)
  refine c_nameL (k := 2) rfl (fun A_5 hA_5 => ?_)
  refine c_loop (σ := Nat) (fun f => [(7, Value.int .i64 (f : Nat)), (2, u_1), (3, u_2), (6, u_3)]) (fun f => [box b_3 3 61 (at_ [.int .i64 (keyTo hh f 0), .int .i64 (keyTo hh f 1), .int .i64 (keyTo hh f 2)]), A_4, A_5]) (fun _ => _) (fun f => f ≤ 3) (fun f => 3 - f) (0) (Nat.zero_le _) rfl ⟨rfl, rfl, rfl, rfl, trivial⟩ (.keep (fun _ _ h => box_congr (fun i hi => by match i, hi with | 0, _ => rfl | 1, _ => rfl | 2, _ => rfl) _ _ h) (.keep (fun _ _ h => h) (.keep (fun _ _ h => h) (.nil)))) (fun f hphi => ?_)
  subst hu_1
  subst hu_2
  subst hu_3
  subst hA_4
  subst hA_5
  obtain rfl | rfl | rfl | rfl : f = 0 ∨ f = 1 ∨ f = 2 ∨ f = 3 := by omega
  · skip
    refine c_seq ?_
    refine c_region ?_
    refine r_val .none rfl (p_lt rfl rfl) ?_
    refine r_say (d := 8) (v := Value.bool true) rfl ?_
    refine r_nil ?_
    refine e_next ?_
    refine c_seq ?_
    refine c_cond_t rfl ?_
    refine c_skip ?_
    refine e_next ?_
    refine c_seq ?_
    refine c_block ?_
    refine c_seq ?_
    refine c_region ?_
    refine r_val .none rfl (p_move rfl) ?_
    refine r_val .none rfl (p_indexa (k := 0) Try.underlying36 Try.underlying35 rfl sz35 rfl (IsRow.lit _) rfl rfl (by first | exact of_decide_eq_true rfl | omega) (rfl : _ = Value.agg #[_, _])) ?_
    refine r_alloc .none rfl zr35 (IsRow.lit _) (fun b_4 => ?_)
    refine r_val .none rfl (p_assign rfl) ?_
    refine r_stw (k := 0) .none sz35 rfl rfl (IsRow.lit _) (one_lit rfl rfl) rfl ?_
    refine r_nil ?_
    refine e_next ?_
    refine c_seq ?_
    refine c_region ?_
    refine r_val .none rfl (p_field Try.underlying35 rfl sz4 rfl) ?_
    refine r_val .none rfl (p_ld (k := 0) Try.underlying4 rfl rfl rfl (by first | exact of_decide_eq_true rfl | omega) (rfl : _ = Value.bool _)) ?_
    refine r_val .none rfl (p_not rfl) ?_
    refine r_nil ?_
    refine e_next ?_
    refine c_splitn (d := 13) rfl (fun h_6 => ?_) (fun h_6 => ?_)
    · skip
      have hv : vF hh 0 = false := h_6
      first
        | (exfalso; omega)
        | (
          refine c_cond_t rfl ?_
          refine c_region ?_
          refine r_val .none rfl (p_move rfl) ?_
          refine r_val .none rfl (p_field Try.underlying35 rfl sz3 rfl) ?_
          refine r_val .none rfl (p_ld (k := 0) Try.underlying3 rfl rfl rfl (by first | exact of_decide_eq_true rfl | omega) (rfl : _ = Value.int _ _)) ?_
          refine r_val .none rfl (p_iaddr (k := 0) Try.underlying61 sz3 rfl rfl (by first | exact of_decide_eq_true rfl | omega)) ?_
          refine r_st (k := 1) .none sz3 rfl rfl rfl rfl (by first | exact of_decide_eq_true rfl | omega) ?_
          refine r_nil ?_
          refine e_norm_block ?_
          refine e_next ?_
          refine c_region ?_
          refine r_val .none rfl (p_add rfl rfl (by omega)) ?_
          refine r_val .none rfl (p_move rfl) ?_
          refine r_nil ?_
          refine e_round (1) ⟨Nat.le_of_ble_eq_true rfl, Nat.le_of_ble_eq_true rfl⟩ rfl ⟨rfl, rfl, rfl, rfl, trivial⟩ (.drop (.keep (fun _ _ h => box_congr (fun i hi => by match i, hi with | 0, _ => exact (by first | exact congrArg (Value.int .i64) (key_set (h := hh) (f := 0) hv).symm | exact congrArg (Value.int .i64) ((show keyTo hh 0 0 = 0 by simp [keyTo]).trans (key_not (h := hh) (f := 0) hv).symm)) | 1, _ => exact congrArg (Value.int .i64) (key_else (h := hh) (f := 0) (i := 1) (by decide)).symm | 2, _ => exact congrArg (Value.int .i64) (key_else (h := hh) (f := 0) (i := 2) (by decide)).symm) _ _ h) (.keep (fun _ _ h => h) (.keep (fun _ _ h => h) (.nil)))))
          )
    · skip
      have hv : vF hh 0 = true := h_6
      first
        | (exfalso; omega)
        | (
          refine c_cond_f rfl ?_
          refine c_skip ?_
          refine e_norm_block ?_
          refine e_next ?_
          refine c_region ?_
          refine r_val .none rfl (p_add rfl rfl (by omega)) ?_
          refine r_val .none rfl (p_move rfl) ?_
          refine r_nil ?_
          refine e_round (1) ⟨Nat.le_of_ble_eq_true rfl, Nat.le_of_ble_eq_true rfl⟩ rfl ⟨rfl, rfl, rfl, rfl, trivial⟩ (.drop (.keep (fun _ _ h => box_congr (fun i hi => by match i, hi with | 0, _ => exact (by first | exact congrArg (Value.int .i64) (key_set (h := hh) (f := 0) hv).symm | exact congrArg (Value.int .i64) ((show keyTo hh 0 0 = 0 by simp [keyTo]).trans (key_not (h := hh) (f := 0) hv).symm)) | 1, _ => exact congrArg (Value.int .i64) (key_else (h := hh) (f := 0) (i := 1) (by decide)).symm | 2, _ => exact congrArg (Value.int .i64) (key_else (h := hh) (f := 0) (i := 2) (by decide)).symm) _ _ h) (.keep (fun _ _ h => h) (.keep (fun _ _ h => h) (.nil)))))
          )
  · skip
    refine c_seq ?_
    refine c_region ?_
    refine r_val .none rfl (p_lt rfl rfl) ?_
    refine r_say (d := 8) (v := Value.bool true) rfl ?_
    refine r_nil ?_
    refine e_next ?_
    refine c_seq ?_
    refine c_cond_t rfl ?_
    refine c_skip ?_
    refine e_next ?_
    refine c_seq ?_
    refine c_block ?_
    refine c_seq ?_
    refine c_region ?_
    refine r_val .none rfl (p_move rfl) ?_
    refine r_val .none rfl (p_indexa (k := 1) Try.underlying36 Try.underlying35 rfl sz35 rfl (IsRow.lit _) rfl rfl (by first | exact of_decide_eq_true rfl | omega) (rfl : _ = Value.agg #[_, _])) ?_
    refine r_alloc .none rfl zr35 (IsRow.lit _) (fun b_5 => ?_)
    refine r_val .none rfl (p_assign rfl) ?_
    refine r_stw (k := 0) .none sz35 rfl rfl (IsRow.lit _) (one_lit rfl rfl) rfl ?_
    refine r_nil ?_
    refine e_next ?_
    refine c_seq ?_
    refine c_region ?_
    refine r_val .none rfl (p_field Try.underlying35 rfl sz4 rfl) ?_
    refine r_val .none rfl (p_ld (k := 0) Try.underlying4 rfl rfl rfl (by first | exact of_decide_eq_true rfl | omega) (rfl : _ = Value.bool _)) ?_
    refine r_val .none rfl (p_not rfl) ?_
    refine r_nil ?_
    refine e_next ?_
    refine c_splitn (d := 13) rfl (fun h_7 => ?_) (fun h_7 => ?_)
    · skip
      have hv : vF hh 1 = false := h_7
      first
        | (exfalso; omega)
        | (
          refine c_cond_t rfl ?_
          refine c_region ?_
          refine r_val .none rfl (p_move rfl) ?_
          refine r_val .none rfl (p_field Try.underlying35 rfl sz3 rfl) ?_
          refine r_val .none rfl (p_ld (k := 0) Try.underlying3 rfl rfl rfl (by first | exact of_decide_eq_true rfl | omega) (rfl : _ = Value.int _ _)) ?_
          refine r_val .none rfl (p_iaddr (k := 1) Try.underlying61 sz3 rfl rfl (by first | exact of_decide_eq_true rfl | omega)) ?_
          refine r_st (k := 1) .none sz3 rfl rfl rfl rfl (by first | exact of_decide_eq_true rfl | omega) ?_
          refine r_nil ?_
          refine e_norm_block ?_
          refine e_next ?_
          refine c_region ?_
          refine r_val .none rfl (p_add rfl rfl (by omega)) ?_
          refine r_val .none rfl (p_move rfl) ?_
          refine r_nil ?_
          refine e_round (2) ⟨Nat.le_of_ble_eq_true rfl, Nat.le_of_ble_eq_true rfl⟩ rfl ⟨rfl, rfl, rfl, rfl, trivial⟩ (.drop (.keep (fun _ _ h => box_congr (fun i hi => by match i, hi with | 0, _ => exact congrArg (Value.int .i64) (key_else (h := hh) (f := 1) (i := 0) (by decide)).symm | 1, _ => exact (by first | exact congrArg (Value.int .i64) (key_set (h := hh) (f := 1) hv).symm | exact congrArg (Value.int .i64) ((show keyTo hh 1 1 = 0 by simp [keyTo]).trans (key_not (h := hh) (f := 1) hv).symm)) | 2, _ => exact congrArg (Value.int .i64) (key_else (h := hh) (f := 1) (i := 2) (by decide)).symm) _ _ h) (.keep (fun _ _ h => h) (.keep (fun _ _ h => h) (.nil)))))
          )
    · skip
      have hv : vF hh 1 = true := h_7
      first
        | (exfalso; omega)
        | (
          refine c_cond_f rfl ?_
          refine c_skip ?_
          refine e_norm_block ?_
          refine e_next ?_
          refine c_region ?_
          refine r_val .none rfl (p_add rfl rfl (by omega)) ?_
          refine r_val .none rfl (p_move rfl) ?_
          refine r_nil ?_
          refine e_round (2) ⟨Nat.le_of_ble_eq_true rfl, Nat.le_of_ble_eq_true rfl⟩ rfl ⟨rfl, rfl, rfl, rfl, trivial⟩ (.drop (.keep (fun _ _ h => box_congr (fun i hi => by match i, hi with | 0, _ => exact congrArg (Value.int .i64) (key_else (h := hh) (f := 1) (i := 0) (by decide)).symm | 1, _ => exact (by first | exact congrArg (Value.int .i64) (key_set (h := hh) (f := 1) hv).symm | exact congrArg (Value.int .i64) ((show keyTo hh 1 1 = 0 by simp [keyTo]).trans (key_not (h := hh) (f := 1) hv).symm)) | 2, _ => exact congrArg (Value.int .i64) (key_else (h := hh) (f := 1) (i := 2) (by decide)).symm) _ _ h) (.keep (fun _ _ h => h) (.keep (fun _ _ h => h) (.nil)))))
          )
  · skip
    refine c_seq ?_
    refine c_region ?_
    refine r_val .none rfl (p_lt rfl rfl) ?_
    refine r_say (d := 8) (v := Value.bool true) rfl ?_
    refine r_nil ?_
    refine e_next ?_
    refine c_seq ?_
    refine c_cond_t rfl ?_
    refine c_skip ?_
    refine e_next ?_
    refine c_seq ?_
    refine c_block ?_
    refine c_seq ?_
    refine c_region ?_
    refine r_val .none rfl (p_move rfl) ?_
    refine r_val .none rfl (p_indexa (k := 2) Try.underlying36 Try.underlying35 rfl sz35 rfl (IsRow.lit _) rfl rfl (by first | exact of_decide_eq_true rfl | omega) (rfl : _ = Value.agg #[_, _])) ?_
    refine r_alloc .none rfl zr35 (IsRow.lit _) (fun b_6 => ?_)
    refine r_val .none rfl (p_assign rfl) ?_
    refine r_stw (k := 0) .none sz35 rfl rfl (IsRow.lit _) (one_lit rfl rfl) rfl ?_
    refine r_nil ?_
    refine e_next ?_
    refine c_seq ?_
    refine c_region ?_
    refine r_val .none rfl (p_field Try.underlying35 rfl sz4 rfl) ?_
    refine r_val .none rfl (p_ld (k := 0) Try.underlying4 rfl rfl rfl (by first | exact of_decide_eq_true rfl | omega) (rfl : _ = Value.bool _)) ?_
    refine r_val .none rfl (p_not rfl) ?_
    refine r_nil ?_
    refine e_next ?_
    refine c_splitn (d := 13) rfl (fun h_8 => ?_) (fun h_8 => ?_)
    · skip
      have hv : vF hh 2 = false := h_8
      first
        | (exfalso; omega)
        | (
          refine c_cond_t rfl ?_
          refine c_region ?_
          refine r_val .none rfl (p_move rfl) ?_
          refine r_val .none rfl (p_field Try.underlying35 rfl sz3 rfl) ?_
          refine r_val .none rfl (p_ld (k := 0) Try.underlying3 rfl rfl rfl (by first | exact of_decide_eq_true rfl | omega) (rfl : _ = Value.int _ _)) ?_
          refine r_val .none rfl (p_iaddr (k := 2) Try.underlying61 sz3 rfl rfl (by first | exact of_decide_eq_true rfl | omega)) ?_
          refine r_st (k := 1) .none sz3 rfl rfl rfl rfl (by first | exact of_decide_eq_true rfl | omega) ?_
          refine r_nil ?_
          refine e_norm_block ?_
          refine e_next ?_
          refine c_region ?_
          refine r_val .none rfl (p_add rfl rfl (by omega)) ?_
          refine r_val .none rfl (p_move rfl) ?_
          refine r_nil ?_
          refine e_round (3) ⟨Nat.le_of_ble_eq_true rfl, Nat.le_of_ble_eq_true rfl⟩ rfl ⟨rfl, rfl, rfl, rfl, trivial⟩ (.drop (.keep (fun _ _ h => box_congr (fun i hi => by match i, hi with | 0, _ => exact congrArg (Value.int .i64) (key_else (h := hh) (f := 2) (i := 0) (by decide)).symm | 1, _ => exact congrArg (Value.int .i64) (key_else (h := hh) (f := 2) (i := 1) (by decide)).symm | 2, _ => exact (by first | exact congrArg (Value.int .i64) (key_set (h := hh) (f := 2) hv).symm | exact congrArg (Value.int .i64) ((show keyTo hh 2 2 = 0 by simp [keyTo]).trans (key_not (h := hh) (f := 2) hv).symm))) _ _ h) (.keep (fun _ _ h => h) (.keep (fun _ _ h => h) (.nil)))))
          )
    · skip
      have hv : vF hh 2 = true := h_8
      first
        | (exfalso; omega)
        | (
          refine c_cond_f rfl ?_
          refine c_skip ?_
          refine e_norm_block ?_
          refine e_next ?_
          refine c_region ?_
          refine r_val .none rfl (p_add rfl rfl (by omega)) ?_
          refine r_val .none rfl (p_move rfl) ?_
          refine r_nil ?_
          refine e_round (3) ⟨Nat.le_of_ble_eq_true rfl, Nat.le_of_ble_eq_true rfl⟩ rfl ⟨rfl, rfl, rfl, rfl, trivial⟩ (.drop (.keep (fun _ _ h => box_congr (fun i hi => by match i, hi with | 0, _ => exact congrArg (Value.int .i64) (key_else (h := hh) (f := 2) (i := 0) (by decide)).symm | 1, _ => exact congrArg (Value.int .i64) (key_else (h := hh) (f := 2) (i := 1) (by decide)).symm | 2, _ => exact (by first | exact congrArg (Value.int .i64) (key_set (h := hh) (f := 2) hv).symm | exact congrArg (Value.int .i64) ((show keyTo hh 2 2 = 0 by simp [keyTo]).trans (key_not (h := hh) (f := 2) hv).symm))) _ _ h) (.keep (fun _ _ h => h) (.keep (fun _ _ h => h) (.nil)))))
          )
  · skip
    refine c_seq ?_
    refine c_region ?_
    refine r_val .none rfl (p_lt rfl rfl) ?_
    refine r_say (d := 8) (v := Value.bool false) rfl ?_
    refine r_nil ?_
    refine e_next ?_
    refine c_seq ?_
    refine c_cond_f rfl ?_
    refine c_exit ?_
    refine e_exit_then ?_
    refine e_exit_then ?_
    refine e_exit_block ?_
    refine e_next ?_
    refine c_seq ?_
    refine c_region ?_
    refine r_val .none rfl (p_ldw (k := 0) Try.underlying61 rfl sz61 rfl rfl (rfl : _ = Value.agg #[_, _, _])) ?_
    refine r_stw (k := 1) .none sz61 rfl rfl (IsRow.lit _) (one_lit rfl rfl) rfl ?_
    refine r_nil ?_
    refine e_next ?_
    refine c_ret ?_
    refine e_ret1 Try.results52 (.cell (k := 1) rfl Try.underlying61 rfl sz61 rfl (rfl : _ = Value.agg #[_, _, _]) .nil) (fun w hm => ⟨?_, hm.since⟩)
    rfl
theorem c_idxT (v : Value) (zs : List TT) (t : TT) {G : Ghost} (hr : SlL G v 2 tmC tt0 zs) (w : World) (hG : Has G w) :
    Calls Try.prog 74 #[v, Value.agg #[Value.bool t.1, Value.int .i64 t.2]] w (Ret fun r w' => r = Value.int .i64 (idxF (sameT t) zs 0) ∧ Since nX w w') := by
  refine enter (args := [_, _]) (X := nX) (G := G) (l := [(0, v), (1, Value.agg #[Value.bool t.1, Value.int .i64 t.2])]) Try.func74 rfl Try.ntmps74 hG ⟨rfl, rfl, trivial⟩ (Nat.le_of_ble_eq_true rfl) ?_
  have hbd := hr.bound
  refine c_seq ?_
  refine c_region ?_
  refine r_box .none rfl rfl (IsRow.lit _) (fun b_1 => ?_)
  refine r_val .none rfl (p_assign rfl) ?_
  refine r_nil ?_
  refine e_next ?_
  refine c_seq ?_
  refine c_seq ?_
  refine c_region ?_
  refine r_val .none rfl (p_move rfl) ?_
  refine r_val .none rfl (p_leng Try.underlying124 rfl hr) ?_
  have bd_1 := (hr).bound
  refine r_val .none rfl (p_move rfl) ?_
  refine r_nil ?_
  refine e_next ?_
  refine c_block ?_
  refine c_name (d := 0) rfl (fun u_2 hu_2 => ?_)
  refine c_name (d := 3) rfl (fun u_3 hu_3 => ?_)
  refine c_name (d := 7) rfl (fun u_4 hu_4 => ?_)
  refine c_nameL (k := 0) rfl (fun A_5 hA_5 => ?_)
  refine c_loop (σ := Nat) (fun k => [(8, Value.int .i64 (k : Nat)), (0, u_2), (3, u_3), (7, u_4)]) (fun k => [A_5]) (fun _ => _) (fun k => k ≤ zs.length ∧ idxF (sameT t) (zs.drop k) k = idxF (sameT t) zs 0) (fun k => zs.length - k) (0) ⟨Nat.zero_le _, rfl⟩ rfl ⟨rfl, rfl, rfl, rfl, trivial⟩ (.keep (fun _ _ h => h) (.nil)) (fun k hphi => ?_)
  subst hu_2
  subst hu_3
  subst hu_4
  subst hA_5
  refine c_seq ?_
  refine c_region ?_
  refine r_val .none rfl (p_lt rfl rfl) ?_
  refine r_nil ?_
  refine e_next ?_
  refine c_seq ?_
  refine c_splitd (d := 9) rfl (fun h_6 => ?_) (fun h_6 => ?_)
  · skip
    first
      | (exfalso; omega)
      | (
        refine c_cond_t rfl ?_
        refine c_skip ?_
        refine e_next ?_
        refine c_seq ?_
        refine c_block ?_
        refine c_seq ?_
        refine c_region ?_
        refine r_val .none rfl (p_move rfl) ?_
        refine r_val .none rfl (p_assign rfl) ?_
        refine r_nil ?_
        refine e_next ?_
        refine c_seq ?_
        refine c_region_q mixed (by kernel_rfl) ?_
        refine q_val .none rfl (p_ldw (k := 0) Try.underlying35 rfl sz35 rfl rfl (rfl : _ = Value.agg #[_, _])) ?_
        refine q_val .none rfl (p_move rfl) ?_
        refine q_val .none rfl (p_move rfl) ?_
        refine q_iaddr_g .none rfl Try.underlying124 sz35 rfl hr rfl (by first | exact of_decide_eq_true rfl | omega) (fun p_8 o_9 R_7 => ?_)
        refine q_val .none rfl (p_ldga0 Try.underlying35 rfl sz35 rfl R_7 (by first | exact of_decide_eq_true rfl | omega) (rfl : _ = Value.agg #[_, _])) ?_
        refine q_val .none rfl (p_eqa rfl rfl (eq_flat Try.underlying35 rfl lf35 ef35 eg35 (.cons (.bool Try.underlying4) (.cons (.int Try.underlying3) (.nil))) (.cons (.bool Try.underlying4) (.cons (.int Try.underlying3) (.nil))))) ?_
        refine q_nil ?_
        refine e_next ?_
        refine c_split (d := 16) rfl (fun h_10 => ?_) (fun h_10 => ?_)
        · skip
          have hE : sameT t (zs.getD k tt0) = true := h_10
          first
            | (exfalso; omega)
            | (
              refine c_cond_t rfl ?_
              refine c_seq ?_
              refine c_region ?_
              refine r_val .none rfl (p_move rfl) ?_
              refine r_val .none rfl (p_assign rfl) ?_
              refine r_nil ?_
              refine e_next ?_
              refine c_ret ?_
              refine e_ret_block ?_
              refine e_ret_then ?_
              refine e_ret_then ?_
              refine e_ret_block ?_
              refine e_ret_then ?_
              refine e_ret1 Try.results74 (.tmp rfl .nil) (fun w hm => ⟨?_, hm.since⟩)
              first
              | (rw [← hphi.2, idxF_yes (d := tt0) (by omega) hE])
              | (rw [← hphi.2, List.drop_eq_nil_of_le (by omega)]; rfl)
              )
        · skip
          have hE : sameT t (zs.getD k tt0) = false := h_10
          first
            | (exfalso; omega)
            | (
              refine c_cond_f rfl ?_
              refine c_skip ?_
              refine e_norm_block ?_
              refine e_next ?_
              refine c_region ?_
              refine r_val .none rfl (p_add rfl rfl (by omega)) ?_
              refine r_val .none rfl (p_move rfl) ?_
              refine r_nil ?_
              refine e_round (k + 1) ⟨⟨by omega, by rw [← hphi.2, idxF_no (d := tt0) (by omega) hE]⟩, by omega⟩ rfl ⟨rfl, rfl, rfl, rfl, trivial⟩ (.keep (fun _ _ h => h) (.nil))
              )
        )
  · skip
    first
      | (exfalso; omega)
      | (
        refine c_cond_f rfl ?_
        refine c_exit ?_
        refine e_exit_then ?_
        refine e_exit_then ?_
        refine e_exit_block ?_
        refine e_next ?_
        refine c_seq ?_
        refine c_region ?_
        refine r_val .none rfl (p_assign rfl) ?_
        refine r_nil ?_
        refine e_next ?_
        refine c_ret ?_
        refine e_ret1 Try.results74 (.tmp rfl .nil) (fun w hm => ⟨?_, hm.since⟩)
        first
        | (rw [← hphi.2, idxF_yes (d := tt0) (by omega) hE])
        | (rw [← hphi.2, List.drop_eq_nil_of_le (by omega)]; rfl)
        )
theorem c_own8 (c : CT) (sv : Value) (f : Nat) (hf : f < 3) (h1 : sv.oneCell' = true) (w : World)  :
    Calls Try.prog 68 #[Value.agg #[Value.int .i64 c.h.k, Value.bool c.h.v0, Value.int .i64 c.h.n0, Value.bool c.h.v1, Value.int .i64 c.h.n1, Value.bool c.h.v2, Value.int .i64 c.h.n2, sv], Value.int .i64 (f : Nat)] w (Ret fun r w' => r = Value.tuple #[Value.agg #[Value.int .i64 (f : Nat), Value.int .i64 (-1), Value.int .i64 (ownG c.h f)], Value.bool (decide (0 ≤ ownG c.h f))] ∧ Since nX w w') := by
  refine enter (args := [_, _]) (X := nX) (G := (fun _ => none)) (l := [(0, Value.agg #[Value.int .i64 c.h.k, Value.bool c.h.v0, Value.int .i64 c.h.n0, Value.bool c.h.v1, Value.int .i64 c.h.n1, Value.bool c.h.v2, Value.int .i64 c.h.n2, sv]), (1, Value.int .i64 (f : Nat))]) Try.func68 rfl Try.ntmps68 (fun _ _ h => by cases h) ⟨rfl, rfl, trivial⟩ (Nat.le_of_ble_eq_true rfl) ?_
  refine c_seq ?_
  refine c_region ?_
  refine r_box .none rfl rfl (IsRow.lit _) (fun b_1 => ?_)
  refine r_alloc .none rfl zr92 (IsRow.lit _) (fun b_2 => ?_)
  refine r_val .none rfl (p_assign rfl) ?_
  refine r_freezeX (k := 1) rfl (fun G_1 hn_2 hR_3 => ?_)
  have hR_4 : RowAt G_1 b_1 0 8 (at_ [Value.int .i64 c.h.k, Value.bool c.h.v0, Value.int .i64 c.h.n0, Value.bool c.h.v1, Value.int .i64 c.h.n1, Value.bool c.h.v2, Value.int .i64 c.h.n2, sv]) := RowAt.congr hR_3 (fun i hi => by match i, hi with | 0, _ => rfl | 1, _ => rfl | 2, _ => rfl | 3, _ => rfl | 4, _ => rfl | 5, _ => rfl | 6, _ => rfl | 7, _ => rfl)
  refine r_nil ?_
  refine e_next ?_
  refine c_seq ?_
  refine c_region_q mixed (by kernel_rfl) ?_
  refine q_val .none rfl (p_field Try.underlying38 rfl sz36 rfl) ?_
  refine q_val .none rfl (p_move rfl) ?_
  refine q_val .none rfl (p_slarr (m := f) Try.underlying36 sz35 rfl rfl (by first | exact of_decide_eq_true rfl | omega) (by decide)) ?_
  have hs_5 := slarr_g (n := 3) (m := f) (sz := 2) (RowAt.sub (j := 1) (m := 6) hR_4 (by decide)) (by first | exact of_decide_eq_true rfl | omega) (by decide)
  have hsl := terms_sl (h := c.h) hf hs_5
  refine q_val .none rfl (p_move rfl) ?_
  refine q_val .none rfl (p_field Try.underlying38 rfl sz36 rfl) ?_
  refine q_val .none rfl (p_iaddr (k := f) Try.underlying36 sz35 rfl rfl (by first | exact of_decide_eq_true rfl | omega)) ?_
  have R_6 := RowAt.sub (j := f * 2) (m := 2) (RowAt.sub (j := 1) (m := 6) hR_4 (by decide)) (by omega)
  refine q_val .none rfl (p_ldga0 Try.underlying35 rfl sz35 rfl R_6 (by first | exact of_decide_eq_true rfl | omega) (term_at hf)) ?_
  refine q_call (vs := [_, _]) .none rfl cl74 rfl (fun w hw => c_idxT _ _ (vF c.h f, nF c.h f) hsl w hw) ?_
  refine q_val .none rfl (p_assign rfl) ?_
  refine q_nil ?_
  refine e_next ?_
  refine c_seq ?_
  refine c_region ?_
  refine r_val .none rfl (p_move rfl) ?_
  refine r_val .none rfl (p_move rfl) ?_
  refine r_val .none rfl (p_build (vs := [(0, Value.int _ _), (1, Value.int _ _), (2, Value.int _ _)]) rfl (bl92_0i1_1i1_2i1 _ _ _)) ?_
  refine r_val .none rfl (p_move rfl) ?_
  refine r_val .none rfl (p_ge rfl rfl) ?_
  refine r_stw (k := 0) .none sz92 rfl rfl (IsRow.lit _) (one_lit rfl rfl) rfl ?_
  refine r_val .none rfl (p_assign rfl) ?_
  refine r_nil ?_
  refine e_next ?_
  refine c_ret ?_
  refine e_retn Try.results68 (.cell (k := 0) rfl Try.underlying92 rfl sz92 rfl (rfl : _ = Value.agg #[_, _, _]) (.tmp rfl .nil)) rfl (fun w hm => ⟨?_, hm.since⟩)
  rfl
theorem c_tst1 (x : PL) (b : Bool) (n : Int) (p : Nat) {G : Ghost} (hR : RowAt G p 0 2 (at_ [Value.bool b, Value.int .i64 n])) (w : World) (hG : Has G w) :
    Calls Try.prog 67 #[Value.agg #[Value.int .i64 x.1, Value.int .i64 x.2.1, Value.int .i64 x.2.2], Value.pointer (some ⟨p, 0, none⟩)] w (Ret fun r w' => r = Value.bool (isV n x) ∧ Since nX w w') := by
  refine enter (args := [_, _]) (X := nX) (G := G) (l := [(0, Value.agg #[Value.int .i64 x.1, Value.int .i64 x.2.1, Value.int .i64 x.2.2]), (1, Value.pointer (some ⟨p, 0, none⟩))]) Try.func67 rfl Try.ntmps67 hG ⟨rfl, rfl, trivial⟩ (Nat.le_of_ble_eq_true rfl) ?_
  refine c_seq ?_
  refine c_region ?_
  refine r_box .none rfl rfl (IsRow.lit _) (fun b_1 => ?_)
  refine r_val .none rfl (p_assign rfl) ?_
  refine r_nil ?_
  refine e_next ?_
  refine c_seq ?_
  refine c_region ?_
  refine r_val .none rfl (p_field Try.underlying84 rfl sz3 rfl) ?_
  refine r_val .none rfl (p_ld (k := 0) Try.underlying3 rfl rfl rfl (by first | exact of_decide_eq_true rfl | omega) (rfl : _ = Value.int _ _)) ?_
  refine r_val .none rfl (p_field Try.underlying35 rfl sz3 rfl) ?_
  refine r_val .none rfl (p_ldg (j := 1) Try.underlying3 rfl rfl hR (by first | exact of_decide_eq_true rfl | omega) (rfl : _ = Value.int _ _)) ?_
  refine r_val .none rfl (p_eq rfl rfl) ?_
  refine r_val .none rfl (p_assign rfl) ?_
  refine r_nil ?_
  refine e_next ?_
  refine c_ret ?_
  refine e_ret1 Try.results67 (.tmp rfl .nil) (fun w hm => ⟨?_, hm.since⟩)
  rfl
theorem c_tests8 (va : Value) (l : List CT) (c : CT) (sv : Value) {G : Ghost} (hlen : l.length ≤ 1000) (hs : Cs G va l) (h1 : sv.oneCell' = true) (w : World) (hG : Has G w) :
    Calls Try.prog 53 #[va, Value.agg #[Value.int .i64 c.h.k, Value.bool c.h.v0, Value.int .i64 c.h.n0, Value.bool c.h.v1, Value.int .i64 c.h.n1, Value.bool c.h.v2, Value.int .i64 c.h.n2, sv]] w (Ret fun r w' => ∃ H : Ghost, (∀ b, H b ≠ none → w.heap.size ≤ b) ∧ Has H w' ∧ SlL H r 3 tC t0 (testsTo l c.h 3) ∧ Since nX w w') := by
  refine enter (args := [_, _]) (X := nX) (G := G) (l := [(0, va), (1, Value.agg #[Value.int .i64 c.h.k, Value.bool c.h.v0, Value.int .i64 c.h.n0, Value.bool c.h.v1, Value.int .i64 c.h.n1, Value.bool c.h.v2, Value.int .i64 c.h.n2, sv])]) Try.func53 rfl Try.ntmps53 hG ⟨rfl, rfl, trivial⟩ (Nat.le_of_ble_eq_true rfl) ?_
  refine c_seq ?_
  refine c_region ?_
  refine r_box .none rfl rfl (IsRow.lit _) (fun b_1 => ?_)
  refine r_val .none rfl (p_assign rfl) ?_
  refine r_nil ?_
  refine e_next ?_
  refine c_seq ?_
  refine c_region ?_
  refine r_val .none rfl (p_move rfl) ?_
  refine r_callm (vs := [_]) .none rfl cl41 rfl (fun w hw => c_bnd _ _ hlen hs w hw) (fun G_1 v_4 hn_2 hr_3 => ?_)
  replace hs := hs.mono hn_2.le
  obtain ⟨zs, hzp, hzs, hzq⟩ := hr_3
  refine r_val .none rfl (p_assign rfl) ?_
  refine r_nil ?_
  refine e_next ?_
  refine c_seq ?_
  refine c_region ?_
  refine r_val .none rfl (p_assign rfl) ?_
  refine r_nil ?_
  refine e_next ?_
  refine c_seq ?_
  refine c_seq ?_
  refine c_region ?_
  refine r_val .none rfl (p_field Try.underlying38 rfl sz36 rfl) ?_
  refine r_val .none rfl (p_lda (k := 0) Try.underlying36 rfl sz36 rfl rfl (by first | exact of_decide_eq_true rfl | omega) (rfl : _ = Value.agg #[_, _, _, _, _, _])) ?_
  refine r_val .none rfl (p_move rfl) ?_
  refine r_nil ?_
  refine e_next ?_
  refine c_block ?_
  refine c_nilrow 92 3 ?_
  refine c_name (d := 3) rfl (fun u_6 hu_6 => ?_)
  refine c_name (d := 4) rfl (fun u_7 hu_7 => ?_)
  refine c_name (d := 5) rfl (fun u_8 hu_8 => ?_)
  refine c_name (d := 15) rfl (fun u_9 hu_9 => ?_)
  refine c_nameL (k := 1) rfl (fun A_10 hA_10 => ?_)
  refine c_loop (σ := Nat × Value × Ghost) (fun s => [(16, Value.int .i64 (s.1 : Nat)), (6, s.2.1), (3, u_6), (4, u_7), (5, u_8), (15, u_9)]) (fun s => [rowA (s.2.1) 92 3 ((testsTo l c.h s.1)).length (((testsTo l c.h s.1)).flatMap tC), A_10]) (fun s => s.2.2) (fun s => s.1 ≤ 3 ∧ GNew w nX G_1 s.2.2) (fun s => 3 - s.1) ((0, _, _)) ⟨Nat.zero_le _, GNew.refl _ _ _⟩ rfl ⟨rfl, rfl, rfl, rfl, rfl, rfl, trivial⟩ (.keep (fun _ _ h => rowA_nil rfl _ _ h) (.keep (fun _ _ h => h) (.nil))) (fun s hphi => ?_)
  subst hu_6
  subst hu_7
  subst hu_8
  subst hu_9
  subst hA_10
  obtain ⟨f, v, H⟩ := s
  obtain ⟨hf, hgn⟩ := hphi
  dsimp only at hf hgn ⊢
  refine c_row1 (k := 0) rfl (fun ov => ?_)
  refine c_rowlen (k := 0) rfl (fun l63 => ?_)
  replace hs := hs.mono hgn.le
  replace hzq := hzq.mono hgn.le
  obtain rfl | rfl | rfl | rfl : f = 0 ∨ f = 1 ∨ f = 2 ∨ f = 3 := by omega
  · skip
    refine c_seq ?_
    refine c_region ?_
    refine r_val .none rfl (p_lt rfl rfl) ?_
    refine r_say (d := 17) (v := Value.bool true) rfl ?_
    refine r_nil ?_
    refine e_next ?_
    refine c_seq ?_
    refine c_cond_t rfl ?_
    refine c_skip ?_
    refine e_next ?_
    refine c_seq ?_
    refine c_block ?_
    refine c_seq ?_
    refine c_region ?_
    refine r_val .none rfl (p_move rfl) ?_
    refine r_val .none rfl (p_indexa (k := 0) Try.underlying36 Try.underlying35 rfl sz35 rfl (IsRow.lit _) rfl rfl (by first | exact of_decide_eq_true rfl | omega) (rfl : _ = Value.agg #[_, _])) ?_
    refine r_alloc .none rfl zr35 (IsRow.lit _) (fun b_2 => ?_)
    refine r_val .none rfl (p_assign rfl) ?_
    refine r_stw (k := 0) .none sz35 rfl rfl (IsRow.lit _) (one_lit rfl rfl) rfl ?_
    refine r_nil ?_
    refine e_next ?_
    refine c_seq ?_
    refine c_seq ?_
    refine c_region ?_
    refine r_freezeX (k := 0) rfl (fun G_11 hn_12 hR_13 => ?_)
    replace hs := hs.mono hn_12.le
    replace hzq := hzq.mono hn_12.le
    have hR_14 : RowAt G_11 b_2 0 2 (at_ [Value.bool (vF c.h 0), Value.int .i64 (nF c.h 0)]) := RowAt.congr hR_13 (fun i hi => by match i, hi with | 0, _ => rfl | 1, _ => rfl)
    refine r_val .none rfl (p_field Try.underlying35 rfl sz4 rfl) ?_
    refine r_val .none rfl (p_ldg (j := 0) Try.underlying4 rfl rfl hR_14 (by first | exact of_decide_eq_true rfl | omega) (rfl : _ = Value.bool _)) ?_
    refine r_val .none rfl (p_not rfl) ?_
    refine r_nil ?_
    refine e_next ?_
    refine c_splitn (d := 22) rfl (fun h_15 => ?_) (fun h_15 => ?_)
    · skip
      have hv : vF c.h 0 = false := h_15
      first
        | (exfalso; omega)
        | (
          refine c_cond_t rfl ?_
          refine c_exit ?_
          refine e_exit_then ?_
          refine e_exit_block ?_
          refine e_next ?_
          refine c_region ?_
          refine r_val .none rfl (p_add rfl rfl (by omega)) ?_
          refine r_val .none rfl (p_move rfl) ?_
          refine r_nil ?_
          refine e_round ((1, _, _)) ⟨⟨Nat.le_of_ble_eq_true rfl, (hgn.trans hn_12)⟩, Nat.le_of_ble_eq_true rfl⟩ rfl ⟨rfl, rfl, rfl, rfl, rfl, rfl, trivial⟩ (.keep (fun _ _ h => rowA_same (by show testsTo l c.h (0 + 1) = _; rw [testsTo_succ, (by first | exact T1 hv | exact testF_n hv hbn hdn : testF l c.h 0 = []), List.append_nil]) _ _ h) (.keep (fun _ _ h => h) (.nil)))
          )
    · skip
      have hv : vF c.h 0 = true := h_15
      first
        | (exfalso; omega)
        | (
          refine c_cond_f rfl ?_
          refine c_skip ?_
          refine e_next ?_
          refine c_seq ?_
          refine c_region ?_
          refine r_val .none rfl (p_move rfl) ?_
          refine r_val .none rfl (p_mkfunc (vs := [_]) rfl) ?_
          refine r_call (vs := [_, _]) .none rfl cl66 rfl (fun w hw => c_idxP _ _ _ _ _ hzq cl67 (fun x w hw => c_tst1 x _ _ _ hR_14 w hw) w hw) ?_
          refine r_val .none rfl (p_assign rfl) ?_
          refine r_nil ?_
          refine e_next ?_
          refine c_seq ?_
          refine c_region ?_
          refine r_val .none rfl (p_move rfl) ?_
          refine r_val .none rfl (p_ge rfl rfl) ?_
          refine r_nil ?_
          refine e_next ?_
          refine c_splitd (d := 27) rfl (fun h_16 => ?_) (fun h_16 => ?_)
          · skip
            obtain ⟨i, hi1, hi2, hi3⟩ := idxF_some t0 (Int.le_refl 0) (h_16)
            rw [Int.zero_add] at hi1
            have hbd := found_bound hzp hi2 hi3
            first
              | (exfalso; omega)
              | (
                refine c_cond_t rfl ?_
                refine c_region_d (fun j => [14, 15].contains j) _ mixed (.keep (fun _ _ h => h) (.keep (fun _ _ h => h) (.nil))) ?_
                refine d_val1 0 rfl rfl (by kernel_rfl) (fun j hj => by have h : 15 < j := (Nat.lt_of_lt_of_le (by decide : 15 < 16) hj); simp; omega) .none rfl (p_move rfl) ?_
                refine d_val1 1 rfl rfl (by kernel_rfl) (fun j hj => by have h : 15 < j := (Nat.lt_of_lt_of_le (by decide : 15 < 16) hj); simp; omega) .none rfl (p_move rfl) ?_
                refine d_val1 2 rfl rfl (by kernel_rfl) (fun j hj => by have h : 15 < j := (Nat.lt_of_lt_of_le (by decide : 15 < 16) hj); simp; omega) .none rfl (p_move rfl) ?_
                refine d_val1 3 rfl rfl (by kernel_rfl) (fun j hj => by have h : 15 < j := (Nat.lt_of_lt_of_le (by decide : 15 < 16) hj); simp; omega) .none rfl (p_move rfl) ?_
                refine d_say (d := 31) (v := Value.int .i64 ((i : Nat) : Int)) (congrArg (fun x => some (Value.int .i64 x)) (by first | exact hi1 | omega)) ?_
                refine d_iaddr_g 4 rfl rfl (by kernel_rfl) (fun j hj => by have h : 15 < j := (Nat.lt_of_lt_of_le (by decide : 15 < 16) hj); simp; omega) .none rfl Try.underlying81 sz84 rfl hzq rfl (by first | exact of_decide_eq_true rfl | omega) (fun p_18 o_19 R_17 => ?_)
                refine d_val1 5 rfl rfl (by kernel_rfl) (fun j hj => by have h : 15 < j := (Nat.lt_of_lt_of_le (by decide : 15 < 16) hj); simp; omega) .none rfl (p_field Try.underlying84 rfl sz3 rfl) ?_
                refine d_val1 6 rfl rfl (by kernel_rfl) (fun j hj => by have h : 15 < j := (Nat.lt_of_lt_of_le (by decide : 15 < 16) hj); simp; omega) .none rfl (p_ldg (j := 1) Try.underlying3 rfl rfl R_17 (by first | exact of_decide_eq_true rfl | omega) (rfl : _ = Value.int _ _)) ?_
                refine d_val1 7 rfl rfl (by kernel_rfl) (fun j hj => by have h : 15 < j := (Nat.lt_of_lt_of_le (by decide : 15 < 16) hj); simp; omega) .none rfl (p_move rfl) ?_
                refine d_val1 8 rfl rfl (by kernel_rfl) (fun j hj => by have h : 15 < j := (Nat.lt_of_lt_of_le (by decide : 15 < 16) hj); simp; omega) .none rfl (p_move rfl) ?_
                refine d_say (d := 36) (v := Value.int .i64 ((i : Nat) : Int)) (congrArg (fun x => some (Value.int .i64 x)) (by first | exact hi1 | omega)) ?_
                refine d_iaddr_g 9 rfl rfl (by kernel_rfl) (fun j hj => by have h : 15 < j := (Nat.lt_of_lt_of_le (by decide : 15 < 16) hj); simp; omega) .none rfl Try.underlying81 sz84 rfl hzq rfl (by first | exact of_decide_eq_true rfl | omega) (fun p_21 o_22 R_20 => ?_)
                refine d_val1 10 rfl rfl (by kernel_rfl) (fun j hj => by have h : 15 < j := (Nat.lt_of_lt_of_le (by decide : 15 < 16) hj); simp; omega) .none rfl (p_field Try.underlying84 rfl sz3 rfl) ?_
                refine d_val1 11 rfl rfl (by kernel_rfl) (fun j hj => by have h : 15 < j := (Nat.lt_of_lt_of_le (by decide : 15 < 16) hj); simp; omega) .none rfl (p_ldg (j := 2) Try.underlying3 rfl rfl R_20 (by first | exact of_decide_eq_true rfl | omega) (rfl : _ = Value.int _ _)) ?_
                refine d_val1 12 rfl rfl (by kernel_rfl) (fun j hj => by have h : 15 < j := (Nat.lt_of_lt_of_le (by decide : 15 < 16) hj); simp; omega) .none rfl (p_build (vs := [(0, Value.int _ _), (1, Value.int _ _), (2, Value.int _ _)]) rfl (bl92_0i1_1i1_2i1 _ _ _)) ?_
                refine d_eff 13 rfl (by kernel_rfl) (fun K_23 hKK_23 hcK_23 => ?_)
                refine r_bslice (vs := [(0, Value.agg #[_, _, _])]) (c := #[_, _, _]) .none rfl Try.underlying62 el92 rfl rfl rfl (bs92_10a3 _ _ _) (IsRow.lit _) (fun b_3 => ?_)
                refine r_nil (e_d (i := 13) (brk := (fun j => [14, 15].contains j)) (ph' := true) hKK_23 hcK_23 rfl (fun _ => GLe.refl _) (fun _ => .drop (.keep (fun _ _ h => h) (.keep (fun _ _ h => h) (.nil)))) ?_)
                clear hKK_23 hcK_23 K_23
                refine d_eff 14 rfl (by kernel_rfl) (fun K_24 hKK_24 hcK_24 => ?_)
                refine r_append (k := 1) (k2 := 0) .none rfl Try.underlying62 el92 rfl (by decide) rfl rfl rfl rfl rfl (one_lit rfl rfl) (by have q0 := testsTo_len l c.h 0; have q1 := testsTo_len l c.h 1; have q2 := testsTo_len l c.h 2; simp only [maxLen]; omega) (by have q0 := testsTo_len l c.h 0; have q1 := testsTo_len l c.h 1; have q2 := testsTo_len l c.h 2; omega) (fun v_25 => ?_)
                refine r_row1 (k := 1) rfl (fun o_26 => ?_)
                refine r_nil (e_d (i := 14) (brk := (fun j => [14, 15].contains j)) (ph' := false) hKK_24 hcK_24 rfl (fun h => by cases h) (fun h => by cases h) ?_)
                clear hKK_24 hcK_24 K_24
                refine d_val2 15 rfl rfl (by kernel_rfl) .none rfl (fun _ => p_assign rfl) ?_
                refine d_nil (by kernel_rfl) ?_
                refine e_norm_block ?_
                refine e_next ?_
                refine c_region ?_
                refine r_val .none rfl (p_add rfl rfl (by omega)) ?_
                refine r_val .none rfl (p_move rfl) ?_
                refine r_nil ?_
                refine e_round ((1, _, _)) ⟨⟨Nat.le_of_ble_eq_true rfl, (hgn.trans hn_12)⟩, Nat.le_of_ble_eq_true rfl⟩ rfl ⟨rfl, rfl, rfl, rfl, rfl, rfl, trivial⟩ (.drop (.keep (fun _ _ h => rowA_snoc (l := testsTo l c.h 0) (x := (((0 : Nat) : Int), (zs.getD i t0).2.1, (zs.getD i t0).2.2)) (by show testsTo l c.h (0 + 1) = _; rw [testsTo_succ, testF_b hv hbd]) rfl rfl rfl _ _ h) (.keep (fun _ _ h => h) (.nil))))
                )
          · skip
            have hbn := found_none hzp (h_16)
            first
              | (exfalso; omega)
              | (
                refine c_cond_f rfl ?_
                refine c_seq ?_
                refine c_region ?_
                refine r_val .none rfl (p_ldw (k := 1) Try.underlying38 rfl sz38 rfl rfl (rfl : _ = Value.agg #[_, _, _, _, _, _, _, _])) ?_
                refine r_val .none rfl (p_move rfl) ?_
                refine r_call (vs := [_, _]) .none rfl cl68 rfl (fun w hw => c_own8 c sv 0 (by decide) h1 w) ?_
                refine r_val .none rfl (p_move rfl) ?_
                refine r_val .none rfl (p_extract rfl rfl) ?_
                refine r_val .none rfl (p_extract rfl rfl) ?_
                refine r_alloc .none rfl zr92 (IsRow.lit _) (fun b_4 => ?_)
                refine r_stw (k := 0) .none sz92 rfl rfl (IsRow.lit _) (one_lit rfl rfl) rfl ?_
                refine r_val .none rfl (p_assign rfl) ?_
                refine r_nil ?_
                refine e_next ?_
                refine c_seq ?_
                refine c_region ?_
                refine r_val .none rfl (p_move rfl) ?_
                refine r_nil ?_
                refine e_next ?_
                refine c_splitd (d := 49) rfl (fun h_27 => ?_) (fun h_27 => ?_)
                · skip
                  have hdp := dup_some (h := c.h) (f := 0) (by decide) (h_27)
                  first
                    | (exfalso; omega)
                    | (
                      refine c_cond_t rfl ?_
                      refine c_region ?_
                      refine r_val .none rfl (p_move rfl) ?_
                      refine r_val .none rfl (p_ldw (k := 0) Try.underlying92 rfl sz92 rfl rfl (rfl : _ = Value.agg #[_, _, _])) ?_
                      refine r_bslice (vs := [(0, Value.agg #[_, _, _])]) (c := #[_, _, _]) .none rfl Try.underlying62 el92 rfl rfl rfl (bs92_10a3 _ _ _) (IsRow.lit _) (fun b_5 => ?_)
                      refine r_append (k := 2) (k2 := 0) .none rfl Try.underlying62 el92 rfl (by decide) rfl rfl rfl rfl rfl (one_lit rfl rfl) (by have q0 := testsTo_len l c.h 0; have q1 := testsTo_len l c.h 1; have q2 := testsTo_len l c.h 2; simp only [maxLen]; omega) (by have q0 := testsTo_len l c.h 0; have q1 := testsTo_len l c.h 1; have q2 := testsTo_len l c.h 2; omega) (fun v_28 => ?_)
                      refine r_row1 (k := 2) rfl (fun o_29 => ?_)
                      refine r_val .none rfl (p_assign rfl) ?_
                      refine r_nil ?_
                      refine e_norm_block ?_
                      refine e_next ?_
                      refine c_region ?_
                      refine r_val .none rfl (p_add rfl rfl (by omega)) ?_
                      refine r_val .none rfl (p_move rfl) ?_
                      refine r_nil ?_
                      refine e_round ((1, _, _)) ⟨⟨Nat.le_of_ble_eq_true rfl, (hgn.trans hn_12)⟩, Nat.le_of_ble_eq_true rfl⟩ rfl ⟨rfl, rfl, rfl, rfl, rfl, rfl, trivial⟩ (.drop (.drop (.keep (fun _ _ h => rowA_snoc (l := testsTo l c.h 0) (x := (((0 : Nat) : Int), -1, ownG c.h 0)) (by show testsTo l c.h (0 + 1) = _; rw [testsTo_succ, testF_d hv hbn hdp]) rfl rfl rfl _ _ h) (.keep (fun _ _ h => h) (.nil)))))
                      )
                · skip
                  have hdn := dup_none (h := c.h) (f := 0) (by decide) (h_27)
                  first
                    | (exfalso; omega)
                    | (
                      refine c_cond_f rfl ?_
                      refine c_skip ?_
                      refine e_norm_block ?_
                      refine e_next ?_
                      refine c_region ?_
                      refine r_val .none rfl (p_add rfl rfl (by omega)) ?_
                      refine r_val .none rfl (p_move rfl) ?_
                      refine r_nil ?_
                      refine e_round ((1, _, _)) ⟨⟨Nat.le_of_ble_eq_true rfl, (hgn.trans hn_12)⟩, Nat.le_of_ble_eq_true rfl⟩ rfl ⟨rfl, rfl, rfl, rfl, rfl, rfl, trivial⟩ (.drop (.keep (fun _ _ h => rowA_same (by show testsTo l c.h (0 + 1) = _; rw [testsTo_succ, (by first | exact T1 hv | exact testF_n hv hbn hdn : testF l c.h 0 = []), List.append_nil]) _ _ h) (.keep (fun _ _ h => h) (.nil))))
                      )
                )
          )
  · skip
    refine c_seq ?_
    refine c_region ?_
    refine r_val .none rfl (p_lt rfl rfl) ?_
    refine r_say (d := 17) (v := Value.bool true) rfl ?_
    refine r_nil ?_
    refine e_next ?_
    refine c_seq ?_
    refine c_cond_t rfl ?_
    refine c_skip ?_
    refine e_next ?_
    refine c_seq ?_
    refine c_block ?_
    refine c_seq ?_
    refine c_region ?_
    refine r_val .none rfl (p_move rfl) ?_
    refine r_val .none rfl (p_indexa (k := 1) Try.underlying36 Try.underlying35 rfl sz35 rfl (IsRow.lit _) rfl rfl (by first | exact of_decide_eq_true rfl | omega) (rfl : _ = Value.agg #[_, _])) ?_
    refine r_alloc .none rfl zr35 (IsRow.lit _) (fun b_6 => ?_)
    refine r_val .none rfl (p_assign rfl) ?_
    refine r_stw (k := 0) .none sz35 rfl rfl (IsRow.lit _) (one_lit rfl rfl) rfl ?_
    refine r_nil ?_
    refine e_next ?_
    refine c_seq ?_
    refine c_seq ?_
    refine c_region ?_
    refine r_freezeX (k := 0) rfl (fun G_30 hn_31 hR_32 => ?_)
    replace hs := hs.mono hn_31.le
    replace hzq := hzq.mono hn_31.le
    have hR_33 : RowAt G_30 b_6 0 2 (at_ [Value.bool (vF c.h 1), Value.int .i64 (nF c.h 1)]) := RowAt.congr hR_32 (fun i hi => by match i, hi with | 0, _ => rfl | 1, _ => rfl)
    refine r_val .none rfl (p_field Try.underlying35 rfl sz4 rfl) ?_
    refine r_val .none rfl (p_ldg (j := 0) Try.underlying4 rfl rfl hR_33 (by first | exact of_decide_eq_true rfl | omega) (rfl : _ = Value.bool _)) ?_
    refine r_val .none rfl (p_not rfl) ?_
    refine r_nil ?_
    refine e_next ?_
    refine c_splitn (d := 22) rfl (fun h_34 => ?_) (fun h_34 => ?_)
    · skip
      have hv : vF c.h 1 = false := h_34
      first
        | (exfalso; omega)
        | (
          refine c_cond_t rfl ?_
          refine c_exit ?_
          refine e_exit_then ?_
          refine e_exit_block ?_
          refine e_next ?_
          refine c_region ?_
          refine r_val .none rfl (p_add rfl rfl (by omega)) ?_
          refine r_val .none rfl (p_move rfl) ?_
          refine r_nil ?_
          refine e_round ((2, _, _)) ⟨⟨Nat.le_of_ble_eq_true rfl, (hgn.trans hn_31)⟩, Nat.le_of_ble_eq_true rfl⟩ rfl ⟨rfl, rfl, rfl, rfl, rfl, rfl, trivial⟩ (.keep (fun _ _ h => rowA_same (by show testsTo l c.h (1 + 1) = _; rw [testsTo_succ, (by first | exact T1 hv | exact testF_n hv hbn hdn : testF l c.h 1 = []), List.append_nil]) _ _ h) (.keep (fun _ _ h => h) (.nil)))
          )
    · skip
      have hv : vF c.h 1 = true := h_34
      first
        | (exfalso; omega)
        | (
          refine c_cond_f rfl ?_
          refine c_skip ?_
          refine e_next ?_
          refine c_seq ?_
          refine c_region ?_
          refine r_val .none rfl (p_move rfl) ?_
          refine r_val .none rfl (p_mkfunc (vs := [_]) rfl) ?_
          refine r_call (vs := [_, _]) .none rfl cl66 rfl (fun w hw => c_idxP _ _ _ _ _ hzq cl67 (fun x w hw => c_tst1 x _ _ _ hR_33 w hw) w hw) ?_
          refine r_val .none rfl (p_assign rfl) ?_
          refine r_nil ?_
          refine e_next ?_
          refine c_seq ?_
          refine c_region ?_
          refine r_val .none rfl (p_move rfl) ?_
          refine r_val .none rfl (p_ge rfl rfl) ?_
          refine r_nil ?_
          refine e_next ?_
          refine c_splitd (d := 27) rfl (fun h_35 => ?_) (fun h_35 => ?_)
          · skip
            obtain ⟨i, hi1, hi2, hi3⟩ := idxF_some t0 (Int.le_refl 0) (h_35)
            rw [Int.zero_add] at hi1
            have hbd := found_bound hzp hi2 hi3
            first
              | (exfalso; omega)
              | (
                refine c_cond_t rfl ?_
                refine c_region_d (fun j => [14, 15].contains j) _ mixed (.keep (fun _ _ h => h) (.keep (fun _ _ h => h) (.nil))) ?_
                refine d_val1 0 rfl rfl (by kernel_rfl) (fun j hj => by have h : 15 < j := (Nat.lt_of_lt_of_le (by decide : 15 < 16) hj); simp; omega) .none rfl (p_move rfl) ?_
                refine d_val1 1 rfl rfl (by kernel_rfl) (fun j hj => by have h : 15 < j := (Nat.lt_of_lt_of_le (by decide : 15 < 16) hj); simp; omega) .none rfl (p_move rfl) ?_
                refine d_val1 2 rfl rfl (by kernel_rfl) (fun j hj => by have h : 15 < j := (Nat.lt_of_lt_of_le (by decide : 15 < 16) hj); simp; omega) .none rfl (p_move rfl) ?_
                refine d_val1 3 rfl rfl (by kernel_rfl) (fun j hj => by have h : 15 < j := (Nat.lt_of_lt_of_le (by decide : 15 < 16) hj); simp; omega) .none rfl (p_move rfl) ?_
                refine d_say (d := 31) (v := Value.int .i64 ((i : Nat) : Int)) (congrArg (fun x => some (Value.int .i64 x)) (by first | exact hi1 | omega)) ?_
                refine d_iaddr_g 4 rfl rfl (by kernel_rfl) (fun j hj => by have h : 15 < j := (Nat.lt_of_lt_of_le (by decide : 15 < 16) hj); simp; omega) .none rfl Try.underlying81 sz84 rfl hzq rfl (by first | exact of_decide_eq_true rfl | omega) (fun p_37 o_38 R_36 => ?_)
                refine d_val1 5 rfl rfl (by kernel_rfl) (fun j hj => by have h : 15 < j := (Nat.lt_of_lt_of_le (by decide : 15 < 16) hj); simp; omega) .none rfl (p_field Try.underlying84 rfl sz3 rfl) ?_
                refine d_val1 6 rfl rfl (by kernel_rfl) (fun j hj => by have h : 15 < j := (Nat.lt_of_lt_of_le (by decide : 15 < 16) hj); simp; omega) .none rfl (p_ldg (j := 1) Try.underlying3 rfl rfl R_36 (by first | exact of_decide_eq_true rfl | omega) (rfl : _ = Value.int _ _)) ?_
                refine d_val1 7 rfl rfl (by kernel_rfl) (fun j hj => by have h : 15 < j := (Nat.lt_of_lt_of_le (by decide : 15 < 16) hj); simp; omega) .none rfl (p_move rfl) ?_
                refine d_val1 8 rfl rfl (by kernel_rfl) (fun j hj => by have h : 15 < j := (Nat.lt_of_lt_of_le (by decide : 15 < 16) hj); simp; omega) .none rfl (p_move rfl) ?_
                refine d_say (d := 36) (v := Value.int .i64 ((i : Nat) : Int)) (congrArg (fun x => some (Value.int .i64 x)) (by first | exact hi1 | omega)) ?_
                refine d_iaddr_g 9 rfl rfl (by kernel_rfl) (fun j hj => by have h : 15 < j := (Nat.lt_of_lt_of_le (by decide : 15 < 16) hj); simp; omega) .none rfl Try.underlying81 sz84 rfl hzq rfl (by first | exact of_decide_eq_true rfl | omega) (fun p_40 o_41 R_39 => ?_)
                refine d_val1 10 rfl rfl (by kernel_rfl) (fun j hj => by have h : 15 < j := (Nat.lt_of_lt_of_le (by decide : 15 < 16) hj); simp; omega) .none rfl (p_field Try.underlying84 rfl sz3 rfl) ?_
                refine d_val1 11 rfl rfl (by kernel_rfl) (fun j hj => by have h : 15 < j := (Nat.lt_of_lt_of_le (by decide : 15 < 16) hj); simp; omega) .none rfl (p_ldg (j := 2) Try.underlying3 rfl rfl R_39 (by first | exact of_decide_eq_true rfl | omega) (rfl : _ = Value.int _ _)) ?_
                refine d_val1 12 rfl rfl (by kernel_rfl) (fun j hj => by have h : 15 < j := (Nat.lt_of_lt_of_le (by decide : 15 < 16) hj); simp; omega) .none rfl (p_build (vs := [(0, Value.int _ _), (1, Value.int _ _), (2, Value.int _ _)]) rfl (bl92_0i1_1i1_2i1 _ _ _)) ?_
                refine d_eff 13 rfl (by kernel_rfl) (fun K_42 hKK_42 hcK_42 => ?_)
                refine r_bslice (vs := [(0, Value.agg #[_, _, _])]) (c := #[_, _, _]) .none rfl Try.underlying62 el92 rfl rfl rfl (bs92_10a3 _ _ _) (IsRow.lit _) (fun b_7 => ?_)
                refine r_nil (e_d (i := 13) (brk := (fun j => [14, 15].contains j)) (ph' := true) hKK_42 hcK_42 rfl (fun _ => GLe.refl _) (fun _ => .drop (.keep (fun _ _ h => h) (.keep (fun _ _ h => h) (.nil)))) ?_)
                clear hKK_42 hcK_42 K_42
                refine d_eff 14 rfl (by kernel_rfl) (fun K_43 hKK_43 hcK_43 => ?_)
                refine r_append (k := 1) (k2 := 0) .none rfl Try.underlying62 el92 rfl (by decide) rfl rfl rfl rfl rfl (one_lit rfl rfl) (by have q0 := testsTo_len l c.h 0; have q1 := testsTo_len l c.h 1; have q2 := testsTo_len l c.h 2; simp only [maxLen]; omega) (by have q0 := testsTo_len l c.h 0; have q1 := testsTo_len l c.h 1; have q2 := testsTo_len l c.h 2; omega) (fun v_44 => ?_)
                refine r_row1 (k := 1) rfl (fun o_45 => ?_)
                refine r_nil (e_d (i := 14) (brk := (fun j => [14, 15].contains j)) (ph' := false) hKK_43 hcK_43 rfl (fun h => by cases h) (fun h => by cases h) ?_)
                clear hKK_43 hcK_43 K_43
                refine d_val2 15 rfl rfl (by kernel_rfl) .none rfl (fun _ => p_assign rfl) ?_
                refine d_nil (by kernel_rfl) ?_
                refine e_norm_block ?_
                refine e_next ?_
                refine c_region ?_
                refine r_val .none rfl (p_add rfl rfl (by omega)) ?_
                refine r_val .none rfl (p_move rfl) ?_
                refine r_nil ?_
                refine e_round ((2, _, _)) ⟨⟨Nat.le_of_ble_eq_true rfl, (hgn.trans hn_31)⟩, Nat.le_of_ble_eq_true rfl⟩ rfl ⟨rfl, rfl, rfl, rfl, rfl, rfl, trivial⟩ (.drop (.keep (fun _ _ h => rowA_snoc (l := testsTo l c.h 1) (x := (((1 : Nat) : Int), (zs.getD i t0).2.1, (zs.getD i t0).2.2)) (by show testsTo l c.h (1 + 1) = _; rw [testsTo_succ, testF_b hv hbd]) rfl rfl rfl _ _ h) (.keep (fun _ _ h => h) (.nil))))
                )
          · skip
            have hbn := found_none hzp (h_35)
            first
              | (exfalso; omega)
              | (
                refine c_cond_f rfl ?_
                refine c_seq ?_
                refine c_region ?_
                refine r_val .none rfl (p_ldw (k := 1) Try.underlying38 rfl sz38 rfl rfl (rfl : _ = Value.agg #[_, _, _, _, _, _, _, _])) ?_
                refine r_val .none rfl (p_move rfl) ?_
                refine r_call (vs := [_, _]) .none rfl cl68 rfl (fun w hw => c_own8 c sv 1 (by decide) h1 w) ?_
                refine r_val .none rfl (p_move rfl) ?_
                refine r_val .none rfl (p_extract rfl rfl) ?_
                refine r_val .none rfl (p_extract rfl rfl) ?_
                refine r_alloc .none rfl zr92 (IsRow.lit _) (fun b_8 => ?_)
                refine r_stw (k := 0) .none sz92 rfl rfl (IsRow.lit _) (one_lit rfl rfl) rfl ?_
                refine r_val .none rfl (p_assign rfl) ?_
                refine r_nil ?_
                refine e_next ?_
                refine c_seq ?_
                refine c_region ?_
                refine r_val .none rfl (p_move rfl) ?_
                refine r_nil ?_
                refine e_next ?_
                refine c_splitd (d := 49) rfl (fun h_46 => ?_) (fun h_46 => ?_)
                · skip
                  have hdp := dup_some (h := c.h) (f := 1) (by decide) (h_46)
                  first
                    | (exfalso; omega)
                    | (
                      refine c_cond_t rfl ?_
                      refine c_region ?_
                      refine r_val .none rfl (p_move rfl) ?_
                      refine r_val .none rfl (p_ldw (k := 0) Try.underlying92 rfl sz92 rfl rfl (rfl : _ = Value.agg #[_, _, _])) ?_
                      refine r_bslice (vs := [(0, Value.agg #[_, _, _])]) (c := #[_, _, _]) .none rfl Try.underlying62 el92 rfl rfl rfl (bs92_10a3 _ _ _) (IsRow.lit _) (fun b_9 => ?_)
                      refine r_append (k := 2) (k2 := 0) .none rfl Try.underlying62 el92 rfl (by decide) rfl rfl rfl rfl rfl (one_lit rfl rfl) (by have q0 := testsTo_len l c.h 0; have q1 := testsTo_len l c.h 1; have q2 := testsTo_len l c.h 2; simp only [maxLen]; omega) (by have q0 := testsTo_len l c.h 0; have q1 := testsTo_len l c.h 1; have q2 := testsTo_len l c.h 2; omega) (fun v_47 => ?_)
                      refine r_row1 (k := 2) rfl (fun o_48 => ?_)
                      refine r_val .none rfl (p_assign rfl) ?_
                      refine r_nil ?_
                      refine e_norm_block ?_
                      refine e_next ?_
                      refine c_region ?_
                      refine r_val .none rfl (p_add rfl rfl (by omega)) ?_
                      refine r_val .none rfl (p_move rfl) ?_
                      refine r_nil ?_
                      refine e_round ((2, _, _)) ⟨⟨Nat.le_of_ble_eq_true rfl, (hgn.trans hn_31)⟩, Nat.le_of_ble_eq_true rfl⟩ rfl ⟨rfl, rfl, rfl, rfl, rfl, rfl, trivial⟩ (.drop (.drop (.keep (fun _ _ h => rowA_snoc (l := testsTo l c.h 1) (x := (((1 : Nat) : Int), -1, ownG c.h 1)) (by show testsTo l c.h (1 + 1) = _; rw [testsTo_succ, testF_d hv hbn hdp]) rfl rfl rfl _ _ h) (.keep (fun _ _ h => h) (.nil)))))
                      )
                · skip
                  have hdn := dup_none (h := c.h) (f := 1) (by decide) (h_46)
                  first
                    | (exfalso; omega)
                    | (
                      refine c_cond_f rfl ?_
                      refine c_skip ?_
                      refine e_norm_block ?_
                      refine e_next ?_
                      refine c_region ?_
                      refine r_val .none rfl (p_add rfl rfl (by omega)) ?_
                      refine r_val .none rfl (p_move rfl) ?_
                      refine r_nil ?_
                      refine e_round ((2, _, _)) ⟨⟨Nat.le_of_ble_eq_true rfl, (hgn.trans hn_31)⟩, Nat.le_of_ble_eq_true rfl⟩ rfl ⟨rfl, rfl, rfl, rfl, rfl, rfl, trivial⟩ (.drop (.keep (fun _ _ h => rowA_same (by show testsTo l c.h (1 + 1) = _; rw [testsTo_succ, (by first | exact T1 hv | exact testF_n hv hbn hdn : testF l c.h 1 = []), List.append_nil]) _ _ h) (.keep (fun _ _ h => h) (.nil))))
                      )
                )
          )
  · skip
    refine c_seq ?_
    refine c_region ?_
    refine r_val .none rfl (p_lt rfl rfl) ?_
    refine r_say (d := 17) (v := Value.bool true) rfl ?_
    refine r_nil ?_
    refine e_next ?_
    refine c_seq ?_
    refine c_cond_t rfl ?_
    refine c_skip ?_
    refine e_next ?_
    refine c_seq ?_
    refine c_block ?_
    refine c_seq ?_
    refine c_region ?_
    refine r_val .none rfl (p_move rfl) ?_
    refine r_val .none rfl (p_indexa (k := 2) Try.underlying36 Try.underlying35 rfl sz35 rfl (IsRow.lit _) rfl rfl (by first | exact of_decide_eq_true rfl | omega) (rfl : _ = Value.agg #[_, _])) ?_
    refine r_alloc .none rfl zr35 (IsRow.lit _) (fun b_10 => ?_)
    refine r_val .none rfl (p_assign rfl) ?_
    refine r_stw (k := 0) .none sz35 rfl rfl (IsRow.lit _) (one_lit rfl rfl) rfl ?_
    refine r_nil ?_
    refine e_next ?_
    refine c_seq ?_
    refine c_seq ?_
    refine c_region ?_
    refine r_freezeX (k := 0) rfl (fun G_49 hn_50 hR_51 => ?_)
    replace hs := hs.mono hn_50.le
    replace hzq := hzq.mono hn_50.le
    have hR_52 : RowAt G_49 b_10 0 2 (at_ [Value.bool (vF c.h 2), Value.int .i64 (nF c.h 2)]) := RowAt.congr hR_51 (fun i hi => by match i, hi with | 0, _ => rfl | 1, _ => rfl)
    refine r_val .none rfl (p_field Try.underlying35 rfl sz4 rfl) ?_
    refine r_val .none rfl (p_ldg (j := 0) Try.underlying4 rfl rfl hR_52 (by first | exact of_decide_eq_true rfl | omega) (rfl : _ = Value.bool _)) ?_
    refine r_val .none rfl (p_not rfl) ?_
    refine r_nil ?_
    refine e_next ?_
    refine c_splitn (d := 22) rfl (fun h_53 => ?_) (fun h_53 => ?_)
    · skip
      have hv : vF c.h 2 = false := h_53
      first
        | (exfalso; omega)
        | (
          refine c_cond_t rfl ?_
          refine c_exit ?_
          refine e_exit_then ?_
          refine e_exit_block ?_
          refine e_next ?_
          refine c_region ?_
          refine r_val .none rfl (p_add rfl rfl (by omega)) ?_
          refine r_val .none rfl (p_move rfl) ?_
          refine r_nil ?_
          refine e_round ((3, _, _)) ⟨⟨Nat.le_of_ble_eq_true rfl, (hgn.trans hn_50)⟩, Nat.le_of_ble_eq_true rfl⟩ rfl ⟨rfl, rfl, rfl, rfl, rfl, rfl, trivial⟩ (.keep (fun _ _ h => rowA_same (by show testsTo l c.h (2 + 1) = _; rw [testsTo_succ, (by first | exact T1 hv | exact testF_n hv hbn hdn : testF l c.h 2 = []), List.append_nil]) _ _ h) (.keep (fun _ _ h => h) (.nil)))
          )
    · skip
      have hv : vF c.h 2 = true := h_53
      first
        | (exfalso; omega)
        | (
          refine c_cond_f rfl ?_
          refine c_skip ?_
          refine e_next ?_
          refine c_seq ?_
          refine c_region ?_
          refine r_val .none rfl (p_move rfl) ?_
          refine r_val .none rfl (p_mkfunc (vs := [_]) rfl) ?_
          refine r_call (vs := [_, _]) .none rfl cl66 rfl (fun w hw => c_idxP _ _ _ _ _ hzq cl67 (fun x w hw => c_tst1 x _ _ _ hR_52 w hw) w hw) ?_
          refine r_val .none rfl (p_assign rfl) ?_
          refine r_nil ?_
          refine e_next ?_
          refine c_seq ?_
          refine c_region ?_
          refine r_val .none rfl (p_move rfl) ?_
          refine r_val .none rfl (p_ge rfl rfl) ?_
          refine r_nil ?_
          refine e_next ?_
          refine c_splitd (d := 27) rfl (fun h_54 => ?_) (fun h_54 => ?_)
          · skip
            obtain ⟨i, hi1, hi2, hi3⟩ := idxF_some t0 (Int.le_refl 0) (h_54)
            rw [Int.zero_add] at hi1
            have hbd := found_bound hzp hi2 hi3
            first
              | (exfalso; omega)
              | (
                refine c_cond_t rfl ?_
                refine c_region_d (fun j => [14, 15].contains j) _ mixed (.keep (fun _ _ h => h) (.keep (fun _ _ h => h) (.nil))) ?_
                refine d_val1 0 rfl rfl (by kernel_rfl) (fun j hj => by have h : 15 < j := (Nat.lt_of_lt_of_le (by decide : 15 < 16) hj); simp; omega) .none rfl (p_move rfl) ?_
                refine d_val1 1 rfl rfl (by kernel_rfl) (fun j hj => by have h : 15 < j := (Nat.lt_of_lt_of_le (by decide : 15 < 16) hj); simp; omega) .none rfl (p_move rfl) ?_
                refine d_val1 2 rfl rfl (by kernel_rfl) (fun j hj => by have h : 15 < j := (Nat.lt_of_lt_of_le (by decide : 15 < 16) hj); simp; omega) .none rfl (p_move rfl) ?_
                refine d_val1 3 rfl rfl (by kernel_rfl) (fun j hj => by have h : 15 < j := (Nat.lt_of_lt_of_le (by decide : 15 < 16) hj); simp; omega) .none rfl (p_move rfl) ?_
                refine d_say (d := 31) (v := Value.int .i64 ((i : Nat) : Int)) (congrArg (fun x => some (Value.int .i64 x)) (by first | exact hi1 | omega)) ?_
                refine d_iaddr_g 4 rfl rfl (by kernel_rfl) (fun j hj => by have h : 15 < j := (Nat.lt_of_lt_of_le (by decide : 15 < 16) hj); simp; omega) .none rfl Try.underlying81 sz84 rfl hzq rfl (by first | exact of_decide_eq_true rfl | omega) (fun p_56 o_57 R_55 => ?_)
                refine d_val1 5 rfl rfl (by kernel_rfl) (fun j hj => by have h : 15 < j := (Nat.lt_of_lt_of_le (by decide : 15 < 16) hj); simp; omega) .none rfl (p_field Try.underlying84 rfl sz3 rfl) ?_
                refine d_val1 6 rfl rfl (by kernel_rfl) (fun j hj => by have h : 15 < j := (Nat.lt_of_lt_of_le (by decide : 15 < 16) hj); simp; omega) .none rfl (p_ldg (j := 1) Try.underlying3 rfl rfl R_55 (by first | exact of_decide_eq_true rfl | omega) (rfl : _ = Value.int _ _)) ?_
                refine d_val1 7 rfl rfl (by kernel_rfl) (fun j hj => by have h : 15 < j := (Nat.lt_of_lt_of_le (by decide : 15 < 16) hj); simp; omega) .none rfl (p_move rfl) ?_
                refine d_val1 8 rfl rfl (by kernel_rfl) (fun j hj => by have h : 15 < j := (Nat.lt_of_lt_of_le (by decide : 15 < 16) hj); simp; omega) .none rfl (p_move rfl) ?_
                refine d_say (d := 36) (v := Value.int .i64 ((i : Nat) : Int)) (congrArg (fun x => some (Value.int .i64 x)) (by first | exact hi1 | omega)) ?_
                refine d_iaddr_g 9 rfl rfl (by kernel_rfl) (fun j hj => by have h : 15 < j := (Nat.lt_of_lt_of_le (by decide : 15 < 16) hj); simp; omega) .none rfl Try.underlying81 sz84 rfl hzq rfl (by first | exact of_decide_eq_true rfl | omega) (fun p_59 o_60 R_58 => ?_)
                refine d_val1 10 rfl rfl (by kernel_rfl) (fun j hj => by have h : 15 < j := (Nat.lt_of_lt_of_le (by decide : 15 < 16) hj); simp; omega) .none rfl (p_field Try.underlying84 rfl sz3 rfl) ?_
                refine d_val1 11 rfl rfl (by kernel_rfl) (fun j hj => by have h : 15 < j := (Nat.lt_of_lt_of_le (by decide : 15 < 16) hj); simp; omega) .none rfl (p_ldg (j := 2) Try.underlying3 rfl rfl R_58 (by first | exact of_decide_eq_true rfl | omega) (rfl : _ = Value.int _ _)) ?_
                refine d_val1 12 rfl rfl (by kernel_rfl) (fun j hj => by have h : 15 < j := (Nat.lt_of_lt_of_le (by decide : 15 < 16) hj); simp; omega) .none rfl (p_build (vs := [(0, Value.int _ _), (1, Value.int _ _), (2, Value.int _ _)]) rfl (bl92_0i1_1i1_2i1 _ _ _)) ?_
                refine d_eff 13 rfl (by kernel_rfl) (fun K_61 hKK_61 hcK_61 => ?_)
                refine r_bslice (vs := [(0, Value.agg #[_, _, _])]) (c := #[_, _, _]) .none rfl Try.underlying62 el92 rfl rfl rfl (bs92_10a3 _ _ _) (IsRow.lit _) (fun b_11 => ?_)
                refine r_nil (e_d (i := 13) (brk := (fun j => [14, 15].contains j)) (ph' := true) hKK_61 hcK_61 rfl (fun _ => GLe.refl _) (fun _ => .drop (.keep (fun _ _ h => h) (.keep (fun _ _ h => h) (.nil)))) ?_)
                clear hKK_61 hcK_61 K_61
                refine d_eff 14 rfl (by kernel_rfl) (fun K_62 hKK_62 hcK_62 => ?_)
                refine r_append (k := 1) (k2 := 0) .none rfl Try.underlying62 el92 rfl (by decide) rfl rfl rfl rfl rfl (one_lit rfl rfl) (by have q0 := testsTo_len l c.h 0; have q1 := testsTo_len l c.h 1; have q2 := testsTo_len l c.h 2; simp only [maxLen]; omega) (by have q0 := testsTo_len l c.h 0; have q1 := testsTo_len l c.h 1; have q2 := testsTo_len l c.h 2; omega) (fun v_63 => ?_)
                refine r_row1 (k := 1) rfl (fun o_64 => ?_)
                refine r_nil (e_d (i := 14) (brk := (fun j => [14, 15].contains j)) (ph' := false) hKK_62 hcK_62 rfl (fun h => by cases h) (fun h => by cases h) ?_)
                clear hKK_62 hcK_62 K_62
                refine d_val2 15 rfl rfl (by kernel_rfl) .none rfl (fun _ => p_assign rfl) ?_
                refine d_nil (by kernel_rfl) ?_
                refine e_norm_block ?_
                refine e_next ?_
                refine c_region ?_
                refine r_val .none rfl (p_add rfl rfl (by omega)) ?_
                refine r_val .none rfl (p_move rfl) ?_
                refine r_nil ?_
                refine e_round ((3, _, _)) ⟨⟨Nat.le_of_ble_eq_true rfl, (hgn.trans hn_50)⟩, Nat.le_of_ble_eq_true rfl⟩ rfl ⟨rfl, rfl, rfl, rfl, rfl, rfl, trivial⟩ (.drop (.keep (fun _ _ h => rowA_snoc (l := testsTo l c.h 2) (x := (((2 : Nat) : Int), (zs.getD i t0).2.1, (zs.getD i t0).2.2)) (by show testsTo l c.h (2 + 1) = _; rw [testsTo_succ, testF_b hv hbd]) rfl rfl rfl _ _ h) (.keep (fun _ _ h => h) (.nil))))
                )
          · skip
            have hbn := found_none hzp (h_54)
            first
              | (exfalso; omega)
              | (
                refine c_cond_f rfl ?_
                refine c_seq ?_
                refine c_region ?_
                refine r_val .none rfl (p_ldw (k := 1) Try.underlying38 rfl sz38 rfl rfl (rfl : _ = Value.agg #[_, _, _, _, _, _, _, _])) ?_
                refine r_val .none rfl (p_move rfl) ?_
                refine r_call (vs := [_, _]) .none rfl cl68 rfl (fun w hw => c_own8 c sv 2 (by decide) h1 w) ?_
                refine r_val .none rfl (p_move rfl) ?_
                refine r_val .none rfl (p_extract rfl rfl) ?_
                refine r_val .none rfl (p_extract rfl rfl) ?_
                refine r_alloc .none rfl zr92 (IsRow.lit _) (fun b_12 => ?_)
                refine r_stw (k := 0) .none sz92 rfl rfl (IsRow.lit _) (one_lit rfl rfl) rfl ?_
                refine r_val .none rfl (p_assign rfl) ?_
                refine r_nil ?_
                refine e_next ?_
                refine c_seq ?_
                refine c_region ?_
                refine r_val .none rfl (p_move rfl) ?_
                refine r_nil ?_
                refine e_next ?_
                refine c_splitd (d := 49) rfl (fun h_65 => ?_) (fun h_65 => ?_)
                · skip
                  have hdp := dup_some (h := c.h) (f := 2) (by decide) (h_65)
                  first
                    | (exfalso; omega)
                    | (
                      refine c_cond_t rfl ?_
                      refine c_region ?_
                      refine r_val .none rfl (p_move rfl) ?_
                      refine r_val .none rfl (p_ldw (k := 0) Try.underlying92 rfl sz92 rfl rfl (rfl : _ = Value.agg #[_, _, _])) ?_
                      refine r_bslice (vs := [(0, Value.agg #[_, _, _])]) (c := #[_, _, _]) .none rfl Try.underlying62 el92 rfl rfl rfl (bs92_10a3 _ _ _) (IsRow.lit _) (fun b_13 => ?_)
                      refine r_append (k := 2) (k2 := 0) .none rfl Try.underlying62 el92 rfl (by decide) rfl rfl rfl rfl rfl (one_lit rfl rfl) (by have q0 := testsTo_len l c.h 0; have q1 := testsTo_len l c.h 1; have q2 := testsTo_len l c.h 2; simp only [maxLen]; omega) (by have q0 := testsTo_len l c.h 0; have q1 := testsTo_len l c.h 1; have q2 := testsTo_len l c.h 2; omega) (fun v_66 => ?_)
                      refine r_row1 (k := 2) rfl (fun o_67 => ?_)
                      refine r_val .none rfl (p_assign rfl) ?_
                      refine r_nil ?_
                      refine e_norm_block ?_
                      refine e_next ?_
                      refine c_region ?_
                      refine r_val .none rfl (p_add rfl rfl (by omega)) ?_
                      refine r_val .none rfl (p_move rfl) ?_
                      refine r_nil ?_
                      refine e_round ((3, _, _)) ⟨⟨Nat.le_of_ble_eq_true rfl, (hgn.trans hn_50)⟩, Nat.le_of_ble_eq_true rfl⟩ rfl ⟨rfl, rfl, rfl, rfl, rfl, rfl, trivial⟩ (.drop (.drop (.keep (fun _ _ h => rowA_snoc (l := testsTo l c.h 2) (x := (((2 : Nat) : Int), -1, ownG c.h 2)) (by show testsTo l c.h (2 + 1) = _; rw [testsTo_succ, testF_d hv hbn hdp]) rfl rfl rfl _ _ h) (.keep (fun _ _ h => h) (.nil)))))
                      )
                · skip
                  have hdn := dup_none (h := c.h) (f := 2) (by decide) (h_65)
                  first
                    | (exfalso; omega)
                    | (
                      refine c_cond_f rfl ?_
                      refine c_skip ?_
                      refine e_norm_block ?_
                      refine e_next ?_
                      refine c_region ?_
                      refine r_val .none rfl (p_add rfl rfl (by omega)) ?_
                      refine r_val .none rfl (p_move rfl) ?_
                      refine r_nil ?_
                      refine e_round ((3, _, _)) ⟨⟨Nat.le_of_ble_eq_true rfl, (hgn.trans hn_50)⟩, Nat.le_of_ble_eq_true rfl⟩ rfl ⟨rfl, rfl, rfl, rfl, rfl, rfl, trivial⟩ (.drop (.keep (fun _ _ h => rowA_same (by show testsTo l c.h (2 + 1) = _; rw [testsTo_succ, (by first | exact T1 hv | exact testF_n hv hbn hdn : testF l c.h 2 = []), List.append_nil]) _ _ h) (.keep (fun _ _ h => h) (.nil))))
                      )
                )
          )
  · skip
    refine c_seq ?_
    refine c_region ?_
    refine r_val .none rfl (p_lt rfl rfl) ?_
    refine r_say (d := 17) (v := Value.bool false) rfl ?_
    refine r_nil ?_
    refine e_next ?_
    refine c_seq ?_
    refine c_cond_f rfl ?_
    refine c_exit ?_
    refine e_exit_then ?_
    refine e_exit_then ?_
    refine e_exit_block ?_
    refine e_next ?_
    refine c_seq ?_
    refine c_region ?_
    refine r_val .none rfl (p_move rfl) ?_
    refine r_val .none rfl (p_assign rfl) ?_
    refine r_nil ?_
    refine e_next ?_
    refine c_ret ?_
    refine e_freezeF (k := 0) rfl (fun G_68 hn_69 hs_70 => ?_)
    replace hs := hs.mono hn_69.le
    replace hzq := hzq.mono hn_69.le
    refine e_ret1 Try.results53 (.tmp rfl .nil) (fun w hm => ⟨fr _ _, fr_new _ _, fun b o e => hm.has b o (fr_le _ _ b o e), ?_, hm.since⟩)
    exact SlL.of t0 (fun _ => rfl) rfl hs_70
end Go.Proofs.Ytoflaphnlfggkaa

/- Walks: what Go functions of this chapter come to, each as a function on plain data; no condition but those that each theorem names. Printed by a program of this work (gen.py). -/
namespace Go.Proofs.Ytoflaphnlfggkaa
open Go.Gx Go.Gx.T4 Go.Gx.T3 Go.Gx.T6 Go.Gx.T8 Go.Gx.T4 Go.Gx.T3 Go.Gx.T8 Go.Gx.T4 Go.Gx.T3 Go.Gx.T8 Go.Gx.T6 Go.Gx.T4 Go.Gx.T3
theorem cl30 : Callable Try.prog 30 := callable Try.func30 (by kernel_rfl) rfl
theorem cl48 : Callable Try.prog 48 := callable Try.func48 (by kernel_rfl) rfl
theorem cl52 : Callable Try.prog 52 := callable Try.func52 (by kernel_rfl) rfl
theorem cl53 : Callable Try.prog 53 := callable Try.func53 (by kernel_rfl) rfl
theorem bl64_0i1_3s3 (x0 : Int) (x1 : Option Addr) (x2 : Nat) (x3 : Nat) : Program.built Try.prog 64 [(0, Value.int .i64 x0), (3, Value.slice x1 x2 x3)] = some #[Value.int .i64 x0, Value.int .i64 0, Value.int .i64 0, Value.int .i64 0, Value.slice none 0 0, Value.slice x1 x2 x3] := by
  kernel_rfl
theorem bl64_0i1_1a3_2s3 (x0 : Int) (x1 : Value) (x2 : Value) (x3 : Value) (x4 : Option Addr) (x5 : Nat) (x6 : Nat) : Program.built Try.prog 64 [(0, Value.int .i64 x0), (1, Value.agg #[x1, x2, x3]), (2, Value.slice x4 x5 x6)] = some #[Value.int .i64 x0, x1, x2, x3, Value.slice x4 x5 x6, Value.slice none 0 0] := by
  kernel_rfl
def CStepIs (n : Nat) : Prop := ∀ (c : CT) (sv va : Value) (l : List CT) (G : Ghost) (w : World), SizeOf.sizeOf c ≤ n → l.length + size c ≤ 1000 → Cs G sv c.subs → Cs G va l → Has G w → Calls Try.prog 30 #[va, Value.agg #[Value.int .i64 c.h.k, Value.bool c.h.v0, Value.int .i64 c.h.n0, Value.bool c.h.v1, Value.int .i64 c.h.n1, Value.bool c.h.v2, Value.int .i64 c.h.n2, sv]] w (Ret fun r w' => ∃ H : Ghost, (∀ b, H b ≠ none → w.heap.size ≤ b) ∧ Has H w' ∧ (∃ ua ub, r = Value.agg #[Value.int .i64 (stepOf l c).h.k, Value.int .i64 (stepOf l c).h.k0, Value.int .i64 (stepOf l c).h.k1, Value.int .i64 (stepOf l c).h.k2, ua, ub] ∧ SlL H ua 3 tC t0 (stepOf l c).h.ts ∧ Ss H ub (stepOf l c).subs) ∧ Since nX w w')
theorem c_beh (n : Nat) (ih : CStepIs n) (va vl : Value) (ah l : List CT) {G : Ghost} (hz : SizeOf.sizeOf l ≤ n + 1) (hsz : ah.length + sizeL l ≤ 1000) (hsa : Cs G va ah) (hs : Cs G vl l) (w : World) (hG : Has G w) :
    Calls Try.prog 48 #[va, vl] w (Ret fun r w' => ∃ H : Ghost, (∀ b, H b ≠ none → w.heap.size ≤ b) ∧ Has H w' ∧ Ss H r (stepsOf ah l) ∧ Since nX w w') := by
  refine enter (args := [_, _]) (X := nX) (G := G) (l := [(0, va), (1, vl)]) Try.func48 rfl Try.ntmps48 hG ⟨rfl, rfl, trivial⟩ (Nat.le_of_ble_eq_true rfl) ?_
  obtain ⟨rs, hr, hp, hl⟩ := hs.inv
  have hbd := hr.bound
  have hll := sizeL_len l
  have hlr : l.length = rs.length := by rw [hl]; simp
  rw [hl] at hsz hll
  rw [List.length_map] at hll
  obtain ⟨es, ha, hap, hal⟩ := hsa.inv
  have hel : ah.length = es.length := by rw [hal]; simp
  refine c_seq ?_
  refine c_region ?_
  refine r_val .none rfl (p_assign rfl) ?_
  refine r_nil ?_
  refine e_next ?_
  refine c_seq ?_
  refine c_region ?_
  refine r_val .none rfl (p_assign rfl) ?_
  refine r_nil ?_
  refine e_next ?_
  refine c_seq ?_
  refine c_region ?_
  refine r_val .none rfl (p_move rfl) ?_
  refine r_callrow (vs := [_]) .none rfl cl44 rfl (fun w hw => c_cloneC _ es ha (by omega) hap w hw) (fun v_1 => ?_)
  refine r_val .none rfl (p_assign rfl) ?_
  refine r_nil ?_
  refine e_next ?_
  refine c_seq ?_
  refine c_seq ?_
  refine c_region ?_
  refine r_val .none rfl (p_move rfl) ?_
  refine r_val .none rfl (p_leng Try.underlying22 rfl hr) ?_
  have bd_2 := (hr).bound
  refine r_val .none rfl (p_move rfl) ?_
  refine r_nil ?_
  refine e_next ?_
  refine c_block ?_
  refine c_nilrow 64 6 ?_
  refine c_name (d := 4) rfl (fun u_3 hu_3 => ?_)
  refine c_name (d := 10) rfl (fun u_4 hu_4 => ?_)
  refine c_name (d := 11) rfl (fun u_5 hu_5 => ?_)
  refine c_loop (σ := Nat × Value × Value × List SVal × Ghost) (fun s => [(12, Value.int .i64 (s.1 : Nat)), (5, s.2.1), (0, s.2.2.1), (4, u_3), (10, u_4), (11, u_5)]) (fun s => [rowA (s.2.1) 64 6 (s.2.2.2.1).length ((s.2.2.2.1).flatMap sC), rowA (s.2.2.1) 38 8 ((es ++ rs.take s.1)).length (((es ++ rs.take s.1)).flatMap cvC)]) (fun s => s.2.2.2.2) (fun s => s.1 ≤ rs.length ∧ s.2.2.2.1.map Prod.fst = stepsOf ah ((rs.map Prod.fst).take s.1) ∧ (∀ p ∈ s.2.2.2.1, SlL (fr w s.2.2.2.2) p.2.1 3 tC t0 p.1.h.ts) ∧ (∀ p ∈ s.2.2.2.1, Ss (fr w s.2.2.2.2) p.2.2 p.1.subs) ∧ GNew w nX G s.2.2.2.2) (fun s => rs.length - s.1) ((0, _, _, [], _)) ⟨Nat.zero_le _, rfl, by simp, by simp, GNew.refl _ _ _⟩ rfl ⟨rfl, rfl, rfl, rfl, rfl, rfl, trivial⟩ (.keep (fun _ _ h => rowA_nil rfl _ _ h) (.keep (fun _ _ h => rowA_congr (by simp) (by simp) _ _ h) (.nil))) (fun s hphi => ?_)
  subst hu_3
  subst hu_4
  subst hu_5
  obtain ⟨k, v, v0, qs, H⟩ := s
  obtain ⟨hk, hq, hqt, hqs, hgn⟩ := hphi
  dsimp only at hk hq hqt hqs hgn ⊢
  have hql : qs.length ≤ k := (by have := congrArg List.length hq; rw [stepsOf_len] at this; simp at this; omega)
  refine c_row1 (k := 0) rfl (fun ov_6 => ?_)
  refine c_row1 (k := 1) rfl (fun ov_7 => ?_)
  replace ha := ha.mono hgn.le
  replace hr := hr.mono hgn.le
  replace hp := fun p hm0 => (hp p hm0).mono hgn.le
  replace hap := fun p hm0 => (hap p hm0).mono hgn.le
  refine c_seq ?_
  refine c_region ?_
  refine r_val .none rfl (p_lt rfl rfl) ?_
  refine r_nil ?_
  refine e_next ?_
  refine c_seq ?_
  refine c_splitd (d := 13) rfl (fun h_8 => ?_) (fun h_8 => ?_)
  · skip
    first
      | (exfalso; omega)
      | (
        refine c_cond_t rfl ?_
        refine c_skip ?_
        refine e_next ?_
        refine c_seq ?_
        refine c_block ?_
        refine c_seq ?_
        refine c_region ?_
        refine r_iaddr_g .none rfl Try.underlying22 sz38 rfl hr rfl (by first | exact of_decide_eq_true rfl | omega) (fun p_10 o_11 R_9 => ?_)
        have hc_12 := hp _ (getD_mem (i := k) (d := d0) (by omega))
        have hz9 : (ah ++ ((rs.map Prod.fst).take k)).length + size (rs.getD k d0).1 ≤ 1000 := by have q1 := sizeL_take (rs := rs) (k := k) (by omega); have q2 := sizeL_take_le (rs.map Prod.fst) (k + 1); have q3 := sizeL_len ((rs.map Prod.fst).take k); rw [List.length_take, List.length_map] at q3; rw [List.length_append, List.length_take, List.length_map]; omega
        refine r_val .none rfl (p_ldga0 Try.underlying38 rfl sz38 rfl R_9 (by first | exact of_decide_eq_true rfl | omega) (rfl : _ = Value.agg #[_, _, _, _, _, _, _, _])) ?_
        refine r_alloc .none rfl zr38 (IsRow.lit _) (fun b_1 => ?_)
        refine r_stw (k := 0) .none sz38 rfl rfl (IsRow.lit _) (one_lit rfl (all_cons rfl (all_cons rfl (all_cons rfl (all_cons rfl (all_cons rfl (all_cons rfl (all_cons rfl (all_cons (hc_12).one rfl))))))))) rfl ?_
        refine r_nil ?_
        refine e_next ?_
        refine c_seq ?_
        refine c_region ?_
        refine r_val .none rfl (p_move rfl) ?_
        refine r_val .none rfl (p_move rfl) ?_
        refine r_val .none rfl (p_ldw (k := 0) Try.underlying38 rfl sz38 rfl rfl (rfl : _ = Value.agg #[_, _, _, _, _, _, _, _])) ?_
        refine r_callfr (k := 2) (vs := [_, _]) .none rfl cl30 rfl rfl (fun _ _ _ hle hz => by obtain ⟨ua, ub, h1, h2, h3⟩ := hz; exact ⟨ua, ub, h1, h2.mono hle, h3.mono hle⟩) (fun w G_18 hw hle_19 hs_20 => ih (rs.getD k d0).1 _ _ _ _ w (by have := List.sizeOf_lt_of_mem (show (rs.getD k d0).1 ∈ l by rw [hl]; exact List.mem_map.2 ⟨_, getD_mem (by omega), rfl⟩); omega) hz9 (hc_12.mono hle_19) (by have h : Cs _ _ ((es ++ rs.take k).map Prod.fst) := Tr.mk _ (SlL.of d0 (fun _ => rfl) rfl hs_20) (fun p hm0 => by rcases List.mem_append.1 hm0 with h | h; exact (hap p h).mono hle_19; exact (hp p (List.mem_of_mem_take h)).mono hle_19); rw [List.map_append, ← hal, List.map_take] at h; exact h) hw) (fun G_13 v_16 hn_14 hr_15 => ?_)
        replace ha := ha.mono hn_14.le
        replace hr := hr.mono hn_14.le
        replace hp := fun p hm0 => (hp p hm0).mono hn_14.le
        replace hap := fun p hm0 => (hap p hm0).mono hn_14.le
        replace hqt := fun p hm0 => (hqt p hm0).mono (fr_mono _ hn_14.le)
        replace hqs := fun p hm0 => (hqs p hm0).mono (fr_mono _ hn_14.le)
        replace R_9 := R_9.mono hn_14.le
        replace hc_12 := hc_12.mono hn_14.le
        obtain ⟨u_17a, u_17b, rfl, u_17s, u_17t⟩ := hr_15
        refine r_bslice (vs := [(0, Value.agg #[_, _, _, _, _, _])]) (c := #[_, _, _, _, _, _]) .none rfl Try.underlying50 el64 rfl rfl rfl (bs64_10a6 _ _ _ _ _ _) (IsRow.lit _) (fun b_2 => ?_)
        refine r_append (k := 2) (k2 := 0) .none rfl Try.underlying50 el64 rfl (by decide) rfl rfl rfl rfl rfl (one_lit rfl (all_cons rfl (all_cons rfl (all_cons rfl (all_cons rfl (all_cons (u_17s).one (all_cons (u_17t).one rfl))))))) (by simp only [maxLen]; omega) (by omega) (fun v_21 => ?_)
        refine r_row1 (k := 2) rfl (fun o_22 => ?_)
        refine r_val .none rfl (p_assign rfl) ?_
        refine r_nil ?_
        refine e_next ?_
        refine c_region ?_
        refine r_val .none rfl (p_move rfl) ?_
        refine r_val .none rfl (p_ldw (k := 1) Try.underlying38 rfl sz38 rfl rfl (rfl : _ = Value.agg #[_, _, _, _, _, _, _, _])) ?_
        refine r_bslice (vs := [(0, Value.agg #[_, _, _, _, _, _, _, _])]) (c := #[_, _, _, _, _, _, _, _]) .none rfl Try.underlying22 el38 rfl rfl rfl (bs38_10a8 _ _ _ _ _ _ _ _) (IsRow.lit _) (fun b_3 => ?_)
        refine r_append (k := 4) (k2 := 0) .none rfl Try.underlying22 el38 rfl (by decide) rfl rfl rfl rfl rfl (one_lit rfl (all_cons rfl (all_cons rfl (all_cons rfl (all_cons rfl (all_cons rfl (all_cons rfl (all_cons rfl (all_cons (hc_12).one rfl))))))))) (by rw [List.length_append, List.length_take]; simp only [maxLen]; omega) (by rw [List.length_append, List.length_take]; omega) (fun v_23 => ?_)
        refine r_row1 (k := 4) rfl (fun o_24 => ?_)
        refine r_val .none rfl (p_assign rfl) ?_
        refine r_nil ?_
        refine e_norm_block ?_
        refine e_next ?_
        refine c_region ?_
        refine r_val .none rfl (p_add rfl rfl (by omega)) ?_
        refine r_val .none rfl (p_move rfl) ?_
        refine r_nil ?_
        refine e_round ((k + 1, _, _, qs ++ [(stepOf (ah ++ ((rs.map Prod.fst).take k)) (rs.getD k d0).1, u_17a, u_17b)], _)) ⟨⟨by dsimp only; omega, by rw [stepsOf_take (by omega), List.map_append, hq]; rfl, (fun p hp' => by rcases List.mem_append.1 hp' with h | h; exact hqt p h; rw [List.mem_singleton.1 h]; exact u_17s), (fun p hp' => by rcases List.mem_append.1 hp' with h | h; exact hqs p h; rw [List.mem_singleton.1 h]; exact u_17t), (hgn.trans hn_14)⟩, by dsimp only; omega⟩ rfl ⟨rfl, rfl, rfl, rfl, rfl, rfl, trivial⟩ (.drop (.drop (.drop (.keep (fun _ _ h => rowA_snoc (l := qs) (x := (stepOf (ah ++ ((rs.map Prod.fst).take k)) (rs.getD k d0).1, u_17a, u_17b)) rfl rfl rfl rfl _ _ h) (.keep (fun _ _ h => rowA_snoc (l := es ++ rs.take k) (x := rs.getD k d0) (by rw [take_rs (by omega), List.append_assoc]) rfl rfl rfl _ _ h) (.nil))))))
        )
  · skip
    first
      | (exfalso; omega)
      | (
        refine c_cond_f rfl ?_
        refine c_exit ?_
        refine e_exit_then ?_
        refine e_exit_then ?_
        refine e_exit_block ?_
        refine e_next ?_
        refine c_seq ?_
        refine c_region ?_
        refine r_val .none rfl (p_move rfl) ?_
        refine r_val .none rfl (p_assign rfl) ?_
        refine r_nil ?_
        refine e_next ?_
        refine c_ret ?_
        refine e_freezeF (k := 0) rfl (fun G_25 hn_26 hs_27 => ?_)
        replace ha := ha.mono hn_26.le
        replace hr := hr.mono hn_26.le
        replace hp := fun p hm0 => (hp p hm0).mono hn_26.le
        replace hap := fun p hm0 => (hap p hm0).mono hn_26.le
        replace hqt := fun p hm0 => (hqt p hm0).mono (fr_mono _ hn_26.le)
        replace hqs := fun p hm0 => (hqs p hm0).mono (fr_mono _ hn_26.le)
        refine e_ret1 Try.results48 (.tmp rfl .nil) (fun w hm => ⟨fr _ _, fr_new _ _, fun b o e => hm.has b o (fr_le _ _ b o e), ?_, hm.since⟩)
        rw [show stepsOf ah l = qs.map Prod.fst by rw [hq, hl, List.take_of_length_le (by simp; omega)]]
        exact Ss.mk qs (SlL.of s0 (fun _ => rfl) rfl hs_27) hqt hqs
        )
theorem c_cstep_s (n : Nat) (ih : CStepIs n) (c : CT) (sv va : Value) (l : List CT) {G : Ghost} (hz : SizeOf.sizeOf c ≤ n + 1) (hsz : l.length + size c ≤ 1000) (hs : Cs G sv c.subs) (hs2 : Cs G va l) (w : World) (hG : Has G w) :
    Calls Try.prog 30 #[va, Value.agg #[Value.int .i64 c.h.k, Value.bool c.h.v0, Value.int .i64 c.h.n0, Value.bool c.h.v1, Value.int .i64 c.h.n1, Value.bool c.h.v2, Value.int .i64 c.h.n2, sv]] w (Ret fun r w' => ∃ H : Ghost, (∀ b, H b ≠ none → w.heap.size ≤ b) ∧ Has H w' ∧ (∃ ua ub, r = Value.agg #[Value.int .i64 (stepOf l c).h.k, Value.int .i64 (stepOf l c).h.k0, Value.int .i64 (stepOf l c).h.k1, Value.int .i64 (stepOf l c).h.k2, ua, ub] ∧ SlL H ua 3 tC t0 (stepOf l c).h.ts ∧ Ss H ub (stepOf l c).subs) ∧ Since nX w w') := by
  refine enter (args := [_, _]) (X := nX) (G := G) (l := [(0, va), (1, Value.agg #[Value.int .i64 c.h.k, Value.bool c.h.v0, Value.int .i64 c.h.n0, Value.bool c.h.v1, Value.int .i64 c.h.n1, Value.bool c.h.v2, Value.int .i64 c.h.n2, sv])]) Try.func30 rfl Try.ntmps30 hG ⟨rfl, rfl, trivial⟩ (Nat.le_of_ble_eq_true rfl) ?_
  have hone := hs.one
  have hsq := size_eq c
  refine c_seq ?_
  refine c_region ?_
  refine r_box .none rfl rfl (IsRow.lit _) (fun b_1 => ?_)
  refine r_alloc .none rfl zr64 (IsRow.lit _) (fun b_2 => ?_)
  refine r_nil ?_
  refine e_next ?_
  refine c_seq ?_
  refine c_seq ?_
  refine c_region ?_
  refine r_val .none rfl (p_field Try.underlying38 rfl sz3 rfl) ?_
  refine r_val .none rfl (p_ld (k := 1) Try.underlying3 rfl rfl rfl (by first | exact of_decide_eq_true rfl | omega) (rfl : _ = Value.int _ _)) ?_
  refine r_val .none rfl (p_eq rfl rfl) ?_
  refine r_nil ?_
  refine e_next ?_
  refine c_splitd (d := 7) rfl (fun h_1 => ?_) (fun h_1 => ?_)
  · skip
    first
      | (exfalso; omega)
      | (
        refine c_cond_t rfl ?_
        refine c_seq ?_
        refine c_region_d (fun j => [7].contains j) _ mixed (.keep (fun _ _ h => h) (.keep (fun _ _ h => h) (.nil))) ?_
        refine d_val1 0 rfl rfl (by kernel_rfl) (fun j hj => by have h : 7 < j := (Nat.lt_of_lt_of_le (by decide : 7 < 8) hj); simp; omega) .none rfl (p_field Try.underlying38 rfl sz3 rfl) ?_
        refine d_val1 1 rfl rfl (by kernel_rfl) (fun j hj => by have h : 7 < j := (Nat.lt_of_lt_of_le (by decide : 7 < 8) hj); simp; omega) .none rfl (p_ld (k := 1) Try.underlying3 rfl rfl rfl (by first | exact of_decide_eq_true rfl | omega) (rfl : _ = Value.int _ _)) ?_
        refine d_val1 2 rfl rfl (by kernel_rfl) (fun j hj => by have h : 7 < j := (Nat.lt_of_lt_of_le (by decide : 7 < 8) hj); simp; omega) .none rfl (p_move rfl) ?_
        refine d_val1 3 rfl rfl (by kernel_rfl) (fun j hj => by have h : 7 < j := (Nat.lt_of_lt_of_le (by decide : 7 < 8) hj); simp; omega) .none rfl (p_field Try.underlying38 rfl sz22 rfl) ?_
        refine d_val1 4 rfl rfl (by kernel_rfl) (fun j hj => by have h : 7 < j := (Nat.lt_of_lt_of_le (by decide : 7 < 8) hj); simp; omega) .none rfl (p_ld (k := 1) Try.underlying22 rfl rfl rfl (by first | exact of_decide_eq_true rfl | omega) rfl) ?_
        refine d_eff 5 rfl (by kernel_rfl) (fun K_2 hKK_2 hcK_2 => ?_)
        refine r_callf (vs := [_, _]) .none rfl cl48 rfl (fun _ _ _ hle hz => hz.mono hle) (fun w hw => c_beh n ih _ _ l c.subs (by have := size_subs c; omega) (by omega) hs2 hs w hw) (fun G_3 v_6 hn_4 hr_5 => ?_)
        replace hs2 := hs2.mono hn_4.le
        replace hs := hs.mono hn_4.le
        have u_7 := hr_5
        refine r_nil (e_d (i := 5) (brk := (fun j => [7].contains j)) (ph' := true) hKK_2 hcK_2 rfl (fun _ => hn_4.le) (fun _ => .keep (fun _ _ h => h) (.keep (fun _ _ h => h) (.nil))) ?_)
        clear hKK_2 hcK_2 K_2
        obtain ⟨a_8, c_9, rfl⟩ := Ss.len u_7
        refine d_val1 6 rfl rfl (by kernel_rfl) (fun j hj => by have h : 7 < j := (Nat.lt_of_lt_of_le (by decide : 7 < 8) hj); simp; omega) .none rfl (p_build (vs := [(0, Value.int _ _), (3, Value.slice _ _ _)]) rfl (bl64_0i1_3s3 _ _ _ _)) ?_
        refine d_eff 7 rfl (by kernel_rfl) (fun K_10 hKK_10 hcK_10 => ?_)
        refine r_stw (k := 0) .none sz64 rfl rfl (IsRow.lit _) (one_lit rfl (all_cons rfl (all_cons rfl (all_cons rfl (all_cons rfl (all_cons rfl (all_cons (u_7).one rfl))))))) rfl ?_
        refine r_nil (e_d (i := 7) (brk := (fun j => [7].contains j)) (ph' := false) hKK_10 hcK_10 rfl (fun h => by cases h) (fun h => by cases h) ?_)
        clear hKK_10 hcK_10 K_10
        refine d_nil (by kernel_rfl) ?_
        refine e_next ?_
        refine c_ret ?_
        refine e_ret_then ?_
        refine e_ret1 Try.results30 (.cell (k := 0) rfl Try.underlying64 rfl sz64 rfl (rfl : _ = Value.agg #[_, _, _, _, _, _]) .nil) (fun w hm => ⟨fr _ _, fr_new _ _, fun b o e => hm.has b o (fr_le _ _ b o e), ?_, hm.since⟩)
        rw [stepOf_ncc (by omega)]
        exact ⟨_, _, rfl, SlG.nil _ _ _, u_7⟩
        )
  · skip
    first
      | (exfalso; omega)
      | (
        refine c_cond_f rfl ?_
        refine c_skip ?_
        refine e_next ?_
        refine c_seq ?_
        refine c_region_d (fun j => [9].contains j) _ mixed (.keep (fun _ _ h => h) (.keep (fun _ _ h => h) (.nil))) ?_
        refine d_val1 0 rfl rfl (by kernel_rfl) (fun j hj => by have h : 9 < j := (Nat.lt_of_lt_of_le (by decide : 9 < 10) hj); simp; omega) .none rfl (p_field Try.underlying38 rfl sz3 rfl) ?_
        refine d_val1 1 rfl rfl (by kernel_rfl) (fun j hj => by have h : 9 < j := (Nat.lt_of_lt_of_le (by decide : 9 < 10) hj); simp; omega) .none rfl (p_ld (k := 1) Try.underlying3 rfl rfl rfl (by first | exact of_decide_eq_true rfl | omega) (rfl : _ = Value.int _ _)) ?_
        refine d_val1 2 rfl rfl (by kernel_rfl) (fun j hj => by have h : 9 < j := (Nat.lt_of_lt_of_le (by decide : 9 < 10) hj); simp; omega) .none rfl (p_field Try.underlying38 rfl sz36 rfl) ?_
        refine d_val1 3 rfl rfl (by kernel_rfl) (fun j hj => by have h : 9 < j := (Nat.lt_of_lt_of_le (by decide : 9 < 10) hj); simp; omega) .none rfl (p_lda (k := 1) Try.underlying36 rfl sz36 rfl rfl (by first | exact of_decide_eq_true rfl | omega) (rfl : _ = Value.agg #[_, _, _, _, _, _])) ?_
        refine d_val1 5 rfl rfl (by kernel_rfl) (fun j hj => by have h : 9 < j := (Nat.lt_of_lt_of_le (by decide : 9 < 10) hj); simp; omega) .none rfl (p_move rfl) ?_
        refine d_val1 6 rfl rfl (by kernel_rfl) (fun j hj => by have h : 9 < j := (Nat.lt_of_lt_of_le (by decide : 9 < 10) hj); simp; omega) .none rfl (p_ldw (k := 1) Try.underlying38 rfl sz38 rfl rfl (rfl : _ = Value.agg #[_, _, _, _, _, _, _, _])) ?_
        refine d_eff 4 rfl (by kernel_rfl) (fun K_11 hKK_11 hcK_11 => ?_)
        refine r_call (vs := [_]) .none rfl cl52 rfl (fun w hw => c_keyof c.h w) ?_
        refine r_nil (e_d (i := 4) (brk := (fun j => [9].contains j)) (ph' := true) hKK_11 hcK_11 rfl (fun _ => GLe.refl _) (fun _ => .keep (fun _ _ h => h) (.keep (fun _ _ h => h) (.nil))) ?_)
        clear hKK_11 hcK_11 K_11
        refine d_eff 7 rfl (by kernel_rfl) (fun K_12 hKK_12 hcK_12 => ?_)
        refine r_callf (vs := [_, _]) .none rfl cl53 rfl (fun _ _ _ hle hz => hz.mono hle) (fun w hw => c_tests8 _ _ c sv (by omega) hs2 hone w hw) (fun G_13 v_16 hn_14 hr_15 => ?_)
        replace hs2 := hs2.mono hn_14.le
        replace hs := hs.mono hn_14.le
        have u_17 := hr_15
        refine r_nil (e_d (i := 7) (brk := (fun j => [9].contains j)) (ph' := true) hKK_12 hcK_12 rfl (fun _ => hn_14.le) (fun _ => .keep (fun _ _ h => h) (.keep (fun _ _ h => h) (.nil))) ?_)
        clear hKK_12 hcK_12 K_12
        obtain ⟨a_18, c_19, rfl⟩ := SlG.len u_17
        refine d_val1 8 rfl rfl (by kernel_rfl) (fun j hj => by have h : 9 < j := (Nat.lt_of_lt_of_le (by decide : 9 < 10) hj); simp; omega) .none rfl (p_build (vs := [(0, Value.int _ _), (1, Value.agg #[_, _, _]), (2, Value.slice _ _ _)]) rfl (bl64_0i1_1a3_2s3 _ _ _ _ _ _ _)) ?_
        refine d_eff 9 rfl (by kernel_rfl) (fun K_20 hKK_20 hcK_20 => ?_)
        refine r_stw (k := 0) .none sz64 rfl rfl (IsRow.lit _) (one_lit rfl (all_cons rfl (all_cons rfl (all_cons rfl (all_cons rfl (all_cons (u_17).one (all_cons rfl rfl))))))) rfl ?_
        refine r_nil (e_d (i := 9) (brk := (fun j => [9].contains j)) (ph' := false) hKK_20 hcK_20 rfl (fun h => by cases h) (fun h => by cases h) ?_)
        clear hKK_20 hcK_20 K_20
        refine d_nil (by kernel_rfl) ?_
        refine e_next ?_
        refine c_ret ?_
        refine e_ret1 Try.results30 (.cell (k := 0) rfl Try.underlying64 rfl sz64 rfl (rfl : _ = Value.agg #[_, _, _, _, _, _]) .nil) (fun w hm => ⟨fr _ _, fr_new _ _, fun b o e => hm.has b o (fr_le _ _ b o e), ?_, hm.since⟩)
        rw [stepOf_other (by omega)]
        exact ⟨_, _, rfl, u_17, Ss.nil⟩
        )
theorem c_cstep_n : ∀ n, CStepIs n
  | 0 => fun c sv va l G w hz _ _ _ _ => absurd hz (by have := size_subs c; omega)
  | n + 1 => fun c sv va l G w hz hsz hs hs2 hG => c_cstep_s n (c_cstep_n n) c sv va l hz hsz hs hs2 w hG
theorem c_cstep (c : CT) (sv va : Value) (l : List CT) {G : Ghost} (hsz : l.length + size c ≤ 1000) (hs : Cs G sv c.subs) (hs2 : Cs G va l) (w : World) (hG : Has G w) : Calls Try.prog 30 #[va, Value.agg #[Value.int .i64 c.h.k, Value.bool c.h.v0, Value.int .i64 c.h.n0, Value.bool c.h.v1, Value.int .i64 c.h.n1, Value.bool c.h.v2, Value.int .i64 c.h.n2, sv]] w (Ret fun r w' => ∃ H : Ghost, (∀ b, H b ≠ none → w.heap.size ≤ b) ∧ Has H w' ∧ (∃ ua ub, r = Value.agg #[Value.int .i64 (stepOf l c).h.k, Value.int .i64 (stepOf l c).h.k0, Value.int .i64 (stepOf l c).h.k1, Value.int .i64 (stepOf l c).h.k2, ua, ub] ∧ SlL H ua 3 tC t0 (stepOf l c).h.ts ∧ Ss H ub (stepOf l c).subs) ∧ Since nX w w') := c_cstep_n _ c sv va l G w (Nat.le_refl _) hsz hs hs2 hG
theorem c_ccomp (v : Value) (l : List CT) {G : Ghost} (hsz : sizeL l ≤ 1000) (hs : Cs G v l) (w : World) (hG : Has G w) :
    Calls Try.prog 24 #[v] w (Ret fun r w' => ∃ H : Ghost, (∀ b, H b ≠ none → w.heap.size ≤ b) ∧ Has H w' ∧ Ss H r (stepsOf [] l) ∧ Since nX w w') := by
  refine enter (args := [_]) (X := nX) (G := G) (l := [(0, v)]) Try.func24 rfl Try.ntmps24 hG ⟨rfl, trivial⟩ (Nat.le_of_ble_eq_true rfl) ?_
  refine c_seq ?_
  refine c_region ?_
  refine r_val .none rfl (p_assign rfl) ?_
  refine r_nil ?_
  refine e_next ?_
  refine c_seq ?_
  refine c_region ?_
  refine r_val .none rfl (p_move rfl) ?_
  refine r_callf (vs := [_, _]) .none rfl cl48 rfl (fun _ _ _ hle hz => hz.mono hle) (fun w hw => c_beh _ (c_cstep_n _) _ _ [] l (Nat.le_succ _) (by simpa using hsz) Tr.nil hs w hw) (fun G_1 v_4 hn_2 hr_3 => ?_)
  replace hs := hs.mono hn_2.le
  have u_5 := hr_3
  refine r_val .none rfl (p_assign rfl) ?_
  refine r_nil ?_
  refine e_next ?_
  refine c_ret ?_
  refine e_ret1 Try.results24 (.tmp rfl .nil) (fun w hm => ⟨fr _ _, fr_new _ _, fun b o e => hm.has b o (fr_le _ _ b o e), ?_, hm.since⟩)
  exact u_5
end Go.Proofs.Ytoflaphnlfggkaa

/- Walks: what Go functions of this chapter come to, each as a function on plain data; no condition but those that each theorem names. Printed by a program of this work (gen.py). -/
namespace Go.Proofs.Ytoflaphnlfggkaa
open Go.Gx Go.Gx.T4 Go.Gx.T3 Go.Gx.T6 Go.Gx.T8 Go.Gx.T4 Go.Gx.T3 Go.Gx.T8 Go.Gx.T4 Go.Gx.T3 Go.Gx.T8 Go.Gx.T6 Go.Gx.T4 Go.Gx.T3
theorem sz50 : SzIs Try.prog 50 1 := by
  unfold SzIs
  kernel_rfl
theorem lf61 : leafT Try.prog 9 61 = some [3, 3, 3] := by
  kernel_rfl
theorem ef61 : eqT Try.prog 9 61 = true := by
  kernel_rfl
theorem lf92 : leafT Try.prog 9 92 = some [3, 3, 3] := by
  kernel_rfl
theorem ef92 : eqT Try.prog 9 92 = true := by
  kernel_rfl
theorem eg61 : Try.prog.eqGuardType Try.prog.depth 61 = false := by
  kernel_rfl
theorem eg92 : Try.prog.eqGuardType Try.prog.depth 92 = false := by
  kernel_rfl
theorem cl24 : Callable Try.prog 24 := callable Try.func24 (by kernel_rfl) rfl
theorem cl29 : Callable Try.prog 29 := callable Try.func29 (by kernel_rfl) rfl
theorem cl50 : Callable Try.prog 50 := callable Try.func50 (by kernel_rfl) rfl
theorem cl51 : Callable Try.prog 51 := callable Try.func51 (by kernel_rfl) rfl
theorem bl61_0i1_1i1_2i1 (x0 : Int) (x1 : Int) (x2 : Int) : Program.built Try.prog 61 [(0, Value.int .i64 x0), (1, Value.int .i64 x1), (2, Value.int .i64 x2)] = some #[Value.int .i64 x0, Value.int .i64 x1, Value.int .i64 x2] := by
  kernel_rfl
def CsameIs (n : Nat) : Prop := ∀ (c c2 : ST) (ta sb ta2 sb2 : Value) (G : Ghost) (w : World), SizeOf.sizeOf c ≤ n → SlL G ta 3 tC t0 c.h.ts → Ss G sb c.subs → SlL G ta2 3 tC t0 c2.h.ts → Ss G sb2 c2.subs → Has G w → Calls Try.prog 29 #[Value.agg #[Value.int .i64 c.h.k, Value.int .i64 c.h.k0, Value.int .i64 c.h.k1, Value.int .i64 c.h.k2, ta, sb], Value.agg #[Value.int .i64 c2.h.k, Value.int .i64 c2.h.k0, Value.int .i64 c2.h.k1, Value.int .i64 c2.h.k2, ta2, sb2]] w (Ret fun r w' => r = Value.bool (seq c c2) ∧ Since nX w w')
theorem c_awake8   (w : World)  :
    Calls Try.prog 20 #[] w (Ret fun r w' => r = Value.bool true ∧ Since nX w w') := by
  refine enter (args := []) (X := nX) (G := (fun _ => none)) (l := []) Try.func20 rfl Try.ntmps20 (fun _ _ h => by cases h) trivial (Nat.le_of_ble_eq_true rfl) ?_
  refine c_seq ?_
  refine c_region ?_
  refine r_val .none rfl (p_assign rfl) ?_
  refine r_nil ?_
  refine e_next ?_
  refine c_seq ?_
  refine c_region ?_
  refine r_val .none rfl (p_build (vs := [(0, Value.bool _), (1, Value.int _ _)]) rfl (bl35_0b1_1i1 _ _)) ?_
  refine r_val .none rfl (p_build (vs := [(0, Value.bool _), (1, Value.int _ _)]) rfl (bl35_0b1_1i1 _ _)) ?_
  refine r_val .none rfl (p_build (vs := [(1, Value.int _ _)]) rfl (bl35_1i1 _)) ?_
  refine r_alloc .none rfl zr35 (IsRow.lit _) (fun b_1 => ?_)
  refine r_alloc .none rfl zr35 (IsRow.lit _) (fun b_2 => ?_)
  refine r_alloc .none rfl zr35 (IsRow.lit _) (fun b_3 => ?_)
  refine r_stw (k := 2) .none sz35 rfl rfl (IsRow.lit _) (one_lit rfl rfl) rfl ?_
  refine r_stw (k := 1) .none sz35 rfl rfl (IsRow.lit _) (one_lit rfl rfl) rfl ?_
  refine r_stw (k := 0) .none sz35 rfl rfl (IsRow.lit _) (one_lit rfl rfl) rfl ?_
  refine r_nil ?_
  refine e_next ?_
  refine c_seq ?_
  refine c_region ?_
  refine r_val .none rfl (p_ldw (k := 2) Try.underlying35 rfl sz35 rfl rfl (rfl : _ = Value.agg #[_, _])) ?_
  refine r_val .none rfl (p_ldw (k := 0) Try.underlying35 rfl sz35 rfl rfl (rfl : _ = Value.agg #[_, _])) ?_
  refine r_val .none rfl (p_ldw (k := 1) Try.underlying35 rfl sz35 rfl rfl (rfl : _ = Value.agg #[_, _])) ?_
  refine r_val .none rfl (p_build (vs := [(0, Value.agg #[_, _]), (1, Value.agg #[_, _]), (2, Value.agg #[_, _])]) rfl (bl36_0a2_1a2_2a2 _ _ _ _ _ _)) ?_
  refine r_val .none rfl (p_build (vs := [(0, Value.int _ _), (1, Value.agg #[_, _, _, _, _, _])]) rfl (bl38_0i1_1a6 _ _ _ _ _ _ _)) ?_
  refine r_val .none rfl (p_ldw (k := 1) Try.underlying35 rfl sz35 rfl rfl (rfl : _ = Value.agg #[_, _])) ?_
  refine r_val .none rfl (p_ldw (k := 0) Try.underlying35 rfl sz35 rfl rfl (rfl : _ = Value.agg #[_, _])) ?_
  refine r_val .none rfl (p_ldw (k := 2) Try.underlying35 rfl sz35 rfl rfl (rfl : _ = Value.agg #[_, _])) ?_
  refine r_val .none rfl (p_build (vs := [(0, Value.agg #[_, _]), (1, Value.agg #[_, _]), (2, Value.agg #[_, _])]) rfl (bl36_0a2_1a2_2a2 _ _ _ _ _ _)) ?_
  refine r_val .none rfl (p_build (vs := [(0, Value.int _ _), (1, Value.agg #[_, _, _, _, _, _])]) rfl (bl38_0i1_1a6 _ _ _ _ _ _ _)) ?_
  refine r_bslice (vs := [(0, Value.agg #[_, _, _, _, _, _, _, _]), (1, Value.agg #[_, _, _, _, _, _, _, _])]) (c := #[_, _, _, _, _, _, _, _, _, _, _, _, _, _, _, _]) .none rfl Try.underlying22 el38 rfl rfl rfl (bs38_20a8_1a8 _ _ _ _ _ _ _ _ _ _ _ _ _ _ _ _) (IsRow.lit _) (fun b_4 => ?_)
  refine r_freezeB (k := 0) 2 8 rfl rfl (by decide) (fun G_1 hn_2 hs_3 => ?_)
  have h18 : SlL G_1 (Value.slice (some ⟨b_4, 0, none⟩) 2 2) 8 cvC d0 [(.mk ⟨1, true, 1, false, 4, true, 2⟩ [], (Value.slice none 0 0)), (.mk ⟨1, true, 2, false, 4, true, 1⟩ [], (Value.slice none 0 0))] := SlG.congr hs_3 (fun i hi j hj => by match i, hi with | 0, _ => (match j, hj with | 0, _ => rfl | 1, _ => rfl | 2, _ => rfl | 3, _ => rfl | 4, _ => rfl | 5, _ => rfl | 6, _ => rfl | 7, _ => rfl) | 1, _ => (match j, hj with | 0, _ => rfl | 1, _ => rfl | 2, _ => rfl | 3, _ => rfl | 4, _ => rfl | 5, _ => rfl | 6, _ => rfl | 7, _ => rfl))
  have th18 : Cs G_1 (Value.slice (some ⟨b_4, 0, none⟩) 2 2) (L8) := Tr.mk _ h18 (by intro p hm0; simp only [List.mem_cons, List.not_mem_nil, or_false] at hm0; rcases hm0 with rfl | rfl; exact Tr.nil; exact Tr.nil)
  refine r_callf (vs := [_]) .none rfl cl24 rfl (fun _ _ _ hle hz => hz.mono hle) (fun w hw => c_ccomp _ L8 (by decide) th18 w hw) (fun G_4 v_7 hn_5 hr_6 => ?_)
  replace h18 := h18.mono hn_5.le
  replace th18 := th18.mono hn_5.le
  have u_8 := (hr_6).mono (fr_le _ _)
  obtain ⟨qs, hq, hqt, hqs, hql⟩ := (u_8).inv
  obtain ⟨a0, b0, a1, b1, rfl⟩ := L8_open hql
  have ht0 : SlL _ a0 3 tC t0 [] := hqt (S80, a0, b0) (by simp)
  have ht1 : SlL _ a1 3 tC t0 [(0, 0, 2), (2, 0, 0)] := hqt (S81, a1, b1) (by simp)
  refine r_val .none rfl (p_assign rfl) ?_
  refine r_nil ?_
  refine e_next ?_
  refine c_seq ?_
  refine c_region ?_
  refine r_val .none rfl (p_move rfl) ?_
  refine r_val .none rfl (p_leng Try.underlying50 rfl hq) ?_
  have bd_9 := (hq).bound
  refine r_val .none rfl (p_eq rfl rfl) ?_
  refine r_val .none rfl (p_move rfl) ?_
  refine' r_and (c := 23) (d := 30) [_, _, _, _, _, _, _] rfl (fun h_10 Q_11 hQ_12 => ?_) (fun h_10 Q_11 hQ_12 => ?_) ?_
  rotate_left 1
  · skip
    replace h_10 := of_decide_eq_true h_10
    refine r_val (.some rfl rfl) rfl (p_move rfl) ?_
    refine r_iaddr_g (i := 1) (.some rfl rfl) rfl Try.underlying50 sz64 rfl hq rfl (by first | exact of_decide_eq_true rfl | omega) (fun p_15 o_16 R_14 => ?_)
    refine r_val (.some rfl rfl) rfl (p_field Try.underlying64 rfl sz61 rfl) ?_
    refine r_val (.some rfl rfl) rfl (p_ldga (j := 1) Try.underlying61 rfl sz61 rfl R_14 (by first | exact of_decide_eq_true rfl | omega) (rfl : _ = Value.agg #[_, _, _])) ?_
    refine r_val (.some rfl rfl) rfl (p_build (vs := [(0, Value.int _ _), (1, Value.int _ _), (2, Value.int _ _)]) rfl (bl61_0i1_1i1_2i1 _ _ _)) ?_
    refine r_val (.some rfl rfl) rfl (p_eqa rfl rfl (eq_flat Try.underlying61 rfl lf61 ef61 eg61 (.cons (.int Try.underlying3) (.cons (.int Try.underlying3) (.cons (.int Try.underlying3) (.nil)))) (.cons (.int Try.underlying3) (.cons (.int Try.underlying3) (.cons (.int Try.underlying3) (.nil)))))) ?_
    refine r_val .none rfl (p_pick_t rfl rfl) ?_
    refine r_nil (e_fin (d := 30) hQ_12 rfl (by repeat (first | exact .refl | refine .put rfl ?_ | refine .say rfl ?_ | refine .say2 rfl (by first | assumption | simp_all) ?_)))
  · skip
    repeat (first | refine r_skip rfl (.no rfl rfl) ?_ | refine r_skip rfl (.un rfl rfl) ?_)
    refine r_val (by first | exact .none | exact .some rfl rfl) rfl (p_pick_f rfl rfl) ?_
    refine r_nil (e_fin (d := 30) hQ_12 rfl (by repeat (first | exact .refl | refine .put rfl ?_ | refine .say rfl ?_ | refine .say2 rfl (by first | assumption | simp_all) ?_)))
  refine r_val .none rfl (p_move rfl) ?_
  refine' r_and (c := 31) (d := 38) [_, _, _, _, _, _, _] rfl (fun h_17 Q_18 hQ_19 => ?_) (fun h_17 Q_18 hQ_19 => ?_) ?_
  rotate_left 1
  · skip
    try simp only [norms] at h_17
    refine r_val (.some rfl rfl) rfl (p_move rfl) ?_
    refine r_iaddr_g (i := 0) (.some rfl rfl) rfl Try.underlying50 sz64 rfl hq rfl (by first | exact of_decide_eq_true rfl | omega) (fun p_22 o_23 R_21 => ?_)
    refine r_val (.some rfl rfl) rfl (p_field Try.underlying64 rfl sz62 rfl) ?_
    refine r_val (.some rfl rfl) rfl (p_ldg (j := 4) Try.underlying62 rfl rfl R_21 (by first | exact of_decide_eq_true rfl | omega) rfl) ?_
    refine r_val (.some rfl rfl) rfl (p_leng Try.underlying62 rfl ht0) ?_
    have bd_24 := (ht0).bound
    refine r_val (.some rfl rfl) rfl (p_eq rfl rfl) ?_
    refine r_val .none rfl (p_pick_t rfl rfl) ?_
    refine r_nil (e_fin (d := 38) hQ_19 rfl (by repeat (first | exact .refl | refine .put rfl ?_ | refine .say rfl ?_ | refine .say2 rfl (by first | assumption | simp_all) ?_)))
  · skip
    repeat (first | refine r_skip rfl (.no rfl rfl) ?_ | refine r_skip rfl (.un rfl rfl) ?_)
    refine r_val (by first | exact .none | exact .some rfl rfl) rfl (p_pick_f rfl rfl) ?_
    refine r_nil (e_fin (d := 38) hQ_19 rfl (by repeat (first | exact .refl | refine .put rfl ?_ | refine .say rfl ?_ | refine .say2 rfl (by first | assumption | simp_all) ?_)))
  refine r_val .none rfl (p_move rfl) ?_
  refine' r_and (c := 39) (d := 46) [_, _, _, _, _, _, _] rfl (fun h_25 Q_26 hQ_27 => ?_) (fun h_25 Q_26 hQ_27 => ?_) ?_
  rotate_left 1
  · skip
    try simp only [norms] at h_25
    refine r_val (.some rfl rfl) rfl (p_move rfl) ?_
    refine r_iaddr_g (i := 1) (.some rfl rfl) rfl Try.underlying50 sz64 rfl hq rfl (by first | exact of_decide_eq_true rfl | omega) (fun p_30 o_31 R_29 => ?_)
    refine r_val (.some rfl rfl) rfl (p_field Try.underlying64 rfl sz62 rfl) ?_
    refine r_val (.some rfl rfl) rfl (p_ldg (j := 4) Try.underlying62 rfl rfl R_29 (by first | exact of_decide_eq_true rfl | omega) rfl) ?_
    refine r_val (.some rfl rfl) rfl (p_leng Try.underlying62 rfl ht1) ?_
    have bd_32 := (ht1).bound
    refine r_val (.some rfl rfl) rfl (p_eq rfl rfl) ?_
    refine r_val .none rfl (p_pick_t rfl rfl) ?_
    refine r_nil (e_fin (d := 46) hQ_27 rfl (by repeat (first | exact .refl | refine .put rfl ?_ | refine .say rfl ?_ | refine .say2 rfl (by first | assumption | simp_all) ?_)))
  · skip
    repeat (first | refine r_skip rfl (.no rfl rfl) ?_ | refine r_skip rfl (.un rfl rfl) ?_)
    refine r_val (by first | exact .none | exact .some rfl rfl) rfl (p_pick_f rfl rfl) ?_
    refine r_nil (e_fin (d := 46) hQ_27 rfl (by repeat (first | exact .refl | refine .put rfl ?_ | refine .say rfl ?_ | refine .say2 rfl (by first | assumption | simp_all) ?_)))
  refine r_val .none rfl (p_move rfl) ?_
  refine' r_and (c := 47) (d := 56) [_, _, _, _, _, _, _, _, _] rfl (fun h_33 Q_34 hQ_35 => ?_) (fun h_33 Q_34 hQ_35 => ?_) ?_
  rotate_left 1
  · skip
    try simp only [norms] at h_33
    refine r_val (.some rfl rfl) rfl (p_move rfl) ?_
    refine r_iaddr_g (i := 1) (.some rfl rfl) rfl Try.underlying50 sz64 rfl hq rfl (by first | exact of_decide_eq_true rfl | omega) (fun p_38 o_39 R_37 => ?_)
    refine r_val (.some rfl rfl) rfl (p_field Try.underlying64 rfl sz62 rfl) ?_
    refine r_val (.some rfl rfl) rfl (p_ldg (j := 4) Try.underlying62 rfl rfl R_37 (by first | exact of_decide_eq_true rfl | omega) rfl) ?_
    refine r_iaddr_g (i := 1) (.some rfl rfl) rfl Try.underlying62 sz92 rfl ht1 rfl (by first | exact of_decide_eq_true rfl | omega) (fun p_41 o_42 R_40 => ?_)
    refine r_val (.some rfl rfl) rfl (p_ldga0 Try.underlying92 rfl sz92 rfl R_40 (by first | exact of_decide_eq_true rfl | omega) (rfl : _ = Value.agg #[_, _, _])) ?_
    refine r_val (.some rfl rfl) rfl (p_build (vs := [(0, Value.int _ _), (1, Value.int _ _), (2, Value.int _ _)]) rfl (bl92_0i1_1i1_2i1 _ _ _)) ?_
    refine r_val (.some rfl rfl) rfl (p_eqa rfl rfl (eq_flat Try.underlying92 rfl lf92 ef92 eg92 (.cons (.int Try.underlying3) (.cons (.int Try.underlying3) (.cons (.int Try.underlying3) (.nil)))) (.cons (.int Try.underlying3) (.cons (.int Try.underlying3) (.cons (.int Try.underlying3) (.nil)))))) ?_
    refine r_val .none rfl (p_pick_t rfl rfl) ?_
    refine r_nil (e_fin (d := 56) hQ_35 rfl (by repeat (first | exact .refl | refine .put rfl ?_ | refine .say rfl ?_ | refine .say2 rfl (by first | assumption | simp_all) ?_)))
  · skip
    repeat (first | refine r_skip rfl (.no rfl rfl) ?_ | refine r_skip rfl (.un rfl rfl) ?_)
    refine r_val (by first | exact .none | exact .some rfl rfl) rfl (p_pick_f rfl rfl) ?_
    refine r_nil (e_fin (d := 56) hQ_35 rfl (by repeat (first | exact .refl | refine .put rfl ?_ | refine .say rfl ?_ | refine .say2 rfl (by first | assumption | simp_all) ?_)))
  refine r_val .none rfl (p_assign rfl) ?_
  refine r_nil ?_
  refine e_next ?_
  refine c_ret ?_
  refine e_ret1 Try.results20 (.tmp rfl .nil) (fun w hm => ⟨?_, hm.since⟩)
  exact congrArg Value.bool (by rfl)
theorem c_eqT (v v2 : Value) (a b : List TD) {G : Ghost} (hr : SlL G v 3 tC t0 a) (hr2 : SlL G v2 3 tC t0 b) (w : World) (hG : Has G w) :
    Calls Try.prog 50 #[v, v2] w (Ret fun r w' => r = Value.bool (decide (a = b)) ∧ Since nX w w') := by
  refine enter (args := [_, _]) (X := nX) (G := G) (l := [(0, v), (1, v2)]) Try.func50 rfl Try.ntmps50 hG ⟨rfl, rfl, trivial⟩ (Nat.le_of_ble_eq_true rfl) ?_
  have hbd := hr.bound
  have hbd2 := hr2.bound
  refine c_seq ?_
  refine c_region ?_
  refine r_val .none rfl (p_assign rfl) ?_
  refine r_nil ?_
  refine e_next ?_
  refine c_seq ?_
  refine c_seq ?_
  refine c_region ?_
  refine r_val .none rfl (p_move rfl) ?_
  refine r_val .none rfl (p_leng Try.underlying62 rfl hr) ?_
  have bd_1 := (hr).bound
  refine r_val .none rfl (p_move rfl) ?_
  refine r_val .none rfl (p_leng Try.underlying62 rfl hr2) ?_
  have bd_2 := (hr2).bound
  refine r_val .none rfl (p_ne rfl rfl) ?_
  refine r_nil ?_
  refine e_next ?_
  refine c_splitd (d := 10) rfl (fun h_3 => ?_) (fun h_3 => ?_)
  · skip
    first
      | (exfalso; omega)
      | (
        refine c_cond_t rfl ?_
        refine c_seq ?_
        refine c_region ?_
        refine r_val .none rfl (p_assign rfl) ?_
        refine r_nil ?_
        refine e_next ?_
        refine c_ret ?_
        refine e_ret_then ?_
        refine e_ret1 Try.results50 (.tmp rfl .nil) (fun w hm => ⟨?_, hm.since⟩)
        first
        | exact congrArg Value.bool (decide_eq_false (ne_of_len (by omega))).symm
        | exact congrArg Value.bool (decide_eq_false (ne_of_get hE)).symm
        | (have hk := hphi.2.2; rw [List.take_of_length_le (by omega), List.take_of_length_le (by omega)] at hk; exact congrArg Value.bool (decide_eq_true hk).symm)
        )
  · skip
    first
      | (exfalso; omega)
      | (
        refine c_cond_f rfl ?_
        refine c_skip ?_
        refine e_next ?_
        refine c_seq ?_
        refine c_seq ?_
        refine c_region ?_
        refine r_val .none rfl (p_move rfl) ?_
        refine r_val .none rfl (p_leng Try.underlying62 rfl hr) ?_
        have bd_4 := (hr).bound
        refine r_val .none rfl (p_move rfl) ?_
        refine r_nil ?_
        refine e_next ?_
        refine c_block ?_
        refine c_name (d := 0) rfl (fun u_5 hu_5 => ?_)
        refine c_name (d := 1) rfl (fun u_6 hu_6 => ?_)
        refine c_name (d := 12) rfl (fun u_7 hu_7 => ?_)
        refine c_loop (σ := Nat) (fun k => [(13, Value.int .i64 (k : Nat)), (0, u_5), (1, u_6), (12, u_7)]) (fun k => []) (fun _ => _) (fun k => k ≤ a.length ∧ a.length = b.length ∧ a.take k = b.take k) (fun k => a.length - k) (0) ⟨Nat.zero_le _, by omega, rfl⟩ rfl ⟨rfl, rfl, rfl, rfl, trivial⟩ (.nil) (fun k hphi => ?_)
        subst hu_5
        subst hu_6
        subst hu_7
        refine c_seq ?_
        refine c_region ?_
        refine r_val .none rfl (p_lt rfl rfl) ?_
        refine r_nil ?_
        refine e_next ?_
        refine c_seq ?_
        refine c_splitd (d := 14) rfl (fun h_8 => ?_) (fun h_8 => ?_)
        · skip
          first
            | (exfalso; omega)
            | (
              refine c_cond_t rfl ?_
              refine c_skip ?_
              refine e_next ?_
              refine c_seq ?_
              refine c_block ?_
              refine c_seq ?_
              refine c_region ?_
              refine r_val .none rfl (p_move rfl) ?_
              refine r_val .none rfl (p_assign rfl) ?_
              refine r_nil ?_
              refine e_next ?_
              refine c_seq ?_
              refine c_region_q mixed (by kernel_rfl) ?_
              refine q_val .none rfl (p_move rfl) ?_
              refine q_val .none rfl (p_move rfl) ?_
              refine q_iaddr_g .none rfl Try.underlying62 sz92 rfl hr rfl (by first | exact of_decide_eq_true rfl | omega) (fun p_10 o_11 R_9 => ?_)
              refine q_val .none rfl (p_ldga0 Try.underlying92 rfl sz92 rfl R_9 (by first | exact of_decide_eq_true rfl | omega) (rfl : _ = Value.agg #[_, _, _])) ?_
              refine q_val .none rfl (p_move rfl) ?_
              refine q_val .none rfl (p_move rfl) ?_
              refine q_iaddr_g .none rfl Try.underlying62 sz92 rfl hr2 rfl (by first | exact of_decide_eq_true rfl | omega) (fun p_13 o_14 R_12 => ?_)
              refine q_val .none rfl (p_ldga0 Try.underlying92 rfl sz92 rfl R_12 (by first | exact of_decide_eq_true rfl | omega) (rfl : _ = Value.agg #[_, _, _])) ?_
              refine q_val .none rfl (p_nea rfl rfl (eq_flat Try.underlying92 rfl lf92 ef92 eg92 (.cons (.int Try.underlying3) (.cons (.int Try.underlying3) (.cons (.int Try.underlying3) (.nil)))) (.cons (.int Try.underlying3) (.cons (.int Try.underlying3) (.cons (.int Try.underlying3) (.nil)))))) ?_
              refine q_nil ?_
              refine e_next ?_
              refine c_splitn (d := 24) rfl (fun h_15 => ?_) (fun h_15 => ?_)
              · skip
                have hE : a.getD k t0 ≠ b.getD k t0 := of_decide_eq_false ((tC_eq _ _).symm.trans h_15)
                first
                  | (exfalso; omega)
                  | (
                    refine c_cond_t rfl ?_
                    refine c_seq ?_
                    refine c_region ?_
                    refine r_val .none rfl (p_assign rfl) ?_
                    refine r_nil ?_
                    refine e_next ?_
                    refine c_ret ?_
                    refine e_ret_block ?_
                    refine e_ret_then ?_
                    refine e_ret_then ?_
                    refine e_ret_block ?_
                    refine e_ret_then ?_
                    refine e_ret1 Try.results50 (.tmp rfl .nil) (fun w hm => ⟨?_, hm.since⟩)
                    first
                    | exact congrArg Value.bool (decide_eq_false (ne_of_len (by omega))).symm
                    | exact congrArg Value.bool (decide_eq_false (ne_of_get hE)).symm
                    | (have hk := hphi.2.2; rw [List.take_of_length_le (by omega), List.take_of_length_le (by omega)] at hk; exact congrArg Value.bool (decide_eq_true hk).symm)
                    )
              · skip
                have hE : a.getD k t0 = b.getD k t0 := of_decide_eq_true ((tC_eq _ _).symm.trans h_15)
                first
                  | (exfalso; omega)
                  | (
                    refine c_cond_f rfl ?_
                    refine c_skip ?_
                    refine e_norm_block ?_
                    refine e_next ?_
                    refine c_region ?_
                    refine r_val .none rfl (p_add rfl rfl (by omega)) ?_
                    refine r_val .none rfl (p_move rfl) ?_
                    refine r_nil ?_
                    refine e_round (k + 1) ⟨⟨by omega, hphi.2.1, take_eq_succ (d := t0) (by omega) (by omega) hphi.2.2 hE⟩, by omega⟩ rfl ⟨rfl, rfl, rfl, rfl, trivial⟩ (.nil)
                    )
              )
        · skip
          first
            | (exfalso; omega)
            | (
              refine c_cond_f rfl ?_
              refine c_exit ?_
              refine e_exit_then ?_
              refine e_exit_then ?_
              refine e_exit_block ?_
              refine e_next ?_
              refine c_seq ?_
              refine c_region ?_
              refine r_val .none rfl (p_assign rfl) ?_
              refine r_nil ?_
              refine e_next ?_
              refine c_ret ?_
              refine e_ret1 Try.results50 (.tmp rfl .nil) (fun w hm => ⟨?_, hm.since⟩)
              first
              | exact congrArg Value.bool (decide_eq_false (ne_of_len (by omega))).symm
              | exact congrArg Value.bool (decide_eq_false (ne_of_get hE)).symm
              | (have hk := hphi.2.2; rw [List.take_of_length_le (by omega), List.take_of_length_le (by omega)] at hk; exact congrArg Value.bool (decide_eq_true hk).symm)
              )
        )
theorem c_eqfS (n : Nat) (ih : CsameIs n) (v v2 : Value) (l l2 : List ST) {G : Ghost} (hz : ∀ x ∈ l, SizeOf.sizeOf x ≤ n) (hs : Ss G v l) (hs2 : Ss G v2 l2) (w : World) (hG : Has G w) :
    Calls Try.prog 51 #[v, v2, Value.func (.func 29) #[] #[]] w (Ret fun r w' => r = Value.bool (seqL l l2) ∧ Since nX w w') := by
  refine enter (args := [_, _, _]) (X := nX) (G := G) (l := [(0, v), (1, v2), (2, Value.func (.func 29) #[] #[])]) Try.func51 rfl Try.ntmps51 hG ⟨rfl, rfl, rfl, trivial⟩ (Nat.le_of_ble_eq_true rfl) ?_
  obtain ⟨rs, hr, hrt, hrs, hl⟩ := hs.inv
  obtain ⟨rs2, hr2, hrt2, hrs2, hl2⟩ := hs2.inv
  have hbd := hr.bound
  have hbd2 := hr2.bound
  refine c_seq ?_
  refine c_region ?_
  refine r_val .none rfl (p_assign rfl) ?_
  refine r_nil ?_
  refine e_next ?_
  refine c_seq ?_
  refine c_seq ?_
  refine c_region ?_
  refine r_val .none rfl (p_move rfl) ?_
  refine r_val .none rfl (p_leng Try.underlying50 rfl hr) ?_
  have bd_1 := (hr).bound
  refine r_val .none rfl (p_move rfl) ?_
  refine r_val .none rfl (p_leng Try.underlying50 rfl hr2) ?_
  have bd_2 := (hr2).bound
  refine r_val .none rfl (p_ne rfl rfl) ?_
  refine r_nil ?_
  refine e_next ?_
  refine c_splitd (d := 14) rfl (fun h_3 => ?_) (fun h_3 => ?_)
  · skip
    first
      | (exfalso; omega)
      | (
        refine c_cond_t rfl ?_
        refine c_seq ?_
        refine c_region ?_
        refine r_val .none rfl (p_assign rfl) ?_
        refine r_nil ?_
        refine e_next ?_
        refine c_ret ?_
        refine e_ret_then ?_
        refine e_ret1 Try.results51 (.tmp rfl .nil) (fun w hm => ⟨?_, hm.since⟩)
        first
        | (rw [hl, hl2, seqL_len (by simp; omega)])
        | (rw [hl, hl2, ← hphi.2.2, seqL_no (by omega) (by omega) hE])
        | (rw [hl, hl2, ← hphi.2.2, List.drop_eq_nil_of_le (by simp; omega), List.drop_eq_nil_of_le (by simp; omega)]; rfl)
        )
  · skip
    first
      | (exfalso; omega)
      | (
        refine c_cond_f rfl ?_
        refine c_skip ?_
        refine e_next ?_
        refine c_seq ?_
        refine c_seq ?_
        refine c_region ?_
        refine r_val .none rfl (p_move rfl) ?_
        refine r_val .none rfl (p_leng Try.underlying50 rfl hr) ?_
        have bd_4 := (hr).bound
        refine r_val .none rfl (p_move rfl) ?_
        refine r_nil ?_
        refine e_next ?_
        refine c_block ?_
        refine c_name (d := 1) rfl (fun u_5 hu_5 => ?_)
        refine c_name (d := 2) rfl (fun u_6 hu_6 => ?_)
        refine c_name (d := 15) rfl (fun u_7 hu_7 => ?_)
        refine c_name (d := 16) rfl (fun u_8 hu_8 => ?_)
        refine c_loop (σ := Nat) (fun k => [(17, Value.int .i64 (k : Nat)), (1, u_5), (2, u_6), (15, u_7), (16, u_8)]) (fun k => []) (fun _ => _) (fun k => k ≤ rs.length ∧ rs.length = rs2.length ∧ seqL ((rs.map Prod.fst).drop k) ((rs2.map Prod.fst).drop k) = seqL (rs.map Prod.fst) (rs2.map Prod.fst)) (fun k => rs.length - k) (0) ⟨Nat.zero_le _, by omega, rfl⟩ rfl ⟨rfl, rfl, rfl, rfl, rfl, trivial⟩ (.nil) (fun k hphi => ?_)
        subst hu_5
        subst hu_6
        subst hu_7
        subst hu_8
        refine c_seq ?_
        refine c_region ?_
        refine r_val .none rfl (p_lt rfl rfl) ?_
        refine r_nil ?_
        refine e_next ?_
        refine c_seq ?_
        refine c_splitd (d := 18) rfl (fun h_9 => ?_) (fun h_9 => ?_)
        · skip
          first
            | (exfalso; omega)
            | (
              refine c_cond_t rfl ?_
              refine c_skip ?_
              refine e_next ?_
              refine c_seq ?_
              refine c_block ?_
              refine c_seq ?_
              refine c_region ?_
              refine r_val .none rfl (p_move rfl) ?_
              refine r_iaddr_g .none rfl Try.underlying50 sz64 rfl hr rfl (by first | exact of_decide_eq_true rfl | omega) (fun p_11 o_12 R_10 => ?_)
              have ht_13 := hrt _ (getD_mem (i := k) (d := s0) (by omega))
              have hc_14 := hrs _ (getD_mem (i := k) (d := s0) (by omega))
              refine r_val .none rfl (p_ldga0 Try.underlying64 rfl sz64 rfl R_10 (by first | exact of_decide_eq_true rfl | omega) (rfl : _ = Value.agg #[_, _, _, _, _, _])) ?_
              refine r_alloc .none rfl zr64 (IsRow.lit _) (fun b_1 => ?_)
              refine r_val .none rfl (p_assign rfl) ?_
              refine r_stw (k := 0) .none sz64 rfl rfl (IsRow.lit _) (one_lit rfl (all_cons rfl (all_cons rfl (all_cons rfl (all_cons rfl (all_cons (ht_13).one (all_cons (hc_14).one rfl))))))) rfl ?_
              refine r_nil ?_
              refine e_next ?_
              refine c_seq ?_
              refine c_region ?_
              refine r_val .none rfl (p_move rfl) ?_
              refine r_val .none rfl (p_move rfl) ?_
              refine r_iaddr_g .none rfl Try.underlying50 sz64 rfl hr2 rfl (by first | exact of_decide_eq_true rfl | omega) (fun p_16 o_17 R_15 => ?_)
              have ht_18 := hrt2 _ (getD_mem (i := k) (d := s0) (by omega))
              have hc_19 := hrs2 _ (getD_mem (i := k) (d := s0) (by omega))
              refine r_val .none rfl (p_ldga0 Try.underlying64 rfl sz64 rfl R_15 (by first | exact of_decide_eq_true rfl | omega) (rfl : _ = Value.agg #[_, _, _, _, _, _])) ?_
              refine r_alloc .none rfl zr64 (IsRow.lit _) (fun b_2 => ?_)
              refine r_stw (k := 0) .none sz64 rfl rfl (IsRow.lit _) (one_lit rfl (all_cons rfl (all_cons rfl (all_cons rfl (all_cons rfl (all_cons (ht_18).one (all_cons (hc_19).one rfl))))))) rfl ?_
              refine r_nil ?_
              refine e_next ?_
              refine c_seq ?_
              refine c_region ?_
              refine r_val .none rfl (p_move rfl) ?_
              refine r_val .none rfl (p_ldw (k := 1) Try.underlying64 rfl sz64 rfl rfl (rfl : _ = Value.agg #[_, _, _, _, _, _])) ?_
              refine r_val .none rfl (p_ldw (k := 0) Try.underlying64 rfl sz64 rfl rfl (rfl : _ = Value.agg #[_, _, _, _, _, _])) ?_
              refine r_fun (cs := []) .none rfl ?_
              refine r_call (vs := [_, _]) .none rfl cl29 rfl (fun w hw => ih (rs.getD k s0).1 _ _ _ _ _ _ w (hz _ (by rw [hl]; exact sv_mem (k := k) (by omega))) ht_13 hc_14 ht_18 hc_19 hw) ?_
              refine r_val .none rfl (p_not rfl) ?_
              refine r_nil ?_
              refine e_next ?_
              refine c_splitn (d := 30) rfl (fun h_20 => ?_) (fun h_20 => ?_)
              · skip
                have hE := h_20
                first
                  | (exfalso; omega)
                  | (
                    refine c_cond_t rfl ?_
                    refine c_seq ?_
                    refine c_region ?_
                    refine r_val .none rfl (p_assign rfl) ?_
                    refine r_nil ?_
                    refine e_next ?_
                    refine c_ret ?_
                    refine e_ret_block ?_
                    refine e_ret_then ?_
                    refine e_ret_then ?_
                    refine e_ret_block ?_
                    refine e_ret_then ?_
                    refine e_ret1 Try.results51 (.tmp rfl .nil) (fun w hm => ⟨?_, hm.since⟩)
                    first
                    | (rw [hl, hl2, seqL_len (by simp; omega)])
                    | (rw [hl, hl2, ← hphi.2.2, seqL_no (by omega) (by omega) hE])
                    | (rw [hl, hl2, ← hphi.2.2, List.drop_eq_nil_of_le (by simp; omega), List.drop_eq_nil_of_le (by simp; omega)]; rfl)
                    )
              · skip
                have hE := h_20
                first
                  | (exfalso; omega)
                  | (
                    refine c_cond_f rfl ?_
                    refine c_skip ?_
                    refine e_norm_block ?_
                    refine e_next ?_
                    refine c_region ?_
                    refine r_val .none rfl (p_add rfl rfl (by omega)) ?_
                    refine r_val .none rfl (p_move rfl) ?_
                    refine r_nil ?_
                    refine e_round (k + 1) ⟨⟨by omega, hphi.2.1, by rw [seqL_yes (by omega) (by omega) hE]; exact hphi.2.2⟩, by omega⟩ rfl ⟨rfl, rfl, rfl, rfl, rfl, trivial⟩ (.drop (.drop (.nil)))
                    )
              )
        · skip
          first
            | (exfalso; omega)
            | (
              refine c_cond_f rfl ?_
              refine c_exit ?_
              refine e_exit_then ?_
              refine e_exit_then ?_
              refine e_exit_block ?_
              refine e_next ?_
              refine c_seq ?_
              refine c_region ?_
              refine r_val .none rfl (p_assign rfl) ?_
              refine r_nil ?_
              refine e_next ?_
              refine c_ret ?_
              refine e_ret1 Try.results51 (.tmp rfl .nil) (fun w hm => ⟨?_, hm.since⟩)
              first
              | (rw [hl, hl2, seqL_len (by simp; omega)])
              | (rw [hl, hl2, ← hphi.2.2, seqL_no (by omega) (by omega) hE])
              | (rw [hl, hl2, ← hphi.2.2, List.drop_eq_nil_of_le (by simp; omega), List.drop_eq_nil_of_le (by simp; omega)]; rfl)
              )
        )
theorem c_csame_s (n : Nat) (ih : CsameIs n) (c c2 : ST) (ta sb ta2 sb2 : Value) {G : Ghost} (hz : SizeOf.sizeOf c ≤ n + 1) (ht : SlL G ta 3 tC t0 c.h.ts) (hs : Ss G sb c.subs) (ht2 : SlL G ta2 3 tC t0 c2.h.ts) (hs2 : Ss G sb2 c2.subs) (w : World) (hG : Has G w) :
    Calls Try.prog 29 #[Value.agg #[Value.int .i64 c.h.k, Value.int .i64 c.h.k0, Value.int .i64 c.h.k1, Value.int .i64 c.h.k2, ta, sb], Value.agg #[Value.int .i64 c2.h.k, Value.int .i64 c2.h.k0, Value.int .i64 c2.h.k1, Value.int .i64 c2.h.k2, ta2, sb2]] w (Ret fun r w' => r = Value.bool (seq c c2) ∧ Since nX w w') := by
  refine enter (args := [_, _]) (X := nX) (G := G) (l := [(0, Value.agg #[Value.int .i64 c.h.k, Value.int .i64 c.h.k0, Value.int .i64 c.h.k1, Value.int .i64 c.h.k2, ta, sb]), (1, Value.agg #[Value.int .i64 c2.h.k, Value.int .i64 c2.h.k0, Value.int .i64 c2.h.k1, Value.int .i64 c2.h.k2, ta2, sb2])]) Try.func29 rfl Try.ntmps29 hG ⟨rfl, rfl, trivial⟩ (Nat.le_of_ble_eq_true rfl) ?_
  refine c_seq ?_
  refine c_region ?_
  refine r_box .none rfl rfl (IsRow.lit _) (fun b_1 => ?_)
  refine r_box .none rfl rfl (IsRow.lit _) (fun b_2 => ?_)
  refine r_val .none rfl (p_assign rfl) ?_
  refine r_nil ?_
  refine e_next ?_
  refine c_seq ?_
  refine c_region ?_
  refine r_val .none rfl (p_field Try.underlying64 rfl sz3 rfl) ?_
  refine r_val .none rfl (p_ld (k := 1) Try.underlying3 rfl rfl rfl (by first | exact of_decide_eq_true rfl | omega) (rfl : _ = Value.int _ _)) ?_
  refine r_val .none rfl (p_field Try.underlying64 rfl sz3 rfl) ?_
  refine r_val .none rfl (p_ld (k := 0) Try.underlying3 rfl rfl rfl (by first | exact of_decide_eq_true rfl | omega) (rfl : _ = Value.int _ _)) ?_
  refine r_val .none rfl (p_eq rfl rfl) ?_
  refine r_val .none rfl (p_move rfl) ?_
  refine' r_and (c := 10) (d := 16) [_, _, _, _, _, _] rfl (fun h_1 Q_2 hQ_3 => ?_) (fun h_1 Q_2 hQ_3 => ?_) ?_
  rotate_left 1
  · skip
    replace h_1 := of_decide_eq_true h_1
    refine r_val (.some rfl rfl) rfl (p_field Try.underlying64 rfl sz61 rfl) ?_
    refine r_val (.some rfl rfl) rfl (p_lda (k := 1) Try.underlying61 rfl sz61 rfl rfl (by first | exact of_decide_eq_true rfl | omega) (rfl : _ = Value.agg #[_, _, _])) ?_
    refine r_val (.some rfl rfl) rfl (p_field Try.underlying64 rfl sz61 rfl) ?_
    refine r_val (.some rfl rfl) rfl (p_lda (k := 0) Try.underlying61 rfl sz61 rfl rfl (by first | exact of_decide_eq_true rfl | omega) (rfl : _ = Value.agg #[_, _, _])) ?_
    refine r_val (.some rfl rfl) rfl (p_eqa rfl rfl (eq_flat Try.underlying61 rfl lf61 ef61 eg61 (.cons (.int Try.underlying3) (.cons (.int Try.underlying3) (.cons (.int Try.underlying3) (.nil)))) (.cons (.int Try.underlying3) (.cons (.int Try.underlying3) (.cons (.int Try.underlying3) (.nil)))))) ?_
    refine r_val .none rfl (p_pick_t rfl rfl) ?_
    refine r_nil (e_fin (d := 16) hQ_3 rfl (by repeat (first | exact .refl | refine .put rfl ?_ | refine .say rfl ?_ | refine .say2 rfl (by first | assumption | simp_all) ?_)))
  · skip
    repeat (first | refine r_skip rfl (.no rfl rfl) ?_ | refine r_skip rfl (.un rfl rfl) ?_)
    refine r_val (by first | exact .none | exact .some rfl rfl) rfl (p_pick_f rfl rfl) ?_
    refine r_nil (e_fin (d := 16) hQ_3 rfl (by repeat (first | exact .refl | refine .put rfl ?_ | refine .say rfl ?_ | refine .say2 rfl (by first | assumption | simp_all) ?_)))
  refine r_val .none rfl (p_move rfl) ?_
  refine' r_and (c := 17) (d := 23) [_, _, _, _, _, _] rfl (fun h_5 Q_6 hQ_7 => ?_) (fun h_5 Q_6 hQ_7 => ?_) ?_
  rotate_left 1
  · skip
    try simp only [norms] at h_5
    refine r_val (.some rfl rfl) rfl (p_field Try.underlying64 rfl sz62 rfl) ?_
    refine r_val (.some rfl rfl) rfl (p_ld (k := 1) Try.underlying62 rfl rfl rfl (by first | exact of_decide_eq_true rfl | omega) rfl) ?_
    refine r_val (.some rfl rfl) rfl (p_field Try.underlying64 rfl sz62 rfl) ?_
    refine r_val (.some rfl rfl) rfl (p_ld (k := 0) Try.underlying62 rfl rfl rfl (by first | exact of_decide_eq_true rfl | omega) rfl) ?_
    refine r_call (vs := [_, _]) (.some rfl rfl) rfl cl50 rfl (fun w hw => c_eqT _ _ _ _ ht ht2 w hw) ?_
    refine r_val .none rfl (p_pick_t rfl rfl) ?_
    refine r_nil (e_fin (d := 23) hQ_7 rfl (by repeat (first | exact .refl | refine .put rfl ?_ | refine .say rfl ?_ | refine .say2 rfl (by first | assumption | simp_all) ?_)))
  · skip
    repeat (first | refine r_skip rfl (.no rfl rfl) ?_ | refine r_skip rfl (.un rfl rfl) ?_)
    refine r_val (by first | exact .none | exact .some rfl rfl) rfl (p_pick_f rfl rfl) ?_
    refine r_nil (e_fin (d := 23) hQ_7 rfl (by repeat (first | exact .refl | refine .put rfl ?_ | refine .say rfl ?_ | refine .say2 rfl (by first | assumption | simp_all) ?_)))
  refine r_val .none rfl (p_move rfl) ?_
  refine' r_and (c := 24) (d := 30) [_, _, _, _, _, _] rfl (fun h_9 Q_10 hQ_11 => ?_) (fun h_9 Q_10 hQ_11 => ?_) ?_
  rotate_left 1
  · skip
    try simp only [norms] at h_9
    refine r_val (.some rfl rfl) rfl (p_field Try.underlying64 rfl sz50 rfl) ?_
    refine r_val (.some rfl rfl) rfl (p_ld (k := 1) Try.underlying50 rfl rfl rfl (by first | exact of_decide_eq_true rfl | omega) rfl) ?_
    refine r_val (.some rfl rfl) rfl (p_field Try.underlying64 rfl sz50 rfl) ?_
    refine r_val (.some rfl rfl) rfl (p_ld (k := 0) Try.underlying50 rfl rfl rfl (by first | exact of_decide_eq_true rfl | omega) rfl) ?_
    refine r_call (vs := [_, _, _]) (.some rfl rfl) rfl cl51 rfl (fun w hw => c_eqfS n ih _ _ _ _ (fun x hx => by have := List.sizeOf_lt_of_mem hx; have := s_subs c; omega) hs hs2 w hw) ?_
    refine r_val .none rfl (p_pick_t rfl rfl) ?_
    refine r_nil (e_fin (d := 30) hQ_11 rfl (by repeat (first | exact .refl | refine .put rfl ?_ | refine .say rfl ?_ | refine .say2 rfl (by first | assumption | simp_all) ?_)))
  · skip
    repeat (first | refine r_skip rfl (.no rfl rfl) ?_ | refine r_skip rfl (.un rfl rfl) ?_)
    refine r_val (by first | exact .none | exact .some rfl rfl) rfl (p_pick_f rfl rfl) ?_
    refine r_nil (e_fin (d := 30) hQ_11 rfl (by repeat (first | exact .refl | refine .put rfl ?_ | refine .say rfl ?_ | refine .say2 rfl (by first | assumption | simp_all) ?_)))
  refine r_val .none rfl (p_assign rfl) ?_
  refine r_nil ?_
  refine e_next ?_
  refine c_ret ?_
  refine e_ret1 Try.results29 (.tmp rfl .nil) (fun w hm => ⟨?_, hm.since⟩)
  rw [seq_eq]
  first
  | rfl
  | (show _ = _; congr 1; simp only [Bool.and_assoc]; rfl)
theorem c_csame_n : ∀ n, CsameIs n
  | 0 => fun c c2 ta sb ta2 sb2 G w hz _ _ _ _ _ => absurd hz (by have := s_pos c; omega)
  | n + 1 => fun c c2 ta sb ta2 sb2 G w hz ht hs ht2 hs2 hG => c_csame_s n (c_csame_n n) c c2 ta sb ta2 sb2 hz ht hs ht2 hs2 w hG
theorem c_csame (c c2 : ST) (ta sb ta2 sb2 : Value) {G : Ghost} (ht : SlL G ta 3 tC t0 c.h.ts) (hs : Ss G sb c.subs) (ht2 : SlL G ta2 3 tC t0 c2.h.ts) (hs2 : Ss G sb2 c2.subs) (w : World) (hG : Has G w) : Calls Try.prog 29 #[Value.agg #[Value.int .i64 c.h.k, Value.int .i64 c.h.k0, Value.int .i64 c.h.k1, Value.int .i64 c.h.k2, ta, sb], Value.agg #[Value.int .i64 c2.h.k, Value.int .i64 c2.h.k0, Value.int .i64 c2.h.k1, Value.int .i64 c2.h.k2, ta2, sb2]] w (Ret fun r w' => r = Value.bool (seq c c2) ∧ Since nX w w') := c_csame_n _ c c2 ta sb ta2 sb2 G w (Nat.le_refl _) ht hs ht2 hs2 hG
end Go.Proofs.Ytoflaphnlfggkaa

/- Walks: what Go functions of this chapter come to, each as a function on plain data; no condition but those that each theorem names. Printed by a program of this work (gen.py). -/
namespace Go.Proofs.Ytoflaphnlfggkaa
open Go.Gx Go.Gx.T4 Go.Gx.T3 Go.Gx.T6 Go.Gx.T8 Go.Gx.T4 Go.Gx.T3 Go.Gx.T8 Go.Gx.T4 Go.Gx.T3 Go.Gx.T8 Go.Gx.T6 Go.Gx.T4 Go.Gx.T3
theorem cl54 : Callable Try.prog 54 := callable Try.func54 (by kernel_rfl) rfl
theorem cl69 : Callable Try.prog 69 := callable Try.func69 (by kernel_rfl) rfl
theorem cl70 : Callable Try.prog 70 := callable Try.func70 (by kernel_rfl) rfl
theorem bl61_  : Program.built Try.prog 61 [] = some #[Value.int .i64 0, Value.int .i64 0, Value.int .i64 0] := by
  kernel_rfl
def CrightIs (n : Nat) : Prop := ∀ (c : ST) (ta sb : Value) (d x : Int) (p : Nat) (G : Ghost) (F : Nat → Prop) (w : World), SizeOf.sizeOf c ≤ n → (0 ≤ x ∧ x ≤ 16) ∧ 0 ≤ d ∧ d ≤ 4 → SlL G ta 3 tC t0 c.h.ts → Ss G sb c.subs → Has G w → (cntA 3 p x).holds w F → (∀ b, F b → G b = none) → Calls Try.prog 54 #[Value.agg #[Value.int .i64 c.h.k, Value.int .i64 c.h.k0, Value.int .i64 c.h.k1, Value.int .i64 c.h.k2, ta, sb], Value.int .i64 d, Value.pointer (some ⟨p, 0, none⟩)] w (Ret fun r w' => r = Value.bool (cR c d x).1 ∧ Kept (cntA 3 p (cR c d x).2) F w w')
theorem c_keyright (a b c : Int)  (w : World)  :
    Calls Try.prog 69 #[Value.agg #[Value.int .i64 a, Value.int .i64 b, Value.int .i64 c]] w (Ret fun r w' => r = Value.bool (decide ((0 ≤ a ∧ a ≤ 4096) ∧ (0 ≤ b ∧ b ≤ 4096) ∧ 0 ≤ c ∧ c ≤ 4096)) ∧ Since nX w w') := by
  refine enter (args := [_]) (X := nX) (G := (fun _ => none)) (l := [(0, Value.agg #[Value.int .i64 a, Value.int .i64 b, Value.int .i64 c])]) Try.func69 rfl Try.ntmps69 (fun _ _ h => by cases h) ⟨rfl, trivial⟩ (Nat.le_of_ble_eq_true rfl) ?_
  refine c_seq ?_
  refine c_region ?_
  refine r_box .none rfl rfl (IsRow.lit _) (fun b_1 => ?_)
  refine r_val .none rfl (p_assign rfl) ?_
  refine r_nil ?_
  refine e_next ?_
  refine c_seq ?_
  refine c_seq ?_
  refine c_region ?_
  refine r_val .none rfl (p_ldw (k := 0) Try.underlying61 rfl sz61 rfl rfl (rfl : _ = Value.agg #[_, _, _])) ?_
  refine r_val .none rfl (p_move rfl) ?_
  refine r_nil ?_
  refine e_next ?_
  refine c_block ?_
  refine c_unroll 4 ?_
  refine l_round (n := 3) ?_
  refine c_seq ?_
  refine c_region ?_
  refine r_val .none rfl (p_lt rfl rfl) ?_
  refine r_say (d := 7) (v := Value.bool true) rfl ?_
  refine r_nil ?_
  refine e_next ?_
  refine c_seq ?_
  refine c_cond_t rfl ?_
  refine c_skip ?_
  refine e_next ?_
  refine c_seq ?_
  refine c_block ?_
  refine c_seq ?_
  refine c_region ?_
  refine r_val .none rfl (p_index (k := 0) Try.underlying61 Try.underlying3 rfl sz3 rfl (IsRow.lit _) rfl (by first | exact of_decide_eq_true rfl | omega) (rfl : _ = Value.int _ _)) ?_
  refine r_val .none rfl (p_assign rfl) ?_
  refine r_nil ?_
  refine e_next ?_
  refine c_seq ?_
  refine c_region ?_
  refine r_val .none rfl (p_move rfl) ?_
  refine r_val .none rfl (p_lt rfl rfl) ?_
  refine r_val .none rfl (p_move rfl) ?_
  refine' r_or (c := 11) (d := 14) [_, _, _] rfl (fun h_1 Q_2 hQ_3 => ?_) (fun h_1 Q_2 hQ_3 => ?_) ?_
  rotate_left 1
  · skip
    replace h_1 := of_decide_eq_false h_1
    refine r_val (.some rfl rfl) rfl (p_move rfl) ?_
    refine r_val (.some rfl rfl) rfl (p_gt rfl rfl) ?_
    refine r_val .none rfl (p_pick_f rfl rfl) ?_
    refine r_nil (e_fin (d := 14) hQ_3 rfl (by repeat (first | exact .refl | refine .put rfl ?_ | refine .say rfl ?_ | refine .say2 rfl (by first | assumption | simp_all) ?_)))
  · skip
    repeat (first | refine r_skip rfl (.no rfl rfl) ?_ | refine r_skip rfl (.un rfl rfl) ?_)
    refine r_val (by first | exact .none | exact .some rfl rfl) rfl (p_pick_t rfl rfl) ?_
    refine r_nil (e_fin (d := 14) hQ_3 rfl (by repeat (first | exact .refl | refine .put rfl ?_ | refine .say rfl ?_ | refine .say2 rfl (by first | assumption | simp_all) ?_)))
  refine r_nil ?_
  refine e_next ?_
  refine c_split (d := 14) rfl (fun h_5 => ?_) (fun h_5 => ?_)
  · skip
    try simp only [norms] at h_5
    first
      | (exfalso; omega)
      | (
        refine c_cond_t rfl ?_
        refine c_seq ?_
        refine c_region ?_
        refine r_val .none rfl (p_assign rfl) ?_
        refine r_nil ?_
        refine e_next ?_
        refine c_ret ?_
        refine e_ret_block ?_
        refine e_ret_then ?_
        refine e_ret_then ?_
        refine e_ret_block ?_
        refine e_ret_then ?_
        refine e_ret1 Try.results69 (.tmp rfl .nil) (fun w hm => ⟨?_, hm.since⟩)
        first
        | exact congrArg Value.bool (decide_eq_false (by omega)).symm
        | exact congrArg Value.bool (decide_eq_true (by omega)).symm
        )
  · skip
    try simp only [norms] at h_5
    first
      | (exfalso; omega)
      | (
        refine c_cond_f rfl ?_
        refine c_skip ?_
        refine e_norm_block ?_
        refine e_next ?_
        refine c_region ?_
        refine r_val .none rfl (p_add rfl rfl (by omega)) ?_
        refine r_val .none rfl (p_move rfl) ?_
        refine r_nil ?_
        refine e_again ?_
        refine l_round (n := 2) ?_
        refine c_seq ?_
        refine c_region ?_
        refine r_val .none rfl (p_lt rfl rfl) ?_
        refine r_say (d := 7) (v := Value.bool true) rfl ?_
        refine r_nil ?_
        refine e_next ?_
        refine c_seq ?_
        refine c_cond_t rfl ?_
        refine c_skip ?_
        refine e_next ?_
        refine c_seq ?_
        refine c_block ?_
        refine c_seq ?_
        refine c_region ?_
        refine r_val .none rfl (p_index (k := 1) Try.underlying61 Try.underlying3 rfl sz3 rfl (IsRow.lit _) rfl (by first | exact of_decide_eq_true rfl | omega) (rfl : _ = Value.int _ _)) ?_
        refine r_val .none rfl (p_assign rfl) ?_
        refine r_nil ?_
        refine e_next ?_
        refine c_seq ?_
        refine c_region ?_
        refine r_val .none rfl (p_move rfl) ?_
        refine r_val .none rfl (p_lt rfl rfl) ?_
        refine r_val .none rfl (p_move rfl) ?_
        refine r_splitd (d := 11) rfl (fun h_6 => ?_) (fun h_6 => ?_)
        · skip
          first
            | (exfalso; omega)
            | (
              refine r_skip rfl (.no rfl rfl) ?_
              refine r_skip rfl (.no rfl rfl) ?_
              refine r_val .none rfl (p_pick_t rfl rfl) ?_
              refine r_nil ?_
              refine e_next ?_
              refine c_cond_t rfl ?_
              refine c_seq ?_
              refine c_region ?_
              refine r_val .none rfl (p_assign rfl) ?_
              refine r_nil ?_
              refine e_next ?_
              refine c_ret ?_
              refine e_ret_block ?_
              refine e_ret_then ?_
              refine e_ret_then ?_
              refine e_ret_block ?_
              refine e_ret_then ?_
              refine e_ret1 Try.results69 (.tmp rfl .nil) (fun w hm => ⟨?_, hm.since⟩)
              first
              | exact congrArg Value.bool (decide_eq_false (by omega)).symm
              | exact congrArg Value.bool (decide_eq_true (by omega)).symm
              )
        · skip
          first
            | (exfalso; omega)
            | (
              refine r_val (.some rfl rfl) rfl (p_move rfl) ?_
              refine r_val (.some rfl rfl) rfl (p_gt rfl rfl) ?_
              refine r_val .none rfl (p_pick_f rfl rfl) ?_
              refine r_nil ?_
              refine e_next ?_
              refine c_splitd (d := 14) rfl (fun h_7 => ?_) (fun h_7 => ?_)
              · skip
                first
                  | (exfalso; omega)
                  | (
                    refine c_cond_t rfl ?_
                    refine c_seq ?_
                    refine c_region ?_
                    refine r_val .none rfl (p_assign rfl) ?_
                    refine r_nil ?_
                    refine e_next ?_
                    refine c_ret ?_
                    refine e_ret_block ?_
                    refine e_ret_then ?_
                    refine e_ret_then ?_
                    refine e_ret_block ?_
                    refine e_ret_then ?_
                    refine e_ret1 Try.results69 (.tmp rfl .nil) (fun w hm => ⟨?_, hm.since⟩)
                    first
                    | exact congrArg Value.bool (decide_eq_false (by omega)).symm
                    | exact congrArg Value.bool (decide_eq_true (by omega)).symm
                    )
              · skip
                first
                  | (exfalso; omega)
                  | (
                    refine c_cond_f rfl ?_
                    refine c_skip ?_
                    refine e_norm_block ?_
                    refine e_next ?_
                    refine c_region ?_
                    refine r_val .none rfl (p_add rfl rfl (by omega)) ?_
                    refine r_val .none rfl (p_move rfl) ?_
                    refine r_nil ?_
                    refine e_again ?_
                    refine l_round (n := 1) ?_
                    refine c_seq ?_
                    refine c_region ?_
                    refine r_val .none rfl (p_lt rfl rfl) ?_
                    refine r_say (d := 7) (v := Value.bool true) rfl ?_
                    refine r_nil ?_
                    refine e_next ?_
                    refine c_seq ?_
                    refine c_cond_t rfl ?_
                    refine c_skip ?_
                    refine e_next ?_
                    refine c_seq ?_
                    refine c_block ?_
                    refine c_seq ?_
                    refine c_region ?_
                    refine r_val .none rfl (p_index (k := 2) Try.underlying61 Try.underlying3 rfl sz3 rfl (IsRow.lit _) rfl (by first | exact of_decide_eq_true rfl | omega) (rfl : _ = Value.int _ _)) ?_
                    refine r_val .none rfl (p_assign rfl) ?_
                    refine r_nil ?_
                    refine e_next ?_
                    refine c_seq ?_
                    refine c_region ?_
                    refine r_val .none rfl (p_move rfl) ?_
                    refine r_val .none rfl (p_lt rfl rfl) ?_
                    refine r_val .none rfl (p_move rfl) ?_
                    refine r_splitd (d := 11) rfl (fun h_8 => ?_) (fun h_8 => ?_)
                    · skip
                      first
                        | (exfalso; omega)
                        | (
                          refine r_skip rfl (.no rfl rfl) ?_
                          refine r_skip rfl (.no rfl rfl) ?_
                          refine r_val .none rfl (p_pick_t rfl rfl) ?_
                          refine r_nil ?_
                          refine e_next ?_
                          refine c_cond_t rfl ?_
                          refine c_seq ?_
                          refine c_region ?_
                          refine r_val .none rfl (p_assign rfl) ?_
                          refine r_nil ?_
                          refine e_next ?_
                          refine c_ret ?_
                          refine e_ret_block ?_
                          refine e_ret_then ?_
                          refine e_ret_then ?_
                          refine e_ret_block ?_
                          refine e_ret_then ?_
                          refine e_ret1 Try.results69 (.tmp rfl .nil) (fun w hm => ⟨?_, hm.since⟩)
                          first
                          | exact congrArg Value.bool (decide_eq_false (by omega)).symm
                          | exact congrArg Value.bool (decide_eq_true (by omega)).symm
                          )
                    · skip
                      first
                        | (exfalso; omega)
                        | (
                          refine r_val (.some rfl rfl) rfl (p_move rfl) ?_
                          refine r_val (.some rfl rfl) rfl (p_gt rfl rfl) ?_
                          refine r_val .none rfl (p_pick_f rfl rfl) ?_
                          refine r_nil ?_
                          refine e_next ?_
                          refine c_splitd (d := 14) rfl (fun h_9 => ?_) (fun h_9 => ?_)
                          · skip
                            first
                              | (exfalso; omega)
                              | (
                                refine c_cond_t rfl ?_
                                refine c_seq ?_
                                refine c_region ?_
                                refine r_val .none rfl (p_assign rfl) ?_
                                refine r_nil ?_
                                refine e_next ?_
                                refine c_ret ?_
                                refine e_ret_block ?_
                                refine e_ret_then ?_
                                refine e_ret_then ?_
                                refine e_ret_block ?_
                                refine e_ret_then ?_
                                refine e_ret1 Try.results69 (.tmp rfl .nil) (fun w hm => ⟨?_, hm.since⟩)
                                first
                                | exact congrArg Value.bool (decide_eq_false (by omega)).symm
                                | exact congrArg Value.bool (decide_eq_true (by omega)).symm
                                )
                          · skip
                            first
                              | (exfalso; omega)
                              | (
                                refine c_cond_f rfl ?_
                                refine c_skip ?_
                                refine e_norm_block ?_
                                refine e_next ?_
                                refine c_region ?_
                                refine r_val .none rfl (p_add rfl rfl (by omega)) ?_
                                refine r_val .none rfl (p_move rfl) ?_
                                refine r_nil ?_
                                refine e_again ?_
                                refine l_round (n := 0) ?_
                                refine c_seq ?_
                                refine c_region ?_
                                refine r_val .none rfl (p_lt rfl rfl) ?_
                                refine r_say (d := 7) (v := Value.bool false) rfl ?_
                                refine r_nil ?_
                                refine e_next ?_
                                refine c_seq ?_
                                refine c_cond_f rfl ?_
                                refine c_exit ?_
                                refine e_exit_then ?_
                                refine e_exit_then ?_
                                refine e_exit_block ?_
                                refine e_next ?_
                                refine c_seq ?_
                                refine c_region ?_
                                refine r_val .none rfl (p_assign rfl) ?_
                                refine r_nil ?_
                                refine e_next ?_
                                refine c_ret ?_
                                refine e_ret1 Try.results69 (.tmp rfl .nil) (fun w hm => ⟨?_, hm.since⟩)
                                first
                                | exact congrArg Value.bool (decide_eq_false (by omega)).symm
                                | exact congrArg Value.bool (decide_eq_true (by omega)).symm
                                )
                          )
                    )
              )
        )
theorem c_rkeyright (a b c : Int)  (w : World)  :
    Calls Try.prog 57 #[Value.agg #[Value.int .i64 a, Value.int .i64 b, Value.int .i64 c]] w (Ret fun r w' => r = Value.bool (decide ((0 ≤ a ∧ a ≤ 4096) ∧ (0 ≤ b ∧ b ≤ 4096) ∧ 0 ≤ c ∧ c ≤ 4096)) ∧ Since nX w w') := by
  refine enter (args := [_]) (X := nX) (G := (fun _ => none)) (l := [(0, Value.agg #[Value.int .i64 a, Value.int .i64 b, Value.int .i64 c])]) Try.func57 rfl Try.ntmps57 (fun _ _ h => by cases h) ⟨rfl, trivial⟩ (Nat.le_of_ble_eq_true rfl) ?_
  refine c_seq ?_
  refine c_region ?_
  refine r_box .none rfl rfl (IsRow.lit _) (fun b_1 => ?_)
  refine r_val .none rfl (p_assign rfl) ?_
  refine r_nil ?_
  refine e_next ?_
  refine c_seq ?_
  refine c_seq ?_
  refine c_region ?_
  refine r_val .none rfl (p_assign rfl) ?_
  refine r_nil ?_
  refine e_next ?_
  refine c_block ?_
  refine c_unroll 4 ?_
  refine l_round (n := 3) ?_
  refine c_seq ?_
  refine c_seq ?_
  refine c_region ?_
  refine r_val .none rfl (p_move rfl) ?_
  refine r_val .none rfl (p_lt rfl rfl) ?_
  refine r_say (d := 5) (v := Value.bool true) rfl ?_
  refine r_nil ?_
  refine e_next ?_
  refine c_cond_t rfl ?_
  refine c_skip ?_
  refine e_next ?_
  refine c_seq ?_
  refine c_block ?_
  refine c_seq ?_
  refine c_region ?_
  refine r_val .none rfl (p_move rfl) ?_
  refine r_val .none rfl (p_iaddr (k := 0) Try.underlying60 sz3 rfl rfl (by first | exact of_decide_eq_true rfl | omega)) ?_
  refine r_val .none rfl (p_ld (k := 0) Try.underlying3 rfl rfl rfl (by first | exact of_decide_eq_true rfl | omega) (rfl : _ = Value.int _ _)) ?_
  refine r_val .none rfl (p_lt rfl rfl) ?_
  refine r_val .none rfl (p_move rfl) ?_
  refine' r_or (c := 12) (d := 17) [_, _, _, _, _] rfl (fun h_1 Q_2 hQ_3 => ?_) (fun h_1 Q_2 hQ_3 => ?_) ?_
  rotate_left 1
  · skip
    replace h_1 := of_decide_eq_false h_1
    refine r_val (.some rfl rfl) rfl (p_move rfl) ?_
    refine r_val (.some rfl rfl) rfl (p_iaddr (k := 0) Try.underlying60 sz3 rfl rfl (by first | exact of_decide_eq_true rfl | omega)) ?_
    refine r_val (.some rfl rfl) rfl (p_ld (k := 0) Try.underlying3 rfl rfl rfl (by first | exact of_decide_eq_true rfl | omega) (rfl : _ = Value.int _ _)) ?_
    refine r_val (.some rfl rfl) rfl (p_gt rfl rfl) ?_
    refine r_val .none rfl (p_pick_f rfl rfl) ?_
    refine r_nil (e_fin (d := 17) hQ_3 rfl (by repeat (first | exact .refl | refine .put rfl ?_ | refine .say rfl ?_ | refine .say2 rfl (by first | assumption | simp_all) ?_)))
  · skip
    repeat (first | refine r_skip rfl (.no rfl rfl) ?_ | refine r_skip rfl (.un rfl rfl) ?_)
    refine r_val (by first | exact .none | exact .some rfl rfl) rfl (p_pick_t rfl rfl) ?_
    refine r_nil (e_fin (d := 17) hQ_3 rfl (by repeat (first | exact .refl | refine .put rfl ?_ | refine .say rfl ?_ | refine .say2 rfl (by first | assumption | simp_all) ?_)))
  refine r_nil ?_
  refine e_next ?_
  refine c_split (d := 17) rfl (fun h_5 => ?_) (fun h_5 => ?_)
  · skip
    try simp only [norms] at h_5
    first
      | (exfalso; omega)
      | (
        refine c_cond_t rfl ?_
        refine c_seq ?_
        refine c_region ?_
        refine r_val .none rfl (p_assign rfl) ?_
        refine r_nil ?_
        refine e_next ?_
        refine c_ret ?_
        refine e_ret_block ?_
        refine e_ret_then ?_
        refine e_ret_then ?_
        refine e_ret_block ?_
        refine e_ret_then ?_
        refine e_ret1 Try.results57 (.tmp rfl .nil) (fun w hm => ⟨?_, hm.since⟩)
        first
        | exact congrArg Value.bool (decide_eq_false (by omega)).symm
        | exact congrArg Value.bool (decide_eq_true (by omega)).symm
        )
  · skip
    try simp only [norms] at h_5
    first
      | (exfalso; omega)
      | (
        refine c_cond_f rfl ?_
        refine c_skip ?_
        refine e_norm_block ?_
        refine e_next ?_
        refine c_region ?_
        refine r_val .none rfl (p_move rfl) ?_
        refine r_val .none rfl (p_add rfl rfl (by omega)) ?_
        refine r_val .none rfl (p_assign rfl) ?_
        refine r_nil ?_
        refine e_again ?_
        refine l_round (n := 2) ?_
        refine c_seq ?_
        refine c_seq ?_
        refine c_region ?_
        refine r_val .none rfl (p_move rfl) ?_
        refine r_val .none rfl (p_lt rfl rfl) ?_
        refine r_say (d := 5) (v := Value.bool true) rfl ?_
        refine r_nil ?_
        refine e_next ?_
        refine c_cond_t rfl ?_
        refine c_skip ?_
        refine e_next ?_
        refine c_seq ?_
        refine c_block ?_
        refine c_seq ?_
        refine c_region ?_
        refine r_val .none rfl (p_move rfl) ?_
        refine r_val .none rfl (p_iaddr (k := 1) Try.underlying60 sz3 rfl rfl (by first | exact of_decide_eq_true rfl | omega)) ?_
        refine r_val .none rfl (p_ld (k := 0) Try.underlying3 rfl rfl rfl (by first | exact of_decide_eq_true rfl | omega) (rfl : _ = Value.int _ _)) ?_
        refine r_val .none rfl (p_lt rfl rfl) ?_
        refine r_val .none rfl (p_move rfl) ?_
        refine r_splitd (d := 12) rfl (fun h_6 => ?_) (fun h_6 => ?_)
        · skip
          first
            | (exfalso; omega)
            | (
              refine r_skip rfl (.no rfl rfl) ?_
              refine r_skip rfl (.no rfl rfl) ?_
              refine r_skip rfl (.no rfl rfl) ?_
              refine r_skip rfl (.no rfl rfl) ?_
              refine r_val .none rfl (p_pick_t rfl rfl) ?_
              refine r_nil ?_
              refine e_next ?_
              refine c_cond_t rfl ?_
              refine c_seq ?_
              refine c_region ?_
              refine r_val .none rfl (p_assign rfl) ?_
              refine r_nil ?_
              refine e_next ?_
              refine c_ret ?_
              refine e_ret_block ?_
              refine e_ret_then ?_
              refine e_ret_then ?_
              refine e_ret_block ?_
              refine e_ret_then ?_
              refine e_ret1 Try.results57 (.tmp rfl .nil) (fun w hm => ⟨?_, hm.since⟩)
              first
              | exact congrArg Value.bool (decide_eq_false (by omega)).symm
              | exact congrArg Value.bool (decide_eq_true (by omega)).symm
              )
        · skip
          first
            | (exfalso; omega)
            | (
              refine r_val (.some rfl rfl) rfl (p_move rfl) ?_
              refine r_val (.some rfl rfl) rfl (p_iaddr (k := 1) Try.underlying60 sz3 rfl rfl (by first | exact of_decide_eq_true rfl | omega)) ?_
              refine r_val (.some rfl rfl) rfl (p_ld (k := 0) Try.underlying3 rfl rfl rfl (by first | exact of_decide_eq_true rfl | omega) (rfl : _ = Value.int _ _)) ?_
              refine r_val (.some rfl rfl) rfl (p_gt rfl rfl) ?_
              refine r_val .none rfl (p_pick_f rfl rfl) ?_
              refine r_nil ?_
              refine e_next ?_
              refine c_splitd (d := 17) rfl (fun h_7 => ?_) (fun h_7 => ?_)
              · skip
                first
                  | (exfalso; omega)
                  | (
                    refine c_cond_t rfl ?_
                    refine c_seq ?_
                    refine c_region ?_
                    refine r_val .none rfl (p_assign rfl) ?_
                    refine r_nil ?_
                    refine e_next ?_
                    refine c_ret ?_
                    refine e_ret_block ?_
                    refine e_ret_then ?_
                    refine e_ret_then ?_
                    refine e_ret_block ?_
                    refine e_ret_then ?_
                    refine e_ret1 Try.results57 (.tmp rfl .nil) (fun w hm => ⟨?_, hm.since⟩)
                    first
                    | exact congrArg Value.bool (decide_eq_false (by omega)).symm
                    | exact congrArg Value.bool (decide_eq_true (by omega)).symm
                    )
              · skip
                first
                  | (exfalso; omega)
                  | (
                    refine c_cond_f rfl ?_
                    refine c_skip ?_
                    refine e_norm_block ?_
                    refine e_next ?_
                    refine c_region ?_
                    refine r_val .none rfl (p_move rfl) ?_
                    refine r_val .none rfl (p_add rfl rfl (by omega)) ?_
                    refine r_val .none rfl (p_assign rfl) ?_
                    refine r_nil ?_
                    refine e_again ?_
                    refine l_round (n := 1) ?_
                    refine c_seq ?_
                    refine c_seq ?_
                    refine c_region ?_
                    refine r_val .none rfl (p_move rfl) ?_
                    refine r_val .none rfl (p_lt rfl rfl) ?_
                    refine r_say (d := 5) (v := Value.bool true) rfl ?_
                    refine r_nil ?_
                    refine e_next ?_
                    refine c_cond_t rfl ?_
                    refine c_skip ?_
                    refine e_next ?_
                    refine c_seq ?_
                    refine c_block ?_
                    refine c_seq ?_
                    refine c_region ?_
                    refine r_val .none rfl (p_move rfl) ?_
                    refine r_val .none rfl (p_iaddr (k := 2) Try.underlying60 sz3 rfl rfl (by first | exact of_decide_eq_true rfl | omega)) ?_
                    refine r_val .none rfl (p_ld (k := 0) Try.underlying3 rfl rfl rfl (by first | exact of_decide_eq_true rfl | omega) (rfl : _ = Value.int _ _)) ?_
                    refine r_val .none rfl (p_lt rfl rfl) ?_
                    refine r_val .none rfl (p_move rfl) ?_
                    refine r_splitd (d := 12) rfl (fun h_8 => ?_) (fun h_8 => ?_)
                    · skip
                      first
                        | (exfalso; omega)
                        | (
                          refine r_skip rfl (.no rfl rfl) ?_
                          refine r_skip rfl (.no rfl rfl) ?_
                          refine r_skip rfl (.no rfl rfl) ?_
                          refine r_skip rfl (.no rfl rfl) ?_
                          refine r_val .none rfl (p_pick_t rfl rfl) ?_
                          refine r_nil ?_
                          refine e_next ?_
                          refine c_cond_t rfl ?_
                          refine c_seq ?_
                          refine c_region ?_
                          refine r_val .none rfl (p_assign rfl) ?_
                          refine r_nil ?_
                          refine e_next ?_
                          refine c_ret ?_
                          refine e_ret_block ?_
                          refine e_ret_then ?_
                          refine e_ret_then ?_
                          refine e_ret_block ?_
                          refine e_ret_then ?_
                          refine e_ret1 Try.results57 (.tmp rfl .nil) (fun w hm => ⟨?_, hm.since⟩)
                          first
                          | exact congrArg Value.bool (decide_eq_false (by omega)).symm
                          | exact congrArg Value.bool (decide_eq_true (by omega)).symm
                          )
                    · skip
                      first
                        | (exfalso; omega)
                        | (
                          refine r_val (.some rfl rfl) rfl (p_move rfl) ?_
                          refine r_val (.some rfl rfl) rfl (p_iaddr (k := 2) Try.underlying60 sz3 rfl rfl (by first | exact of_decide_eq_true rfl | omega)) ?_
                          refine r_val (.some rfl rfl) rfl (p_ld (k := 0) Try.underlying3 rfl rfl rfl (by first | exact of_decide_eq_true rfl | omega) (rfl : _ = Value.int _ _)) ?_
                          refine r_val (.some rfl rfl) rfl (p_gt rfl rfl) ?_
                          refine r_val .none rfl (p_pick_f rfl rfl) ?_
                          refine r_nil ?_
                          refine e_next ?_
                          refine c_splitd (d := 17) rfl (fun h_9 => ?_) (fun h_9 => ?_)
                          · skip
                            first
                              | (exfalso; omega)
                              | (
                                refine c_cond_t rfl ?_
                                refine c_seq ?_
                                refine c_region ?_
                                refine r_val .none rfl (p_assign rfl) ?_
                                refine r_nil ?_
                                refine e_next ?_
                                refine c_ret ?_
                                refine e_ret_block ?_
                                refine e_ret_then ?_
                                refine e_ret_then ?_
                                refine e_ret_block ?_
                                refine e_ret_then ?_
                                refine e_ret1 Try.results57 (.tmp rfl .nil) (fun w hm => ⟨?_, hm.since⟩)
                                first
                                | exact congrArg Value.bool (decide_eq_false (by omega)).symm
                                | exact congrArg Value.bool (decide_eq_true (by omega)).symm
                                )
                          · skip
                            first
                              | (exfalso; omega)
                              | (
                                refine c_cond_f rfl ?_
                                refine c_skip ?_
                                refine e_norm_block ?_
                                refine e_next ?_
                                refine c_region ?_
                                refine r_val .none rfl (p_move rfl) ?_
                                refine r_val .none rfl (p_add rfl rfl (by omega)) ?_
                                refine r_val .none rfl (p_assign rfl) ?_
                                refine r_nil ?_
                                refine e_again ?_
                                refine l_round (n := 0) ?_
                                refine c_seq ?_
                                refine c_seq ?_
                                refine c_region ?_
                                refine r_val .none rfl (p_move rfl) ?_
                                refine r_val .none rfl (p_lt rfl rfl) ?_
                                refine r_say (d := 5) (v := Value.bool false) rfl ?_
                                refine r_nil ?_
                                refine e_next ?_
                                refine c_cond_f rfl ?_
                                refine c_exit ?_
                                refine e_exit_then ?_
                                refine e_exit_then ?_
                                refine e_exit_block ?_
                                refine e_next ?_
                                refine c_seq ?_
                                refine c_region ?_
                                refine r_val .none rfl (p_assign rfl) ?_
                                refine r_nil ?_
                                refine e_next ?_
                                refine c_ret ?_
                                refine e_ret1 Try.results57 (.tmp rfl .nil) (fun w hm => ⟨?_, hm.since⟩)
                                first
                                | exact congrArg Value.bool (decide_eq_false (by omega)).symm
                                | exact congrArg Value.bool (decide_eq_true (by omega)).symm
                                )
                          )
                    )
              )
        )
theorem c_rtests (v : Value) (zs : List TD) {G : Ghost} (hr : SlL G v 3 tC t0 zs) (w : World) (hG : Has G w) :
    Calls Try.prog 70 #[v] w (Ret fun r w' => r = Value.bool (tsRight zs (-1)) ∧ Since nX w w') := by
  refine enter (args := [_]) (X := nX) (G := G) (l := [(0, v)]) Try.func70 rfl Try.ntmps70 hG ⟨rfl, trivial⟩ (Nat.le_of_ble_eq_true rfl) ?_
  have hbd := hr.bound
  refine c_seq ?_
  refine c_region ?_
  refine r_val .none rfl (p_assign rfl) ?_
  refine r_nil ?_
  refine e_next ?_
  refine c_seq ?_
  refine c_region ?_
  refine r_val .none rfl (p_assign rfl) ?_
  refine r_nil ?_
  refine e_next ?_
  refine c_seq ?_
  refine c_seq ?_
  refine c_region ?_
  refine r_val .none rfl (p_move rfl) ?_
  refine r_val .none rfl (p_leng Try.underlying62 rfl hr) ?_
  have bd_1 := (hr).bound
  refine r_val .none rfl (p_move rfl) ?_
  refine r_nil ?_
  refine e_next ?_
  refine c_block ?_
  refine c_name (d := 6) rfl (fun u_2 hu_2 => ?_)
  refine c_name (d := 7) rfl (fun u_3 hu_3 => ?_)
  refine c_loop (σ := Nat) (fun k => [(8, Value.int .i64 (k : Nat)), (3, Value.int .i64 (lastF zs k)), (6, u_2), (7, u_3)]) (fun k => []) (fun _ => _) (fun k => k ≤ zs.length ∧ tsRight (zs.drop k) (lastF zs k) = tsRight zs (-1)) (fun k => zs.length - k) (0) ⟨Nat.zero_le _, rfl⟩ rfl ⟨rfl, rfl, rfl, rfl, trivial⟩ (.nil) (fun k hphi => ?_)
  subst hu_2
  subst hu_3
  refine c_seq ?_
  refine c_region ?_
  refine r_val .none rfl (p_lt rfl rfl) ?_
  refine r_nil ?_
  refine e_next ?_
  refine c_seq ?_
  refine c_splitd (d := 9) rfl (fun h_4 => ?_) (fun h_4 => ?_)
  · skip
    first
      | (exfalso; omega)
      | (
        refine c_cond_t rfl ?_
        refine c_skip ?_
        refine e_next ?_
        refine c_seq ?_
        refine c_block ?_
        refine c_seq ?_
        refine c_region ?_
        refine r_iaddr_g .none rfl Try.underlying62 sz92 rfl hr rfl (by first | exact of_decide_eq_true rfl | omega) (fun p_6 o_7 R_5 => ?_)
        refine r_val .none rfl (p_ldga0 Try.underlying92 rfl sz92 rfl R_5 (by first | exact of_decide_eq_true rfl | omega) (rfl : _ = Value.agg #[_, _, _])) ?_
        refine r_alloc .none rfl zr92 (IsRow.lit _) (fun b_1 => ?_)
        refine r_stw (k := 0) .none sz92 rfl rfl (IsRow.lit _) (one_lit rfl rfl) rfl ?_
        refine r_nil ?_
        refine e_next ?_
        refine c_seq ?_
        refine c_seq ?_
        refine c_region ?_
        refine r_val .none rfl (p_field Try.underlying92 rfl sz3 rfl) ?_
        refine r_val .none rfl (p_ld (k := 0) Try.underlying3 rfl rfl rfl (by first | exact of_decide_eq_true rfl | omega) (rfl : _ = Value.int _ _)) ?_
        refine r_val .none rfl (p_move rfl) ?_
        refine r_val .none rfl (p_le rfl rfl) ?_
        refine r_val .none rfl (p_move rfl) ?_
        refine' r_or (c := 16) (d := 20) [_, _, _, _] rfl (fun h_8 Q_9 hQ_10 => ?_) (fun h_8 Q_9 hQ_10 => ?_) ?_
        rotate_left 1
        · skip
          replace h_8 := of_decide_eq_false h_8
          refine r_val (.some rfl rfl) rfl (p_field Try.underlying92 rfl sz3 rfl) ?_
          refine r_val (.some rfl rfl) rfl (p_ld (k := 0) Try.underlying3 rfl rfl rfl (by first | exact of_decide_eq_true rfl | omega) (rfl : _ = Value.int _ _)) ?_
          refine r_val (.some rfl rfl) rfl (p_gt rfl rfl) ?_
          refine r_val .none rfl (p_pick_f rfl rfl) ?_
          refine r_nil (e_fin (d := 20) hQ_10 rfl (by repeat (first | exact .refl | refine .put rfl ?_ | refine .say rfl ?_ | refine .say2 rfl (by first | assumption | simp_all) ?_)))
        · skip
          repeat (first | refine r_skip rfl (.no rfl rfl) ?_ | refine r_skip rfl (.un rfl rfl) ?_)
          refine r_val (by first | exact .none | exact .some rfl rfl) rfl (p_pick_t rfl rfl) ?_
          refine r_nil (e_fin (d := 20) hQ_10 rfl (by repeat (first | exact .refl | refine .put rfl ?_ | refine .say rfl ?_ | refine .say2 rfl (by first | assumption | simp_all) ?_)))
        refine r_val .none rfl (p_move rfl) ?_
        refine' r_or (c := 21) (d := 25) [_, _, _, _] rfl (fun h_12 Q_13 hQ_14 => ?_) (fun h_12 Q_13 hQ_14 => ?_) ?_
        rotate_left 1
        · skip
          try simp only [norms] at h_12
          refine r_val (.some rfl rfl) rfl (p_field Try.underlying92 rfl sz3 rfl) ?_
          refine r_val (.some rfl rfl) rfl (p_ld (k := 0) Try.underlying3 rfl rfl rfl (by first | exact of_decide_eq_true rfl | omega) (rfl : _ = Value.int _ _)) ?_
          refine r_val (.some rfl rfl) rfl (p_lt rfl rfl) ?_
          refine r_val .none rfl (p_pick_f rfl rfl) ?_
          refine r_nil (e_fin (d := 25) hQ_14 rfl (by repeat (first | exact .refl | refine .put rfl ?_ | refine .say rfl ?_ | refine .say2 rfl (by first | assumption | simp_all) ?_)))
        · skip
          repeat (first | refine r_skip rfl (.no rfl rfl) ?_ | refine r_skip rfl (.un rfl rfl) ?_)
          refine r_val (by first | exact .none | exact .some rfl rfl) rfl (p_pick_t rfl rfl) ?_
          refine r_nil (e_fin (d := 25) hQ_14 rfl (by repeat (first | exact .refl | refine .put rfl ?_ | refine .say rfl ?_ | refine .say2 rfl (by first | assumption | simp_all) ?_)))
        refine r_val .none rfl (p_move rfl) ?_
        refine' r_or (c := 26) (d := 30) [_, _, _, _] rfl (fun h_16 Q_17 hQ_18 => ?_) (fun h_16 Q_17 hQ_18 => ?_) ?_
        rotate_left 1
        · skip
          try simp only [norms] at h_16
          refine r_val (.some rfl rfl) rfl (p_field Try.underlying92 rfl sz3 rfl) ?_
          refine r_val (.some rfl rfl) rfl (p_ld (k := 0) Try.underlying3 rfl rfl rfl (by first | exact of_decide_eq_true rfl | omega) (rfl : _ = Value.int _ _)) ?_
          refine r_val (.some rfl rfl) rfl (p_ge rfl rfl) ?_
          refine r_val .none rfl (p_pick_f rfl rfl) ?_
          refine r_nil (e_fin (d := 30) hQ_18 rfl (by repeat (first | exact .refl | refine .put rfl ?_ | refine .say rfl ?_ | refine .say2 rfl (by first | assumption | simp_all) ?_)))
        · skip
          repeat (first | refine r_skip rfl (.no rfl rfl) ?_ | refine r_skip rfl (.un rfl rfl) ?_)
          refine r_val (by first | exact .none | exact .some rfl rfl) rfl (p_pick_t rfl rfl) ?_
          refine r_nil (e_fin (d := 30) hQ_18 rfl (by repeat (first | exact .refl | refine .put rfl ?_ | refine .say rfl ?_ | refine .say2 rfl (by first | assumption | simp_all) ?_)))
        refine r_val .none rfl (p_move rfl) ?_
        refine' r_or (c := 31) (d := 35) [_, _, _, _] rfl (fun h_20 Q_21 hQ_22 => ?_) (fun h_20 Q_21 hQ_22 => ?_) ?_
        rotate_left 1
        · skip
          try simp only [norms] at h_20
          refine r_val (.some rfl rfl) rfl (p_field Try.underlying92 rfl sz3 rfl) ?_
          refine r_val (.some rfl rfl) rfl (p_ld (k := 0) Try.underlying3 rfl rfl rfl (by first | exact of_decide_eq_true rfl | omega) (rfl : _ = Value.int _ _)) ?_
          refine r_val (.some rfl rfl) rfl (p_lt rfl rfl) ?_
          refine r_val .none rfl (p_pick_f rfl rfl) ?_
          refine r_nil (e_fin (d := 35) hQ_22 rfl (by repeat (first | exact .refl | refine .put rfl ?_ | refine .say rfl ?_ | refine .say2 rfl (by first | assumption | simp_all) ?_)))
        · skip
          repeat (first | refine r_skip rfl (.no rfl rfl) ?_ | refine r_skip rfl (.un rfl rfl) ?_)
          refine r_val (by first | exact .none | exact .some rfl rfl) rfl (p_pick_t rfl rfl) ?_
          refine r_nil (e_fin (d := 35) hQ_22 rfl (by repeat (first | exact .refl | refine .put rfl ?_ | refine .say rfl ?_ | refine .say2 rfl (by first | assumption | simp_all) ?_)))
        refine r_val .none rfl (p_move rfl) ?_
        refine' r_or (c := 36) (d := 40) [_, _, _, _] rfl (fun h_24 Q_25 hQ_26 => ?_) (fun h_24 Q_25 hQ_26 => ?_) ?_
        rotate_left 1
        · skip
          try simp only [norms] at h_24
          refine r_val (.some rfl rfl) rfl (p_field Try.underlying92 rfl sz3 rfl) ?_
          refine r_val (.some rfl rfl) rfl (p_ld (k := 0) Try.underlying3 rfl rfl rfl (by first | exact of_decide_eq_true rfl | omega) (rfl : _ = Value.int _ _)) ?_
          refine r_val (.some rfl rfl) rfl (p_gt rfl rfl) ?_
          refine r_val .none rfl (p_pick_f rfl rfl) ?_
          refine r_nil (e_fin (d := 40) hQ_26 rfl (by repeat (first | exact .refl | refine .put rfl ?_ | refine .say rfl ?_ | refine .say2 rfl (by first | assumption | simp_all) ?_)))
        · skip
          repeat (first | refine r_skip rfl (.no rfl rfl) ?_ | refine r_skip rfl (.un rfl rfl) ?_)
          refine r_val (by first | exact .none | exact .some rfl rfl) rfl (p_pick_t rfl rfl) ?_
          refine r_nil (e_fin (d := 40) hQ_26 rfl (by repeat (first | exact .refl | refine .put rfl ?_ | refine .say rfl ?_ | refine .say2 rfl (by first | assumption | simp_all) ?_)))
        refine r_val .none rfl (p_move rfl) ?_
        refine' r_or (c := 41) (d := 52) [_, _, _, _, _, _, _, _, _, _, _] rfl (fun h_28 Q_29 hQ_30 => ?_) (fun h_28 Q_29 hQ_30 => ?_) ?_
        rotate_left 1
        · skip
          try simp only [norms] at h_28
          refine r_val (.some rfl rfl) rfl (p_field Try.underlying92 rfl sz3 rfl) ?_
          refine r_val (.some rfl rfl) rfl (p_ld (k := 0) Try.underlying3 rfl rfl rfl (by first | exact of_decide_eq_true rfl | omega) (rfl : _ = Value.int _ _)) ?_
          refine r_val (.some rfl rfl) rfl (p_lt rfl rfl) ?_
          refine r_val (.some rfl rfl) rfl (p_move rfl) ?_
          refine' r_and (c := 45) (d := 51) [_, _, _, _, _, _] rfl (fun h_32 Q_33 hQ_34 => ?_) (fun h_32 Q_33 hQ_34 => ?_) ?_
          rotate_left 1
          · skip
            replace h_32 := of_decide_eq_true h_32
            refine r_val (.some rfl rfl) rfl (p_field Try.underlying92 rfl sz3 rfl) ?_
            refine r_val (.some rfl rfl) rfl (p_ld (k := 0) Try.underlying3 rfl rfl rfl (by first | exact of_decide_eq_true rfl | omega) (rfl : _ = Value.int _ _)) ?_
            refine r_val (.some rfl rfl) rfl (p_field Try.underlying92 rfl sz3 rfl) ?_
            refine r_val (.some rfl rfl) rfl (p_ld (k := 0) Try.underlying3 rfl rfl rfl (by first | exact of_decide_eq_true rfl | omega) (rfl : _ = Value.int _ _)) ?_
            refine r_val (.some rfl rfl) rfl (p_ge rfl rfl) ?_
            refine r_val (.some rfl rfl) rfl (p_pick_t rfl rfl) ?_
            refine r_nil (e_fin (d := 51) hQ_34 rfl (by repeat (first | exact .refl | refine .put rfl ?_ | refine .say rfl ?_ | refine .say2 rfl (by first | assumption | simp_all) ?_)))
          · skip
            repeat (first | refine r_skip rfl (.no rfl rfl) ?_ | refine r_skip rfl (.un rfl rfl) ?_)
            refine r_val (by first | exact .none | exact .some rfl rfl) rfl (p_pick_f rfl rfl) ?_
            refine r_nil (e_fin (d := 51) hQ_34 rfl (by repeat (first | exact .refl | refine .put rfl ?_ | refine .say rfl ?_ | refine .say2 rfl (by first | assumption | simp_all) ?_)))
          refine r_val .none rfl (p_pick_f rfl rfl) ?_
          refine r_nil (e_fin (d := 52) hQ_30 rfl (by repeat (first | exact .refl | refine .put rfl ?_ | refine .say rfl ?_ | refine .say2 rfl (by first | assumption | simp_all) ?_)))
        · skip
          repeat (first | refine r_skip rfl (.no rfl rfl) ?_ | refine r_skip rfl (.un rfl rfl) ?_)
          refine r_val (by first | exact .none | exact .some rfl rfl) rfl (p_pick_t rfl rfl) ?_
          refine r_nil (e_fin (d := 52) hQ_30 rfl (by repeat (first | exact .refl | refine .put rfl ?_ | refine .say rfl ?_ | refine .say2 rfl (by first | assumption | simp_all) ?_)))
        refine r_nil ?_
        refine e_next ?_
        refine c_split (d := 52) rfl (fun h_36 => ?_) (fun h_36 => ?_)
        · skip
          try simp only [norms] at h_36
          have hN : tBad (zs.getD k t0) (lastF zs k) := by have hx := h_36; unfold tBad; omega
          first
            | (exfalso; omega)
            | (
              refine c_cond_t rfl ?_
              refine c_seq ?_
              refine c_region ?_
              refine r_val .none rfl (p_assign rfl) ?_
              refine r_nil ?_
              refine e_next ?_
              refine c_ret ?_
              refine e_ret_then ?_
              refine e_ret_block ?_
              refine e_ret_then ?_
              refine e_ret_then ?_
              refine e_ret_block ?_
              refine e_ret_then ?_
              refine e_ret1 Try.results70 (.tmp rfl .nil) (fun w hm => ⟨?_, hm.since⟩)
              first
              | (rw [← hphi.2, tsRight_bad (by omega) hN]; done)
              | (rw [← hphi.2, List.drop_eq_nil_of_le (by omega)]; rfl)
              )
        · skip
          try simp only [norms] at h_36
          have hN : ¬ tBad (zs.getD k t0) (lastF zs k) := by have hx := h_36; unfold tBad; omega
          first
            | (exfalso; omega)
            | (
              refine c_cond_f rfl ?_
              refine c_skip ?_
              refine e_next ?_
              refine c_region ?_
              refine r_val .none rfl (p_field Try.underlying92 rfl sz3 rfl) ?_
              refine r_val .none rfl (p_ld (k := 0) Try.underlying3 rfl rfl rfl (by first | exact of_decide_eq_true rfl | omega) (rfl : _ = Value.int _ _)) ?_
              refine r_val .none rfl (p_assign rfl) ?_
              refine r_nil ?_
              refine e_norm_block ?_
              refine e_next ?_
              refine c_region ?_
              refine r_val .none rfl (p_add rfl rfl (by omega)) ?_
              refine r_val .none rfl (p_move rfl) ?_
              refine r_nil ?_
              refine e_round (k + 1) ⟨⟨by omega, by rw [← hphi.2, tsRight_next (by omega) hN]; rfl⟩, by omega⟩ rfl ⟨rfl, rfl, rfl, rfl, trivial⟩ (.drop (.nil))
              )
        )
  · skip
    first
      | (exfalso; omega)
      | (
        refine c_cond_f rfl ?_
        refine c_exit ?_
        refine e_exit_then ?_
        refine e_exit_then ?_
        refine e_exit_block ?_
        refine e_next ?_
        refine c_seq ?_
        refine c_region ?_
        refine r_val .none rfl (p_assign rfl) ?_
        refine r_nil ?_
        refine e_next ?_
        refine c_ret ?_
        refine e_ret1 Try.results70 (.tmp rfl .nil) (fun w hm => ⟨?_, hm.since⟩)
        first
        | (rw [← hphi.2, tsRight_bad (by omega) hN]; done)
        | (rw [← hphi.2, List.drop_eq_nil_of_le (by omega)]; rfl)
        )
theorem c_cright_s (n : Nat) (ih : CrightIs n) (c : ST) (ta sb : Value) (d x : Int) (p : Nat) {G : Ghost} {F : Nat → Prop} (hz : SizeOf.sizeOf c ≤ n + 1) (hb : (0 ≤ x ∧ x ≤ 16) ∧ 0 ≤ d ∧ d ≤ 4) (ht : SlL G ta 3 tC t0 c.h.ts) (hs : Ss G sb c.subs) (w : World) (hG : Has G w) (hA : (cntA 3 p x).holds w F) (hFG : ∀ b, F b → G b = none) :
    Calls Try.prog 54 #[Value.agg #[Value.int .i64 c.h.k, Value.int .i64 c.h.k0, Value.int .i64 c.h.k1, Value.int .i64 c.h.k2, ta, sb], Value.int .i64 d, Value.pointer (some ⟨p, 0, none⟩)] w (Ret fun r w' => r = Value.bool (cR c d x).1 ∧ Kept (cntA 3 p (cR c d x).2) F w w') := by
  refine enterO (args := [_, _, _]) (G := G) (A := cntA 3 p x) (l := [(0, Value.agg #[Value.int .i64 c.h.k, Value.int .i64 c.h.k0, Value.int .i64 c.h.k1, Value.int .i64 c.h.k2, ta, sb]), (1, Value.int .i64 d), (2, Value.pointer (some ⟨p, 0, none⟩))]) Try.func54 rfl Try.ntmps54 hG hA hFG ⟨rfl, rfl, rfl, trivial⟩ (Nat.le_of_ble_eq_true rfl) ?_
  obtain ⟨rs, hr, hpt, hps, hl⟩ := hs.inv
  have hlen : c.subs.length = rs.length := by rw [hl]; simp
  have hbd := hr.bound
  have hbt := ht.bound
  refine c_seq ?_
  refine c_region ?_
  refine r_box .none rfl rfl (IsRow.lit _) (fun b_1 => ?_)
  refine r_val .none rfl (p_assign rfl) ?_
  refine r_nil ?_
  refine e_next ?_
  refine c_seq ?_
  refine c_seq ?_
  refine c_region ?_
  refine r_val .none rfl (p_move rfl) ?_
  refine r_val .none rfl (p_nilcheck rfl) ?_
  refine r_val .none rfl (p_ld (k := 1) Try.underlying3 rfl rfl rfl (by first | exact of_decide_eq_true rfl | omega) (rfl : _ = Value.int _ _)) ?_
  refine r_val .none rfl (p_add rfl rfl (by omega)) ?_
  refine r_val .none rfl (p_nilcheck rfl) ?_
  refine r_st (k := 1) .none sz3 rfl rfl rfl rfl (by first | exact of_decide_eq_true rfl | omega) ?_
  refine r_nil ?_
  refine e_next ?_
  refine c_seq ?_
  refine c_region ?_
  refine r_val .none rfl (p_move rfl) ?_
  refine r_val .none rfl (p_nilcheck rfl) ?_
  refine r_val .none rfl (p_ld (k := 1) Try.underlying3 rfl rfl rfl (by first | exact of_decide_eq_true rfl | omega) (rfl : _ = Value.int _ _)) ?_
  refine r_val .none rfl (p_gt rfl rfl) ?_
  refine r_val .none rfl (p_move rfl) ?_
  refine' r_or (c := 18) (d := 21) [_, _, _] rfl (fun h_1 Q_2 hQ_3 => ?_) (fun h_1 Q_2 hQ_3 => ?_) ?_
  rotate_left 1
  · skip
    replace h_1 := of_decide_eq_false h_1
    refine r_val (.some rfl rfl) rfl (p_move rfl) ?_
    refine r_val (.some rfl rfl) rfl (p_gt rfl rfl) ?_
    refine r_val .none rfl (p_pick_f rfl rfl) ?_
    refine r_nil (e_fin (d := 21) hQ_3 rfl (by repeat (first | exact .refl | refine .put rfl ?_ | refine .say rfl ?_ | refine .say2 rfl (by first | assumption | simp_all) ?_)))
  · skip
    repeat (first | refine r_skip rfl (.no rfl rfl) ?_ | refine r_skip rfl (.un rfl rfl) ?_)
    refine r_val (by first | exact .none | exact .some rfl rfl) rfl (p_pick_t rfl rfl) ?_
    refine r_nil (e_fin (d := 21) hQ_3 rfl (by repeat (first | exact .refl | refine .put rfl ?_ | refine .say rfl ?_ | refine .say2 rfl (by first | assumption | simp_all) ?_)))
  refine r_nil ?_
  refine e_next ?_
  refine c_split (d := 21) rfl (fun h_5 => ?_) (fun h_5 => ?_)
  · skip
    try simp only [norms] at h_5
    first
      | (exfalso; omega)
      | (
        refine c_cond_t rfl ?_
        refine c_seq ?_
        refine c_region ?_
        refine r_val .none rfl (p_assign rfl) ?_
        refine r_nil ?_
        refine e_next ?_
        refine c_ret ?_
        refine e_ret_then ?_
        refine e_ret1 Try.results54 (.tmp rfl .nil) (fun w hm => ?_)
        first
        | (have he : cR c d x = (false, x + 1) := (by exact cR_big (by first | assumption | omega)); have he2 := congrArg Prod.snd he; refine ⟨?_, hm.kept [cntA 3 p ((cR c d x).2)] (.drop (.keep (fun _ _ h => by first | exact h | (have e : (cR c d x).2 = _ := he2; rw [e]; exact box_congr (fun i hi => by match i, hi with | 0, _ => rfl) _ _ h)) (.nil))) (cntA 3 p ((cR c d x).2)) (fun F' h => starL_one h)⟩; rw [he]; done)
        | (have he : cR c d x = (keyOk c.h && (decide (c.subs.length = 0) && tsRight c.h.ts (-1)), x + 1) := (by exact cR_posneg (by first | assumption | omega) (by first | assumption | omega)); have he2 := congrArg Prod.snd he; refine ⟨?_, hm.kept [cntA 3 p ((cR c d x).2)] (.drop (.keep (fun _ _ h => by first | exact h | (have e : (cR c d x).2 = _ := he2; rw [e]; exact box_congr (fun i hi => by match i, hi with | 0, _ => rfl) _ _ h)) (.nil))) (cntA 3 p ((cR c d x).2)) (fun F' h => starL_one h)⟩; rw [he]; exact congrArg Value.bool (by rw [Bool.and_assoc]; congr 2; exact decide_eq_decide.2 (by omega)))
        | (have he : cR c d x = (false, x + 1) := (by exact cR_bad (by first | assumption | omega) (by first | assumption | omega) (by rcases hB with ((h | h) | h) | h; exact .inl (.inl (.inl h)); exact .inl (.inl (.inr h)); exact .inl (.inr (by omega)); exact .inr (by omega))); have he2 := congrArg Prod.snd he; refine ⟨?_, hm.kept [cntA 3 p ((cR c d x).2)] (.drop (.keep (fun _ _ h => by first | exact h | (have e : (cR c d x).2 = _ := he2; rw [e]; exact box_congr (fun i hi => by match i, hi with | 0, _ => rfl) _ _ h)) (.nil))) (cntA 3 p ((cR c d x).2)) (fun F' h => starL_one h)⟩; rw [he]; done)
        | (have he : cR c d x = (false, (cR (rs.getD k s0).1 (d + 1) t).2) := (by rw [cR_in (by first | assumption | omega) (by first | assumption | omega) hB2, ← hs3, hl, sv_drop (by omega), cRL_no hE]); have he2 := congrArg Prod.snd he; refine ⟨?_, hm.kept [cntA 3 p ((cR c d x).2)] (.drop (.keep (fun _ _ h => by first | exact h | (have e : (cR c d x).2 = _ := he2; rw [e]; exact box_congr (fun i hi => by match i, hi with | 0, _ => rfl) _ _ h)) (.nil))) (cntA 3 p ((cR c d x).2)) (fun F' h => starL_one h)⟩; rw [he]; done)
        | (have he : cR c d x = (true, t) := (by rw [cR_in (by first | assumption | omega) (by first | assumption | omega) hB2, ← hs3, hl, List.drop_eq_nil_of_le (by simp; omega), cRL]); have he2 := congrArg Prod.snd he; refine ⟨?_, hm.kept [cntA 3 p ((cR c d x).2)] (.drop (.keep (fun _ _ h => by first | exact h | (have e : (cR c d x).2 = _ := he2; rw [e]; exact box_congr (fun i hi => by match i, hi with | 0, _ => rfl) _ _ h)) (.nil))) (cntA 3 p ((cR c d x).2)) (fun F' h => starL_one h)⟩; rw [he]; done)
        )
  · skip
    try simp only [norms] at h_5
    first
      | (exfalso; omega)
      | (
        refine c_cond_f rfl ?_
        refine c_skip ?_
        refine e_next ?_
        refine c_seq ?_
        refine c_seq ?_
        refine c_region ?_
        refine r_val .none rfl (p_field Try.underlying64 rfl sz3 rfl) ?_
        refine r_val .none rfl (p_ld (k := 0) Try.underlying3 rfl rfl rfl (by first | exact of_decide_eq_true rfl | omega) (rfl : _ = Value.int _ _)) ?_
        refine r_val .none rfl (p_eq rfl rfl) ?_
        refine r_val .none rfl (p_move rfl) ?_
        refine' r_or (c := 25) (d := 29) [_, _, _, _] rfl (fun h_6 Q_7 hQ_8 => ?_) (fun h_6 Q_7 hQ_8 => ?_) ?_
        rotate_left 1
        · skip
          replace h_6 := of_decide_eq_false h_6
          refine r_val (.some rfl rfl) rfl (p_field Try.underlying64 rfl sz3 rfl) ?_
          refine r_val (.some rfl rfl) rfl (p_ld (k := 0) Try.underlying3 rfl rfl rfl (by first | exact of_decide_eq_true rfl | omega) (rfl : _ = Value.int _ _)) ?_
          refine r_val (.some rfl rfl) rfl (p_eq rfl rfl) ?_
          refine r_val .none rfl (p_pick_f rfl rfl) ?_
          refine r_nil (e_fin (d := 29) hQ_8 rfl (by repeat (first | exact .refl | refine .put rfl ?_ | refine .say rfl ?_ | refine .say2 rfl (by first | assumption | simp_all) ?_)))
        · skip
          repeat (first | refine r_skip rfl (.no rfl rfl) ?_ | refine r_skip rfl (.un rfl rfl) ?_)
          refine r_val (by first | exact .none | exact .some rfl rfl) rfl (p_pick_t rfl rfl) ?_
          refine r_nil (e_fin (d := 29) hQ_8 rfl (by repeat (first | exact .refl | refine .put rfl ?_ | refine .say rfl ?_ | refine .say2 rfl (by first | assumption | simp_all) ?_)))
        refine r_nil ?_
        refine e_next ?_
        refine c_split (d := 29) rfl (fun h_10 => ?_) (fun h_10 => ?_)
        · skip
          try simp only [norms] at h_10
          first
            | (exfalso; omega)
            | (
              refine c_cond_t rfl ?_
              refine c_seq ?_
              refine c_region ?_
              refine r_val .none rfl (p_field Try.underlying64 rfl sz61 rfl) ?_
              refine r_val .none rfl (p_lda (k := 0) Try.underlying61 rfl sz61 rfl rfl (by first | exact of_decide_eq_true rfl | omega) (rfl : _ = Value.agg #[_, _, _])) ?_
              refine r_call (vs := [_]) .none rfl cl69 rfl (fun w hw => c_keyright _ _ _ w) ?_
              refine r_val .none rfl (p_move rfl) ?_
              refine' r_and (c := 33) (d := 38) [_, _, _, _, _] rfl (fun h_11 Q_12 hQ_13 => ?_) (fun h_11 Q_12 hQ_13 => ?_) ?_
              rotate_left 1
              · skip
                refine r_val (.some rfl rfl) rfl (p_field Try.underlying64 rfl sz50 rfl) ?_
                refine r_val (.some rfl rfl) rfl (p_ld (k := 0) Try.underlying50 rfl rfl rfl (by first | exact of_decide_eq_true rfl | omega) rfl) ?_
                refine r_val (.some rfl rfl) rfl (p_leng Try.underlying50 rfl hr) ?_
                have bd_15 := (hr).bound
                refine r_val (.some rfl rfl) rfl (p_eq rfl rfl) ?_
                refine r_val .none rfl (p_pick_t rfl rfl) ?_
                refine r_nil (e_fin (d := 38) hQ_13 rfl (by repeat (first | exact .refl | refine .put rfl ?_ | refine .say rfl ?_ | refine .say2 rfl (by first | assumption | simp_all) ?_)))
              · skip
                repeat (first | refine r_skip rfl (.no rfl rfl) ?_ | refine r_skip rfl (.un rfl rfl) ?_)
                refine r_val (by first | exact .none | exact .some rfl rfl) rfl (p_pick_f rfl rfl) ?_
                refine r_nil (e_fin (d := 38) hQ_13 rfl (by repeat (first | exact .refl | refine .put rfl ?_ | refine .say rfl ?_ | refine .say2 rfl (by first | assumption | simp_all) ?_)))
              refine r_val .none rfl (p_move rfl) ?_
              refine' r_and (c := 39) (d := 43) [_, _, _, _] rfl (fun h_16 Q_17 hQ_18 => ?_) (fun h_16 Q_17 hQ_18 => ?_) ?_
              rotate_left 1
              · skip
                try simp only [norms] at h_16
                refine r_val (.some rfl rfl) rfl (p_field Try.underlying64 rfl sz62 rfl) ?_
                refine r_val (.some rfl rfl) rfl (p_ld (k := 0) Try.underlying62 rfl rfl rfl (by first | exact of_decide_eq_true rfl | omega) rfl) ?_
                refine r_call (vs := [_]) (.some rfl rfl) rfl cl70 rfl (fun w hw => c_rtests _ _ ht w hw) ?_
                refine r_val .none rfl (p_pick_t rfl rfl) ?_
                refine r_nil (e_fin (d := 43) hQ_18 rfl (by repeat (first | exact .refl | refine .put rfl ?_ | refine .say rfl ?_ | refine .say2 rfl (by first | assumption | simp_all) ?_)))
              · skip
                repeat (first | refine r_skip rfl (.no rfl rfl) ?_ | refine r_skip rfl (.un rfl rfl) ?_)
                refine r_val (by first | exact .none | exact .some rfl rfl) rfl (p_pick_f rfl rfl) ?_
                refine r_nil (e_fin (d := 43) hQ_18 rfl (by repeat (first | exact .refl | refine .put rfl ?_ | refine .say rfl ?_ | refine .say2 rfl (by first | assumption | simp_all) ?_)))
              refine r_val .none rfl (p_assign rfl) ?_
              refine r_nil ?_
              refine e_next ?_
              refine c_ret ?_
              refine e_ret_then ?_
              refine e_ret1 Try.results54 (.tmp rfl .nil) (fun w hm => ?_)
              first
              | (have he : cR c d x = (false, x + 1) := (by exact cR_big (by first | assumption | omega)); have he2 := congrArg Prod.snd he; refine ⟨?_, hm.kept [cntA 3 p ((cR c d x).2)] (.drop (.keep (fun _ _ h => by first | exact h | (have e : (cR c d x).2 = _ := he2; rw [e]; exact box_congr (fun i hi => by match i, hi with | 0, _ => rfl) _ _ h)) (.nil))) (cntA 3 p ((cR c d x).2)) (fun F' h => starL_one h)⟩; rw [he]; done)
              | (have he : cR c d x = (keyOk c.h && (decide (c.subs.length = 0) && tsRight c.h.ts (-1)), x + 1) := (by exact cR_posneg (by first | assumption | omega) (by first | assumption | omega)); have he2 := congrArg Prod.snd he; refine ⟨?_, hm.kept [cntA 3 p ((cR c d x).2)] (.drop (.keep (fun _ _ h => by first | exact h | (have e : (cR c d x).2 = _ := he2; rw [e]; exact box_congr (fun i hi => by match i, hi with | 0, _ => rfl) _ _ h)) (.nil))) (cntA 3 p ((cR c d x).2)) (fun F' h => starL_one h)⟩; rw [he]; exact congrArg Value.bool (by rw [Bool.and_assoc]; congr 2; exact decide_eq_decide.2 (by omega)))
              | (have he : cR c d x = (false, x + 1) := (by exact cR_bad (by first | assumption | omega) (by first | assumption | omega) (by rcases hB with ((h | h) | h) | h; exact .inl (.inl (.inl h)); exact .inl (.inl (.inr h)); exact .inl (.inr (by omega)); exact .inr (by omega))); have he2 := congrArg Prod.snd he; refine ⟨?_, hm.kept [cntA 3 p ((cR c d x).2)] (.drop (.keep (fun _ _ h => by first | exact h | (have e : (cR c d x).2 = _ := he2; rw [e]; exact box_congr (fun i hi => by match i, hi with | 0, _ => rfl) _ _ h)) (.nil))) (cntA 3 p ((cR c d x).2)) (fun F' h => starL_one h)⟩; rw [he]; done)
              | (have he : cR c d x = (false, (cR (rs.getD k s0).1 (d + 1) t).2) := (by rw [cR_in (by first | assumption | omega) (by first | assumption | omega) hB2, ← hs3, hl, sv_drop (by omega), cRL_no hE]); have he2 := congrArg Prod.snd he; refine ⟨?_, hm.kept [cntA 3 p ((cR c d x).2)] (.drop (.keep (fun _ _ h => by first | exact h | (have e : (cR c d x).2 = _ := he2; rw [e]; exact box_congr (fun i hi => by match i, hi with | 0, _ => rfl) _ _ h)) (.nil))) (cntA 3 p ((cR c d x).2)) (fun F' h => starL_one h)⟩; rw [he]; done)
              | (have he : cR c d x = (true, t) := (by rw [cR_in (by first | assumption | omega) (by first | assumption | omega) hB2, ← hs3, hl, List.drop_eq_nil_of_le (by simp; omega), cRL]); have he2 := congrArg Prod.snd he; refine ⟨?_, hm.kept [cntA 3 p ((cR c d x).2)] (.drop (.keep (fun _ _ h => by first | exact h | (have e : (cR c d x).2 = _ := he2; rw [e]; exact box_congr (fun i hi => by match i, hi with | 0, _ => rfl) _ _ h)) (.nil))) (cntA 3 p ((cR c d x).2)) (fun F' h => starL_one h)⟩; rw [he]; done)
              )
        · skip
          try simp only [norms] at h_10
          first
            | (exfalso; omega)
            | (
              refine c_cond_f rfl ?_
              refine c_skip ?_
              refine e_next ?_
              refine c_seq ?_
              refine c_seq ?_
              refine c_region ?_
              refine r_val .none rfl (p_field Try.underlying64 rfl sz3 rfl) ?_
              refine r_val .none rfl (p_ld (k := 0) Try.underlying3 rfl rfl rfl (by first | exact of_decide_eq_true rfl | omega) (rfl : _ = Value.int _ _)) ?_
              refine r_val .none rfl (p_ne rfl rfl) ?_
              refine r_val .none rfl (p_move rfl) ?_
              refine' r_or (c := 47) (d := 52) [_, _, _, _, _] rfl (fun h_20 Q_21 hQ_22 => ?_) (fun h_20 Q_21 hQ_22 => ?_) ?_
              rotate_left 1
              · skip
                replace h_20 := of_decide_eq_false h_20
                refine r_val (.some rfl rfl) rfl (p_field Try.underlying64 rfl sz61 rfl) ?_
                refine r_val (.some rfl rfl) rfl (p_lda (k := 0) Try.underlying61 rfl sz61 rfl rfl (by first | exact of_decide_eq_true rfl | omega) (rfl : _ = Value.agg #[_, _, _])) ?_
                refine r_val (.some rfl rfl) rfl (p_build (vs := []) rfl (bl61_ )) ?_
                refine r_val (.some rfl rfl) rfl (p_nea rfl rfl (eq_flat Try.underlying61 rfl lf61 ef61 eg61 (.cons (.int Try.underlying3) (.cons (.int Try.underlying3) (.cons (.int Try.underlying3) (.nil)))) (.cons (.int Try.underlying3) (.cons (.int Try.underlying3) (.cons (.int Try.underlying3) (.nil)))))) ?_
                refine r_val .none rfl (p_pick_f rfl rfl) ?_
                refine r_nil (e_fin (d := 52) hQ_22 rfl (by repeat (first | exact .refl | refine .put rfl ?_ | refine .say rfl ?_ | refine .say2 rfl (by first | assumption | simp_all) ?_)))
              · skip
                repeat (first | refine r_skip rfl (.no rfl rfl) ?_ | refine r_skip rfl (.un rfl rfl) ?_)
                refine r_val (by first | exact .none | exact .some rfl rfl) rfl (p_pick_t rfl rfl) ?_
                refine r_nil (e_fin (d := 52) hQ_22 rfl (by repeat (first | exact .refl | refine .put rfl ?_ | refine .say rfl ?_ | refine .say2 rfl (by first | assumption | simp_all) ?_)))
              refine r_val .none rfl (p_move rfl) ?_
              refine' r_or (c := 53) (d := 58) [_, _, _, _, _] rfl (fun h_24 Q_25 hQ_26 => ?_) (fun h_24 Q_25 hQ_26 => ?_) ?_
              rotate_left 1
              · skip
                try simp only [norms] at h_24
                refine r_val (.some rfl rfl) rfl (p_field Try.underlying64 rfl sz62 rfl) ?_
                refine r_val (.some rfl rfl) rfl (p_ld (k := 0) Try.underlying62 rfl rfl rfl (by first | exact of_decide_eq_true rfl | omega) rfl) ?_
                refine r_val (.some rfl rfl) rfl (p_leng Try.underlying62 rfl ht) ?_
                have bd_28 := (ht).bound
                refine r_val (.some rfl rfl) rfl (p_gt rfl rfl) ?_
                refine r_val .none rfl (p_pick_f rfl rfl) ?_
                refine r_nil (e_fin (d := 58) hQ_26 rfl (by repeat (first | exact .refl | refine .put rfl ?_ | refine .say rfl ?_ | refine .say2 rfl (by first | assumption | simp_all) ?_)))
              · skip
                repeat (first | refine r_skip rfl (.no rfl rfl) ?_ | refine r_skip rfl (.un rfl rfl) ?_)
                refine r_val (by first | exact .none | exact .some rfl rfl) rfl (p_pick_t rfl rfl) ?_
                refine r_nil (e_fin (d := 58) hQ_26 rfl (by repeat (first | exact .refl | refine .put rfl ?_ | refine .say rfl ?_ | refine .say2 rfl (by first | assumption | simp_all) ?_)))
              refine r_val .none rfl (p_move rfl) ?_
              refine' r_or (c := 59) (d := 64) [_, _, _, _, _] rfl (fun h_29 Q_30 hQ_31 => ?_) (fun h_29 Q_30 hQ_31 => ?_) ?_
              rotate_left 1
              · skip
                try simp only [norms] at h_29
                refine r_val (.some rfl rfl) rfl (p_field Try.underlying64 rfl sz50 rfl) ?_
                refine r_val (.some rfl rfl) rfl (p_ld (k := 0) Try.underlying50 rfl rfl rfl (by first | exact of_decide_eq_true rfl | omega) rfl) ?_
                refine r_val (.some rfl rfl) rfl (p_leng Try.underlying50 rfl hr) ?_
                have bd_33 := (hr).bound
                refine r_val (.some rfl rfl) rfl (p_eq rfl rfl) ?_
                refine r_val .none rfl (p_pick_f rfl rfl) ?_
                refine r_nil (e_fin (d := 64) hQ_31 rfl (by repeat (first | exact .refl | refine .put rfl ?_ | refine .say rfl ?_ | refine .say2 rfl (by first | assumption | simp_all) ?_)))
              · skip
                repeat (first | refine r_skip rfl (.no rfl rfl) ?_ | refine r_skip rfl (.un rfl rfl) ?_)
                refine r_val (by first | exact .none | exact .some rfl rfl) rfl (p_pick_t rfl rfl) ?_
                refine r_nil (e_fin (d := 64) hQ_31 rfl (by repeat (first | exact .refl | refine .put rfl ?_ | refine .say rfl ?_ | refine .say2 rfl (by first | assumption | simp_all) ?_)))
              refine r_nil ?_
              refine e_next ?_
              refine c_split (d := 64) rfl (fun h_34 => ?_) (fun h_34 => ?_)
              · skip
                try simp only [norms] at h_34
                have hB : ((¬ c.h.k = 3 ∨ keyNone c.h = false) ∨ (0 : Int) < (c.h.ts.length : Int)) ∨ (rs.length : Int) = 0 := h_34
                first
                  | (exfalso; omega)
                  | (
                    refine c_cond_t rfl ?_
                    refine c_seq ?_
                    refine c_region ?_
                    refine r_val .none rfl (p_assign rfl) ?_
                    refine r_nil ?_
                    refine e_next ?_
                    refine c_ret ?_
                    refine e_ret_then ?_
                    refine e_ret1 Try.results54 (.tmp rfl .nil) (fun w hm => ?_)
                    first
                    | (have he : cR c d x = (false, x + 1) := (by exact cR_big (by first | assumption | omega)); have he2 := congrArg Prod.snd he; refine ⟨?_, hm.kept [cntA 3 p ((cR c d x).2)] (.drop (.keep (fun _ _ h => by first | exact h | (have e : (cR c d x).2 = _ := he2; rw [e]; exact box_congr (fun i hi => by match i, hi with | 0, _ => rfl) _ _ h)) (.nil))) (cntA 3 p ((cR c d x).2)) (fun F' h => starL_one h)⟩; rw [he]; done)
                    | (have he : cR c d x = (keyOk c.h && (decide (c.subs.length = 0) && tsRight c.h.ts (-1)), x + 1) := (by exact cR_posneg (by first | assumption | omega) (by first | assumption | omega)); have he2 := congrArg Prod.snd he; refine ⟨?_, hm.kept [cntA 3 p ((cR c d x).2)] (.drop (.keep (fun _ _ h => by first | exact h | (have e : (cR c d x).2 = _ := he2; rw [e]; exact box_congr (fun i hi => by match i, hi with | 0, _ => rfl) _ _ h)) (.nil))) (cntA 3 p ((cR c d x).2)) (fun F' h => starL_one h)⟩; rw [he]; exact congrArg Value.bool (by rw [Bool.and_assoc]; congr 2; exact decide_eq_decide.2 (by omega)))
                    | (have he : cR c d x = (false, x + 1) := (by exact cR_bad (by first | assumption | omega) (by first | assumption | omega) (by rcases hB with ((h | h) | h) | h; exact .inl (.inl (.inl h)); exact .inl (.inl (.inr h)); exact .inl (.inr (by omega)); exact .inr (by omega))); have he2 := congrArg Prod.snd he; refine ⟨?_, hm.kept [cntA 3 p ((cR c d x).2)] (.drop (.keep (fun _ _ h => by first | exact h | (have e : (cR c d x).2 = _ := he2; rw [e]; exact box_congr (fun i hi => by match i, hi with | 0, _ => rfl) _ _ h)) (.nil))) (cntA 3 p ((cR c d x).2)) (fun F' h => starL_one h)⟩; rw [he]; done)
                    | (have he : cR c d x = (false, (cR (rs.getD k s0).1 (d + 1) t).2) := (by rw [cR_in (by first | assumption | omega) (by first | assumption | omega) hB2, ← hs3, hl, sv_drop (by omega), cRL_no hE]); have he2 := congrArg Prod.snd he; refine ⟨?_, hm.kept [cntA 3 p ((cR c d x).2)] (.drop (.keep (fun _ _ h => by first | exact h | (have e : (cR c d x).2 = _ := he2; rw [e]; exact box_congr (fun i hi => by match i, hi with | 0, _ => rfl) _ _ h)) (.nil))) (cntA 3 p ((cR c d x).2)) (fun F' h => starL_one h)⟩; rw [he]; done)
                    | (have he : cR c d x = (true, t) := (by rw [cR_in (by first | assumption | omega) (by first | assumption | omega) hB2, ← hs3, hl, List.drop_eq_nil_of_le (by simp; omega), cRL]); have he2 := congrArg Prod.snd he; refine ⟨?_, hm.kept [cntA 3 p ((cR c d x).2)] (.drop (.keep (fun _ _ h => by first | exact h | (have e : (cR c d x).2 = _ := he2; rw [e]; exact box_congr (fun i hi => by match i, hi with | 0, _ => rfl) _ _ h)) (.nil))) (cntA 3 p ((cR c d x).2)) (fun F' h => starL_one h)⟩; rw [he]; done)
                    )
              · skip
                try simp only [norms] at h_34
                have hB : ((c.h.k = 3 ∧ keyNone c.h = true) ∧ ¬ (0 : Int) < (c.h.ts.length : Int)) ∧ ¬ (rs.length : Int) = 0 := h_34
                have hB2 : ¬ (((c.h.k ≠ 3 ∨ keyNone c.h = false) ∨ 0 < c.h.ts.length) ∨ c.subs.length = 0) := by rintro (((h | h) | h) | h); exact h hB.1.1.1; rw [hB.1.1.2] at h; cases h; omega; omega
                first
                  | (exfalso; omega)
                  | (
                    refine c_cond_f rfl ?_
                    refine c_skip ?_
                    refine e_next ?_
                    refine c_seq ?_
                    refine c_seq ?_
                    refine c_region ?_
                    refine r_val .none rfl (p_field Try.underlying64 rfl sz50 rfl) ?_
                    refine r_val .none rfl (p_ld (k := 0) Try.underlying50 rfl rfl rfl (by first | exact of_decide_eq_true rfl | omega) rfl) ?_
                    refine r_val .none rfl (p_leng Try.underlying50 rfl hr) ?_
                    have bd_35 := (hr).bound
                    refine r_val .none rfl (p_move rfl) ?_
                    refine r_nil ?_
                    refine e_next ?_
                    refine c_block ?_
                    refine c_name (d := 1) rfl (fun u_36 hu_36 => ?_)
                    refine c_name (d := 2) rfl (fun u_37 hu_37 => ?_)
                    refine c_name (d := 66) rfl (fun u_38 hu_38 => ?_)
                    refine c_name (d := 67) rfl (fun u_39 hu_39 => ?_)
                    refine c_nameL (k := 0) rfl (fun A_40 hA_40 => ?_)
                    refine c_loop (σ := Nat × Int) (fun s => [(68, Value.int .i64 (s.1 : Nat)), (1, u_36), (2, u_37), (66, u_38), (67, u_39)]) (fun s => [A_40, box p 1 3 (at_ [.int .i64 s.2])]) (fun _ => _) (fun s => s.1 ≤ rs.length ∧ (0 ≤ s.2 ∧ s.2 ≤ 16) ∧ cRL (c.subs.drop s.1) (d + 1) s.2 = cRL c.subs (d + 1) (x + 1)) (fun s => rs.length - s.1) ((0, x + 1)) ⟨Nat.zero_le _, by dsimp only; omega, rfl⟩ rfl ⟨rfl, rfl, rfl, rfl, rfl, trivial⟩ (.keep (fun _ _ h => h) (.keep (fun _ _ h => box_congr (fun i hi => by match i, hi with | 0, _ => rfl) _ _ h) (.nil))) (fun s hphi => ?_)
                    subst hu_36
                    subst hu_37
                    subst hu_38
                    subst hu_39
                    subst hA_40
                    obtain ⟨k, t⟩ := s
                    obtain ⟨hk, ht3, hs3⟩ := hphi
                    dsimp only at hk ht3 hs3 ⊢
                    refine c_seq ?_
                    refine c_region ?_
                    refine r_val .none rfl (p_lt rfl rfl) ?_
                    refine r_nil ?_
                    refine e_next ?_
                    refine c_seq ?_
                    refine c_splitd (d := 69) rfl (fun h_41 => ?_) (fun h_41 => ?_)
                    · skip
                      first
                        | (exfalso; omega)
                        | (
                          refine c_cond_t rfl ?_
                          refine c_skip ?_
                          refine e_next ?_
                          refine c_seq ?_
                          refine c_block ?_
                          refine c_seq ?_
                          refine c_region ?_
                          refine r_iaddr_g .none rfl Try.underlying50 sz64 rfl hr rfl (by first | exact of_decide_eq_true rfl | omega) (fun p_43 o_44 R_42 => ?_)
                          have ht_45 := hpt _ (getD_mem (i := k) (d := s0) (by omega))
                          have hc_46 := hps _ (getD_mem (i := k) (d := s0) (by omega))
                          refine r_val .none rfl (p_ldga0 Try.underlying64 rfl sz64 rfl R_42 (by first | exact of_decide_eq_true rfl | omega) (rfl : _ = Value.agg #[_, _, _, _, _, _])) ?_
                          refine r_alloc .none rfl zr64 (IsRow.lit _) (fun b_2 => ?_)
                          refine r_stw (k := 0) .none sz64 rfl rfl (IsRow.lit _) (one_lit rfl (all_cons rfl (all_cons rfl (all_cons rfl (all_cons rfl (all_cons (ht_45).one (all_cons (hc_46).one rfl))))))) rfl ?_
                          refine r_nil ?_
                          refine e_next ?_
                          refine c_seq ?_
                          refine c_region ?_
                          refine r_val .none rfl (p_ldw (k := 0) Try.underlying64 rfl sz64 rfl rfl (rfl : _ = Value.agg #[_, _, _, _, _, _])) ?_
                          refine r_val .none rfl (p_move rfl) ?_
                          refine r_val .none rfl (p_add rfl rfl (by omega)) ?_
                          refine r_val .none rfl (p_move rfl) ?_
                          refine r_callo (k := 2) (vs := [_, _, _]) .none rfl cl54 rfl rfl (fun w F hw hA hFG => ih (rs.getD k s0).1 _ _ _ _ _ _ _ w (ssz_at hl (by omega) hz) (by omega) ht_45 hc_46 hw hA hFG) ?_
                          refine r_val .none rfl (p_not rfl) ?_
                          refine r_nil ?_
                          refine e_next ?_
                          refine c_splitn (d := 77) rfl (fun h_47 => ?_) (fun h_47 => ?_)
                          · skip
                            have hE := h_47
                            first
                              | (exfalso; omega)
                              | (
                                refine c_cond_t rfl ?_
                                refine c_seq ?_
                                refine c_region ?_
                                refine r_val .none rfl (p_assign rfl) ?_
                                refine r_nil ?_
                                refine e_next ?_
                                refine c_ret ?_
                                refine e_ret_block ?_
                                refine e_ret_then ?_
                                refine e_ret_then ?_
                                refine e_ret_block ?_
                                refine e_ret_then ?_
                                refine e_ret1 Try.results54 (.tmp rfl .nil) (fun w hm => ?_)
                                first
                                | (have he : cR c d x = (false, x + 1) := (by exact cR_big (by first | assumption | omega)); have he2 := congrArg Prod.snd he; refine ⟨?_, hm.kept [cntA 3 p ((cR c d x).2)] (.drop (.drop (.keep (fun _ _ h => by first | exact h | (have e : (cR c d x).2 = _ := he2; rw [e]; exact box_congr (fun i hi => by match i, hi with | 0, _ => rfl) _ _ h)) (.nil)))) (cntA 3 p ((cR c d x).2)) (fun F' h => starL_one h)⟩; rw [he]; done)
                                | (have he : cR c d x = (keyOk c.h && (decide (c.subs.length = 0) && tsRight c.h.ts (-1)), x + 1) := (by exact cR_posneg (by first | assumption | omega) (by first | assumption | omega)); have he2 := congrArg Prod.snd he; refine ⟨?_, hm.kept [cntA 3 p ((cR c d x).2)] (.drop (.drop (.keep (fun _ _ h => by first | exact h | (have e : (cR c d x).2 = _ := he2; rw [e]; exact box_congr (fun i hi => by match i, hi with | 0, _ => rfl) _ _ h)) (.nil)))) (cntA 3 p ((cR c d x).2)) (fun F' h => starL_one h)⟩; rw [he]; exact congrArg Value.bool (by rw [Bool.and_assoc]; congr 2; exact decide_eq_decide.2 (by omega)))
                                | (have he : cR c d x = (false, x + 1) := (by exact cR_bad (by first | assumption | omega) (by first | assumption | omega) (by rcases hB with ((h | h) | h) | h; exact .inl (.inl (.inl h)); exact .inl (.inl (.inr h)); exact .inl (.inr (by omega)); exact .inr (by omega))); have he2 := congrArg Prod.snd he; refine ⟨?_, hm.kept [cntA 3 p ((cR c d x).2)] (.drop (.drop (.keep (fun _ _ h => by first | exact h | (have e : (cR c d x).2 = _ := he2; rw [e]; exact box_congr (fun i hi => by match i, hi with | 0, _ => rfl) _ _ h)) (.nil)))) (cntA 3 p ((cR c d x).2)) (fun F' h => starL_one h)⟩; rw [he]; done)
                                | (have he : cR c d x = (false, (cR (rs.getD k s0).1 (d + 1) t).2) := (by rw [cR_in (by first | assumption | omega) (by first | assumption | omega) hB2, ← hs3, hl, sv_drop (by omega), cRL_no hE]); have he2 := congrArg Prod.snd he; refine ⟨?_, hm.kept [cntA 3 p ((cR c d x).2)] (.drop (.drop (.keep (fun _ _ h => by first | exact h | (have e : (cR c d x).2 = _ := he2; rw [e]; exact box_congr (fun i hi => by match i, hi with | 0, _ => rfl) _ _ h)) (.nil)))) (cntA 3 p ((cR c d x).2)) (fun F' h => starL_one h)⟩; rw [he]; done)
                                | (have he : cR c d x = (true, t) := (by rw [cR_in (by first | assumption | omega) (by first | assumption | omega) hB2, ← hs3, hl, List.drop_eq_nil_of_le (by simp; omega), cRL]); have he2 := congrArg Prod.snd he; refine ⟨?_, hm.kept [cntA 3 p ((cR c d x).2)] (.drop (.drop (.keep (fun _ _ h => by first | exact h | (have e : (cR c d x).2 = _ := he2; rw [e]; exact box_congr (fun i hi => by match i, hi with | 0, _ => rfl) _ _ h)) (.nil)))) (cntA 3 p ((cR c d x).2)) (fun F' h => starL_one h)⟩; rw [he]; done)
                                )
                          · skip
                            have hE := h_47
                            first
                              | (exfalso; omega)
                              | (
                                refine c_cond_f rfl ?_
                                refine c_skip ?_
                                refine e_norm_block ?_
                                refine e_next ?_
                                refine c_region ?_
                                refine r_val .none rfl (p_add rfl rfl (by omega)) ?_
                                refine r_val .none rfl (p_move rfl) ?_
                                refine r_nil ?_
                                refine e_round ((k + 1, (cR (rs.getD k s0).1 (d + 1) t).2)) ⟨⟨by dsimp only; omega, by have := cR_bd (rs.getD k s0).1 (d + 1) t ht3.1 ht3.2; exact ⟨by dsimp only; omega, this.2.2 hE⟩, by rw [← hs3, hl, sv_drop (k := k) (by omega), cRL_yes hE]⟩, by dsimp only; omega⟩ rfl ⟨rfl, rfl, rfl, rfl, rfl, trivial⟩ (.drop (.keep (fun _ _ h => h) (.keep (fun _ _ h => h) (.nil))))
                                )
                          )
                    · skip
                      first
                        | (exfalso; omega)
                        | (
                          refine c_cond_f rfl ?_
                          refine c_exit ?_
                          refine e_exit_then ?_
                          refine e_exit_then ?_
                          refine e_exit_block ?_
                          refine e_next ?_
                          refine c_seq ?_
                          refine c_region ?_
                          refine r_val .none rfl (p_assign rfl) ?_
                          refine r_nil ?_
                          refine e_next ?_
                          refine c_ret ?_
                          refine e_ret1 Try.results54 (.tmp rfl .nil) (fun w hm => ?_)
                          first
                          | (have he : cR c d x = (false, x + 1) := (by exact cR_big (by first | assumption | omega)); have he2 := congrArg Prod.snd he; refine ⟨?_, hm.kept [cntA 3 p ((cR c d x).2)] (.drop (.keep (fun _ _ h => by first | exact h | (have e : (cR c d x).2 = _ := he2; rw [e]; exact box_congr (fun i hi => by match i, hi with | 0, _ => rfl) _ _ h)) (.nil))) (cntA 3 p ((cR c d x).2)) (fun F' h => starL_one h)⟩; rw [he]; done)
                          | (have he : cR c d x = (keyOk c.h && (decide (c.subs.length = 0) && tsRight c.h.ts (-1)), x + 1) := (by exact cR_posneg (by first | assumption | omega) (by first | assumption | omega)); have he2 := congrArg Prod.snd he; refine ⟨?_, hm.kept [cntA 3 p ((cR c d x).2)] (.drop (.keep (fun _ _ h => by first | exact h | (have e : (cR c d x).2 = _ := he2; rw [e]; exact box_congr (fun i hi => by match i, hi with | 0, _ => rfl) _ _ h)) (.nil))) (cntA 3 p ((cR c d x).2)) (fun F' h => starL_one h)⟩; rw [he]; exact congrArg Value.bool (by rw [Bool.and_assoc]; congr 2; exact decide_eq_decide.2 (by omega)))
                          | (have he : cR c d x = (false, x + 1) := (by exact cR_bad (by first | assumption | omega) (by first | assumption | omega) (by rcases hB with ((h | h) | h) | h; exact .inl (.inl (.inl h)); exact .inl (.inl (.inr h)); exact .inl (.inr (by omega)); exact .inr (by omega))); have he2 := congrArg Prod.snd he; refine ⟨?_, hm.kept [cntA 3 p ((cR c d x).2)] (.drop (.keep (fun _ _ h => by first | exact h | (have e : (cR c d x).2 = _ := he2; rw [e]; exact box_congr (fun i hi => by match i, hi with | 0, _ => rfl) _ _ h)) (.nil))) (cntA 3 p ((cR c d x).2)) (fun F' h => starL_one h)⟩; rw [he]; done)
                          | (have he : cR c d x = (false, (cR (rs.getD k s0).1 (d + 1) t).2) := (by rw [cR_in (by first | assumption | omega) (by first | assumption | omega) hB2, ← hs3, hl, sv_drop (by omega), cRL_no hE]); have he2 := congrArg Prod.snd he; refine ⟨?_, hm.kept [cntA 3 p ((cR c d x).2)] (.drop (.keep (fun _ _ h => by first | exact h | (have e : (cR c d x).2 = _ := he2; rw [e]; exact box_congr (fun i hi => by match i, hi with | 0, _ => rfl) _ _ h)) (.nil))) (cntA 3 p ((cR c d x).2)) (fun F' h => starL_one h)⟩; rw [he]; done)
                          | (have he : cR c d x = (true, t) := (by rw [cR_in (by first | assumption | omega) (by first | assumption | omega) hB2, ← hs3, hl, List.drop_eq_nil_of_le (by simp; omega), cRL]); have he2 := congrArg Prod.snd he; refine ⟨?_, hm.kept [cntA 3 p ((cR c d x).2)] (.drop (.keep (fun _ _ h => by first | exact h | (have e : (cR c d x).2 = _ := he2; rw [e]; exact box_congr (fun i hi => by match i, hi with | 0, _ => rfl) _ _ h)) (.nil))) (cntA 3 p ((cR c d x).2)) (fun F' h => starL_one h)⟩; rw [he]; done)
                          )
                    )
              )
        )
theorem c_cright_n : ∀ n, CrightIs n
  | 0 => fun c ta sb d x p G F w hz _ _ _ _ _ _ => absurd hz (by have := s_pos c; omega)
  | n + 1 => fun c ta sb d x p G F w hz hb ht hs hG hA hFG => c_cright_s n (c_cright_n n) c ta sb d x p hz hb ht hs w hG hA hFG
theorem c_cright (c : ST) (ta sb : Value) (d x : Int) (p : Nat) {G : Ghost} {F : Nat → Prop} (hb : (0 ≤ x ∧ x ≤ 16) ∧ 0 ≤ d ∧ d ≤ 4) (ht : SlL G ta 3 tC t0 c.h.ts) (hs : Ss G sb c.subs) (w : World) (hG : Has G w) (hA : (cntA 3 p x).holds w F) (hFG : ∀ b, F b → G b = none) : Calls Try.prog 54 #[Value.agg #[Value.int .i64 c.h.k, Value.int .i64 c.h.k0, Value.int .i64 c.h.k1, Value.int .i64 c.h.k2, ta, sb], Value.int .i64 d, Value.pointer (some ⟨p, 0, none⟩)] w (Ret fun r w' => r = Value.bool (cR c d x).1 ∧ Kept (cntA 3 p (cR c d x).2) F w w') := c_cright_n _ c ta sb d x p G F w (Nat.le_refl _) hb ht hs hG hA hFG
theorem c_cRight (c : ST) (ta sb : Value) {G : Ghost} (ht : SlL G ta 3 tC t0 c.h.ts) (hs : Ss G sb c.subs) (w : World) (hG : Has G w) :
    Calls Try.prog 31 #[Value.agg #[Value.int .i64 c.h.k, Value.int .i64 c.h.k0, Value.int .i64 c.h.k1, Value.int .i64 c.h.k2, ta, sb]] w (Ret fun r w' => r = Value.bool (cR c 1 0).1 ∧ Since nX w w') := by
  refine enter (args := [_]) (X := nX) (G := G) (l := [(0, Value.agg #[Value.int .i64 c.h.k, Value.int .i64 c.h.k0, Value.int .i64 c.h.k1, Value.int .i64 c.h.k2, ta, sb])]) Try.func31 rfl Try.ntmps31 hG ⟨rfl, trivial⟩ (Nat.le_of_ble_eq_true rfl) ?_
  refine c_seq ?_
  refine c_region ?_
  refine r_box .none rfl rfl (IsRow.lit _) (fun b_1 => ?_)
  refine r_val .none rfl (p_assign rfl) ?_
  refine r_nil ?_
  refine e_next ?_
  refine c_seq ?_
  refine c_region ?_
  refine r_alloc .none rfl zr3 (IsRow.lit [_]) (fun b_2 => ?_)
  refine r_st (k := 0) .none sz3 rfl rfl rfl rfl (by first | exact of_decide_eq_true rfl | omega) ?_
  refine r_nil ?_
  refine e_next ?_
  refine c_seq ?_
  refine c_region ?_
  refine r_val .none rfl (p_ldw (k := 1) Try.underlying64 rfl sz64 rfl rfl (rfl : _ = Value.agg #[_, _, _, _, _, _])) ?_
  refine r_callo (k := 0) (vs := [_, _, _]) .none rfl cl54 rfl rfl (fun w F hw hA hFG => c_cright c ta sb 1 0 _ (by omega) ht hs w hw (box_congr (fun i hi => by match i, hi with | 0, _ => rfl) _ _ hA) hFG) ?_
  refine r_val .none rfl (p_assign rfl) ?_
  refine r_nil ?_
  refine e_next ?_
  refine c_ret ?_
  refine e_ret1 Try.results31 (.tmp rfl .nil) (fun w hm => ⟨?_, hm.since⟩)
  rfl
theorem c_back (v : Value) (l : List ST) {G : Ghost} (hs : Ss G v l) (w : World) (hG : Has G w) :
    Calls Try.prog 35 #[v] w (Ret fun r w' => r = Value.int .i64 (posS l : Nat) ∧ Since nX w w') := by
  refine enter (args := [_]) (X := nX) (G := G) (l := [(0, v)]) Try.func35 rfl Try.ntmps35 hG ⟨rfl, trivial⟩ (Nat.le_of_ble_eq_true rfl) ?_
  obtain ⟨rs, hr, hpt, hps, hl⟩ := hs.inv
  have hbd := hr.bound
  refine c_seq ?_
  refine c_region ?_
  refine r_val .none rfl (p_assign rfl) ?_
  refine r_nil ?_
  refine e_next ?_
  refine c_seq ?_
  refine c_region ?_
  refine r_val .none rfl (p_assign rfl) ?_
  refine r_nil ?_
  refine e_next ?_
  refine c_seq ?_
  refine c_seq ?_
  refine c_region ?_
  refine r_val .none rfl (p_move rfl) ?_
  refine r_val .none rfl (p_leng Try.underlying50 rfl hr) ?_
  have bd_1 := (hr).bound
  refine r_val .none rfl (p_move rfl) ?_
  refine r_nil ?_
  refine e_next ?_
  refine c_block ?_
  refine c_name (d := 2) rfl (fun u_2 hu_2 => ?_)
  refine c_name (d := 6) rfl (fun u_3 hu_3 => ?_)
  refine c_name (d := 7) rfl (fun u_4 hu_4 => ?_)
  refine c_loop (σ := Nat) (fun k => [(8, Value.int .i64 (k : Nat)), (3, Value.int .i64 (posS ((rs.map Prod.fst).take k) : Nat)), (2, u_2), (6, u_3), (7, u_4)]) (fun k => []) (fun _ => _) (fun k => k ≤ rs.length) (fun k => rs.length - k) (0) (Nat.zero_le _) rfl ⟨rfl, rfl, rfl, rfl, rfl, trivial⟩ (.nil) (fun k hphi => ?_)
  subst hu_2
  subst hu_3
  subst hu_4
  have hpl : posS ((rs.map Prod.fst).take k) ≤ k := Nat.le_trans (posS_le _) (by simp; omega)
  refine c_seq ?_
  refine c_region ?_
  refine r_val .none rfl (p_lt rfl rfl) ?_
  refine r_nil ?_
  refine e_next ?_
  refine c_seq ?_
  refine c_splitd (d := 9) rfl (fun h_5 => ?_) (fun h_5 => ?_)
  · skip
    first
      | (exfalso; omega)
      | (
        refine c_cond_t rfl ?_
        refine c_skip ?_
        refine e_next ?_
        refine c_seq ?_
        refine c_block ?_
        refine c_seq ?_
        refine c_region ?_
        refine r_iaddr_g .none rfl Try.underlying50 sz64 rfl hr rfl (by first | exact of_decide_eq_true rfl | omega) (fun p_7 o_8 R_6 => ?_)
        have ht_9 := hpt _ (getD_mem (i := k) (d := s0) (by omega))
        have hc_10 := hps _ (getD_mem (i := k) (d := s0) (by omega))
        refine r_val .none rfl (p_ldga0 Try.underlying64 rfl sz64 rfl R_6 (by first | exact of_decide_eq_true rfl | omega) (rfl : _ = Value.agg #[_, _, _, _, _, _])) ?_
        refine r_alloc .none rfl zr64 (IsRow.lit _) (fun b_1 => ?_)
        refine r_stw (k := 0) .none sz64 rfl rfl (IsRow.lit _) (one_lit rfl (all_cons rfl (all_cons rfl (all_cons rfl (all_cons rfl (all_cons (ht_9).one (all_cons (hc_10).one rfl))))))) rfl ?_
        refine r_nil ?_
        refine e_next ?_
        refine c_seq ?_
        refine c_region ?_
        refine r_val .none rfl (p_field Try.underlying64 rfl sz3 rfl) ?_
        refine r_val .none rfl (p_ld (k := 0) Try.underlying3 rfl rfl rfl (by first | exact of_decide_eq_true rfl | omega) (rfl : _ = Value.int _ _)) ?_
        refine r_val .none rfl (p_eq rfl rfl) ?_
        refine r_nil ?_
        refine e_next ?_
        refine c_splitd (d := 14) rfl (fun h_11 => ?_) (fun h_11 => ?_)
        · skip
          have hk := h_11
          first
            | (exfalso; omega)
            | (
              refine c_cond_t rfl ?_
              refine c_region ?_
              refine r_val .none rfl (p_move rfl) ?_
              refine r_val .none rfl (p_add rfl rfl (by omega)) ?_
              refine r_val .none rfl (p_assign rfl) ?_
              refine r_nil ?_
              refine e_norm_block ?_
              refine e_next ?_
              refine c_region ?_
              refine r_val .none rfl (p_add rfl rfl (by omega)) ?_
              refine r_val .none rfl (p_move rfl) ?_
              refine r_nil ?_
              refine e_round (k + 1) ⟨by omega, by omega⟩ rfl ⟨rfl, (congrArg (fun z => some (Value.int .i64 z)) (by rw [posS_take (by omega)]; first | (rw [if_pos hk]; omega) | (rw [if_neg hk]; omega))), rfl, rfl, rfl, trivial⟩ (.drop (.nil))
              )
        · skip
          have hk := h_11
          first
            | (exfalso; omega)
            | (
              refine c_cond_f rfl ?_
              refine c_skip ?_
              refine e_norm_block ?_
              refine e_next ?_
              refine c_region ?_
              refine r_val .none rfl (p_add rfl rfl (by omega)) ?_
              refine r_val .none rfl (p_move rfl) ?_
              refine r_nil ?_
              refine e_round (k + 1) ⟨by omega, by omega⟩ rfl ⟨rfl, (congrArg (fun z => some (Value.int .i64 z)) (by rw [posS_take (by omega)]; first | (rw [if_pos hk]; omega) | (rw [if_neg hk]; omega))), rfl, rfl, rfl, trivial⟩ (.drop (.nil))
              )
        )
  · skip
    first
      | (exfalso; omega)
      | (
        refine c_cond_f rfl ?_
        refine c_exit ?_
        refine e_exit_then ?_
        refine e_exit_then ?_
        refine e_exit_block ?_
        refine e_next ?_
        refine c_seq ?_
        refine c_region ?_
        refine r_val .none rfl (p_move rfl) ?_
        refine r_val .none rfl (p_assign rfl) ?_
        refine r_nil ?_
        refine e_next ?_
        refine c_ret ?_
        refine e_ret1 Try.results35 (.tmp rfl .nil) (fun w hm => ⟨?_, hm.since⟩)
        rw [show l = (rs.map Prod.fst).take k by rw [hl, List.take_of_length_le (by simp; omega)]]
        )
end Go.Proofs.Ytoflaphnlfggkaa
