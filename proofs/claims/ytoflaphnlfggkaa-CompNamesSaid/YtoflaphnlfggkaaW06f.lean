/- Walks: what Go functions of this chapter come to, each as a function on plain data; no condition but those that each theorem names. Printed by a program of this work (gen.py). -/
import Derived.Test.YtoflaphnlfggkaaW06e
import Derived.Test.YtoflaphnlfggkaaRows
namespace Go.Proofs.Ytoflaphnlfggkaa
open Go.Gx Go.Gx.T4 Go.Gx.T3 Go.Gx.T6 Go.Gx.T8 Go.Gx.T4 Go.Gx.T3 Go.Gx.T8 Go.Gx.T4 Go.Gx.T3
theorem lf84 : leafT Try.prog 9 84 = some [3, 3, 3] := by
  kernel_rfl
theorem ef84 : eqT Try.prog 9 84 = true := by
  kernel_rfl
theorem eg84 : Try.prog.eqGuardType Try.prog.depth 84 = false := by
  kernel_rfl
theorem cl13 : Callable Try.prog 13 := callable Try.func13 (by kernel_rfl) rfl
theorem cl17 : Callable Try.prog 17 := callable Try.func17 (by kernel_rfl) rfl
theorem cl40 : Callable Try.prog 40 := callable Try.func40 (by kernel_rfl) rfl
theorem cl41 : Callable Try.prog 41 := callable Try.func41 (by kernel_rfl) rfl
theorem bl35_1i1 (x0 : Int) : Program.built Try.prog 35 [(1, Value.int .i64 x0)] = some #[Value.bool false, Value.int .i64 x0] := by
  kernel_rfl
theorem bl35_0b1_1i1 (x0 : Bool) (x1 : Int) : Program.built Try.prog 35 [(0, Value.bool x0), (1, Value.int .i64 x1)] = some #[Value.bool x0, Value.int .i64 x1] := by
  kernel_rfl
theorem bl36_0a2_1a2_2a2 (x0 : Value) (x1 : Value) (x2 : Value) (x3 : Value) (x4 : Value) (x5 : Value) : Program.built Try.prog 36 [(0, Value.agg #[x0, x1]), (1, Value.agg #[x2, x3]), (2, Value.agg #[x4, x5])] = some #[x0, x1, x2, x3, x4, x5] := by
  kernel_rfl
theorem bl38_0i1_1a6 (x0 : Int) (x1 : Value) (x2 : Value) (x3 : Value) (x4 : Value) (x5 : Value) (x6 : Value) : Program.built Try.prog 38 [(0, Value.int .i64 x0), (1, Value.agg #[x1, x2, x3, x4, x5, x6])] = some #[Value.int .i64 x0, x1, x2, x3, x4, x5, x6, Value.slice none 0 0] := by
  kernel_rfl
theorem bl38_0i1_2s3 (x0 : Int) (x1 : Option Addr) (x2 : Nat) (x3 : Nat) : Program.built Try.prog 38 [(0, Value.int .i64 x0), (2, Value.slice x1 x2 x3)] = some #[Value.int .i64 x0, Value.bool false, Value.int .i64 0, Value.bool false, Value.int .i64 0, Value.bool false, Value.int .i64 0, Value.slice x1 x2 x3] := by
  kernel_rfl
theorem bs38_20a8_1a8 (a0 a1 a2 a3 a4 a5 a6 a7 : Value) (a8 a9 a10 a11 a12 a13 a14 a15 : Value) : Instr.fill (fun i => some (i * 8, 8)) ((Array.range (2 * 8)).map ((Value.agg #[Value.int .i64 0, Value.bool false, Value.int .i64 0, Value.bool false, Value.int .i64 0, Value.bool false, Value.int .i64 0, Value.slice none 0 0]).cells[· % (Value.agg #[Value.int .i64 0, Value.bool false, Value.int .i64 0, Value.bool false, Value.int .i64 0, Value.bool false, Value.int .i64 0, Value.slice none 0 0]).cells.size]!)) [(0, Value.agg #[a0, a1, a2, a3, a4, a5, a6, a7]), (1, Value.agg #[a8, a9, a10, a11, a12, a13, a14, a15])] = some #[a0, a1, a2, a3, a4, a5, a6, a7, a8, a9, a10, a11, a12, a13, a14, a15] := by
  kernel_rfl
theorem bs38_30a8_1a8_2a8 (a0 a1 a2 a3 a4 a5 a6 a7 : Value) (a8 a9 a10 a11 a12 a13 a14 a15 : Value) (a16 a17 a18 a19 a20 a21 a22 a23 : Value) : Instr.fill (fun i => some (i * 8, 8)) ((Array.range (3 * 8)).map ((Value.agg #[Value.int .i64 0, Value.bool false, Value.int .i64 0, Value.bool false, Value.int .i64 0, Value.bool false, Value.int .i64 0, Value.slice none 0 0]).cells[· % (Value.agg #[Value.int .i64 0, Value.bool false, Value.int .i64 0, Value.bool false, Value.int .i64 0, Value.bool false, Value.int .i64 0, Value.slice none 0 0]).cells.size]!)) [(0, Value.agg #[a0, a1, a2, a3, a4, a5, a6, a7]), (1, Value.agg #[a8, a9, a10, a11, a12, a13, a14, a15]), (2, Value.agg #[a16, a17, a18, a19, a20, a21, a22, a23])] = some #[a0, a1, a2, a3, a4, a5, a6, a7, a8, a9, a10, a11, a12, a13, a14, a15, a16, a17, a18, a19, a20, a21, a22, a23] := by
  kernel_rfl
theorem c_one6 (n : Int)  (w : World)  :
    Calls Try.prog 40 #[Value.int .i64 n] w (Ret fun r w' => r = Value.agg #[Value.int .i64 1, Value.bool false, Value.int .i64 n, Value.bool false, Value.int .i64 1, Value.bool true, Value.int .i64 n, Value.slice none 0 0] ∧ Since nX w w') := by
  refine enter (args := [_]) (X := nX) (G := (fun _ => none)) (l := [(0, Value.int .i64 n)]) Try.func40 rfl Try.ntmps40 (fun _ _ h => by cases h) ⟨rfl, trivial⟩ (Nat.le_of_ble_eq_true rfl) ?_
  refine c_seq ?_
  refine c_region ?_
  refine r_alloc .none rfl zr38 (IsRow.lit _) (fun b_1 => ?_)
  refine r_nil ?_
  refine e_next ?_
  refine c_seq ?_
  refine c_region ?_
  refine r_val .none rfl (p_move rfl) ?_
  refine r_val .none rfl (p_build (vs := [(1, Value.int _ _)]) rfl (bl35_1i1 _)) ?_
  refine r_val .none rfl (p_build (vs := [(1, Value.int _ _)]) rfl (bl35_1i1 _)) ?_
  refine r_val .none rfl (p_move rfl) ?_
  refine r_val .none rfl (p_build (vs := [(0, Value.bool _), (1, Value.int _ _)]) rfl (bl35_0b1_1i1 _ _)) ?_
  refine r_val .none rfl (p_build (vs := [(0, Value.agg #[_, _]), (1, Value.agg #[_, _]), (2, Value.agg #[_, _])]) rfl (bl36_0a2_1a2_2a2 _ _ _ _ _ _)) ?_
  refine r_val .none rfl (p_build (vs := [(0, Value.int _ _), (1, Value.agg #[_, _, _, _, _, _])]) rfl (bl38_0i1_1a6 _ _ _ _ _ _ _)) ?_
  refine r_stw (k := 0) .none sz38 rfl rfl (IsRow.lit _) (one_lit rfl rfl) rfl ?_
  refine r_nil ?_
  refine e_next ?_
  refine c_ret ?_
  refine e_ret1 Try.results40 (.cell (k := 0) rfl Try.underlying38 rfl sz38 rfl (rfl : _ = Value.agg #[_, _, _, _, _, _, _, _]) .nil) (fun w hm => ⟨?_, hm.since⟩)
  rfl
theorem c_awake6   (w : World)  :
    Calls Try.prog 12 #[] w (Ret fun r w' => r = Value.bool true ∧ Since nX w w') := by
  refine enter (args := []) (X := nX) (G := (fun _ => none)) (l := []) Try.func12 rfl Try.ntmps12 (fun _ _ h => by cases h) trivial (Nat.le_of_ble_eq_true rfl) ?_
  refine c_seq ?_
  refine c_region ?_
  refine r_val .none rfl (p_assign rfl) ?_
  refine r_nil ?_
  refine e_next ?_
  refine c_seq ?_
  refine c_region ?_
  refine r_val .none rfl (p_assign rfl) ?_
  refine r_nil ?_
  refine e_next ?_
  refine c_seq ?_
  refine c_region ?_
  refine r_val .none rfl (p_move rfl) ?_
  refine r_fun (cs := []) .none rfl ?_
  refine r_call (vs := [_]) .none rfl cl40 rfl (fun w hw => c_one6 _ w) ?_
  refine r_val .none rfl (p_move rfl) ?_
  refine r_fun (cs := []) .none rfl ?_
  refine r_call (vs := [_]) .none rfl cl40 rfl (fun w hw => c_one6 _ w) ?_
  refine r_val .none rfl (p_move rfl) ?_
  refine r_fun (cs := []) .none rfl ?_
  refine r_call (vs := [_]) .none rfl cl40 rfl (fun w hw => c_one6 _ w) ?_
  refine r_bslice (vs := [(0, Value.agg #[_, _, _, _, _, _, _, _]), (1, Value.agg #[_, _, _, _, _, _, _, _])]) (c := #[_, _, _, _, _, _, _, _, _, _, _, _, _, _, _, _]) .none rfl Try.underlying22 el38 rfl rfl rfl (bs38_20a8_1a8 _ _ _ _ _ _ _ _ _ _ _ _ _ _ _ _) (IsRow.lit _) (fun b_1 => ?_)
  refine r_freezeB (k := 0) 2 8 rfl rfl (by decide) (fun G_1 hn_2 hs_3 => ?_)
  have h12 : SlL G_1 (Value.slice (some ⟨b_1, 0, none⟩) 2 2) 8 cvC d0 [(A6 2, (Value.slice none 0 0)), (A6 3, (Value.slice none 0 0))] := SlG.congr hs_3 (fun i hi j hj => by match i, hi with | 0, _ => (match j, hj with | 0, _ => rfl | 1, _ => rfl | 2, _ => rfl | 3, _ => rfl | 4, _ => rfl | 5, _ => rfl | 6, _ => rfl | 7, _ => rfl) | 1, _ => (match j, hj with | 0, _ => rfl | 1, _ => rfl | 2, _ => rfl | 3, _ => rfl | 4, _ => rfl | 5, _ => rfl | 6, _ => rfl | 7, _ => rfl))
  have th12 : Cs G_1 (Value.slice (some ⟨b_1, 0, none⟩) 2 2) ([A6 2, A6 3]) := Tr.mk _ h12 (by intro p hm0; simp only [List.mem_cons, List.not_mem_nil, or_false] at hm0; rcases hm0 with rfl | rfl; exact Tr.nil; exact Tr.nil)
  refine r_val .none rfl (p_build (vs := [(0, Value.int _ _), (2, Value.slice _ _ _)]) rfl (bl38_0i1_2s3 _ _ _ _)) ?_
  refine r_val .none rfl (p_move rfl) ?_
  refine r_fun (cs := []) .none rfl ?_
  refine r_call (vs := [_]) .none rfl cl40 rfl (fun w hw => c_one6 _ w) ?_
  refine r_bslice (vs := [(0, Value.agg #[_, _, _, _, _, _, _, _]), (1, Value.agg #[_, _, _, _, _, _, _, _]), (2, Value.agg #[_, _, _, _, _, _, _, _])]) (c := #[_, _, _, _, _, _, _, _, _, _, _, _, _, _, _, _, _, _, _, _, _, _, _, _]) .none rfl Try.underlying22 el38 rfl rfl rfl (bs38_30a8_1a8_2a8 _ _ _ _ _ _ _ _ _ _ _ _ _ _ _ _ _ _ _ _ _ _ _ _) (IsRow.lit _) (fun b_2 => ?_)
  refine r_freezeB (k := 0) 3 8 rfl rfl (by decide) (fun G_4 hn_5 hs_6 => ?_)
  replace h12 := h12.mono hn_5.le
  replace th12 := th12.mono hn_5.le
  have h16 : SlL G_4 (Value.slice (some ⟨b_2, 0, none⟩) 3 3) 8 cvC d0 [(A6 1, (Value.slice none 0 0)), (B6, Value.slice (some ⟨b_1, 0, none⟩) 2 2), (A6 4, (Value.slice none 0 0))] := SlG.congr hs_6 (fun i hi j hj => by match i, hi with | 0, _ => (match j, hj with | 0, _ => rfl | 1, _ => rfl | 2, _ => rfl | 3, _ => rfl | 4, _ => rfl | 5, _ => rfl | 6, _ => rfl | 7, _ => rfl) | 1, _ => (match j, hj with | 0, _ => rfl | 1, _ => rfl | 2, _ => rfl | 3, _ => rfl | 4, _ => rfl | 5, _ => rfl | 6, _ => rfl | 7, _ => rfl) | 2, _ => (match j, hj with | 0, _ => rfl | 1, _ => rfl | 2, _ => rfl | 3, _ => rfl | 4, _ => rfl | 5, _ => rfl | 6, _ => rfl | 7, _ => rfl))
  have th16 : Cs G_4 (Value.slice (some ⟨b_2, 0, none⟩) 3 3) (L6) := Tr.mk _ h16 (by intro p hm0; simp only [List.mem_cons, List.not_mem_nil, or_false] at hm0; rcases hm0 with rfl | rfl | rfl; exact Tr.nil; exact th12; exact Tr.nil)
  refine r_val .none rfl (p_assign rfl) ?_
  refine r_nil ?_
  refine e_next ?_
  refine c_seq ?_
  refine c_region ?_
  refine r_val .none rfl (p_move rfl) ?_
  refine r_callm (vs := [_]) .none rfl cl13 rfl (fun w hw => c_chains6 _ L6 (by decide) th16 w hw) (fun G_7 v_10 hn_8 hr_9 => ?_)
  replace h12 := h12.mono hn_8.le
  replace th12 := th12.mono hn_8.le
  replace h16 := h16.mono hn_8.le
  replace th16 := th16.mono hn_8.le
  obtain ⟨u_11qs, u_11q, u_11p, u_11l⟩ := hr_9
  have hq5 : u_11qs.length = 5 := by have h := congrArg List.length u_11l; rw [L6_len, List.length_map] at h; exact h.symm
  have hq3 : (u_11qs.getD 2 ([], Value.slice none 0 0)).1.length = 3 := by rw [← mapfst_getD, ← u_11l]; exact L6_len2
  refine r_val .none rfl (p_move rfl) ?_
  refine r_callm (vs := [_]) .none rfl cl17 rfl (fun w hw => c_own6 _ L6 (by decide) th16 w hw) (fun G_12 v_15 hn_13 hr_14 => ?_)
  replace h12 := h12.mono hn_13.le
  replace th12 := th12.mono hn_13.le
  replace h16 := h16.mono hn_13.le
  replace th16 := th16.mono hn_13.le
  replace u_11q := u_11q.mono hn_13.le
  replace u_11p := fun p hm0 => (u_11p p hm0).mono hn_13.le
  have u_16 := hr_14
  rw [L6_own] at u_16
  refine r_val .none rfl (p_move rfl) ?_
  refine r_callm (vs := [_]) .none rfl cl41 rfl (fun w hw => c_bnd _ L6 (by decide) th16 w hw) (fun G_17 v_20 hn_18 hr_19 => ?_)
  replace h12 := h12.mono hn_18.le
  replace th12 := th12.mono hn_18.le
  replace h16 := h16.mono hn_18.le
  replace th16 := th16.mono hn_18.le
  replace u_11q := u_11q.mono hn_18.le
  replace u_11p := fun p hm0 => (u_11p p hm0).mono hn_18.le
  replace u_16 := u_16.mono hn_18.le
  obtain ⟨u_21z, u_21p, u_21s, u_21q⟩ := hr_19
  have hz := L6_bound u_21p u_21s
  subst hz
  refine r_val .none rfl (p_assign rfl) ?_
  refine r_val .none rfl (p_assign rfl) ?_
  refine r_val .none rfl (p_assign rfl) ?_
  refine r_nil ?_
  refine e_next ?_
  refine c_seq ?_
  refine c_region ?_
  refine r_val .none rfl (p_move rfl) ?_
  refine r_val .none rfl (p_leng Try.underlying25 rfl u_11q) ?_
  have bd_22 := (u_11q).bound
  refine r_val .none rfl (p_eq rfl rfl) ?_
  refine r_val .none rfl (p_move rfl) ?_
  refine' r_and (c := 26) (d := 32) [_, _, _, _, _, _] rfl (fun h_23 Q_24 hQ_25 => ?_) (fun h_23 Q_24 hQ_25 => ?_) ?_
  rotate_left 1
  · skip
    replace h_23 := of_decide_eq_true h_23
    refine r_val (.some rfl rfl) rfl (p_move rfl) ?_
    refine r_iaddr_g (i := 2) (.some rfl rfl) rfl Try.underlying25 sz22 rfl u_11q rfl (by first | exact of_decide_eq_true rfl | omega) (fun p_28 o_29 R_27 => ?_)
    have hc_30 := u_11p _ (getD_mem (i := 2) (d := ([], Value.slice none 0 0)) (by omega))
    refine r_val (.some rfl rfl) rfl (p_ldg0 Try.underlying22 rfl rfl R_27 (by first | exact of_decide_eq_true rfl | omega) rfl) ?_
    obtain ⟨ff_35, hf_36⟩ := Tr.slg hc_30
    refine r_val (.some rfl rfl) rfl (p_leng Try.underlying22 rfl hf_36) ?_
    have bd_37 := (hf_36).bound
    refine r_val (.some rfl rfl) rfl (p_eq rfl rfl) ?_
    refine r_val .none rfl (p_pick_t rfl rfl) ?_
    refine r_nil (e_fin (d := 32) hQ_25 rfl (by repeat (first | exact .refl | refine .put rfl ?_ | refine .say rfl ?_ | refine .say2 rfl (by first | assumption | simp_all) ?_)))
  · skip
    repeat (first | refine r_skip rfl (.no rfl rfl) ?_ | refine r_skip rfl (.un rfl rfl) ?_)
    refine r_val (by first | exact .none | exact .some rfl rfl) rfl (p_pick_f rfl rfl) ?_
    refine r_nil (e_fin (d := 32) hQ_25 rfl (by repeat (first | exact .refl | refine .put rfl ?_ | refine .say rfl ?_ | refine .say2 rfl (by first | assumption | simp_all) ?_)))
  refine r_val .none rfl (p_move rfl) ?_
  refine' r_and (c := 33) (d := 37) [_, _, _, _] rfl (fun h_38 Q_39 hQ_40 => ?_) (fun h_38 Q_39 hQ_40 => ?_) ?_
  rotate_left 1
  · skip
    try simp only [norms] at h_38
    refine r_val (.some rfl rfl) rfl (p_move rfl) ?_
    refine r_val (.some rfl rfl) rfl (p_leng Try.underlying32 rfl u_16) ?_
    have bd_42 := (u_16).bound
    refine r_val (.some rfl rfl) rfl (p_eq rfl rfl) ?_
    refine r_val .none rfl (p_pick_t rfl rfl) ?_
    refine r_nil (e_fin (d := 37) hQ_40 rfl (by repeat (first | exact .refl | refine .put rfl ?_ | refine .say rfl ?_ | refine .say2 rfl (by first | assumption | simp_all) ?_)))
  · skip
    repeat (first | refine r_skip rfl (.no rfl rfl) ?_ | refine r_skip rfl (.un rfl rfl) ?_)
    refine r_val (by first | exact .none | exact .some rfl rfl) rfl (p_pick_f rfl rfl) ?_
    refine r_nil (e_fin (d := 37) hQ_40 rfl (by repeat (first | exact .refl | refine .put rfl ?_ | refine .say rfl ?_ | refine .say2 rfl (by first | assumption | simp_all) ?_)))
  refine r_val .none rfl (p_move rfl) ?_
  refine' r_and (c := 38) (d := 43) [_, _, _, _, _] rfl (fun h_43 Q_44 hQ_45 => ?_) (fun h_43 Q_44 hQ_45 => ?_) ?_
  rotate_left 1
  · skip
    try simp only [norms] at h_43
    refine r_val (.some rfl rfl) rfl (p_move rfl) ?_
    refine r_iaddr_g (i := 1) (.some rfl rfl) rfl Try.underlying32 sz3 rfl u_16 rfl (by first | exact of_decide_eq_true rfl | omega) (fun p_48 o_49 R_47 => ?_)
    refine r_val (.some rfl rfl) rfl (p_ldg0 Try.underlying3 rfl rfl R_47 (by first | exact of_decide_eq_true rfl | omega) (rfl : _ = Value.int _ _)) ?_
    refine r_val (.some rfl rfl) rfl (p_eq rfl rfl) ?_
    refine r_val .none rfl (p_pick_t rfl rfl) ?_
    refine r_nil (e_fin (d := 43) hQ_45 rfl (by repeat (first | exact .refl | refine .put rfl ?_ | refine .say rfl ?_ | refine .say2 rfl (by first | assumption | simp_all) ?_)))
  · skip
    repeat (first | refine r_skip rfl (.no rfl rfl) ?_ | refine r_skip rfl (.un rfl rfl) ?_)
    refine r_val (by first | exact .none | exact .some rfl rfl) rfl (p_pick_f rfl rfl) ?_
    refine r_nil (e_fin (d := 43) hQ_45 rfl (by repeat (first | exact .refl | refine .put rfl ?_ | refine .say rfl ?_ | refine .say2 rfl (by first | assumption | simp_all) ?_)))
  refine r_val .none rfl (p_move rfl) ?_
  refine' r_and (c := 44) (d := 49) [_, _, _, _, _] rfl (fun h_50 Q_51 hQ_52 => ?_) (fun h_50 Q_51 hQ_52 => ?_) ?_
  rotate_left 1
  · skip
    try simp only [norms] at h_50
    refine r_val (.some rfl rfl) rfl (p_move rfl) ?_
    refine r_iaddr_g (i := 2) (.some rfl rfl) rfl Try.underlying32 sz3 rfl u_16 rfl (by first | exact of_decide_eq_true rfl | omega) (fun p_55 o_56 R_54 => ?_)
    refine r_val (.some rfl rfl) rfl (p_ldg0 Try.underlying3 rfl rfl R_54 (by first | exact of_decide_eq_true rfl | omega) (rfl : _ = Value.int _ _)) ?_
    refine r_val (.some rfl rfl) rfl (p_eq rfl rfl) ?_
    refine r_val .none rfl (p_pick_t rfl rfl) ?_
    refine r_nil (e_fin (d := 49) hQ_52 rfl (by repeat (first | exact .refl | refine .put rfl ?_ | refine .say rfl ?_ | refine .say2 rfl (by first | assumption | simp_all) ?_)))
  · skip
    repeat (first | refine r_skip rfl (.no rfl rfl) ?_ | refine r_skip rfl (.un rfl rfl) ?_)
    refine r_val (by first | exact .none | exact .some rfl rfl) rfl (p_pick_f rfl rfl) ?_
    refine r_nil (e_fin (d := 49) hQ_52 rfl (by repeat (first | exact .refl | refine .put rfl ?_ | refine .say rfl ?_ | refine .say2 rfl (by first | assumption | simp_all) ?_)))
  refine r_val .none rfl (p_move rfl) ?_
  refine' r_and (c := 50) (d := 54) [_, _, _, _] rfl (fun h_57 Q_58 hQ_59 => ?_) (fun h_57 Q_58 hQ_59 => ?_) ?_
  rotate_left 1
  · skip
    try simp only [norms] at h_57
    refine r_val (.some rfl rfl) rfl (p_move rfl) ?_
    refine r_val (.some rfl rfl) rfl (p_leng Try.underlying81 rfl u_21q) ?_
    have bd_61 := (u_21q).bound
    refine r_val (.some rfl rfl) rfl (p_eq rfl rfl) ?_
    refine r_val .none rfl (p_pick_t rfl rfl) ?_
    refine r_nil (e_fin (d := 54) hQ_59 rfl (by repeat (first | exact .refl | refine .put rfl ?_ | refine .say rfl ?_ | refine .say2 rfl (by first | assumption | simp_all) ?_)))
  · skip
    repeat (first | refine r_skip rfl (.no rfl rfl) ?_ | refine r_skip rfl (.un rfl rfl) ?_)
    refine r_val (by first | exact .none | exact .some rfl rfl) rfl (p_pick_f rfl rfl) ?_
    refine r_nil (e_fin (d := 54) hQ_59 rfl (by repeat (first | exact .refl | refine .put rfl ?_ | refine .say rfl ?_ | refine .say2 rfl (by first | assumption | simp_all) ?_)))
  refine r_val .none rfl (p_move rfl) ?_
  refine' r_and (c := 55) (d := 61) [_, _, _, _, _, _] rfl (fun h_62 Q_63 hQ_64 => ?_) (fun h_62 Q_63 hQ_64 => ?_) ?_
  rotate_left 1
  · skip
    try simp only [norms] at h_62
    refine r_val (.some rfl rfl) rfl (p_move rfl) ?_
    refine r_iaddr_g (i := 1) (.some rfl rfl) rfl Try.underlying81 sz84 rfl u_21q rfl (by first | exact of_decide_eq_true rfl | omega) (fun p_67 o_68 R_66 => ?_)
    refine r_val (.some rfl rfl) rfl (p_ldga0 Try.underlying84 rfl sz84 rfl R_66 (by first | exact of_decide_eq_true rfl | omega) (rfl : _ = Value.agg #[_, _, _])) ?_
    refine r_val (.some rfl rfl) rfl (p_build (vs := [(0, Value.int _ _), (1, Value.int _ _), (2, Value.int _ _)]) rfl (bl84_0i1_1i1_2i1 _ _ _)) ?_
    refine r_val (.some rfl rfl) rfl (p_eqa rfl rfl (eq_flat Try.underlying84 rfl lf84 ef84 eg84 (.cons (.int Try.underlying3) (.cons (.int Try.underlying3) (.cons (.int Try.underlying3) (.nil)))) (.cons (.int Try.underlying3) (.cons (.int Try.underlying3) (.cons (.int Try.underlying3) (.nil)))))) ?_
    refine r_val .none rfl (p_pick_t rfl rfl) ?_
    refine r_nil (e_fin (d := 61) hQ_64 rfl (by repeat (first | exact .refl | refine .put rfl ?_ | refine .say rfl ?_ | refine .say2 rfl (by first | assumption | simp_all) ?_)))
  · skip
    repeat (first | refine r_skip rfl (.no rfl rfl) ?_ | refine r_skip rfl (.un rfl rfl) ?_)
    refine r_val (by first | exact .none | exact .some rfl rfl) rfl (p_pick_f rfl rfl) ?_
    refine r_nil (e_fin (d := 61) hQ_64 rfl (by repeat (first | exact .refl | refine .put rfl ?_ | refine .say rfl ?_ | refine .say2 rfl (by first | assumption | simp_all) ?_)))
  refine r_val .none rfl (p_assign rfl) ?_
  refine r_nil ?_
  refine e_next ?_
  refine c_ret ?_
  refine e_ret1 Try.results12 (.tmp rfl .nil) (fun w hm => ⟨?_, hm.since⟩)
  exact congrArg Value.bool (by rw [hq5, hq3]; decide +kernel)
end Go.Proofs.Ytoflaphnlfggkaa
