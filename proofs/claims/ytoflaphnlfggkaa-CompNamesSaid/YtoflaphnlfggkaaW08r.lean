/- Walks: what Go functions of this chapter come to, each as a function on plain data; no condition but those that each theorem names. Printed by a program of this work (gen.py). -/
import Derived.Test.YtoflaphnlfggkaaW08q
import Derived.Test.YtoflaphnlfggkaaRows
namespace Go.Proofs.Ytoflaphnlfggkaa
open Go.Gx Go.Gx.T4 Go.Gx.T3 Go.Gx.T6 Go.Gx.T8 Go.Gx.T4 Go.Gx.T3 Go.Gx.T8 Go.Gx.T4 Go.Gx.T3 Go.Gx.T8 Go.Gx.T6 Go.Gx.T4 Go.Gx.T3
theorem sz50 : SzIs Try.prog 50 1 := by
  unfold SzIs
  kernel_rfl
theorem lf61 : leafT Try.prog 9 61 = some [3, 3, 3] := by
  kernel_rfl
theorem ef61 : eqT Try.prog 9 61 = true := by
  kernel_rfl
theorem lf92 : leafT Try.prog 9 92 = some [3, 3, 3] := by
  kernel_rfl
theorem ef92 : eqT Try.prog 9 92 = true := by
  kernel_rfl
theorem eg61 : Try.prog.eqGuardType Try.prog.depth 61 = false := by
  kernel_rfl
theorem eg92 : Try.prog.eqGuardType Try.prog.depth 92 = false := by
  kernel_rfl
theorem cl24 : Callable Try.prog 24 := callable Try.func24 (by kernel_rfl) rfl
theorem cl29 : Callable Try.prog 29 := callable Try.func29 (by kernel_rfl) rfl
theorem cl50 : Callable Try.prog 50 := callable Try.func50 (by kernel_rfl) rfl
theorem cl51 : Callable Try.prog 51 := callable Try.func51 (by kernel_rfl) rfl
theorem bl61_0i1_1i1_2i1 (x0 : Int) (x1 : Int) (x2 : Int) : Program.built Try.prog 61 [(0, Value.int .i64 x0), (1, Value.int .i64 x1), (2, Value.int .i64 x2)] = some #[Value.int .i64 x0, Value.int .i64 x1, Value.int .i64 x2] := by
  kernel_rfl
def CsameIs (n : Nat) : Prop := ∀ (c c2 : ST) (ta sb ta2 sb2 : Value) (G : Ghost) (w : World), SizeOf.sizeOf c ≤ n → SlL G ta 3 tC t0 c.h.ts → Ss G sb c.subs → SlL G ta2 3 tC t0 c2.h.ts → Ss G sb2 c2.subs → Has G w → Calls Try.prog 29 #[Value.agg #[Value.int .i64 c.h.k, Value.int .i64 c.h.k0, Value.int .i64 c.h.k1, Value.int .i64 c.h.k2, ta, sb], Value.agg #[Value.int .i64 c2.h.k, Value.int .i64 c2.h.k0, Value.int .i64 c2.h.k1, Value.int .i64 c2.h.k2, ta2, sb2]] w (Ret fun r w' => r = Value.bool (seq c c2) ∧ Since nX w w')
theorem c_awake8   (w : World)  :
    Calls Try.prog 20 #[] w (Ret fun r w' => r = Value.bool true ∧ Since nX w w') := by
  refine enter (args := []) (X := nX) (G := (fun _ => none)) (l := []) Try.func20 rfl Try.ntmps20 (fun _ _ h => by cases h) trivial (Nat.le_of_ble_eq_true rfl) ?_
  refine c_seq ?_
  refine c_region ?_
  refine r_val .none rfl (p_assign rfl) ?_
  refine r_nil ?_
  refine e_next ?_
  refine c_seq ?_
  refine c_region ?_
  refine r_val .none rfl (p_build (vs := [(0, Value.bool _), (1, Value.int _ _)]) rfl (bl35_0b1_1i1 _ _)) ?_
  refine r_val .none rfl (p_build (vs := [(0, Value.bool _), (1, Value.int _ _)]) rfl (bl35_0b1_1i1 _ _)) ?_
  refine r_val .none rfl (p_build (vs := [(1, Value.int _ _)]) rfl (bl35_1i1 _)) ?_
  refine r_alloc .none rfl zr35 (IsRow.lit _) (fun b_1 => ?_)
  refine r_alloc .none rfl zr35 (IsRow.lit _) (fun b_2 => ?_)
  refine r_alloc .none rfl zr35 (IsRow.lit _) (fun b_3 => ?_)
  refine r_stw (k := 2) .none sz35 rfl rfl (IsRow.lit _) (one_lit rfl rfl) rfl ?_
  refine r_stw (k := 1) .none sz35 rfl rfl (IsRow.lit _) (one_lit rfl rfl) rfl ?_
  refine r_stw (k := 0) .none sz35 rfl rfl (IsRow.lit _) (one_lit rfl rfl) rfl ?_
  refine r_nil ?_
  refine e_next ?_
  refine c_seq ?_
  refine c_region ?_
  refine r_val .none rfl (p_ldw (k := 2) Try.underlying35 rfl sz35 rfl rfl (rfl : _ = Value.agg #[_, _])) ?_
  refine r_val .none rfl (p_ldw (k := 0) Try.underlying35 rfl sz35 rfl rfl (rfl : _ = Value.agg #[_, _])) ?_
  refine r_val .none rfl (p_ldw (k := 1) Try.underlying35 rfl sz35 rfl rfl (rfl : _ = Value.agg #[_, _])) ?_
  refine r_val .none rfl (p_build (vs := [(0, Value.agg #[_, _]), (1, Value.agg #[_, _]), (2, Value.agg #[_, _])]) rfl (bl36_0a2_1a2_2a2 _ _ _ _ _ _)) ?_
  refine r_val .none rfl (p_build (vs := [(0, Value.int _ _), (1, Value.agg #[_, _, _, _, _, _])]) rfl (bl38_0i1_1a6 _ _ _ _ _ _ _)) ?_
  refine r_val .none rfl (p_ldw (k := 1) Try.underlying35 rfl sz35 rfl rfl (rfl : _ = Value.agg #[_, _])) ?_
  refine r_val .none rfl (p_ldw (k := 0) Try.underlying35 rfl sz35 rfl rfl (rfl : _ = Value.agg #[_, _])) ?_
  refine r_val .none rfl (p_ldw (k := 2) Try.underlying35 rfl sz35 rfl rfl (rfl : _ = Value.agg #[_, _])) ?_
  refine r_val .none rfl (p_build (vs := [(0, Value.agg #[_, _]), (1, Value.agg #[_, _]), (2, Value.agg #[_, _])]) rfl (bl36_0a2_1a2_2a2 _ _ _ _ _ _)) ?_
  refine r_val .none rfl (p_build (vs := [(0, Value.int _ _), (1, Value.agg #[_, _, _, _, _, _])]) rfl (bl38_0i1_1a6 _ _ _ _ _ _ _)) ?_
  refine r_bslice (vs := [(0, Value.agg #[_, _, _, _, _, _, _, _]), (1, Value.agg #[_, _, _, _, _, _, _, _])]) (c := #[_, _, _, _, _, _, _, _, _, _, _, _, _, _, _, _]) .none rfl Try.underlying22 el38 rfl rfl rfl (bs38_20a8_1a8 _ _ _ _ _ _ _ _ _ _ _ _ _ _ _ _) (IsRow.lit _) (fun b_4 => ?_)
  refine r_freezeB (k := 0) 2 8 rfl rfl (by decide) (fun G_1 hn_2 hs_3 => ?_)
  have h18 : SlL G_1 (Value.slice (some ⟨b_4, 0, none⟩) 2 2) 8 cvC d0 [(.mk ⟨1, true, 1, false, 4, true, 2⟩ [], (Value.slice none 0 0)), (.mk ⟨1, true, 2, false, 4, true, 1⟩ [], (Value.slice none 0 0))] := SlG.congr hs_3 (fun i hi j hj => by match i, hi with | 0, _ => (match j, hj with | 0, _ => rfl | 1, _ => rfl | 2, _ => rfl | 3, _ => rfl | 4, _ => rfl | 5, _ => rfl | 6, _ => rfl | 7, _ => rfl) | 1, _ => (match j, hj with | 0, _ => rfl | 1, _ => rfl | 2, _ => rfl | 3, _ => rfl | 4, _ => rfl | 5, _ => rfl | 6, _ => rfl | 7, _ => rfl))
  have th18 : Cs G_1 (Value.slice (some ⟨b_4, 0, none⟩) 2 2) (L8) := Tr.mk _ h18 (by intro p hm0; simp only [List.mem_cons, List.not_mem_nil, or_false] at hm0; rcases hm0 with rfl | rfl; exact Tr.nil; exact Tr.nil)
  refine r_callf (vs := [_]) .none rfl cl24 rfl (fun _ _ _ hle hz => hz.mono hle) (fun w hw => c_ccomp _ L8 (by decide) th18 w hw) (fun G_4 v_7 hn_5 hr_6 => ?_)
  replace h18 := h18.mono hn_5.le
  replace th18 := th18.mono hn_5.le
  have u_8 := (hr_6).mono (fr_le _ _)
  obtain ⟨qs, hq, hqt, hqs, hql⟩ := (u_8).inv
  obtain ⟨a0, b0, a1, b1, rfl⟩ := L8_open hql
  have ht0 : SlL _ a0 3 tC t0 [] := hqt (S80, a0, b0) (by simp)
  have ht1 : SlL _ a1 3 tC t0 [(0, 0, 2), (2, 0, 0)] := hqt (S81, a1, b1) (by simp)
  refine r_val .none rfl (p_assign rfl) ?_
  refine r_nil ?_
  refine e_next ?_
  refine c_seq ?_
  refine c_region ?_
  refine r_val .none rfl (p_move rfl) ?_
  refine r_val .none rfl (p_leng Try.underlying50 rfl hq) ?_
  have bd_9 := (hq).bound
  refine r_val .none rfl (p_eq rfl rfl) ?_
  refine r_val .none rfl (p_move rfl) ?_
  refine' r_and (c := 23) (d := 30) [_, _, _, _, _, _, _] rfl (fun h_10 Q_11 hQ_12 => ?_) (fun h_10 Q_11 hQ_12 => ?_) ?_
  rotate_left 1
  · skip
    replace h_10 := of_decide_eq_true h_10
    refine r_val (.some rfl rfl) rfl (p_move rfl) ?_
    refine r_iaddr_g (i := 1) (.some rfl rfl) rfl Try.underlying50 sz64 rfl hq rfl (by first | exact of_decide_eq_true rfl | omega) (fun p_15 o_16 R_14 => ?_)
    refine r_val (.some rfl rfl) rfl (p_field Try.underlying64 rfl sz61 rfl) ?_
    refine r_val (.some rfl rfl) rfl (p_ldga (j := 1) Try.underlying61 rfl sz61 rfl R_14 (by first | exact of_decide_eq_true rfl | omega) (rfl : _ = Value.agg #[_, _, _])) ?_
    refine r_val (.some rfl rfl) rfl (p_build (vs := [(0, Value.int _ _), (1, Value.int _ _), (2, Value.int _ _)]) rfl (bl61_0i1_1i1_2i1 _ _ _)) ?_
    refine r_val (.some rfl rfl) rfl (p_eqa rfl rfl (eq_flat Try.underlying61 rfl lf61 ef61 eg61 (.cons (.int Try.underlying3) (.cons (.int Try.underlying3) (.cons (.int Try.underlying3) (.nil)))) (.cons (.int Try.underlying3) (.cons (.int Try.underlying3) (.cons (.int Try.underlying3) (.nil)))))) ?_
    refine r_val .none rfl (p_pick_t rfl rfl) ?_
    refine r_nil (e_fin (d := 30) hQ_12 rfl (by repeat (first | exact .refl | refine .put rfl ?_ | refine .say rfl ?_ | refine .say2 rfl (by first | assumption | simp_all) ?_)))
  · skip
    repeat (first | refine r_skip rfl (.no rfl rfl) ?_ | refine r_skip rfl (.un rfl rfl) ?_)
    refine r_val (by first | exact .none | exact .some rfl rfl) rfl (p_pick_f rfl rfl) ?_
    refine r_nil (e_fin (d := 30) hQ_12 rfl (by repeat (first | exact .refl | refine .put rfl ?_ | refine .say rfl ?_ | refine .say2 rfl (by first | assumption | simp_all) ?_)))
  refine r_val .none rfl (p_move rfl) ?_
  refine' r_and (c := 31) (d := 38) [_, _, _, _, _, _, _] rfl (fun h_17 Q_18 hQ_19 => ?_) (fun h_17 Q_18 hQ_19 => ?_) ?_
  rotate_left 1
  · skip
    try simp only [norms] at h_17
    refine r_val (.some rfl rfl) rfl (p_move rfl) ?_
    refine r_iaddr_g (i := 0) (.some rfl rfl) rfl Try.underlying50 sz64 rfl hq rfl (by first | exact of_decide_eq_true rfl | omega) (fun p_22 o_23 R_21 => ?_)
    refine r_val (.some rfl rfl) rfl (p_field Try.underlying64 rfl sz62 rfl) ?_
    refine r_val (.some rfl rfl) rfl (p_ldg (j := 4) Try.underlying62 rfl rfl R_21 (by first | exact of_decide_eq_true rfl | omega) rfl) ?_
    refine r_val (.some rfl rfl) rfl (p_leng Try.underlying62 rfl ht0) ?_
    have bd_24 := (ht0).bound
    refine r_val (.some rfl rfl) rfl (p_eq rfl rfl) ?_
    refine r_val .none rfl (p_pick_t rfl rfl) ?_
    refine r_nil (e_fin (d := 38) hQ_19 rfl (by repeat (first | exact .refl | refine .put rfl ?_ | refine .say rfl ?_ | refine .say2 rfl (by first | assumption | simp_all) ?_)))
  · skip
    repeat (first | refine r_skip rfl (.no rfl rfl) ?_ | refine r_skip rfl (.un rfl rfl) ?_)
    refine r_val (by first | exact .none | exact .some rfl rfl) rfl (p_pick_f rfl rfl) ?_
    refine r_nil (e_fin (d := 38) hQ_19 rfl (by repeat (first | exact .refl | refine .put rfl ?_ | refine .say rfl ?_ | refine .say2 rfl (by first | assumption | simp_all) ?_)))
  refine r_val .none rfl (p_move rfl) ?_
  refine' r_and (c := 39) (d := 46) [_, _, _, _, _, _, _] rfl (fun h_25 Q_26 hQ_27 => ?_) (fun h_25 Q_26 hQ_27 => ?_) ?_
  rotate_left 1
  · skip
    try simp only [norms] at h_25
    refine r_val (.some rfl rfl) rfl (p_move rfl) ?_
    refine r_iaddr_g (i := 1) (.some rfl rfl) rfl Try.underlying50 sz64 rfl hq rfl (by first | exact of_decide_eq_true rfl | omega) (fun p_30 o_31 R_29 => ?_)
    refine r_val (.some rfl rfl) rfl (p_field Try.underlying64 rfl sz62 rfl) ?_
    refine r_val (.some rfl rfl) rfl (p_ldg (j := 4) Try.underlying62 rfl rfl R_29 (by first | exact of_decide_eq_true rfl | omega) rfl) ?_
    refine r_val (.some rfl rfl) rfl (p_leng Try.underlying62 rfl ht1) ?_
    have bd_32 := (ht1).bound
    refine r_val (.some rfl rfl) rfl (p_eq rfl rfl) ?_
    refine r_val .none rfl (p_pick_t rfl rfl) ?_
    refine r_nil (e_fin (d := 46) hQ_27 rfl (by repeat (first | exact .refl | refine .put rfl ?_ | refine .say rfl ?_ | refine .say2 rfl (by first | assumption | simp_all) ?_)))
  · skip
    repeat (first | refine r_skip rfl (.no rfl rfl) ?_ | refine r_skip rfl (.un rfl rfl) ?_)
    refine r_val (by first | exact .none | exact .some rfl rfl) rfl (p_pick_f rfl rfl) ?_
    refine r_nil (e_fin (d := 46) hQ_27 rfl (by repeat (first | exact .refl | refine .put rfl ?_ | refine .say rfl ?_ | refine .say2 rfl (by first | assumption | simp_all) ?_)))
  refine r_val .none rfl (p_move rfl) ?_
  refine' r_and (c := 47) (d := 56) [_, _, _, _, _, _, _, _, _] rfl (fun h_33 Q_34 hQ_35 => ?_) (fun h_33 Q_34 hQ_35 => ?_) ?_
  rotate_left 1
  · skip
    try simp only [norms] at h_33
    refine r_val (.some rfl rfl) rfl (p_move rfl) ?_
    refine r_iaddr_g (i := 1) (.some rfl rfl) rfl Try.underlying50 sz64 rfl hq rfl (by first | exact of_decide_eq_true rfl | omega) (fun p_38 o_39 R_37 => ?_)
    refine r_val (.some rfl rfl) rfl (p_field Try.underlying64 rfl sz62 rfl) ?_
    refine r_val (.some rfl rfl) rfl (p_ldg (j := 4) Try.underlying62 rfl rfl R_37 (by first | exact of_decide_eq_true rfl | omega) rfl) ?_
    refine r_iaddr_g (i := 1) (.some rfl rfl) rfl Try.underlying62 sz92 rfl ht1 rfl (by first | exact of_decide_eq_true rfl | omega) (fun p_41 o_42 R_40 => ?_)
    refine r_val (.some rfl rfl) rfl (p_ldga0 Try.underlying92 rfl sz92 rfl R_40 (by first | exact of_decide_eq_true rfl | omega) (rfl : _ = Value.agg #[_, _, _])) ?_
    refine r_val (.some rfl rfl) rfl (p_build (vs := [(0, Value.int _ _), (1, Value.int _ _), (2, Value.int _ _)]) rfl (bl92_0i1_1i1_2i1 _ _ _)) ?_
    refine r_val (.some rfl rfl) rfl (p_eqa rfl rfl (eq_flat Try.underlying92 rfl lf92 ef92 eg92 (.cons (.int Try.underlying3) (.cons (.int Try.underlying3) (.cons (.int Try.underlying3) (.nil)))) (.cons (.int Try.underlying3) (.cons (.int Try.underlying3) (.cons (.int Try.underlying3) (.nil)))))) ?_
    refine r_val .none rfl (p_pick_t rfl rfl) ?_
    refine r_nil (e_fin (d := 56) hQ_35 rfl (by repeat (first | exact .refl | refine .put rfl ?_ | refine .say rfl ?_ | refine .say2 rfl (by first | assumption | simp_all) ?_)))
  · skip
    repeat (first | refine r_skip rfl (.no rfl rfl) ?_ | refine r_skip rfl (.un rfl rfl) ?_)
    refine r_val (by first | exact .none | exact .some rfl rfl) rfl (p_pick_f rfl rfl) ?_
    refine r_nil (e_fin (d := 56) hQ_35 rfl (by repeat (first | exact .refl | refine .put rfl ?_ | refine .say rfl ?_ | refine .say2 rfl (by first | assumption | simp_all) ?_)))
  refine r_val .none rfl (p_assign rfl) ?_
  refine r_nil ?_
  refine e_next ?_
  refine c_ret ?_
  refine e_ret1 Try.results20 (.tmp rfl .nil) (fun w hm => ⟨?_, hm.since⟩)
  exact congrArg Value.bool (by rfl)
theorem c_eqT (v v2 : Value) (a b : List TD) {G : Ghost} (hr : SlL G v 3 tC t0 a) (hr2 : SlL G v2 3 tC t0 b) (w : World) (hG : Has G w) :
    Calls Try.prog 50 #[v, v2] w (Ret fun r w' => r = Value.bool (decide (a = b)) ∧ Since nX w w') := by
  refine enter (args := [_, _]) (X := nX) (G := G) (l := [(0, v), (1, v2)]) Try.func50 rfl Try.ntmps50 hG ⟨rfl, rfl, trivial⟩ (Nat.le_of_ble_eq_true rfl) ?_
  have hbd := hr.bound
  have hbd2 := hr2.bound
  refine c_seq ?_
  refine c_region ?_
  refine r_val .none rfl (p_assign rfl) ?_
  refine r_nil ?_
  refine e_next ?_
  refine c_seq ?_
  refine c_seq ?_
  refine c_region ?_
  refine r_val .none rfl (p_move rfl) ?_
  refine r_val .none rfl (p_leng Try.underlying62 rfl hr) ?_
  have bd_1 := (hr).bound
  refine r_val .none rfl (p_move rfl) ?_
  refine r_val .none rfl (p_leng Try.underlying62 rfl hr2) ?_
  have bd_2 := (hr2).bound
  refine r_val .none rfl (p_ne rfl rfl) ?_
  refine r_nil ?_
  refine e_next ?_
  refine c_splitd (d := 10) rfl (fun h_3 => ?_) (fun h_3 => ?_)
  · skip
    first
      | (exfalso; omega)
      | (
        refine c_cond_t rfl ?_
        refine c_seq ?_
        refine c_region ?_
        refine r_val .none rfl (p_assign rfl) ?_
        refine r_nil ?_
        refine e_next ?_
        refine c_ret ?_
        refine e_ret_then ?_
        refine e_ret1 Try.results50 (.tmp rfl .nil) (fun w hm => ⟨?_, hm.since⟩)
        first
        | exact congrArg Value.bool (decide_eq_false (ne_of_len (by omega))).symm
        | exact congrArg Value.bool (decide_eq_false (ne_of_get hE)).symm
        | (have hk := hphi.2.2; rw [List.take_of_length_le (by omega), List.take_of_length_le (by omega)] at hk; exact congrArg Value.bool (decide_eq_true hk).symm)
        )
  · skip
    first
      | (exfalso; omega)
      | (
        refine c_cond_f rfl ?_
        refine c_skip ?_
        refine e_next ?_
        refine c_seq ?_
        refine c_seq ?_
        refine c_region ?_
        refine r_val .none rfl (p_move rfl) ?_
        refine r_val .none rfl (p_leng Try.underlying62 rfl hr) ?_
        have bd_4 := (hr).bound
        refine r_val .none rfl (p_move rfl) ?_
        refine r_nil ?_
        refine e_next ?_
        refine c_block ?_
        refine c_name (d := 0) rfl (fun u_5 hu_5 => ?_)
        refine c_name (d := 1) rfl (fun u_6 hu_6 => ?_)
        refine c_name (d := 12) rfl (fun u_7 hu_7 => ?_)
        refine c_loop (σ := Nat) (fun k => [(13, Value.int .i64 (k : Nat)), (0, u_5), (1, u_6), (12, u_7)]) (fun k => []) (fun _ => _) (fun k => k ≤ a.length ∧ a.length = b.length ∧ a.take k = b.take k) (fun k => a.length - k) (0) ⟨Nat.zero_le _, by omega, rfl⟩ rfl ⟨rfl, rfl, rfl, rfl, trivial⟩ (.nil) (fun k hphi => ?_)
        subst hu_5
        subst hu_6
        subst hu_7
        refine c_seq ?_
        refine c_region ?_
        refine r_val .none rfl (p_lt rfl rfl) ?_
        refine r_nil ?_
        refine e_next ?_
        refine c_seq ?_
        refine c_splitd (d := 14) rfl (fun h_8 => ?_) (fun h_8 => ?_)
        · skip
          first
            | (exfalso; omega)
            | (
              refine c_cond_t rfl ?_
              refine c_skip ?_
              refine e_next ?_
              refine c_seq ?_
              refine c_block ?_
              refine c_seq ?_
              refine c_region ?_
              refine r_val .none rfl (p_move rfl) ?_
              refine r_val .none rfl (p_assign rfl) ?_
              refine r_nil ?_
              refine e_next ?_
              refine c_seq ?_
              refine c_region_q mixed (by kernel_rfl) ?_
              refine q_val .none rfl (p_move rfl) ?_
              refine q_val .none rfl (p_move rfl) ?_
              refine q_iaddr_g .none rfl Try.underlying62 sz92 rfl hr rfl (by first | exact of_decide_eq_true rfl | omega) (fun p_10 o_11 R_9 => ?_)
              refine q_val .none rfl (p_ldga0 Try.underlying92 rfl sz92 rfl R_9 (by first | exact of_decide_eq_true rfl | omega) (rfl : _ = Value.agg #[_, _, _])) ?_
              refine q_val .none rfl (p_move rfl) ?_
              refine q_val .none rfl (p_move rfl) ?_
              refine q_iaddr_g .none rfl Try.underlying62 sz92 rfl hr2 rfl (by first | exact of_decide_eq_true rfl | omega) (fun p_13 o_14 R_12 => ?_)
              refine q_val .none rfl (p_ldga0 Try.underlying92 rfl sz92 rfl R_12 (by first | exact of_decide_eq_true rfl | omega) (rfl : _ = Value.agg #[_, _, _])) ?_
              refine q_val .none rfl (p_nea rfl rfl (eq_flat Try.underlying92 rfl lf92 ef92 eg92 (.cons (.int Try.underlying3) (.cons (.int Try.underlying3) (.cons (.int Try.underlying3) (.nil)))) (.cons (.int Try.underlying3) (.cons (.int Try.underlying3) (.cons (.int Try.underlying3) (.nil)))))) ?_
              refine q_nil ?_
              refine e_next ?_
              refine c_splitn (d := 24) rfl (fun h_15 => ?_) (fun h_15 => ?_)
              · skip
                have hE : a.getD k t0 ≠ b.getD k t0 := of_decide_eq_false ((tC_eq _ _).symm.trans h_15)
                first
                  | (exfalso; omega)
                  | (
                    refine c_cond_t rfl ?_
                    refine c_seq ?_
                    refine c_region ?_
                    refine r_val .none rfl (p_assign rfl) ?_
                    refine r_nil ?_
                    refine e_next ?_
                    refine c_ret ?_
                    refine e_ret_block ?_
                    refine e_ret_then ?_
                    refine e_ret_then ?_
                    refine e_ret_block ?_
                    refine e_ret_then ?_
                    refine e_ret1 Try.results50 (.tmp rfl .nil) (fun w hm => ⟨?_, hm.since⟩)
                    first
                    | exact congrArg Value.bool (decide_eq_false (ne_of_len (by omega))).symm
                    | exact congrArg Value.bool (decide_eq_false (ne_of_get hE)).symm
                    | (have hk := hphi.2.2; rw [List.take_of_length_le (by omega), List.take_of_length_le (by omega)] at hk; exact congrArg Value.bool (decide_eq_true hk).symm)
                    )
              · skip
                have hE : a.getD k t0 = b.getD k t0 := of_decide_eq_true ((tC_eq _ _).symm.trans h_15)
                first
                  | (exfalso; omega)
                  | (
                    refine c_cond_f rfl ?_
                    refine c_skip ?_
                    refine e_norm_block ?_
                    refine e_next ?_
                    refine c_region ?_
                    refine r_val .none rfl (p_add rfl rfl (by omega)) ?_
                    refine r_val .none rfl (p_move rfl) ?_
                    refine r_nil ?_
                    refine e_round (k + 1) ⟨⟨by omega, hphi.2.1, take_eq_succ (d := t0) (by omega) (by omega) hphi.2.2 hE⟩, by omega⟩ rfl ⟨rfl, rfl, rfl, rfl, trivial⟩ (.nil)
                    )
              )
        · skip
          first
            | (exfalso; omega)
            | (
              refine c_cond_f rfl ?_
              refine c_exit ?_
              refine e_exit_then ?_
              refine e_exit_then ?_
              refine e_exit_block ?_
              refine e_next ?_
              refine c_seq ?_
              refine c_region ?_
              refine r_val .none rfl (p_assign rfl) ?_
              refine r_nil ?_
              refine e_next ?_
              refine c_ret ?_
              refine e_ret1 Try.results50 (.tmp rfl .nil) (fun w hm => ⟨?_, hm.since⟩)
              first
              | exact congrArg Value.bool (decide_eq_false (ne_of_len (by omega))).symm
              | exact congrArg Value.bool (decide_eq_false (ne_of_get hE)).symm
              | (have hk := hphi.2.2; rw [List.take_of_length_le (by omega), List.take_of_length_le (by omega)] at hk; exact congrArg Value.bool (decide_eq_true hk).symm)
              )
        )
theorem c_eqfS (n : Nat) (ih : CsameIs n) (v v2 : Value) (l l2 : List ST) {G : Ghost} (hz : ∀ x ∈ l, SizeOf.sizeOf x ≤ n) (hs : Ss G v l) (hs2 : Ss G v2 l2) (w : World) (hG : Has G w) :
    Calls Try.prog 51 #[v, v2, Value.func (.func 29) #[] #[]] w (Ret fun r w' => r = Value.bool (seqL l l2) ∧ Since nX w w') := by
  refine enter (args := [_, _, _]) (X := nX) (G := G) (l := [(0, v), (1, v2), (2, Value.func (.func 29) #[] #[])]) Try.func51 rfl Try.ntmps51 hG ⟨rfl, rfl, rfl, trivial⟩ (Nat.le_of_ble_eq_true rfl) ?_
  obtain ⟨rs, hr, hrt, hrs, hl⟩ := hs.inv
  obtain ⟨rs2, hr2, hrt2, hrs2, hl2⟩ := hs2.inv
  have hbd := hr.bound
  have hbd2 := hr2.bound
  refine c_seq ?_
  refine c_region ?_
  refine r_val .none rfl (p_assign rfl) ?_
  refine r_nil ?_
  refine e_next ?_
  refine c_seq ?_
  refine c_seq ?_
  refine c_region ?_
  refine r_val .none rfl (p_move rfl) ?_
  refine r_val .none rfl (p_leng Try.underlying50 rfl hr) ?_
  have bd_1 := (hr).bound
  refine r_val .none rfl (p_move rfl) ?_
  refine r_val .none rfl (p_leng Try.underlying50 rfl hr2) ?_
  have bd_2 := (hr2).bound
  refine r_val .none rfl (p_ne rfl rfl) ?_
  refine r_nil ?_
  refine e_next ?_
  refine c_splitd (d := 14) rfl (fun h_3 => ?_) (fun h_3 => ?_)
  · skip
    first
      | (exfalso; omega)
      | (
        refine c_cond_t rfl ?_
        refine c_seq ?_
        refine c_region ?_
        refine r_val .none rfl (p_assign rfl) ?_
        refine r_nil ?_
        refine e_next ?_
        refine c_ret ?_
        refine e_ret_then ?_
        refine e_ret1 Try.results51 (.tmp rfl .nil) (fun w hm => ⟨?_, hm.since⟩)
        first
        | (rw [hl, hl2, seqL_len (by simp; omega)])
        | (rw [hl, hl2, ← hphi.2.2, seqL_no (by omega) (by omega) hE])
        | (rw [hl, hl2, ← hphi.2.2, List.drop_eq_nil_of_le (by simp; omega), List.drop_eq_nil_of_le (by simp; omega)]; rfl)
        )
  · skip
    first
      | (exfalso; omega)
      | (
        refine c_cond_f rfl ?_
        refine c_skip ?_
        refine e_next ?_
        refine c_seq ?_
        refine c_seq ?_
        refine c_region ?_
        refine r_val .none rfl (p_move rfl) ?_
        refine r_val .none rfl (p_leng Try.underlying50 rfl hr) ?_
        have bd_4 := (hr).bound
        refine r_val .none rfl (p_move rfl) ?_
        refine r_nil ?_
        refine e_next ?_
        refine c_block ?_
        refine c_name (d := 1) rfl (fun u_5 hu_5 => ?_)
        refine c_name (d := 2) rfl (fun u_6 hu_6 => ?_)
        refine c_name (d := 15) rfl (fun u_7 hu_7 => ?_)
        refine c_name (d := 16) rfl (fun u_8 hu_8 => ?_)
        refine c_loop (σ := Nat) (fun k => [(17, Value.int .i64 (k : Nat)), (1, u_5), (2, u_6), (15, u_7), (16, u_8)]) (fun k => []) (fun _ => _) (fun k => k ≤ rs.length ∧ rs.length = rs2.length ∧ seqL ((rs.map Prod.fst).drop k) ((rs2.map Prod.fst).drop k) = seqL (rs.map Prod.fst) (rs2.map Prod.fst)) (fun k => rs.length - k) (0) ⟨Nat.zero_le _, by omega, rfl⟩ rfl ⟨rfl, rfl, rfl, rfl, rfl, trivial⟩ (.nil) (fun k hphi => ?_)
        subst hu_5
        subst hu_6
        subst hu_7
        subst hu_8
        refine c_seq ?_
        refine c_region ?_
        refine r_val .none rfl (p_lt rfl rfl) ?_
        refine r_nil ?_
        refine e_next ?_
        refine c_seq ?_
        refine c_splitd (d := 18) rfl (fun h_9 => ?_) (fun h_9 => ?_)
        · skip
          first
            | (exfalso; omega)
            | (
              refine c_cond_t rfl ?_
              refine c_skip ?_
              refine e_next ?_
              refine c_seq ?_
              refine c_block ?_
              refine c_seq ?_
              refine c_region ?_
              refine r_val .none rfl (p_move rfl) ?_
              refine r_iaddr_g .none rfl Try.underlying50 sz64 rfl hr rfl (by first | exact of_decide_eq_true rfl | omega) (fun p_11 o_12 R_10 => ?_)
              have ht_13 := hrt _ (getD_mem (i := k) (d := s0) (by omega))
              have hc_14 := hrs _ (getD_mem (i := k) (d := s0) (by omega))
              refine r_val .none rfl (p_ldga0 Try.underlying64 rfl sz64 rfl R_10 (by first | exact of_decide_eq_true rfl | omega) (rfl : _ = Value.agg #[_, _, _, _, _, _])) ?_
              refine r_alloc .none rfl zr64 (IsRow.lit _) (fun b_1 => ?_)
              refine r_val .none rfl (p_assign rfl) ?_
              refine r_stw (k := 0) .none sz64 rfl rfl (IsRow.lit _) (one_lit rfl (all_cons rfl (all_cons rfl (all_cons rfl (all_cons rfl (all_cons (ht_13).one (all_cons (hc_14).one rfl))))))) rfl ?_
              refine r_nil ?_
              refine e_next ?_
              refine c_seq ?_
              refine c_region ?_
              refine r_val .none rfl (p_move rfl) ?_
              refine r_val .none rfl (p_move rfl) ?_
              refine r_iaddr_g .none rfl Try.underlying50 sz64 rfl hr2 rfl (by first | exact of_decide_eq_true rfl | omega) (fun p_16 o_17 R_15 => ?_)
              have ht_18 := hrt2 _ (getD_mem (i := k) (d := s0) (by omega))
              have hc_19 := hrs2 _ (getD_mem (i := k) (d := s0) (by omega))
              refine r_val .none rfl (p_ldga0 Try.underlying64 rfl sz64 rfl R_15 (by first | exact of_decide_eq_true rfl | omega) (rfl : _ = Value.agg #[_, _, _, _, _, _])) ?_
              refine r_alloc .none rfl zr64 (IsRow.lit _) (fun b_2 => ?_)
              refine r_stw (k := 0) .none sz64 rfl rfl (IsRow.lit _) (one_lit rfl (all_cons rfl (all_cons rfl (all_cons rfl (all_cons rfl (all_cons (ht_18).one (all_cons (hc_19).one rfl))))))) rfl ?_
              refine r_nil ?_
              refine e_next ?_
              refine c_seq ?_
              refine c_region ?_
              refine r_val .none rfl (p_move rfl) ?_
              refine r_val .none rfl (p_ldw (k := 1) Try.underlying64 rfl sz64 rfl rfl (rfl : _ = Value.agg #[_, _, _, _, _, _])) ?_
              refine r_val .none rfl (p_ldw (k := 0) Try.underlying64 rfl sz64 rfl rfl (rfl : _ = Value.agg #[_, _, _, _, _, _])) ?_
              refine r_fun (cs := []) .none rfl ?_
              refine r_call (vs := [_, _]) .none rfl cl29 rfl (fun w hw => ih (rs.getD k s0).1 _ _ _ _ _ _ w (hz _ (by rw [hl]; exact sv_mem (k := k) (by omega))) ht_13 hc_14 ht_18 hc_19 hw) ?_
              refine r_val .none rfl (p_not rfl) ?_
              refine r_nil ?_
              refine e_next ?_
              refine c_splitn (d := 30) rfl (fun h_20 => ?_) (fun h_20 => ?_)
              · skip
                have hE := h_20
                first
                  | (exfalso; omega)
                  | (
                    refine c_cond_t rfl ?_
                    refine c_seq ?_
                    refine c_region ?_
                    refine r_val .none rfl (p_assign rfl) ?_
                    refine r_nil ?_
                    refine e_next ?_
                    refine c_ret ?_
                    refine e_ret_block ?_
                    refine e_ret_then ?_
                    refine e_ret_then ?_
                    refine e_ret_block ?_
                    refine e_ret_then ?_
                    refine e_ret1 Try.results51 (.tmp rfl .nil) (fun w hm => ⟨?_, hm.since⟩)
                    first
                    | (rw [hl, hl2, seqL_len (by simp; omega)])
                    | (rw [hl, hl2, ← hphi.2.2, seqL_no (by omega) (by omega) hE])
                    | (rw [hl, hl2, ← hphi.2.2, List.drop_eq_nil_of_le (by simp; omega), List.drop_eq_nil_of_le (by simp; omega)]; rfl)
                    )
              · skip
                have hE := h_20
                first
                  | (exfalso; omega)
                  | (
                    refine c_cond_f rfl ?_
                    refine c_skip ?_
                    refine e_norm_block ?_
                    refine e_next ?_
                    refine c_region ?_
                    refine r_val .none rfl (p_add rfl rfl (by omega)) ?_
                    refine r_val .none rfl (p_move rfl) ?_
                    refine r_nil ?_
                    refine e_round (k + 1) ⟨⟨by omega, hphi.2.1, by rw [seqL_yes (by omega) (by omega) hE]; exact hphi.2.2⟩, by omega⟩ rfl ⟨rfl, rfl, rfl, rfl, rfl, trivial⟩ (.drop (.drop (.nil)))
                    )
              )
        · skip
          first
            | (exfalso; omega)
            | (
              refine c_cond_f rfl ?_
              refine c_exit ?_
              refine e_exit_then ?_
              refine e_exit_then ?_
              refine e_exit_block ?_
              refine e_next ?_
              refine c_seq ?_
              refine c_region ?_
              refine r_val .none rfl (p_assign rfl) ?_
              refine r_nil ?_
              refine e_next ?_
              refine c_ret ?_
              refine e_ret1 Try.results51 (.tmp rfl .nil) (fun w hm => ⟨?_, hm.since⟩)
              first
              | (rw [hl, hl2, seqL_len (by simp; omega)])
              | (rw [hl, hl2, ← hphi.2.2, seqL_no (by omega) (by omega) hE])
              | (rw [hl, hl2, ← hphi.2.2, List.drop_eq_nil_of_le (by simp; omega), List.drop_eq_nil_of_le (by simp; omega)]; rfl)
              )
        )
theorem c_csame_s (n : Nat) (ih : CsameIs n) (c c2 : ST) (ta sb ta2 sb2 : Value) {G : Ghost} (hz : SizeOf.sizeOf c ≤ n + 1) (ht : SlL G ta 3 tC t0 c.h.ts) (hs : Ss G sb c.subs) (ht2 : SlL G ta2 3 tC t0 c2.h.ts) (hs2 : Ss G sb2 c2.subs) (w : World) (hG : Has G w) :
    Calls Try.prog 29 #[Value.agg #[Value.int .i64 c.h.k, Value.int .i64 c.h.k0, Value.int .i64 c.h.k1, Value.int .i64 c.h.k2, ta, sb], Value.agg #[Value.int .i64 c2.h.k, Value.int .i64 c2.h.k0, Value.int .i64 c2.h.k1, Value.int .i64 c2.h.k2, ta2, sb2]] w (Ret fun r w' => r = Value.bool (seq c c2) ∧ Since nX w w') := by
  refine enter (args := [_, _]) (X := nX) (G := G) (l := [(0, Value.agg #[Value.int .i64 c.h.k, Value.int .i64 c.h.k0, Value.int .i64 c.h.k1, Value.int .i64 c.h.k2, ta, sb]), (1, Value.agg #[Value.int .i64 c2.h.k, Value.int .i64 c2.h.k0, Value.int .i64 c2.h.k1, Value.int .i64 c2.h.k2, ta2, sb2])]) Try.func29 rfl Try.ntmps29 hG ⟨rfl, rfl, trivial⟩ (Nat.le_of_ble_eq_true rfl) ?_
  refine c_seq ?_
  refine c_region ?_
  refine r_box .none rfl rfl (IsRow.lit _) (fun b_1 => ?_)
  refine r_box .none rfl rfl (IsRow.lit _) (fun b_2 => ?_)
  refine r_val .none rfl (p_assign rfl) ?_
  refine r_nil ?_
  refine e_next ?_
  refine c_seq ?_
  refine c_region ?_
  refine r_val .none rfl (p_field Try.underlying64 rfl sz3 rfl) ?_
  refine r_val .none rfl (p_ld (k := 1) Try.underlying3 rfl rfl rfl (by first | exact of_decide_eq_true rfl | omega) (rfl : _ = Value.int _ _)) ?_
  refine r_val .none rfl (p_field Try.underlying64 rfl sz3 rfl) ?_
  refine r_val .none rfl (p_ld (k := 0) Try.underlying3 rfl rfl rfl (by first | exact of_decide_eq_true rfl | omega) (rfl : _ = Value.int _ _)) ?_
  refine r_val .none rfl (p_eq rfl rfl) ?_
  refine r_val .none rfl (p_move rfl) ?_
  refine' r_and (c := 10) (d := 16) [_, _, _, _, _, _] rfl (fun h_1 Q_2 hQ_3 => ?_) (fun h_1 Q_2 hQ_3 => ?_) ?_
  rotate_left 1
  · skip
    replace h_1 := of_decide_eq_true h_1
    refine r_val (.some rfl rfl) rfl (p_field Try.underlying64 rfl sz61 rfl) ?_
    refine r_val (.some rfl rfl) rfl (p_lda (k := 1) Try.underlying61 rfl sz61 rfl rfl (by first | exact of_decide_eq_true rfl | omega) (rfl : _ = Value.agg #[_, _, _])) ?_
    refine r_val (.some rfl rfl) rfl (p_field Try.underlying64 rfl sz61 rfl) ?_
    refine r_val (.some rfl rfl) rfl (p_lda (k := 0) Try.underlying61 rfl sz61 rfl rfl (by first | exact of_decide_eq_true rfl | omega) (rfl : _ = Value.agg #[_, _, _])) ?_
    refine r_val (.some rfl rfl) rfl (p_eqa rfl rfl (eq_flat Try.underlying61 rfl lf61 ef61 eg61 (.cons (.int Try.underlying3) (.cons (.int Try.underlying3) (.cons (.int Try.underlying3) (.nil)))) (.cons (.int Try.underlying3) (.cons (.int Try.underlying3) (.cons (.int Try.underlying3) (.nil)))))) ?_
    refine r_val .none rfl (p_pick_t rfl rfl) ?_
    refine r_nil (e_fin (d := 16) hQ_3 rfl (by repeat (first | exact .refl | refine .put rfl ?_ | refine .say rfl ?_ | refine .say2 rfl (by first | assumption | simp_all) ?_)))
  · skip
    repeat (first | refine r_skip rfl (.no rfl rfl) ?_ | refine r_skip rfl (.un rfl rfl) ?_)
    refine r_val (by first | exact .none | exact .some rfl rfl) rfl (p_pick_f rfl rfl) ?_
    refine r_nil (e_fin (d := 16) hQ_3 rfl (by repeat (first | exact .refl | refine .put rfl ?_ | refine .say rfl ?_ | refine .say2 rfl (by first | assumption | simp_all) ?_)))
  refine r_val .none rfl (p_move rfl) ?_
  refine' r_and (c := 17) (d := 23) [_, _, _, _, _, _] rfl (fun h_5 Q_6 hQ_7 => ?_) (fun h_5 Q_6 hQ_7 => ?_) ?_
  rotate_left 1
  · skip
    try simp only [norms] at h_5
    refine r_val (.some rfl rfl) rfl (p_field Try.underlying64 rfl sz62 rfl) ?_
    refine r_val (.some rfl rfl) rfl (p_ld (k := 1) Try.underlying62 rfl rfl rfl (by first | exact of_decide_eq_true rfl | omega) rfl) ?_
    refine r_val (.some rfl rfl) rfl (p_field Try.underlying64 rfl sz62 rfl) ?_
    refine r_val (.some rfl rfl) rfl (p_ld (k := 0) Try.underlying62 rfl rfl rfl (by first | exact of_decide_eq_true rfl | omega) rfl) ?_
    refine r_call (vs := [_, _]) (.some rfl rfl) rfl cl50 rfl (fun w hw => c_eqT _ _ _ _ ht ht2 w hw) ?_
    refine r_val .none rfl (p_pick_t rfl rfl) ?_
    refine r_nil (e_fin (d := 23) hQ_7 rfl (by repeat (first | exact .refl | refine .put rfl ?_ | refine .say rfl ?_ | refine .say2 rfl (by first | assumption | simp_all) ?_)))
  · skip
    repeat (first | refine r_skip rfl (.no rfl rfl) ?_ | refine r_skip rfl (.un rfl rfl) ?_)
    refine r_val (by first | exact .none | exact .some rfl rfl) rfl (p_pick_f rfl rfl) ?_
    refine r_nil (e_fin (d := 23) hQ_7 rfl (by repeat (first | exact .refl | refine .put rfl ?_ | refine .say rfl ?_ | refine .say2 rfl (by first | assumption | simp_all) ?_)))
  refine r_val .none rfl (p_move rfl) ?_
  refine' r_and (c := 24) (d := 30) [_, _, _, _, _, _] rfl (fun h_9 Q_10 hQ_11 => ?_) (fun h_9 Q_10 hQ_11 => ?_) ?_
  rotate_left 1
  · skip
    try simp only [norms] at h_9
    refine r_val (.some rfl rfl) rfl (p_field Try.underlying64 rfl sz50 rfl) ?_
    refine r_val (.some rfl rfl) rfl (p_ld (k := 1) Try.underlying50 rfl rfl rfl (by first | exact of_decide_eq_true rfl | omega) rfl) ?_
    refine r_val (.some rfl rfl) rfl (p_field Try.underlying64 rfl sz50 rfl) ?_
    refine r_val (.some rfl rfl) rfl (p_ld (k := 0) Try.underlying50 rfl rfl rfl (by first | exact of_decide_eq_true rfl | omega) rfl) ?_
    refine r_call (vs := [_, _, _]) (.some rfl rfl) rfl cl51 rfl (fun w hw => c_eqfS n ih _ _ _ _ (fun x hx => by have := List.sizeOf_lt_of_mem hx; have := s_subs c; omega) hs hs2 w hw) ?_
    refine r_val .none rfl (p_pick_t rfl rfl) ?_
    refine r_nil (e_fin (d := 30) hQ_11 rfl (by repeat (first | exact .refl | refine .put rfl ?_ | refine .say rfl ?_ | refine .say2 rfl (by first | assumption | simp_all) ?_)))
  · skip
    repeat (first | refine r_skip rfl (.no rfl rfl) ?_ | refine r_skip rfl (.un rfl rfl) ?_)
    refine r_val (by first | exact .none | exact .some rfl rfl) rfl (p_pick_f rfl rfl) ?_
    refine r_nil (e_fin (d := 30) hQ_11 rfl (by repeat (first | exact .refl | refine .put rfl ?_ | refine .say rfl ?_ | refine .say2 rfl (by first | assumption | simp_all) ?_)))
  refine r_val .none rfl (p_assign rfl) ?_
  refine r_nil ?_
  refine e_next ?_
  refine c_ret ?_
  refine e_ret1 Try.results29 (.tmp rfl .nil) (fun w hm => ⟨?_, hm.since⟩)
  rw [seq_eq]
  first
  | rfl
  | (show _ = _; congr 1; simp only [Bool.and_assoc]; rfl)
theorem c_csame_n : ∀ n, CsameIs n
  | 0 => fun c c2 ta sb ta2 sb2 G w hz _ _ _ _ _ => absurd hz (by have := s_pos c; omega)
  | n + 1 => fun c c2 ta sb ta2 sb2 G w hz ht hs ht2 hs2 hG => c_csame_s n (c_csame_n n) c c2 ta sb ta2 sb2 hz ht hs ht2 hs2 w hG
theorem c_csame (c c2 : ST) (ta sb ta2 sb2 : Value) {G : Ghost} (ht : SlL G ta 3 tC t0 c.h.ts) (hs : Ss G sb c.subs) (ht2 : SlL G ta2 3 tC t0 c2.h.ts) (hs2 : Ss G sb2 c2.subs) (w : World) (hG : Has G w) : Calls Try.prog 29 #[Value.agg #[Value.int .i64 c.h.k, Value.int .i64 c.h.k0, Value.int .i64 c.h.k1, Value.int .i64 c.h.k2, ta, sb], Value.agg #[Value.int .i64 c2.h.k, Value.int .i64 c2.h.k0, Value.int .i64 c2.h.k1, Value.int .i64 c2.h.k2, ta2, sb2]] w (Ret fun r w' => r = Value.bool (seq c c2) ∧ Since nX w w') := c_csame_n _ c c2 ta sb ta2 sb2 G w (Nat.le_refl _) ht hs ht2 hs2 hG
end Go.Proofs.Ytoflaphnlfggkaa
