/- Walks: what Go functions of this chapter come to, each as a function on plain data; no condition but those that each theorem names. Printed by a program of this work (gen.py). -/
import Derived.Test.YtinbigokigkfaaaW13e
import Derived.Test.YtinbigokigkfaaaW13r
import Derived.Test.YtinbigokigkfaaaPl13b
import Derived.Test.YtinbigokigkfaaaRows
namespace Go.Proofs.Ytinbigokigkfaaa
open Go.Gx Go.Gx.T13 Go.Gx.T8 Go.Gx.T4 Go.Gx.T3 Go.Gx.T3 Go.Gx.T4 Go.Gx.T3 Go.Gx.T8 Go.Gx.T4 Go.Gx.T3
theorem cl19 : Callable Try.prog 19 := callable Try.func19 (by kernel_rfl) rfl
theorem cl20 : Callable Try.prog 20 := callable Try.func20 (by kernel_rfl) rfl
theorem cl21 : Callable Try.prog 21 := callable Try.func21 (by kernel_rfl) rfl
theorem cl23 : Callable Try.prog 23 := callable Try.func23 (by kernel_rfl) rfl
theorem cl25 : Callable Try.prog 25 := callable Try.func25 (by kernel_rfl) rfl
theorem c_TestTerms (v : Value) (l : List CT) (vb : Value) (bs : List Tri) {G : Ghost} (hs : Cs G v l) (hb : SlL G vb 3 triL z3 bs) (w : World) (hG : Has G w) :
    Calls Try.prog 4 #[v, vb] w (Ret fun r w' => r = Value.bool true ∧ Since nX w w') := by
  refine enter (args := [_, _]) (X := nX) (G := G) (l := [(0, v), (1, vb)]) Try.func4 rfl Try.ntmps4 hG ⟨rfl, rfl, trivial⟩ (Nat.le_of_ble_eq_true rfl) ?_
  obtain ⟨rs0, hr0, hp0, hl0⟩ := hs.inv
  have hlr0 : l.length = rs0.length := by rw [hl0]; simp
  refine c_seq ?_
  refine c_region ?_
  refine r_val .none rfl (p_assign rfl) ?_
  refine r_nil ?_
  refine e_next ?_
  refine c_seq ?_
  refine c_seq ?_
  refine c_region ?_
  refine r_val .none rfl (p_move rfl) ?_
  refine r_val .none rfl (p_leng Try.underlying34 rfl hr0) ?_
  have bd_1 := (hr0).bound
  refine r_val .none rfl (p_gt rfl rfl) ?_
  refine r_val .none rfl (p_move rfl) ?_
  refine' r_or (c := 15) (d := 21) [_, _, _, _, _, _] rfl (fun h_2 Q_3 hQ_4 => ?_) (fun h_2 Q_3 hQ_4 => ?_) ?_
  rotate_left 1
  · skip
    replace h_2 := of_decide_eq_false h_2
    refine r_val (.some rfl rfl) rfl (p_move rfl) ?_
    refine r_val (.some rfl rfl) rfl (p_leng Try.underlying22 rfl hb) ?_
    have bd_6 := (hb).bound
    refine r_val (.some rfl rfl) rfl (p_move rfl) ?_
    refine r_val (.some rfl rfl) rfl (p_leng Try.underlying34 rfl hr0) ?_
    have bd_7 := (hr0).bound
    refine r_val (.some rfl rfl) rfl (p_ne rfl rfl) ?_
    refine r_val .none rfl (p_pick_f rfl rfl) ?_
    refine r_nil (e_fin (d := 21) hQ_4 rfl (by repeat (first | exact .refl | refine .put rfl ?_ | refine .say rfl ?_ | refine .say2 rfl (by first | assumption | simp_all) ?_)))
  · skip
    repeat (first | refine r_skip rfl (.no rfl rfl) ?_ | refine r_skip rfl (.un rfl rfl) ?_)
    refine r_val (by first | exact .none | exact .some rfl rfl) rfl (p_pick_t rfl rfl) ?_
    refine r_nil (e_fin (d := 21) hQ_4 rfl (by repeat (first | exact .refl | refine .put rfl ?_ | refine .say rfl ?_ | refine .say2 rfl (by first | assumption | simp_all) ?_)))
  refine r_val .none rfl (p_move rfl) ?_
  refine' r_or (c := 22) (d := 26) [_, _, _, _] rfl (fun h_8 Q_9 hQ_10 => ?_) (fun h_8 Q_9 hQ_10 => ?_) ?_
  rotate_left 1
  · skip
    try simp only [norms] at h_8
    refine r_val (.some rfl rfl) rfl (p_move rfl) ?_
    refine r_call (vs := [_]) (.some rfl rfl) rfl cl19 rfl (fun w hw => c_fine6 _ l hs w hw) ?_
    refine r_val (.some rfl rfl) rfl (p_not rfl) ?_
    refine r_val .none rfl (p_pick_f rfl rfl) ?_
    refine r_nil (e_fin (d := 26) hQ_10 rfl (by repeat (first | exact .refl | refine .put rfl ?_ | refine .say rfl ?_ | refine .say2 rfl (by first | assumption | simp_all) ?_)))
  · skip
    repeat (first | refine r_skip rfl (.no rfl rfl) ?_ | refine r_skip rfl (.un rfl rfl) ?_)
    refine r_val (by first | exact .none | exact .some rfl rfl) rfl (p_pick_t rfl rfl) ?_
    refine r_nil (e_fin (d := 26) hQ_10 rfl (by repeat (first | exact .refl | refine .put rfl ?_ | refine .say rfl ?_ | refine .say2 rfl (by first | assumption | simp_all) ?_)))
  refine r_val .none rfl (p_move rfl) ?_
  refine' r_or (c := 27) (d := 31) [_, _, _, _] rfl (fun h_12 Q_13 hQ_14 => ?_) (fun h_12 Q_13 hQ_14 => ?_) ?_
  rotate_left 1
  · skip
    try simp only [norms] at h_12
    refine r_val (.some rfl rfl) rfl (p_move rfl) ?_
    refine r_call (vs := [_]) (.some rfl rfl) rfl cl20 rfl (fun w hw => c_right13 _ _ hb w hw) ?_
    refine r_val (.some rfl rfl) rfl (p_not rfl) ?_
    refine r_val .none rfl (p_pick_f rfl rfl) ?_
    refine r_nil (e_fin (d := 31) hQ_14 rfl (by repeat (first | exact .refl | refine .put rfl ?_ | refine .say rfl ?_ | refine .say2 rfl (by first | assumption | simp_all) ?_)))
  · skip
    repeat (first | refine r_skip rfl (.no rfl rfl) ?_ | refine r_skip rfl (.un rfl rfl) ?_)
    refine r_val (by first | exact .none | exact .some rfl rfl) rfl (p_pick_t rfl rfl) ?_
    refine r_nil (e_fin (d := 31) hQ_14 rfl (by repeat (first | exact .refl | refine .put rfl ?_ | refine .say rfl ?_ | refine .say2 rfl (by first | assumption | simp_all) ?_)))
  refine r_nil ?_
  refine e_next ?_
  refine c_split (d := 31) rfl (fun h_16 => ?_) (fun h_16 => ?_)
  · skip
    try simp only [norms] at h_16
    first
      | (exfalso; omega)
      | (
        refine c_cond_t rfl ?_
        refine c_seq ?_
        refine c_region ?_
        refine r_call (vs := []) .none rfl cl21 rfl (fun w hw => c_awake13 w) ?_
        refine r_val .none rfl (p_assign rfl) ?_
        refine r_nil ?_
        refine e_next ?_
        refine c_ret ?_
        refine e_ret_then ?_
        refine e_ret1 Try.results4 (.tmp rfl .nil) (fun w hm => ⟨?_, hm.since⟩)
        first
        | rfl
        | (exfalso; have hm := meets_rfit hbd hk3 (head_of hfn.1 hmem hk3) ht3 hstp; rw [hm] at hD; simp at hD; done)
        )
  · skip
    try simp only [norms] at h_16
    have hC := h_16
    first
      | (exfalso; omega)
      | (
        refine c_cond_f rfl ?_
        refine c_skip ?_
        refine e_next ?_
        refine c_seq ?_
        refine c_region ?_
        refine r_val .none rfl (p_move rfl) ?_
        obtain ⟨⟨⟨c1, c2⟩, c3⟩, c4⟩ := hC
        have hfn := fineL_yes (by assumption)
        have hsz : sizeL l ≤ 1000 := by omega
        have hss : sszL (stepsOf [] l) ≤ 5000 := Nat.le_trans (sszL_of l []) (by omega)
        have hll := sizeL_len l
        have hoks := ok_stepsOf l [] (by simp; omega)
        refine r_callm (vs := [_]) .none rfl cl24 rfl (fun w hw => c_lref _ _ hsz hs w hw) (fun G_17 v_20 hn_18 hr_19 => ?_)
        replace hr0 := hr0.mono hn_18.le
        replace hb := hb.mono hn_18.le
        replace hs := hs.mono hn_18.le
        replace hp0 := fun p hm0 => (hp0 p hm0).mono hn_18.le
        have hR := hr_19
        refine r_callm (vs := [_]) .none rfl cl23 rfl (fun w hw => c_compile _ _ hsz hR w hw) (fun G_22 v_25 hn_23 hr_24 => ?_)
        replace hr0 := hr0.mono hn_23.le
        replace hb := hb.mono hn_23.le
        replace hs := hs.mono hn_23.le
        replace hp0 := fun p hm0 => (hp0 p hm0).mono hn_23.le
        replace hR := hR.mono hn_23.le
        have hS := hr_24
        refine r_callm (vs := [_]) .none rfl cl22 rfl (fun w hw => c_steps _ _ hss hS w hw) (fun G_27 v_30 hn_28 hr_29 => ?_)
        replace hr0 := hr0.mono hn_28.le
        replace hb := hb.mono hn_28.le
        replace hs := hs.mono hn_28.le
        replace hp0 := fun p hm0 => (hp0 p hm0).mono hn_28.le
        replace hR := hR.mono hn_28.le
        replace hS := hS.mono hn_28.le
        obtain ⟨qs, hq, hqt, hqp, hql⟩ := hr_29.inv
        have hqn : qs.length = l.length := by have h1 := congrArg List.length hql; rw [stepsOf_len] at h1; simpa using h1.symm
        refine r_val .none rfl (p_assign rfl) ?_
        refine r_nil ?_
        refine e_next ?_
        refine c_seq ?_
        refine c_region ?_
        refine r_val .none rfl (p_assign rfl) ?_
        refine r_nil ?_
        refine e_next ?_
        refine c_seq ?_
        refine c_region ?_
        refine r_val .none rfl (p_assign rfl) ?_
        refine r_nil ?_
        refine e_next ?_
        refine c_seq ?_
        refine c_seq ?_
        refine c_region ?_
        refine r_val .none rfl (p_move rfl) ?_
        refine r_val .none rfl (p_leng Try.underlying34 rfl hr0) ?_
        have bd_32 := (hr0).bound
        refine r_val .none rfl (p_move rfl) ?_
        refine r_nil ?_
        refine e_next ?_
        refine c_block ?_
        refine c_nilrow 26 3 ?_
        refine c_name (d := 1) rfl (fun u_33 hu_33 => ?_)
        refine c_name (d := 5) rfl (fun u_34 hu_34 => ?_)
        refine c_name (d := 37) rfl (fun u_35 hu_35 => ?_)
        refine c_name (d := 38) rfl (fun u_36 hu_36 => ?_)
        refine c_loop (σ := Nat × Value × List Pr × Value × List Tri × Ghost) (fun s => [(39, Value.int .i64 (s.1 : Nat)), (6, s.2.1), (7, s.2.2.2.1), (1, u_33), (5, u_34), (37, u_35), (38, u_36)]) (fun s => [rowA (s.2.2.2.1) 26 3 (s.2.2.2.2.1).length ((s.2.2.2.2.1).flatMap triL)]) (fun s => s.2.2.2.2.2) (fun s => s.1 ≤ l.length ∧ SlL s.2.2.2.2.2 s.2.1 2 pr (0, 0) s.2.2.1 ∧ s.2.2.1.length ≤ 3 * s.1 ∧ s.2.2.2.2.1.length ≤ s.1 ∧ Bd (l.take s.1) s.2.2.2.2.1 s.2.2.1 ∧ GNew w nX G_27 s.2.2.2.2.2) (fun s => l.length - s.1) ((0, _, [], _, [], _)) ⟨Nat.zero_le _, SlG.nil _ _ _, Nat.le_refl _, Nat.le_refl _, Bd.nil, GNew.refl _ _ _⟩ rfl ⟨rfl, rfl, rfl, rfl, rfl, rfl, rfl, trivial⟩ (.keep (fun _ _ h => rowA_nil rfl _ _ h) (.nil)) (fun s hphi => ?_)
        subst hu_33
        subst hu_34
        subst hu_35
        subst hu_36
        obtain ⟨k, u, ps, bv, back, H⟩ := s
        obtain ⟨hk, hps, hpl, hbl, hbd, hgn⟩ := hphi
        dsimp only at hk hps hpl hbl hbd hgn ⊢
        replace hr0 := hr0.mono hgn.le
        replace hb := hb.mono hgn.le
        replace hs := hs.mono hgn.le
        replace hp0 := fun p hm0 => (hp0 p hm0).mono hgn.le
        replace hR := hR.mono hgn.le
        replace hS := hS.mono hgn.le
        replace hq := hq.mono hgn.le
        replace hqt := fun p hm0 => (hqt p hm0).mono hgn.le
        replace hqp := fun p hm0 => (hqp p hm0).mono hgn.le
        refine c_seq ?_
        refine c_region ?_
        refine r_val .none rfl (p_lt rfl rfl) ?_
        refine r_nil ?_
        refine e_next ?_
        refine c_seq ?_
        refine c_splitd (d := 40) rfl (fun h_37 => ?_) (fun h_37 => ?_)
        · skip
          first
            | (exfalso; omega)
            | (
              refine c_cond_t rfl ?_
              refine c_skip ?_
              refine e_next ?_
              refine c_seq ?_
              refine c_block ?_
              refine c_seq ?_
              refine c_region ?_
              refine r_val .none rfl (p_move rfl) ?_
              refine r_iaddr_g .none rfl Try.underlying34 sz47 rfl hr0 rfl (by first | exact of_decide_eq_true rfl | omega) (fun p_39 o_40 R_38 => ?_)
              have hc_41 := hp0 _ (getD_mem (i := k) (d := d0) (by omega))
              have hmem : (rs0.getD k d0).1 ∈ l := by rw [hl0]; exact List.mem_map.2 ⟨_, getD_mem (i := k) (d := d0) (by omega), rfl⟩
              have hsz3 : size (rs0.getD k d0).1 ≤ 1000 := Nat.le_trans (sizeL_mem hmem) hsz
              have ht3 := right3_of (k := k) c4 (by omega)
              have hstp := step_at (k := k) hql hl0 (by omega)
              refine r_val .none rfl (p_ldga0 Try.underlying47 rfl sz47 rfl R_38 (by first | exact of_decide_eq_true rfl | omega) (rfl : _ = Value.agg #[_, _, _, _, _, _, _, _])) ?_
              refine r_alloc .none rfl zr47 (IsRow.lit _) (fun b_1 => ?_)
              refine r_val .none rfl (p_assign rfl) ?_
              refine r_stw (k := 0) .none sz47 rfl rfl (IsRow.lit _) (one_lit rfl (all_cons rfl (all_cons rfl (all_cons rfl (all_cons rfl (all_cons rfl (all_cons rfl (all_cons rfl (all_cons (hc_41).one rfl))))))))) rfl ?_
              refine r_nil ?_
              refine e_next ?_
              refine c_seq ?_
              refine c_seq ?_
              refine c_region ?_
              refine r_val .none rfl (p_field Try.underlying47 rfl sz3 rfl) ?_
              refine r_val .none rfl (p_ld (k := 0) Try.underlying3 rfl rfl rfl (by first | exact of_decide_eq_true rfl | omega) (rfl : _ = Value.int _ _)) ?_
              refine r_val .none rfl (p_eq rfl rfl) ?_
              refine r_nil ?_
              refine e_next ?_
              refine c_splitd (d := 46) rfl (fun h_42 => ?_) (fun h_42 => ?_)
              · skip
                first
                  | (exfalso; omega)
                  | (
                    refine c_cond_t rfl ?_
                    refine c_seq ?_
                    refine c_region ?_
                    refine r_call (vs := []) .none rfl cl21 rfl (fun w hw => c_awake13 w) ?_
                    refine r_val .none rfl (p_assign rfl) ?_
                    refine r_nil ?_
                    refine e_next ?_
                    refine c_ret ?_
                    refine e_ret_then ?_
                    refine e_ret_block ?_
                    refine e_ret_then ?_
                    refine e_ret_then ?_
                    refine e_ret_block ?_
                    refine e_ret_then ?_
                    refine e_ret1 Try.results4 (.tmp rfl .nil) (fun w hm => ⟨?_, hm.since⟩)
                    first
                    | rfl
                    | (exfalso; have hm := meets_rfit hbd hk3 (head_of hfn.1 hmem hk3) ht3 hstp; rw [hm] at hD; simp at hD; done)
                    )
              · skip
                have hk3 := h_42
                first
                  | (exfalso; omega)
                  | (
                    refine c_cond_f rfl ?_
                    refine c_skip ?_
                    refine e_next ?_
                    refine c_seq ?_
                    refine c_region_d (fun _ => false) _ mixed (.keep (fun _ _ h => h) (.keep (fun _ _ h => h) (.nil))) ?_
                    refine d_val1 0 rfl rfl (by kernel_rfl) (fun _ _ => rfl) .none rfl (p_ldw (k := 0) Try.underlying47 rfl sz47 rfl rfl (rfl : _ = Value.agg #[_, _, _, _, _, _, _, _])) ?_
                    refine d_val1 3 rfl rfl (by kernel_rfl) (fun _ _ => rfl) .none rfl (p_move rfl) ?_
                    refine d_val1 4 rfl rfl (by kernel_rfl) (fun _ _ => rfl) .none rfl (p_move rfl) ?_
                    refine d_iaddr_g 5 rfl rfl (by kernel_rfl) (fun _ _ => rfl) .none rfl Try.underlying22 sz26 rfl hb rfl (by first | exact of_decide_eq_true rfl | omega) (fun p_44 o_45 R_43 => ?_)
                    refine d_val1 6 rfl rfl (by kernel_rfl) (fun _ _ => rfl) .none rfl (p_ldga0 Try.underlying26 rfl sz26 rfl R_43 (by first | exact of_decide_eq_true rfl | omega) (rfl : _ = Value.agg #[_, _, _])) ?_
                    refine d_val1 7 rfl rfl (by kernel_rfl) (fun _ _ => rfl) .none rfl (p_move rfl) ?_
                    refine d_eff 1 rfl (by kernel_rfl) (fun K_46 hKK_46 hcK_46 => ?_)
                    refine r_callm (vs := [_]) .none rfl cl26 rfl (fun w hw => c_ref4 (rs0.getD k d0).1 _ hsz3 hc_41 w hw) (fun G_47 v_50 hn_48 hr_49 => ?_)
                    replace hr0 := hr0.mono hn_48.le
                    replace hb := hb.mono hn_48.le
                    replace hs := hs.mono hn_48.le
                    replace hp0 := fun p hm0 => (hp0 p hm0).mono hn_48.le
                    replace hR := hR.mono hn_48.le
                    replace hS := hS.mono hn_48.le
                    replace hq := hq.mono hn_48.le
                    replace hqt := fun p hm0 => (hqt p hm0).mono hn_48.le
                    replace hqp := fun p hm0 => (hqp p hm0).mono hn_48.le
                    replace hps := hps.mono hn_48.le
                    replace R_38 := R_38.mono hn_48.le
                    replace hc_41 := hc_41.mono hn_48.le
                    replace R_43 := R_43.mono hn_48.le
                    obtain ⟨u_51, rfl, u_51s⟩ := hr_49
                    refine r_nil (e_d (i := 1) (brk := (fun _ => false)) (ph' := true) hKK_46 hcK_46 rfl (fun _ => hn_48.le) (fun _ => .keep (fun _ _ h => h) (.keep (fun _ _ h => h) (.nil))) ?_)
                    clear hKK_46 hcK_46 K_46
                    refine d_val1 2 rfl rfl (by kernel_rfl) (fun _ _ => rfl) .none rfl (p_fieldv Try.underlying54 rfl Try.underlying52 rfl sz52 rfl (IsRow.lit _) rfl (by first | exact of_decide_eq_true rfl | omega) (rfl : _ = Value.agg #[_, _, _, _, _, _])) ?_
                    refine d_eff 8 rfl (by kernel_rfl) (fun K_52 hKK_52 hcK_52 => ?_)
                    refine r_callm (vs := [_, _, _]) .none rfl cl25 rfl (fun w hw => c_rfit _ _ _ _ _ _ _ _ _ _ ps hps (by omega) w hw) (fun G_53 v_56 hn_54 hr_55 => ?_)
                    replace hr0 := hr0.mono hn_54.le
                    replace hb := hb.mono hn_54.le
                    replace hs := hs.mono hn_54.le
                    replace hp0 := fun p hm0 => (hp0 p hm0).mono hn_54.le
                    replace hR := hR.mono hn_54.le
                    replace hS := hS.mono hn_54.le
                    replace hq := hq.mono hn_54.le
                    replace hqt := fun p hm0 => (hqt p hm0).mono hn_54.le
                    replace hqp := fun p hm0 => (hqp p hm0).mono hn_54.le
                    replace hps := hps.mono hn_54.le
                    replace R_38 := R_38.mono hn_54.le
                    replace hc_41 := hc_41.mono hn_54.le
                    replace R_43 := R_43.mono hn_54.le
                    replace u_51s := u_51s.mono hn_54.le
                    obtain ⟨u_57, rfl, u_57s⟩ := hr_55
                    refine r_nil (e_d (i := 8) (brk := (fun _ => false)) (ph' := true) hKK_52 hcK_52 rfl (fun _ => (hn_48.trans hn_54).le) (fun _ => .keep (fun _ _ h => h) (.keep (fun _ _ h => h) (.nil))) ?_)
                    clear hKK_52 hcK_52 K_52
                    refine d_val1 9 rfl rfl (by kernel_rfl) (fun _ _ => rfl) .none rfl (p_move rfl) ?_
                    refine d_val1 10 rfl rfl (by kernel_rfl) (fun _ _ => rfl) .none rfl (p_extract rfl rfl) ?_
                    refine d_val1 11 rfl rfl (by kernel_rfl) (fun _ _ => rfl) .none rfl (p_extract rfl rfl) ?_
                    refine d_val1 12 rfl rfl (by kernel_rfl) (fun _ _ => rfl) .none rfl (p_assign rfl) ?_
                    refine d_val1 13 rfl rfl (by kernel_rfl) (fun _ _ => rfl) .none rfl (p_assign rfl) ?_
                    refine d_nil (by kernel_rfl) ?_
                    refine e_next ?_
                    refine c_seq ?_
                    refine c_seq ?_
                    refine c_region_d (fun _ => false) _ mixed (.keep (fun _ _ h => h) (.keep (fun _ _ h => h) (.nil))) ?_
                    refine d_val1 0 rfl rfl (by kernel_rfl) (fun _ _ => rfl) .none rfl (p_move rfl) ?_
                    refine d_val1 1 rfl rfl (by kernel_rfl) (fun _ _ => rfl) .none rfl (p_move rfl) ?_
                    refine d_iaddr_g 2 rfl rfl (by kernel_rfl) (fun _ _ => rfl) .none rfl Try.underlying36 sz59 rfl hq rfl (by first | exact of_decide_eq_true rfl | omega) (fun p_59 o_60 R_58 => ?_)
                    have ht := hqt _ (getD_mem (i := k) (d := s0) (by omega))
                    have hsm := hqp _ (getD_mem (i := k) (d := s0) (by omega))
                    have hok := hoks _ (by rw [hql]; exact sv_mem (k := k) (by omega))
                    refine d_val1 3 rfl rfl (by kernel_rfl) (fun _ _ => rfl) .none rfl (p_ldga0 Try.underlying59 rfl sz59 rfl R_58 (by first | exact of_decide_eq_true rfl | omega) (rfl : _ = Value.agg #[_, _, _, _, _, _])) ?_
                    refine d_val1 4 rfl rfl (by kernel_rfl) (fun _ _ => rfl) .none rfl (p_move rfl) ?_
                    refine d_val1 5 rfl rfl (by kernel_rfl) (fun _ _ => rfl) .none rfl (p_move rfl) ?_
                    refine d_val1 6 rfl rfl (by kernel_rfl) (fun _ _ => rfl) .none rfl (p_move rfl) ?_
                    refine d_iaddr_g 7 rfl rfl (by kernel_rfl) (fun _ _ => rfl) .none rfl Try.underlying22 sz26 rfl hb rfl (by first | exact of_decide_eq_true rfl | omega) (fun p_62 o_63 R_61 => ?_)
                    refine d_val1 8 rfl rfl (by kernel_rfl) (fun _ _ => rfl) .none rfl (p_ldga0 Try.underlying26 rfl sz26 rfl R_61 (by first | exact of_decide_eq_true rfl | omega) (rfl : _ = Value.agg #[_, _, _])) ?_
                    refine d_val1 10 rfl rfl (by kernel_rfl) (fun _ _ => rfl) .none rfl (p_move rfl) ?_
                    refine d_eff 9 rfl (by kernel_rfl) (fun K_64 hKK_64 hcK_64 => ?_)
                    refine r_callr (k := 1) (vs := [_, _, _]) .none rfl cl27 rfl rfl (fun w G_65 hw hle_66 hs_67 => c_meets (qs.getD k s0).1.h.k ((qs.getD k s0).1.h.k0, (qs.getD k s0).1.h.k1, (qs.getD k s0).1.h.k2) (qs.getD k s0).1.h.ts _ _ _ back (bs.getD k z3) hok (ht.mono hle_66) (SlL.of z3 (fun _ => rfl) rfl hs_67) w hw) ?_
                    refine r_nil (e_d (i := 9) (brk := (fun _ => false)) (ph' := true) hKK_64 hcK_64 rfl (fun _ => GLe.refl _) (fun _ => .keep (fun _ _ h => h) (.keep (fun _ _ h => h) (.nil))) ?_)
                    clear hKK_64 hcK_64 K_64
                    refine d_val1 11 rfl rfl (by kernel_rfl) (fun _ _ => rfl) .none rfl (p_neb Try.underlying4 rfl rfl) ?_
                    refine d_nil (by kernel_rfl) ?_
                    refine e_next ?_
                    refine c_splitn (d := 71) rfl (fun h_68 => ?_) (fun h_68 => ?_)
                    · skip
                      have hD := h_68
                      first
                        | (exfalso; omega)
                        | (
                          refine c_cond_t rfl ?_
                          refine c_seq ?_
                          refine c_region ?_
                          refine r_val .none rfl (p_assign rfl) ?_
                          refine r_nil ?_
                          refine e_next ?_
                          refine c_ret ?_
                          refine e_ret_then ?_
                          refine e_ret_block ?_
                          refine e_ret_then ?_
                          refine e_ret_then ?_
                          refine e_ret_block ?_
                          refine e_ret_then ?_
                          refine e_ret1 Try.results4 (.tmp rfl .nil) (fun w hm => ⟨?_, hm.since⟩)
                          first
                          | rfl
                          | (exfalso; have hm := meets_rfit hbd hk3 (head_of hfn.1 hmem hk3) ht3 hstp; rw [hm] at hD; simp at hD; done)
                          )
                    · skip
                      have hD := h_68
                      first
                        | (exfalso; omega)
                        | (
                          refine c_cond_f rfl ?_
                          refine c_skip ?_
                          refine e_next ?_
                          refine c_seq ?_
                          refine c_seq ?_
                          refine c_region ?_
                          refine r_val .none rfl (p_field Try.underlying47 rfl sz3 rfl) ?_
                          refine r_val .none rfl (p_ld (k := 0) Try.underlying3 rfl rfl rfl (by first | exact of_decide_eq_true rfl | omega) (rfl : _ = Value.int _ _)) ?_
                          refine r_val .none rfl (p_ne rfl rfl) ?_
                          refine r_nil ?_
                          refine e_next ?_
                          refine c_splitd (d := 74) rfl (fun h_69 => ?_) (fun h_69 => ?_)
                          · skip
                            first
                              | (exfalso; omega)
                              | (
                                refine c_cond_t rfl ?_
                                refine c_exit ?_
                                refine e_exit_then ?_
                                refine e_exit_block ?_
                                refine e_next ?_
                                refine c_region ?_
                                refine r_val .none rfl (p_add rfl rfl (by omega)) ?_
                                refine r_val .none rfl (p_move rfl) ?_
                                refine r_nil ?_
                                refine e_round ((k + 1, _, _, _, _, _)) ⟨⟨by dsimp only; omega, hps, (by dsimp only; omega), (by dsimp only; first | omega | (simp; omega)), (by rw [take_at hl0 (by omega)]; exact hbd.goNeg (by omega)), ((hgn.trans hn_48).trans hn_54)⟩, by dsimp only; omega⟩ rfl ⟨rfl, rfl, rfl, rfl, rfl, rfl, rfl, trivial⟩ (.drop (.keep (fun _ _ h => h) (.nil)))
                                )
                          · skip
                            first
                              | (exfalso; omega)
                              | (
                                refine c_cond_f rfl ?_
                                refine c_skip ?_
                                refine e_next ?_
                                refine c_seq ?_
                                refine c_seq ?_
                                refine c_region ?_
                                refine r_val .none rfl (p_move rfl) ?_
                                refine r_val .none rfl (p_not rfl) ?_
                                refine r_nil ?_
                                refine e_next ?_
                                refine c_splitn (d := 76) rfl (fun h_70 => ?_) (fun h_70 => ?_)
                                · skip
                                  first
                                    | (exfalso; omega)
                                    | (
                                      refine c_cond_t rfl ?_
                                      refine c_seq ?_
                                      refine c_region ?_
                                      refine r_call (vs := []) .none rfl cl21 rfl (fun w hw => c_awake13 w) ?_
                                      refine r_val .none rfl (p_assign rfl) ?_
                                      refine r_nil ?_
                                      refine e_next ?_
                                      refine c_ret ?_
                                      refine e_ret_then ?_
                                      refine e_ret_block ?_
                                      refine e_ret_then ?_
                                      refine e_ret_then ?_
                                      refine e_ret_block ?_
                                      refine e_ret_then ?_
                                      refine e_ret1 Try.results4 (.tmp rfl .nil) (fun w hm => ⟨?_, hm.since⟩)
                                      first
                                      | rfl
                                      | (exfalso; have hm := meets_rfit hbd hk3 (head_of hfn.1 hmem hk3) ht3 hstp; rw [hm] at hD; simp at hD; done)
                                      )
                                · skip
                                  first
                                    | (exfalso; omega)
                                    | (
                                      refine c_cond_f rfl ?_
                                      refine c_skip ?_
                                      refine e_next ?_
                                      refine c_seq ?_
                                      refine c_region ?_
                                      refine r_val .none rfl (p_move rfl) ?_
                                      refine r_val .none rfl (p_assign rfl) ?_
                                      refine r_nil ?_
                                      refine e_next ?_
                                      refine c_region ?_
                                      refine r_val .none rfl (p_move rfl) ?_
                                      refine r_val .none rfl (p_move rfl) ?_
                                      refine r_val .none rfl (p_move rfl) ?_
                                      refine r_iaddr_g .none rfl Try.underlying22 sz26 rfl hb rfl (by first | exact of_decide_eq_true rfl | omega) (fun p_72 o_73 R_71 => ?_)
                                      refine r_val .none rfl (p_ldga0 Try.underlying26 rfl sz26 rfl R_71 (by first | exact of_decide_eq_true rfl | omega) (rfl : _ = Value.agg #[_, _, _])) ?_
                                      refine r_bslice (vs := [(0, Value.agg #[_, _, _])]) (c := #[_, _, _]) .none rfl Try.underlying22 el26 rfl rfl rfl (bs26_10a3 _ _ _) (IsRow.lit _) (fun b_2 => ?_)
                                      refine r_append (k := 2) (k2 := 0) .none rfl Try.underlying22 el26 rfl (by decide) rfl rfl rfl rfl rfl (one_lit rfl rfl) (by simp only [maxLen]; omega) (by omega) (fun v_74 => ?_)
                                      refine r_row1 (k := 2) rfl (fun o_75 => ?_)
                                      refine r_val .none rfl (p_assign rfl) ?_
                                      refine r_nil ?_
                                      refine e_norm_block ?_
                                      refine e_next ?_
                                      refine c_region ?_
                                      refine r_val .none rfl (p_add rfl rfl (by omega)) ?_
                                      refine r_val .none rfl (p_move rfl) ?_
                                      refine r_nil ?_
                                      refine e_round ((k + 1, _, _, _, _, _)) ⟨⟨by dsimp only; omega, u_57s, (by dsimp only; exact Nat.le_trans (rfit_len (some_getD (by assumption))) (by omega)), (by dsimp only; first | omega | (simp; omega)), (by rw [take_at hl0 (by omega)]; exact hbd.goPos (by omega) ht3 (some_getD (by assumption))), ((hgn.trans hn_48).trans hn_54)⟩, by dsimp only; omega⟩ rfl ⟨rfl, rfl, rfl, rfl, rfl, rfl, rfl, trivial⟩ (.drop (.drop (.keep (fun _ _ h => rowA_snoc (l := back) (x := (bs.getD k z3)) rfl rfl rfl rfl _ _ h) (.nil))))
                                      )
                                )
                          )
                    )
              )
        · skip
          first
            | (exfalso; omega)
            | (
              refine c_cond_f rfl ?_
              refine c_exit ?_
              refine e_exit_then ?_
              refine e_exit_then ?_
              refine e_exit_block ?_
              refine e_next ?_
              refine c_seq ?_
              refine c_region ?_
              refine r_call (vs := []) .none rfl cl21 rfl (fun w hw => c_awake13 w) ?_
              refine r_val .none rfl (p_assign rfl) ?_
              refine r_nil ?_
              refine e_next ?_
              refine c_ret ?_
              refine e_ret1 Try.results4 (.tmp rfl .nil) (fun w hm => ⟨?_, hm.since⟩)
              first
              | rfl
              | (exfalso; have hm := meets_rfit hbd hk3 (head_of hfn.1 hmem hk3) ht3 hstp; rw [hm] at hD; simp at hD; done)
              )
        )
end Go.Proofs.Ytinbigokigkfaaa
