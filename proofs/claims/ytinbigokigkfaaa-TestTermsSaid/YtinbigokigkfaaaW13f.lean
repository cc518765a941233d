/- Walks: what Go functions of this chapter come to, each as a function on plain data; no condition but those that each theorem names. Printed by a program of this work (gen.py). -/
import Derived.Test.YtinbigokigkfaaaW13e
import Derived.Test.YtinbigokigkfaaaRows
namespace Go.Proofs.Ytinbigokigkfaaa
open Go.Gx Go.Gx.T13 Go.Gx.T8 Go.Gx.T4 Go.Gx.T3 Go.Gx.T3 Go.Gx.T4 Go.Gx.T3 Go.Gx.T8 Go.Gx.T4 Go.Gx.T3
theorem cl19 : Callable Try.prog 19 := callable Try.func19 (by kernel_rfl) rfl
theorem cl20 : Callable Try.prog 20 := callable Try.func20 (by kernel_rfl) rfl
theorem cl21 : Callable Try.prog 21 := callable Try.func21 (by kernel_rfl) rfl
theorem cl23 : Callable Try.prog 23 := callable Try.func23 (by kernel_rfl) rfl
theorem c_TestMore (v : Value) (l : List CT) (vb : Value) (bs : List Tri) (t : Tri) {G : Ghost} (hs : Cs G v l) (hb : SlL G vb 3 triL z3 bs) (w : World) (hG : Has G w) :
    Calls Try.prog 5 #[v, vb, kT t] w (Ret fun r w' => r = Value.bool true ∧ Since nX w w') := by
  refine enter (args := [_, _, _]) (X := nX) (G := G) (l := [(0, v), (1, vb), (2, kT t)]) Try.func5 rfl Try.ntmps5 hG ⟨rfl, rfl, rfl, trivial⟩ (Nat.le_of_ble_eq_true rfl) ?_
  obtain ⟨rs0, hr0, hp0, hl0⟩ := hs.inv
  have hlr0 : l.length = rs0.length := by rw [hl0]; simp
  refine c_seq ?_
  refine c_region ?_
  refine r_box .none rfl rfl (IsRow.lit _) (fun b_1 => ?_)
  refine r_val .none rfl (p_assign rfl) ?_
  refine r_nil ?_
  refine e_next ?_
  refine c_seq ?_
  refine c_seq ?_
  refine c_region ?_
  refine r_val .none rfl (p_move rfl) ?_
  refine r_val .none rfl (p_leng Try.underlying34 rfl hr0) ?_
  have bd_1 := (hr0).bound
  refine r_val .none rfl (p_lt rfl rfl) ?_
  refine r_val .none rfl (p_move rfl) ?_
  refine' r_or (c := 15) (d := 19) [_, _, _, _] rfl (fun h_2 Q_3 hQ_4 => ?_) (fun h_2 Q_3 hQ_4 => ?_) ?_
  rotate_left 1
  · skip
    replace h_2 := of_decide_eq_false h_2
    refine r_val (.some rfl rfl) rfl (p_move rfl) ?_
    refine r_val (.some rfl rfl) rfl (p_leng Try.underlying22 rfl hb) ?_
    have bd_6 := (hb).bound
    refine r_val (.some rfl rfl) rfl (p_gt rfl rfl) ?_
    refine r_val .none rfl (p_pick_f rfl rfl) ?_
    refine r_nil (e_fin (d := 19) hQ_4 rfl (by repeat (first | exact .refl | refine .put rfl ?_ | refine .say rfl ?_ | refine .say2 rfl (by first | assumption | simp_all) ?_)))
  · skip
    repeat (first | refine r_skip rfl (.no rfl rfl) ?_ | refine r_skip rfl (.un rfl rfl) ?_)
    refine r_val (by first | exact .none | exact .some rfl rfl) rfl (p_pick_t rfl rfl) ?_
    refine r_nil (e_fin (d := 19) hQ_4 rfl (by repeat (first | exact .refl | refine .put rfl ?_ | refine .say rfl ?_ | refine .say2 rfl (by first | assumption | simp_all) ?_)))
  refine r_val .none rfl (p_move rfl) ?_
  refine' r_or (c := 20) (d := 24) [_, _, _, _] rfl (fun h_7 Q_8 hQ_9 => ?_) (fun h_7 Q_8 hQ_9 => ?_) ?_
  rotate_left 1
  · skip
    try simp only [norms] at h_7
    refine r_val (.some rfl rfl) rfl (p_move rfl) ?_
    refine r_call (vs := [_]) (.some rfl rfl) rfl cl19 rfl (fun w hw => c_fine6 _ l hs w hw) ?_
    refine r_val (.some rfl rfl) rfl (p_not rfl) ?_
    refine r_val .none rfl (p_pick_f rfl rfl) ?_
    refine r_nil (e_fin (d := 24) hQ_9 rfl (by repeat (first | exact .refl | refine .put rfl ?_ | refine .say rfl ?_ | refine .say2 rfl (by first | assumption | simp_all) ?_)))
  · skip
    repeat (first | refine r_skip rfl (.no rfl rfl) ?_ | refine r_skip rfl (.un rfl rfl) ?_)
    refine r_val (by first | exact .none | exact .some rfl rfl) rfl (p_pick_t rfl rfl) ?_
    refine r_nil (e_fin (d := 24) hQ_9 rfl (by repeat (first | exact .refl | refine .put rfl ?_ | refine .say rfl ?_ | refine .say2 rfl (by first | assumption | simp_all) ?_)))
  refine r_val .none rfl (p_move rfl) ?_
  refine' r_or (c := 25) (d := 29) [_, _, _, _] rfl (fun h_11 Q_12 hQ_13 => ?_) (fun h_11 Q_12 hQ_13 => ?_) ?_
  rotate_left 1
  · skip
    try simp only [norms] at h_11
    refine r_val (.some rfl rfl) rfl (p_move rfl) ?_
    refine r_call (vs := [_]) (.some rfl rfl) rfl cl20 rfl (fun w hw => c_right13 _ _ hb w hw) ?_
    refine r_val (.some rfl rfl) rfl (p_not rfl) ?_
    refine r_val .none rfl (p_pick_f rfl rfl) ?_
    refine r_nil (e_fin (d := 29) hQ_13 rfl (by repeat (first | exact .refl | refine .put rfl ?_ | refine .say rfl ?_ | refine .say2 rfl (by first | assumption | simp_all) ?_)))
  · skip
    repeat (first | refine r_skip rfl (.no rfl rfl) ?_ | refine r_skip rfl (.un rfl rfl) ?_)
    refine r_val (by first | exact .none | exact .some rfl rfl) rfl (p_pick_t rfl rfl) ?_
    refine r_nil (e_fin (d := 29) hQ_13 rfl (by repeat (first | exact .refl | refine .put rfl ?_ | refine .say rfl ?_ | refine .say2 rfl (by first | assumption | simp_all) ?_)))
  refine r_val .none rfl (p_move rfl) ?_
  refine' r_or (c := 30) (d := 34) [_, _, _, _] rfl (fun h_15 Q_16 hQ_17 => ?_) (fun h_15 Q_16 hQ_17 => ?_) ?_
  rotate_left 1
  · skip
    try simp only [norms] at h_15
    refine r_val (.some rfl rfl) rfl (p_ldw (k := 0) Try.underlying26 rfl sz26 rfl rfl (rfl : _ = Value.agg #[_, _, _])) ?_
    refine r_call (vs := [_]) (.some rfl rfl) rfl cl28 rfl (fun w hw => c_rtri13 t w) ?_
    refine r_val (.some rfl rfl) rfl (p_not rfl) ?_
    refine r_val .none rfl (p_pick_f rfl rfl) ?_
    refine r_nil (e_fin (d := 34) hQ_17 rfl (by repeat (first | exact .refl | refine .put rfl ?_ | refine .say rfl ?_ | refine .say2 rfl (by first | assumption | simp_all) ?_)))
  · skip
    repeat (first | refine r_skip rfl (.no rfl rfl) ?_ | refine r_skip rfl (.un rfl rfl) ?_)
    refine r_val (by first | exact .none | exact .some rfl rfl) rfl (p_pick_t rfl rfl) ?_
    refine r_nil (e_fin (d := 34) hQ_17 rfl (by repeat (first | exact .refl | refine .put rfl ?_ | refine .say rfl ?_ | refine .say2 rfl (by first | assumption | simp_all) ?_)))
  refine r_nil ?_
  refine e_next ?_
  refine c_split (d := 34) rfl (fun h_19 => ?_) (fun h_19 => ?_)
  · skip
    try simp only [norms] at h_19
    first
      | (exfalso; omega)
      | (
        refine c_cond_t rfl ?_
        refine c_seq ?_
        refine c_region ?_
        refine r_call (vs := []) .none rfl cl21 rfl (fun w hw => c_awake13 w) ?_
        refine r_val .none rfl (p_assign rfl) ?_
        refine r_nil ?_
        refine e_next ?_
        refine c_ret ?_
        refine e_ret_then ?_
        refine e_ret1 Try.results5 (.tmp rfl .nil) (fun w hm => ⟨?_, hm.since⟩)
        first
        | rfl
        | (rw [need_none (m := bs.length) hnd (by omega)]; simp; done)
        | (rw [need_enough hnd (by omega)]; simp; done)
        )
  · skip
    try simp only [norms] at h_19
    have hC := h_19
    first
      | (exfalso; omega)
      | (
        refine c_cond_f rfl ?_
        refine c_skip ?_
        refine e_next ?_
        refine c_seq ?_
        refine c_region ?_
        refine r_val .none rfl (p_move rfl) ?_
        obtain ⟨⟨⟨⟨c1, c2⟩, c3⟩, c4⟩, c5⟩ := hC
        have hfn := fineL_yes (by assumption)
        have hsz : sizeL l ≤ 1000 := by omega
        have hss : sszL (stepsOf [] l) ≤ 5000 := Nat.le_trans (sszL_of l []) (by omega)
        have hll := sizeL_len l
        have hoks := ok_stepsOf l [] (by simp; omega)
        refine r_callm (vs := [_]) .none rfl cl24 rfl (fun w hw => c_lref _ _ hsz hs w hw) (fun G_20 v_23 hn_21 hr_22 => ?_)
        replace hr0 := hr0.mono hn_21.le
        replace hb := hb.mono hn_21.le
        replace hs := hs.mono hn_21.le
        have hR := hr_22
        refine r_callm (vs := [_]) .none rfl cl23 rfl (fun w hw => c_compile _ _ hsz hR w hw) (fun G_25 v_28 hn_26 hr_27 => ?_)
        replace hr0 := hr0.mono hn_26.le
        replace hb := hb.mono hn_26.le
        replace hs := hs.mono hn_26.le
        replace hR := hR.mono hn_26.le
        have hS := hr_27
        refine r_callm (vs := [_]) .none rfl cl22 rfl (fun w hw => c_steps _ _ hss hS w hw) (fun G_30 v_33 hn_31 hr_32 => ?_)
        replace hr0 := hr0.mono hn_31.le
        replace hb := hb.mono hn_31.le
        replace hs := hs.mono hn_31.le
        replace hR := hR.mono hn_31.le
        replace hS := hS.mono hn_31.le
        obtain ⟨qs, hq, hqt, hqp, hql⟩ := hr_32.inv
        have hqn : qs.length = l.length := by have h1 := congrArg List.length hql; rw [stepsOf_len] at h1; simpa using h1.symm
        refine r_val .none rfl (p_assign rfl) ?_
        refine r_nil ?_
        refine e_next ?_
        refine c_seq ?_
        refine c_region ?_
        refine r_val .none rfl (p_move rfl) ?_
        refine r_val .none rfl (p_move rfl) ?_
        refine r_val .none rfl (p_leng Try.underlying36 rfl hq) ?_
        have bd_35 := (hq).bound
        refine r_val .none rfl (p_sub rfl rfl (by omega)) ?_
        refine r_say (d := 43) (v := Value.int .i64 ((qs.length - 1 : Nat) : Int)) (congrArg (fun x => some (Value.int .i64 x)) (by omega)) ?_
        refine r_iaddr_g .none rfl Try.underlying36 sz59 rfl hq rfl (by first | exact of_decide_eq_true rfl | omega) (fun p_37 o_38 R_36 => ?_)
        have ht := hqt _ (getD_mem (i := qs.length - 1) (d := s0) (by omega))
        have hsm := hqp _ (getD_mem (i := qs.length - 1) (d := s0) (by omega))
        have hok := hoks _ (by rw [hql]; exact sv_mem (k := qs.length - 1) (by omega))
        refine r_val .none rfl (p_ldga0 Try.underlying59 rfl sz59 rfl R_36 (by first | exact of_decide_eq_true rfl | omega) (rfl : _ = Value.agg #[_, _, _, _, _, _])) ?_
        refine r_alloc .none rfl zr59 (IsRow.lit _) (fun b_2 => ?_)
        refine r_stw (k := 0) .none sz59 rfl rfl (IsRow.lit _) (one_lit rfl (all_cons rfl (all_cons rfl (all_cons rfl (all_cons rfl (all_cons (ht).one (all_cons (hsm).one rfl))))))) rfl ?_
        refine r_nil ?_
        refine e_next ?_
        refine c_seq ?_
        refine c_region ?_
        refine r_val .none rfl (p_assign rfl) ?_
        refine r_nil ?_
        refine e_next ?_
        refine c_seq ?_
        refine c_seq ?_
        refine c_region ?_
        refine r_val .none rfl (p_field Try.underlying59 rfl sz57 rfl) ?_
        refine r_val .none rfl (p_ld (k := 0) Try.underlying57 rfl rfl rfl (by first | exact of_decide_eq_true rfl | omega) rfl) ?_
        refine r_val .none rfl (p_leng Try.underlying57 rfl ht) ?_
        have bd_39 := (ht).bound
        refine r_val .none rfl (p_move rfl) ?_
        refine r_nil ?_
        refine e_next ?_
        refine c_block ?_
        refine c_name (d := 1) rfl (fun u_40 hu_40 => ?_)
        refine c_name (d := 5) rfl (fun u_41 hu_41 => ?_)
        refine c_name (d := 6) rfl (fun u_42 hu_42 => ?_)
        refine c_name (d := 8) rfl (fun u_43 hu_43 => ?_)
        refine c_name (d := 47) rfl (fun u_44 hu_44 => ?_)
        refine c_name (d := 48) rfl (fun u_45 hu_45 => ?_)
        refine c_nameL (k := 0) rfl (fun A_46 hA_46 => ?_)
        refine c_nameL (k := 1) rfl (fun A_47 hA_47 => ?_)
        refine c_loop (σ := Nat × Nat) (fun s => [(49, Value.int .i64 (s.1 : Nat)), (9, Value.int .i64 (s.2 : Nat)), (1, u_40), (5, u_41), (6, u_42), (8, u_43), (47, u_44), (48, u_45)]) (fun s => [A_46, A_47]) (fun _ => _) (fun s => s.1 ≤ (qs.getD (qs.length - 1) s0).1.h.ts.length ∧ Need ((qs.getD (qs.length - 1) s0).1.h.ts.take s.1) s.2) (fun s => (qs.getD (qs.length - 1) s0).1.h.ts.length - s.1) ((0, 0)) ⟨Nat.zero_le _, Need.nil⟩ rfl ⟨rfl, rfl, rfl, rfl, rfl, rfl, rfl, rfl, trivial⟩ (.keep (fun _ _ h => h) (.keep (fun _ _ h => h) (.nil))) (fun s hphi => ?_)
        subst hu_40
        subst hu_41
        subst hu_42
        subst hu_43
        subst hu_44
        subst hu_45
        subst hA_46
        subst hA_47
        obtain ⟨k, n⟩ := s
        obtain ⟨hk, hnd⟩ := hphi
        dsimp only at hk hnd ⊢
        refine c_seq ?_
        refine c_region ?_
        refine r_val .none rfl (p_lt rfl rfl) ?_
        refine r_nil ?_
        refine e_next ?_
        refine c_seq ?_
        refine c_splitd (d := 50) rfl (fun h_48 => ?_) (fun h_48 => ?_)
        · skip
          first
            | (exfalso; omega)
            | (
              refine c_cond_t rfl ?_
              refine c_skip ?_
              refine e_next ?_
              refine c_seq ?_
              refine c_block ?_
              refine c_seq ?_
              refine c_region ?_
              refine r_iaddr_g .none rfl Try.underlying57 sz63 rfl ht rfl (by first | exact of_decide_eq_true rfl | omega) (fun p_50 o_51 R_49 => ?_)
              refine r_val .none rfl (p_ldga0 Try.underlying63 rfl sz63 rfl R_49 (by first | exact of_decide_eq_true rfl | omega) (rfl : _ = Value.agg #[_, _, _])) ?_
              have hox := hok _ (getD_mem (i := k) (d := t0) (by omega))
              have hob := hox.b
              refine r_alloc .none rfl zr63 (IsRow.lit _) (fun b_3 => ?_)
              refine r_stw (k := 0) .none sz63 rfl rfl (IsRow.lit _) (one_lit rfl rfl) rfl ?_
              refine r_nil ?_
              refine e_next ?_
              refine c_region ?_
              refine r_val .none rfl (p_move rfl) ?_
              refine r_val .none rfl (p_field Try.underlying63 rfl sz3 rfl) ?_
              refine r_val .none rfl (p_ld (k := 0) Try.underlying3 rfl rfl rfl (by first | exact of_decide_eq_true rfl | omega) (rfl : _ = Value.int _ _)) ?_
              refine r_val .none rfl (p_add rfl rfl (by omega)) ?_
              refine r_val .none rfl (p_max rfl rfl) ?_
              refine r_val .none rfl (p_assign rfl) ?_
              refine r_nil ?_
              refine e_norm_block ?_
              refine e_next ?_
              refine c_region ?_
              refine r_val .none rfl (p_add rfl rfl (by omega)) ?_
              refine r_val .none rfl (p_move rfl) ?_
              refine r_nil ?_
              refine e_round ((k + 1, max n (((qs.getD (qs.length - 1) s0).1.h.ts.getD k t0).2.1 + 1).toNat)) ⟨⟨by dsimp only; omega, hnd.next (by omega)⟩, by dsimp only; omega⟩ rfl ⟨rfl, (congrArg (fun z => some (Value.int .i64 z)) (by omega)), rfl, rfl, rfl, rfl, rfl, rfl, trivial⟩ (.drop (.keep (fun _ _ h => h) (.keep (fun _ _ h => h) (.nil))))
              )
        · skip
          first
            | (exfalso; omega)
            | (
              refine c_cond_f rfl ?_
              refine c_exit ?_
              refine e_exit_then ?_
              refine e_exit_then ?_
              refine e_exit_block ?_
              refine e_next ?_
              refine c_seq ?_
              refine c_seq ?_
              refine c_region ?_
              refine r_val .none rfl (p_move rfl) ?_
              refine r_val .none rfl (p_move rfl) ?_
              refine r_val .none rfl (p_leng Try.underlying22 rfl hb) ?_
              have bd_52 := (hb).bound
              refine r_val .none rfl (p_gt rfl rfl) ?_
              refine r_nil ?_
              refine e_next ?_
              refine c_splitd (d := 62) rfl (fun h_53 => ?_) (fun h_53 => ?_)
              · skip
                have hk2 : (qs.getD (qs.length - 1) s0).1.h.ts.take k = (qs.getD (qs.length - 1) s0).1.h.ts := List.take_of_length_le (by omega)
                rw [hk2] at hnd
                first
                  | (exfalso; omega)
                  | (
                    refine c_cond_t rfl ?_
                    refine c_seq ?_
                    refine c_region ?_
                    refine r_val .none rfl (p_field Try.underlying59 rfl sz57 rfl) ?_
                    refine r_val .none rfl (p_ld (k := 0) Try.underlying57 rfl rfl rfl (by first | exact of_decide_eq_true rfl | omega) rfl) ?_
                    refine r_val .none rfl (p_leng Try.underlying57 rfl ht) ?_
                    have bd_54 := (ht).bound
                    refine r_val .none rfl (p_eq rfl rfl) ?_
                    refine r_val .none rfl (p_move rfl) ?_
                    refine' r_or (c := 67) (d := 72) [_, _, _, _, _] rfl (fun h_55 Q_56 hQ_57 => ?_) (fun h_55 Q_56 hQ_57 => ?_) ?_
                    rotate_left 1
                    · skip
                      replace h_55 := of_decide_eq_false h_55
                      refine r_val (.some rfl rfl) rfl (p_ldw (k := 0) Try.underlying59 rfl sz59 rfl rfl (rfl : _ = Value.agg #[_, _, _, _, _, _])) ?_
                      refine r_val (.some rfl rfl) rfl (p_ldw (k := 1) Try.underlying26 rfl sz26 rfl rfl (rfl : _ = Value.agg #[_, _, _])) ?_
                      refine r_call (vs := [_, _, _]) (.some rfl rfl) rfl cl27 rfl (fun w hw => c_meets (qs.getD (qs.length - 1) s0).1.h.k ((qs.getD (qs.length - 1) s0).1.h.k0, (qs.getD (qs.length - 1) s0).1.h.k1, (qs.getD (qs.length - 1) s0).1.h.k2) (qs.getD (qs.length - 1) s0).1.h.ts _ _ _ [] t hok ht (SlG.nil _ _ _) w hw) ?_
                      refine r_val (.some rfl rfl) rfl (p_not rfl) ?_
                      refine r_val .none rfl (p_pick_f rfl rfl) ?_
                      refine r_nil (e_fin (d := 72) hQ_57 rfl (by repeat (first | exact .refl | refine .put rfl ?_ | refine .say rfl ?_ | refine .say2 rfl (by first | assumption | simp_all) ?_)))
                    · skip
                      repeat (first | refine r_skip rfl (.no rfl rfl) ?_ | refine r_skip rfl (.un rfl rfl) ?_)
                      refine r_val (by first | exact .none | exact .some rfl rfl) rfl (p_pick_t rfl rfl) ?_
                      refine r_nil (e_fin (d := 72) hQ_57 rfl (by repeat (first | exact .refl | refine .put rfl ?_ | refine .say rfl ?_ | refine .say2 rfl (by first | assumption | simp_all) ?_)))
                    refine r_val .none rfl (p_move rfl) ?_
                    refine' r_or (c := 73) (d := 76) [_, _, _] rfl (fun h_59 Q_60 hQ_61 => ?_) (fun h_59 Q_60 hQ_61 => ?_) ?_
                    rotate_left 1
                    · skip
                      try simp only [norms] at h_59
                      refine r_val (.some rfl rfl) rfl (p_move rfl) ?_
                      refine r_val (.some rfl rfl) rfl (p_eq rfl rfl) ?_
                      refine r_val .none rfl (p_pick_f rfl rfl) ?_
                      refine r_nil (e_fin (d := 76) hQ_61 rfl (by repeat (first | exact .refl | refine .put rfl ?_ | refine .say rfl ?_ | refine .say2 rfl (by first | assumption | simp_all) ?_)))
                    · skip
                      repeat (first | refine r_skip rfl (.no rfl rfl) ?_ | refine r_skip rfl (.un rfl rfl) ?_)
                      refine r_val (by first | exact .none | exact .some rfl rfl) rfl (p_pick_t rfl rfl) ?_
                      refine r_nil (e_fin (d := 76) hQ_61 rfl (by repeat (first | exact .refl | refine .put rfl ?_ | refine .say rfl ?_ | refine .say2 rfl (by first | assumption | simp_all) ?_)))
                    refine r_val .none rfl (p_move rfl) ?_
                    refine' r_and (c := 77) (d := 79) [_, _] rfl (fun h_63 Q_64 hQ_65 => ?_) (fun h_63 Q_64 hQ_65 => ?_) ?_
                    rotate_left 1
                    · skip
                      try simp only [norms] at h_63
                      refine r_call (vs := []) (.some rfl rfl) rfl cl21 rfl (fun w hw => c_awake13 w) ?_
                      refine r_val .none rfl (p_pick_t rfl rfl) ?_
                      refine r_nil (e_fin (d := 79) hQ_65 rfl (by repeat (first | exact .refl | refine .put rfl ?_ | refine .say rfl ?_ | refine .say2 rfl (by first | assumption | simp_all) ?_)))
                    · skip
                      repeat (first | refine r_skip rfl (.no rfl rfl) ?_ | refine r_skip rfl (.un rfl rfl) ?_)
                      refine r_val (by first | exact .none | exact .some rfl rfl) rfl (p_pick_f rfl rfl) ?_
                      refine r_nil (e_fin (d := 79) hQ_65 rfl (by repeat (first | exact .refl | refine .put rfl ?_ | refine .say rfl ?_ | refine .say2 rfl (by first | assumption | simp_all) ?_)))
                    refine r_val .none rfl (p_assign rfl) ?_
                    refine r_nil ?_
                    refine e_next ?_
                    refine c_ret ?_
                    refine e_ret_then ?_
                    refine e_ret1 Try.results5 (.tmp rfl .nil) (fun w hm => ⟨?_, hm.since⟩)
                    first
                    | rfl
                    | (rw [need_none (m := bs.length) hnd (by omega)]; simp; done)
                    | (rw [need_enough hnd (by omega)]; simp; done)
                    )
              · skip
                have hk2 : (qs.getD (qs.length - 1) s0).1.h.ts.take k = (qs.getD (qs.length - 1) s0).1.h.ts := List.take_of_length_le (by omega)
                rw [hk2] at hnd
                first
                  | (exfalso; omega)
                  | (
                    refine c_cond_f rfl ?_
                    refine c_skip ?_
                    refine e_next ?_
                    refine c_seq ?_
                    refine c_region_q mixed (by kernel_rfl) ?_
                    refine q_val .none rfl (p_ldw (k := 0) Try.underlying59 rfl sz59 rfl rfl (rfl : _ = Value.agg #[_, _, _, _, _, _])) ?_
                    refine q_val .none rfl (p_move rfl) ?_
                    refine q_val .none rfl (p_move rfl) ?_
                    refine q_slice0 (n) .none rfl Try.underlying22 sz26 rfl hb rfl (by first | exact of_decide_eq_true rfl | omega) (fun v_67 hs_68 => ?_)
                    have hpt_70 := SlL.part (by omega) hs_68
                    refine q_val .none rfl (p_ldw (k := 1) Try.underlying26 rfl sz26 rfl rfl (rfl : _ = Value.agg #[_, _, _])) ?_
                    refine q_call (vs := [_, _, _]) .none rfl cl27 rfl (fun w hw => c_meets (qs.getD (qs.length - 1) s0).1.h.k ((qs.getD (qs.length - 1) s0).1.h.k0, (qs.getD (qs.length - 1) s0).1.h.k1, (qs.getD (qs.length - 1) s0).1.h.k2) (qs.getD (qs.length - 1) s0).1.h.ts _ _ _ (bs.take n) t hok ht hpt_70 w hw) ?_
                    refine q_val .none rfl (p_ldw (k := 0) Try.underlying59 rfl sz59 rfl rfl (rfl : _ = Value.agg #[_, _, _, _, _, _])) ?_
                    refine q_val .none rfl (p_move rfl) ?_
                    refine q_val .none rfl (p_ldw (k := 1) Try.underlying26 rfl sz26 rfl rfl (rfl : _ = Value.agg #[_, _, _])) ?_
                    refine q_call (vs := [_, _, _]) .none rfl cl27 rfl (fun w hw => c_meets (qs.getD (qs.length - 1) s0).1.h.k ((qs.getD (qs.length - 1) s0).1.h.k0, (qs.getD (qs.length - 1) s0).1.h.k1, (qs.getD (qs.length - 1) s0).1.h.k2) (qs.getD (qs.length - 1) s0).1.h.ts _ _ _ bs t hok ht hb w hw) ?_
                    refine q_val .none rfl (p_eqb Try.underlying4 rfl rfl) ?_
                    refine q_val .none rfl (p_move rfl) ?_
                    refine' q_and (c := 91) (d := 93) [_, _] rfl (fun h_71 Q_72 hQ_73 => ?_) (fun h_71 Q_72 hQ_73 => ?_) ?_
                    rotate_left 1
                    · skip
                      replace h_71 := of_decide_eq_true h_71
                      refine q_call (vs := []) (.some rfl rfl) rfl cl21 rfl (fun w hw => c_awake13 w) ?_
                      refine q_val .none rfl (p_pick_t rfl rfl) ?_
                      refine q_nil (e_fin (d := 93) hQ_73 rfl (by repeat (first | exact .refl | refine .put rfl ?_ | refine .say rfl ?_ | refine .say2 rfl (by first | assumption | simp_all) ?_)))
                    · skip
                      repeat (first | refine q_skip rfl (.no rfl rfl) ?_ | refine q_skip rfl (.un rfl rfl) ?_)
                      refine q_val (by first | exact .none | exact .some rfl rfl) rfl (p_pick_f rfl rfl) ?_
                      refine q_nil (e_fin (d := 93) hQ_73 rfl (by repeat (first | exact .refl | refine .put rfl ?_ | refine .say rfl ?_ | refine .say2 rfl (by first | assumption | simp_all) ?_)))
                    refine q_val .none rfl (p_assign rfl) ?_
                    refine q_nil ?_
                    refine e_next ?_
                    refine c_ret ?_
                    refine e_ret1 Try.results5 (.tmp rfl .nil) (fun w hm => ⟨?_, hm.since⟩)
                    first
                    | rfl
                    | (rw [need_none (m := bs.length) hnd (by omega)]; simp; done)
                    | (rw [need_enough hnd (by omega)]; simp; done)
                    )
              )
        )
end Go.Proofs.Ytinbigokigkfaaa
