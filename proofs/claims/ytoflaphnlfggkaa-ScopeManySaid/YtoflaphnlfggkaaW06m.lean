/- Walks: what Go functions of this chapter come to, each as a function on plain data; no condition but those that each theorem names. Printed by a program of this work (gen.py). -/
import Derived.Test.YtoflaphnlfggkaaW06h
import Derived.Test.YtoflaphnlfggkaaRows
namespace Go.Proofs.Ytoflaphnlfggkaa
open Go.Gx Go.Gx.T4 Go.Gx.T3 Go.Gx.T6 Go.Gx.T8 Go.Gx.T4 Go.Gx.T3 Go.Gx.T8 Go.Gx.T4 Go.Gx.T3

theorem c_ScopeMany (v : Value) (l : List CT) {G : Ghost} (hs : Cs G v l) (w : World) (hG : Has G w) :
    Calls Try.prog 5 #[v] w (Ret fun r w' => r = Value.bool true ∧ Since nX w w') := by
  refine enter (args := [_]) (X := nX) (G := G) (l := [(0, v)]) Try.func5 rfl Try.ntmps5 hG ⟨rfl, trivial⟩ (Nat.le_of_ble_eq_true rfl) ?_
  obtain ⟨rs, hr, hp, hl⟩ := hs.inv
  have hlr : l.length = rs.length := by rw [hl]; simp
  have hbd := hr.bound
  refine c_seq ?_
  refine c_region ?_
  refine r_val .none rfl (p_assign rfl) ?_
  refine r_nil ?_
  refine e_next ?_
  refine c_seq ?_
  refine c_seq ?_
  refine c_region ?_
  refine r_val .none rfl (p_move rfl) ?_
  refine r_call (vs := [_]) .none rfl cl11 rfl (fun w hw => c_fine6 _ _ hs w hw) ?_
  refine r_val .none rfl (p_not rfl) ?_
  refine r_nil ?_
  refine e_next ?_
  refine c_splitn (d := 14) rfl (fun h_1 => ?_) (fun h_1 => ?_)
  · skip
    first
      | (exfalso; first | omega | assumption)
      | (
        refine c_cond_t rfl ?_
        refine c_seq ?_
        refine c_region ?_
        refine r_call (vs := []) .none rfl cl12 rfl (fun w hw => c_awake6 w) ?_
        refine r_val .none rfl (p_assign rfl) ?_
        refine r_nil ?_
        refine e_next ?_
        refine c_ret ?_
        refine e_ret_then ?_
        refine e_ret1 Try.results5 (.tmp rfl .nil) (fun w hm => ⟨?_, hm.since⟩)
        rfl
        )
  · skip
    have hf : fineL l = true := h_1
    have hfy := fineL_yes hf
    have hsz : sizeL l ≤ 1000 := by omega
    have hll := sizeL_len l
    have hflat := flat_all_of hfy.1
    first
      | (exfalso; first | omega | assumption)
      | (
        refine c_cond_f rfl ?_
        refine c_skip ?_
        refine e_next ?_
        refine c_seq ?_
        refine c_region ?_
        refine r_val .none rfl (p_move rfl) ?_
        refine r_callm (vs := [_]) .none rfl cl13 rfl (fun w hw => c_chains6 _ _ hsz hs w hw) (fun G_2 v_5 hn_3 hr_4 => ?_)
        replace hr := hr.mono hn_3.le
        replace hs := hs.mono hn_3.le
        replace hp := fun p hm0 => (hp p hm0).mono hn_3.le
        obtain ⟨u_6qs, u_6q, u_6p, u_6l⟩ := hr_4
        have u_6l2 : chains [] l = u_6qs.map Prod.fst := u_6l
        have hnc : u_6qs.length = (chains [] l).length := by have h := congrArg List.length u_6l; rw [List.length_map] at h; exact h.symm
        have hce := chains_eq l [] hflat
        refine r_val .none rfl (p_assign rfl) ?_
        refine r_nil ?_
        refine e_next ?_
        refine c_seq ?_
        refine c_region ?_
        refine r_val .none rfl (p_assign rfl) ?_
        refine r_nil ?_
        refine e_next ?_
        refine c_seq ?_
        refine c_seq ?_
        refine c_region ?_
        refine r_val .none rfl (p_move rfl) ?_
        refine r_val .none rfl (p_leng Try.underlying22 rfl hr) ?_
        have bd_7 := (hr).bound
        refine r_val .none rfl (p_move rfl) ?_
        refine r_nil ?_
        refine e_next ?_
        refine c_block ?_
        refine c_name (d := 2) rfl (fun u_8 hu_8 => ?_)
        refine c_name (d := 3) rfl (fun u_9 hu_9 => ?_)
        refine c_name (d := 18) rfl (fun u_10 hu_10 => ?_)
        refine c_name (d := 19) rfl (fun u_11 hu_11 => ?_)
        refine c_loop (σ := Nat × Ghost) (fun s => [(20, Value.int .i64 (s.1 : Nat)), (4, Value.int .i64 (sizeL ((rs.map Prod.fst).take s.1) : Nat)), (2, u_8), (3, u_9), (18, u_10), (19, u_11)]) (fun s => []) (fun s => s.2) (fun s => s.1 ≤ rs.length ∧ GNew w nX G_2 s.2) (fun s => rs.length - s.1) ((0, _)) ⟨Nat.zero_le _, GNew.refl _ _ _⟩ rfl ⟨rfl, rfl, rfl, rfl, rfl, rfl, trivial⟩ (.nil) (fun s hphi => ?_)
        subst hu_8
        subst hu_9
        subst hu_10
        subst hu_11
        obtain ⟨k, H⟩ := s
        obtain ⟨hk, hgn⟩ := hphi
        dsimp only at hk hgn ⊢
        replace hr := hr.mono hgn.le
        replace hs := hs.mono hgn.le
        replace hp := fun p hm0 => (hp p hm0).mono hgn.le
        replace u_6q := u_6q.mono hgn.le
        replace u_6p := fun p hm0 => (u_6p p hm0).mono hgn.le
        refine c_seq ?_
        refine c_region ?_
        refine r_val .none rfl (p_lt rfl rfl) ?_
        refine r_nil ?_
        refine e_next ?_
        refine c_seq ?_
        refine c_splitd (d := 21) rfl (fun h_12 => ?_) (fun h_12 => ?_)
        · skip
          first
            | (exfalso; first | omega | assumption)
            | (
              refine c_cond_t rfl ?_
              refine c_skip ?_
              refine e_next ?_
              refine c_seq ?_
              refine c_block ?_
              refine c_seq ?_
              refine c_region ?_
              refine r_iaddr_g .none rfl Try.underlying22 sz38 rfl hr rfl (by first | exact of_decide_eq_true rfl | omega) (fun p_14 o_15 R_13 => ?_)
              have hc_16 := hp _ (getD_mem (i := k) (d := d0) (by omega))
              refine r_val .none rfl (p_ldga0 Try.underlying38 rfl sz38 rfl R_13 (by first | exact of_decide_eq_true rfl | omega) (rfl : _ = Value.agg #[_, _, _, _, _, _, _, _])) ?_
              have hst := sizeL_take (rs := rs) (k := k) (by omega)
              have hst2 : sizeL ((rs.map Prod.fst).take (k + 1)) ≤ sizeL l := by rw [hl]; exact sizeL_take_le _ _
              have hz3 : size (rs.getD k d0).1 ≤ 1000 := by omega
              refine r_alloc .none rfl zr38 (IsRow.lit _) (fun b_1 => ?_)
              refine r_stw (k := 0) .none sz38 rfl rfl (IsRow.lit _) (one_lit rfl (all_cons rfl (all_cons rfl (all_cons rfl (all_cons rfl (all_cons rfl (all_cons rfl (all_cons rfl (all_cons (hc_16).one rfl))))))))) rfl ?_
              refine r_nil ?_
              refine e_next ?_
              refine c_region ?_
              refine r_val .none rfl (p_move rfl) ?_
              refine r_val .none rfl (p_ldw (k := 0) Try.underlying38 rfl sz38 rfl rfl (rfl : _ = Value.agg #[_, _, _, _, _, _, _, _])) ?_
              refine r_callm (vs := [_]) .none rfl cl19 rfl (fun w hw => c_ref4 (rs.getD k d0).1 _ hz3 hc_16 w hw) (fun G_17 v_20 hn_18 hr_19 => ?_)
              replace hr := hr.mono hn_18.le
              replace hs := hs.mono hn_18.le
              replace hp := fun p hm0 => (hp p hm0).mono hn_18.le
              replace u_6q := u_6q.mono hn_18.le
              replace u_6p := fun p hm0 => (u_6p p hm0).mono hn_18.le
              replace R_13 := R_13.mono hn_18.le
              replace hc_16 := hc_16.mono hn_18.le
              obtain ⟨u_21, rfl, u_21s⟩ := hr_19
              refine r_call (vs := [_]) .none rfl cl18 rfl (fun w hw => c_rsize (rs.getD k d0).1 _ hz3 u_21s w hw) ?_
              refine r_val .none rfl (p_add rfl rfl (by omega)) ?_
              refine r_val .none rfl (p_assign rfl) ?_
              refine r_nil ?_
              refine e_norm_block ?_
              refine e_next ?_
              refine c_region ?_
              refine r_val .none rfl (p_add rfl rfl (by omega)) ?_
              refine r_val .none rfl (p_move rfl) ?_
              refine r_nil ?_
              refine e_round ((k + 1, _)) ⟨⟨by dsimp only; omega, (hgn.trans hn_18)⟩, by dsimp only; omega⟩ rfl ⟨rfl, (congrArg (fun z => some (Value.int .i64 z)) (by rw [hst]; omega)), rfl, rfl, rfl, rfl, trivial⟩ (.drop (.nil))
              )
        · skip
          first
            | (exfalso; first | omega | assumption)
            | (
              refine c_cond_f rfl ?_
              refine c_exit ?_
              refine e_exit_then ?_
              refine e_exit_then ?_
              refine e_exit_block ?_
              refine e_next ?_
              refine c_seq ?_
              refine c_seq ?_
              refine c_region ?_
              refine r_val .none rfl (p_move rfl) ?_
              refine r_val .none rfl (p_leng Try.underlying25 rfl u_6q) ?_
              have bd_22 := (u_6q).bound
              refine r_val .none rfl (p_move rfl) ?_
              have htk : sizeL ((rs.map Prod.fst).take k) = sizeL l := by rw [List.take_of_length_le (by simp; omega), ← hl]
              refine r_val .none rfl (p_ne rfl rfl) ?_
              refine r_nil ?_
              refine e_next ?_
              refine c_splitd (d := 33) rfl (fun h_23 => ?_) (fun h_23 => ?_)
              · skip
                first
                  | (exfalso; first | omega | assumption)
                  | (
                    refine c_cond_t rfl ?_
                    refine c_seq ?_
                    refine c_region ?_
                    refine r_val .none rfl (p_assign rfl) ?_
                    refine r_nil ?_
                    refine e_next ?_
                    refine c_ret ?_
                    refine e_ret_then ?_
                    refine e_ret1 Try.results5 (.tmp rfl .nil) (fun w hm => ⟨?_, hm.since⟩)
                    rfl
                    )
              · skip
                first
                  | (exfalso; first | omega | assumption)
                  | (
                    refine c_cond_f rfl ?_
                    refine c_skip ?_
                    refine e_next ?_
                    refine c_seq ?_
                    refine c_seq ?_
                    refine c_region ?_
                    refine r_val .none rfl (p_move rfl) ?_
                    refine r_val .none rfl (p_leng Try.underlying25 rfl u_6q) ?_
                    have bd_24 := (u_6q).bound
                    refine r_val .none rfl (p_move rfl) ?_
                    refine r_nil ?_
                    refine e_next ?_
                    refine c_block ?_
                    refine c_name (d := 3) rfl (fun u_25 hu_25 => ?_)
                    refine c_name (d := 34) rfl (fun u_26 hu_26 => ?_)
                    refine c_name (d := 35) rfl (fun u_27 hu_27 => ?_)
                    refine c_loop (σ := Nat × Ghost) (fun s => [(36, Value.int .i64 (s.1 : Nat)), (3, u_25), (34, u_26), (35, u_27)]) (fun s => []) (fun s => s.2) (fun s => s.1 ≤ (chains [] l).length ∧ GNew w nX H s.2) (fun s => (chains [] l).length - s.1) ((0, _)) ⟨Nat.zero_le _, GNew.refl _ _ _⟩ rfl ⟨rfl, rfl, rfl, rfl, trivial⟩ (.nil) (fun s hphi => ?_)
                    subst hu_25
                    subst hu_26
                    subst hu_27
                    obtain ⟨i, H2⟩ := s
                    obtain ⟨hi, hgn2⟩ := hphi
                    dsimp only at hi hgn2 ⊢
                    replace hr := hr.mono hgn2.le
                    replace hs := hs.mono hgn2.le
                    replace hp := fun p hm0 => (hp p hm0).mono hgn2.le
                    replace u_6q := u_6q.mono hgn2.le
                    replace u_6p := fun p hm0 => (u_6p p hm0).mono hgn2.le
                    refine c_seq ?_
                    refine c_region ?_
                    refine r_val .none rfl (p_lt rfl rfl) ?_
                    refine r_nil ?_
                    refine e_next ?_
                    refine c_seq ?_
                    refine c_splitd (d := 37) rfl (fun h_28 => ?_) (fun h_28 => ?_)
                    · skip
                      first
                        | (exfalso; first | omega | assumption)
                        | (
                          refine c_cond_t rfl ?_
                          refine c_skip ?_
                          refine e_next ?_
                          refine c_seq ?_
                          refine c_block ?_
                          refine c_seq ?_
                          refine c_region ?_
                          refine r_val .none rfl (p_move rfl) ?_
                          refine r_iaddr_g .none rfl Try.underlying25 sz22 rfl u_6q rfl (by first | exact of_decide_eq_true rfl | omega) (fun p_30 o_31 R_29 => ?_)
                          have hc_32 := u_6p _ (getD_mem (i := i) (d := e6) (by omega))
                          obtain ⟨es, he, hep, hel⟩ := (hc_32).inv
                          have hel2 : es.length = (u_6qs.getD i e6).1.length := by rw [hel]; simp
                          have hpre := had_pre (l := l) (i := i) (by omega)
                          rw [chain_get u_6l2] at hpre
                          have hne : (u_6qs.getD i e6).1.length ≠ 0 := fun hx => hpre.1 (List.eq_nil_of_length_eq_zero hx)
                          have hdl : (u_6qs.getD i e6).1.dropLast = (es.map Prod.fst).take (es.length - 1) := by rw [List.dropLast_eq_take, ← hel2, hel]
                          have hszi : sizeL (u_6qs.getD i e6).1 ≤ 1000 := chain_small u_6l2 (by omega) hsz
                          refine r_val .none rfl (p_ldg0 Try.underlying22 rfl rfl R_29 (by first | exact of_decide_eq_true rfl | omega) rfl) ?_
                          refine r_val .none rfl (p_assign rfl) ?_
                          refine r_val .none rfl (p_assign rfl) ?_
                          refine r_nil ?_
                          refine e_next ?_
                          refine c_seq ?_
                          refine c_seq ?_
                          refine c_region ?_
                          refine r_val .none rfl (p_move rfl) ?_
                          refine r_val .none rfl (p_leng Try.underlying22 rfl he) ?_
                          have bd_33 := (he).bound
                          refine r_val .none rfl (p_eq rfl rfl) ?_
                          refine r_nil ?_
                          refine e_next ?_
                          refine c_splitd (d := 43) rfl (fun h_34 => ?_) (fun h_34 => ?_)
                          · skip
                            first
                              | (exfalso; first | omega | assumption)
                              | (
                                refine c_cond_t rfl ?_
                                refine c_seq ?_
                                refine c_region ?_
                                refine r_val .none rfl (p_assign rfl) ?_
                                refine r_nil ?_
                                refine e_next ?_
                                refine c_ret ?_
                                refine e_ret_then ?_
                                refine e_ret_block ?_
                                refine e_ret_then ?_
                                refine e_ret_then ?_
                                refine e_ret_block ?_
                                refine e_ret_then ?_
                                refine e_ret1 Try.results5 (.tmp rfl .nil) (fun w hm => ⟨?_, hm.since⟩)
                                rfl
                                )
                          · skip
                            first
                              | (exfalso; first | omega | assumption)
                              | (
                                refine c_cond_f rfl ?_
                                refine c_skip ?_
                                refine e_next ?_
                                refine c_seq ?_
                                refine c_region ?_
                                refine r_val .none rfl (p_move rfl) ?_
                                refine r_val .none rfl (p_leng Try.underlying22 rfl he) ?_
                                have bd_35 := (he).bound
                                refine r_val .none rfl (p_eq rfl rfl) ?_
                                refine r_val .none rfl (p_assign rfl) ?_
                                refine r_nil ?_
                                refine e_next ?_
                                refine c_seq ?_
                                refine c_seq ?_
                                refine c_region ?_
                                refine r_val .none rfl (p_move rfl) ?_
                                refine r_val .none rfl (p_move rfl) ?_
                                refine r_slice0 (i) .none rfl Try.underlying25 sz22 rfl u_6q rfl (by first | exact of_decide_eq_true rfl | omega) (fun v_36 hs_37 => ?_)
                                refine r_val .none rfl (p_leng Try.underlying25 rfl hs_37) ?_
                                have bd_39 := (hs_37).bound
                                refine r_val .none rfl (p_move rfl) ?_
                                refine r_nil ?_
                                refine e_next ?_
                                refine c_block ?_
                                refine c_name (d := 3) rfl (fun u_40 hu_40 => ?_)
                                refine c_name (d := 7) rfl (fun u_41 hu_41 => ?_)
                                refine c_name (d := 8) rfl (fun u_42 hu_42 => ?_)
                                refine c_name (d := 34) rfl (fun u_43 hu_43 => ?_)
                                refine c_name (d := 35) rfl (fun u_44 hu_44 => ?_)
                                refine c_name (d := 36) rfl (fun u_45 hu_45 => ?_)
                                refine c_name (d := 37) rfl (fun u_46 hu_46 => ?_)
                                refine c_name (d := 38) rfl (fun u_47 hu_47 => ?_)
                                refine c_name (d := 39) rfl (fun u_48 hu_48 => ?_)
                                refine c_name (d := 40) rfl (fun u_49 hu_49 => ?_)
                                refine c_name (d := 41) rfl (fun u_50 hu_50 => ?_)
                                refine c_name (d := 42) rfl (fun u_51 hu_51 => ?_)
                                refine c_name (d := 43) rfl (fun u_52 hu_52 => ?_)
                                refine c_name (d := 44) rfl (fun u_53 hu_53 => ?_)
                                refine c_name (d := 45) rfl (fun u_54 hu_54 => ?_)
                                refine c_name (d := 46) rfl (fun u_55 hu_55 => ?_)
                                refine c_name (d := 47) rfl (fun u_56 hu_56 => ?_)
                                refine c_name (d := 48) rfl (fun u_57 hu_57 => ?_)
                                refine c_name (d := 49) rfl (fun u_58 hu_58 => ?_)
                                refine c_name (d := 50) rfl (fun u_59 hu_59 => ?_)
                                refine c_loop (σ := Nat × Ghost) (fun s => [(51, Value.int .i64 (s.1 : Nat)), (9, Value.bool (foundTo (chains [] l) (u_6qs.getD i e6).1 s.1)), (3, u_40), (7, u_41), (8, u_42), (34, u_43), (35, u_44), (36, u_45), (37, u_46), (38, u_47), (39, u_48), (40, u_49), (41, u_50), (42, u_51), (43, u_52), (44, u_53), (45, u_54), (46, u_55), (47, u_56), (48, u_57), (49, u_58), (50, u_59)]) (fun s => []) (fun s => s.2) (fun s => s.1 ≤ i ∧ GNew w nX H2 s.2) (fun s => i - s.1) ((0, _)) ⟨Nat.zero_le _, GNew.refl _ _ _⟩ rfl ⟨rfl, (congrArg (fun b => some (Value.bool b)) (by unfold foundTo; rw [← hel2]; simp; omega)), rfl, rfl, rfl, rfl, rfl, rfl, rfl, rfl, rfl, rfl, rfl, rfl, rfl, rfl, rfl, rfl, rfl, rfl, rfl, rfl, trivial⟩ (.nil) (fun s hphi => ?_)
                                subst hu_40
                                subst hu_41
                                subst hu_42
                                subst hu_43
                                subst hu_44
                                subst hu_45
                                subst hu_46
                                subst hu_47
                                subst hu_48
                                subst hu_49
                                subst hu_50
                                subst hu_51
                                subst hu_52
                                subst hu_53
                                subst hu_54
                                subst hu_55
                                subst hu_56
                                subst hu_57
                                subst hu_58
                                subst hu_59
                                obtain ⟨j, H3⟩ := s
                                obtain ⟨hj, hgn3⟩ := hphi
                                dsimp only at hj hgn3 ⊢
                                replace hr := hr.mono hgn3.le
                                replace hs := hs.mono hgn3.le
                                replace hp := fun p hm0 => (hp p hm0).mono hgn3.le
                                replace u_6q := u_6q.mono hgn3.le
                                replace u_6p := fun p hm0 => (u_6p p hm0).mono hgn3.le
                                replace R_29 := R_29.mono hgn3.le
                                replace he := he.mono hgn3.le
                                replace hep := fun p hm0 => (hep p hm0).mono hgn3.le
                                replace hs_37 := hs_37.mono hgn3.le
                                refine c_seq ?_
                                refine c_region ?_
                                refine r_val .none rfl (p_lt rfl rfl) ?_
                                refine r_nil ?_
                                refine e_next ?_
                                refine c_seq ?_
                                refine c_splitd (d := 52) rfl (fun h_60 => ?_) (fun h_60 => ?_)
                                · skip
                                  first
                                    | (exfalso; first | omega | assumption)
                                    | (
                                      refine c_cond_t rfl ?_
                                      refine c_skip ?_
                                      refine e_next ?_
                                      refine c_seq ?_
                                      refine c_block ?_
                                      refine c_seq ?_
                                      refine c_region ?_
                                      refine r_iaddr_g .none rfl Try.underlying25 sz22 rfl hs_37 rfl (by first | exact of_decide_eq_true rfl | omega) (fun p_62 o_63 R_61 => ?_)
                                      have hc_64 := u_6p _ (getD_mem (i := j) (d := e6) (by omega))
                                      have hszk : sizeL (u_6qs.getD j e6).1 ≤ 1000 := chain_small u_6l2 (by omega) hsz
                                      refine r_val .none rfl (p_ldg0 Try.underlying22 rfl rfl R_61 (by first | exact of_decide_eq_true rfl | omega) rfl) ?_
                                      refine r_val .none rfl (p_assign rfl) ?_
                                      refine r_nil ?_
                                      refine e_next ?_
                                      refine c_region_d (fun _ => false) _ mixed (.nil) ?_
                                      refine d_val1 0 rfl rfl (by kernel_rfl) (fun _ _ => rfl) .none rfl (p_move rfl) ?_
                                      refine d_val1 1 rfl rfl (by kernel_rfl) (fun _ _ => rfl) .none rfl (p_move rfl) ?_
                                      refine d_split (d := 56) rfl (fun h_65 => ?_) (fun h_65 => ?_)
                                      · skip
                                        have hfd := h_65
                                        first
                                          | (exfalso; first | omega | assumption)
                                          | (
                                            refine d_skip1 2 rfl rfl (by kernel_rfl) (fun _ _ => rfl) rfl (.no rfl rfl) ?_
                                            refine d_skip1 3 rfl rfl (by kernel_rfl) (fun _ _ => rfl) rfl (.no rfl rfl) ?_
                                            refine d_skip1 4 rfl rfl (by kernel_rfl) (fun _ _ => rfl) rfl (.no rfl rfl) ?_
                                            refine d_skip1 5 rfl rfl (by kernel_rfl) (fun _ _ => rfl) rfl (.no rfl rfl) ?_
                                            refine d_skip1 6 rfl rfl (by kernel_rfl) (fun _ _ => rfl) rfl (.no rfl rfl) ?_
                                            refine d_skip1 7 rfl rfl (by kernel_rfl) (fun _ _ => rfl) rfl (.no rfl rfl) ?_
                                            refine d_skip1 8 rfl rfl (by kernel_rfl) (fun _ _ => rfl) rfl (.no rfl rfl) ?_
                                            refine d_skip1 9 rfl rfl (by kernel_rfl) (fun _ _ => rfl) rfl (.no rfl rfl) ?_
                                            refine d_skip1 10 rfl rfl (by kernel_rfl) (fun _ _ => rfl) rfl (.no rfl rfl) ?_
                                            refine d_val1 11 rfl rfl (by kernel_rfl) (fun _ _ => rfl) .none rfl (p_pick_t rfl rfl) ?_
                                            refine d_val1 12 rfl rfl (by kernel_rfl) (fun _ _ => rfl) .none rfl (p_assign rfl) ?_
                                            refine d_nil (by kernel_rfl) ?_
                                            refine e_norm_block ?_
                                            refine e_next ?_
                                            refine c_region ?_
                                            refine r_val .none rfl (p_add rfl rfl (by omega)) ?_
                                            refine r_val .none rfl (p_move rfl) ?_
                                            refine r_nil ?_
                                            refine e_round ((j + 1, _)) ⟨⟨by dsimp only; omega, hgn3⟩, by dsimp only; omega⟩ rfl ⟨rfl, (congrArg (fun b => some (Value.bool b)) (by rw [foundTo_succ (by omega)]; first | (rw [hfd, Bool.true_or]; done) | (rw [hfd, Bool.false_or, chain_get u_6l2, hdl]; done))), rfl, rfl, rfl, rfl, rfl, rfl, rfl, rfl, rfl, rfl, rfl, rfl, rfl, rfl, rfl, rfl, rfl, rfl, rfl, rfl, trivial⟩ (.nil)
                                            )
                                      · skip
                                        have hfd := h_65
                                        first
                                          | (exfalso; first | omega | assumption)
                                          | (
                                            refine d_val1 2 rfl rfl (by kernel_rfl) (fun _ _ => rfl) (.some rfl rfl) rfl (p_move rfl) ?_
                                            refine d_val1 4 rfl rfl (by kernel_rfl) (fun _ _ => rfl) (.some rfl rfl) rfl (p_move rfl) ?_
                                            refine d_val1 5 rfl rfl (by kernel_rfl) (fun _ _ => rfl) (.some rfl rfl) rfl (p_move rfl) ?_
                                            refine d_val1 6 rfl rfl (by kernel_rfl) (fun _ _ => rfl) (.some rfl rfl) rfl (p_leng Try.underlying22 rfl he) ?_
                                            have bd_66 := (he).bound
                                            refine d_val1 7 rfl rfl (by kernel_rfl) (fun _ _ => rfl) (.some rfl rfl) rfl (p_sub rfl rfl (by omega)) ?_
                                            refine d_say (d := 62) (v := Value.int .i64 ((es.length - 1 : Nat) : Int)) (congrArg (fun x => some (Value.int .i64 x)) (by omega)) ?_
                                            refine d_slice0 8 (es.length - 1) rfl rfl (by kernel_rfl) (fun _ _ => rfl) (.some rfl rfl) rfl Try.underlying22 sz38 rfl he rfl (by first | exact of_decide_eq_true rfl | omega) (fun v_67 hs_68 => ?_)
                                            have hT_70 := Tr.take2 (by omega) hs_68 hep
                                            have hszk2 : sizeL ((es.map Prod.fst).take (es.length - 1)) ≤ 1000 := Nat.le_trans (sizeL_takeA _ _) (by rw [← hel]; exact hszi)
                                            refine d_eff 3 rfl (by kernel_rfl) (fun K_71 hKK_71 hcK_71 => ?_)
                                            refine r_callm (vs := [_]) (.some rfl rfl) rfl cl15 rfl (fun w hw => c_lref _ _ hszk hc_64 w hw) (fun G_72 v_75 hn_73 hr_74 => ?_)
                                            replace hr := hr.mono hn_73.le
                                            replace hs := hs.mono hn_73.le
                                            replace hp := fun p hm0 => (hp p hm0).mono hn_73.le
                                            replace u_6q := u_6q.mono hn_73.le
                                            replace u_6p := fun p hm0 => (u_6p p hm0).mono hn_73.le
                                            replace R_29 := R_29.mono hn_73.le
                                            replace he := he.mono hn_73.le
                                            replace hep := fun p hm0 => (hep p hm0).mono hn_73.le
                                            replace hs_37 := hs_37.mono hn_73.le
                                            replace R_61 := R_61.mono hn_73.le
                                            replace hc_64 := hc_64.mono hn_73.le
                                            replace hs_68 := hs_68.mono hn_73.le
                                            replace hT_70 := hT_70.mono hn_73.le
                                            have u_76 := hr_74
                                            refine r_nil (e_d (i := 3) (brk := (fun _ => false)) (ph' := true) hKK_71 hcK_71 rfl (fun _ => hn_73.le) (fun _ => .nil) ?_)
                                            clear hKK_71 hcK_71 K_71
                                            refine d_eff 9 rfl (by kernel_rfl) (fun K_77 hKK_77 hcK_77 => ?_)
                                            refine r_callm (vs := [_]) (.some rfl rfl) rfl cl15 rfl (fun w hw => c_lref _ _ hszk2 hT_70 w hw) (fun G_78 v_81 hn_79 hr_80 => ?_)
                                            replace hr := hr.mono hn_79.le
                                            replace hs := hs.mono hn_79.le
                                            replace hp := fun p hm0 => (hp p hm0).mono hn_79.le
                                            replace u_6q := u_6q.mono hn_79.le
                                            replace u_6p := fun p hm0 => (u_6p p hm0).mono hn_79.le
                                            replace R_29 := R_29.mono hn_79.le
                                            replace he := he.mono hn_79.le
                                            replace hep := fun p hm0 => (hep p hm0).mono hn_79.le
                                            replace hs_37 := hs_37.mono hn_79.le
                                            replace R_61 := R_61.mono hn_79.le
                                            replace hc_64 := hc_64.mono hn_79.le
                                            replace hs_68 := hs_68.mono hn_79.le
                                            replace hT_70 := hT_70.mono hn_79.le
                                            replace u_76 := u_76.mono hn_79.le
                                            have u_82 := hr_80
                                            refine r_nil (e_d (i := 9) (brk := (fun _ => false)) (ph' := true) hKK_77 hcK_77 rfl (fun _ => (hn_73.trans hn_79).le) (fun _ => .nil) ?_)
                                            clear hKK_77 hcK_77 K_77
                                            refine d_eff 10 rfl (by kernel_rfl) (fun K_83 hKK_83 hcK_83 => ?_)
                                            refine r_call (vs := [_, _]) (.some rfl rfl) rfl cl16 rfl (fun w hw => c_rsame6 _ _ _ _ u_76 u_82 w hw) ?_
                                            refine r_nil (e_d (i := 10) (brk := (fun _ => false)) (ph' := true) hKK_83 hcK_83 rfl (fun _ => (hn_73.trans hn_79).le) (fun _ => .nil) ?_)
                                            clear hKK_83 hcK_83 K_83
                                            refine d_val1 11 rfl rfl (by kernel_rfl) (fun _ _ => rfl) .none rfl (p_pick_f rfl rfl) ?_
                                            refine d_val1 12 rfl rfl (by kernel_rfl) (fun _ _ => rfl) .none rfl (p_assign rfl) ?_
                                            refine d_nil (by kernel_rfl) ?_
                                            refine e_norm_block ?_
                                            refine e_next ?_
                                            refine c_region ?_
                                            refine r_val .none rfl (p_add rfl rfl (by omega)) ?_
                                            refine r_val .none rfl (p_move rfl) ?_
                                            refine r_nil ?_
                                            refine e_round ((j + 1, _)) ⟨⟨by dsimp only; omega, ((hgn3.trans hn_73).trans hn_79)⟩, by dsimp only; omega⟩ rfl ⟨rfl, (congrArg (fun b => some (Value.bool b)) (by rw [foundTo_succ (by omega)]; first | (rw [hfd, Bool.true_or]; done) | (rw [hfd, Bool.false_or, chain_get u_6l2, hdl]; done))), rfl, rfl, rfl, rfl, rfl, rfl, rfl, rfl, rfl, rfl, rfl, rfl, rfl, rfl, rfl, rfl, rfl, rfl, rfl, rfl, trivial⟩ (.nil)
                                            )
                                      )
                                · skip
                                  first
                                    | (exfalso; first | omega | assumption)
                                    | (
                                      refine c_cond_f rfl ?_
                                      refine c_exit ?_
                                      refine e_exit_then ?_
                                      refine e_exit_then ?_
                                      refine e_exit_block ?_
                                      refine e_next ?_
                                      refine c_seq ?_
                                      refine c_region ?_
                                      refine r_val .none rfl (p_move rfl) ?_
                                      refine r_val .none rfl (p_not rfl) ?_
                                      refine r_nil ?_
                                      refine e_next ?_
                                      refine c_splitn (d := 69) rfl (fun h_84 => ?_) (fun h_84 => ?_)
                                      · skip
                                        have hx : False := absurd (h_84) (by rw [show j = i by omega, show foundTo (chains [] l) (u_6qs.getD i e6).1 i = true from hpre.2]; decide)
                                        first
                                          | (exfalso; first | omega | assumption)
                                          | (
                                            refine c_cond_t rfl ?_
                                            refine c_seq ?_
                                            refine c_region ?_
                                            refine r_val .none rfl (p_assign rfl) ?_
                                            refine r_nil ?_
                                            refine e_next ?_
                                            refine c_ret ?_
                                            refine e_ret_block ?_
                                            refine e_ret_then ?_
                                            refine e_ret_then ?_
                                            refine e_ret_block ?_
                                            refine e_ret_then ?_
                                            refine e_ret1 Try.results5 (.tmp rfl .nil) (fun w hm => ⟨?_, hm.since⟩)
                                            rfl
                                            )
                                      · skip
                                        first
                                          | (exfalso; first | omega | assumption)
                                          | (
                                            refine c_cond_f rfl ?_
                                            refine c_skip ?_
                                            refine e_norm_block ?_
                                            refine e_next ?_
                                            refine c_region ?_
                                            refine r_val .none rfl (p_add rfl rfl (by omega)) ?_
                                            refine r_val .none rfl (p_move rfl) ?_
                                            refine r_nil ?_
                                            refine e_round ((i + 1, _)) ⟨⟨by dsimp only; omega, (hgn2.trans hgn3)⟩, by dsimp only; omega⟩ rfl ⟨rfl, rfl, rfl, rfl, trivial⟩ (.nil)
                                            )
                                      )
                                )
                          )
                    · skip
                      first
                        | (exfalso; first | omega | assumption)
                        | (
                          refine c_cond_f rfl ?_
                          refine c_exit ?_
                          refine e_exit_then ?_
                          refine e_exit_then ?_
                          refine e_exit_block ?_
                          refine e_next ?_
                          refine c_seq ?_
                          refine c_region ?_
                          refine r_call (vs := []) .none rfl cl12 rfl (fun w hw => c_awake6 w) ?_
                          refine r_val .none rfl (p_assign rfl) ?_
                          refine r_nil ?_
                          refine e_next ?_
                          refine c_ret ?_
                          refine e_ret1 Try.results5 (.tmp rfl .nil) (fun w hm => ⟨?_, hm.since⟩)
                          rfl
                          )
                    )
              )
        )
end Go.Proofs.Ytoflaphnlfggkaa
