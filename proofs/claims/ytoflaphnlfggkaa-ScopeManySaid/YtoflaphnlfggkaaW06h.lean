/- Walks: what Go functions of this chapter come to, each as a function on plain data; no condition but those that each theorem names. Printed by a program of this work (gen.py). -/
import Derived.Test.YtoflaphnlfggkaaW06g
import Derived.Test.YtoflaphnlfggkaaRows
namespace Go.Proofs.Ytoflaphnlfggkaa
open Go.Gx Go.Gx.T4 Go.Gx.T3 Go.Gx.T6 Go.Gx.T8 Go.Gx.T4 Go.Gx.T3 Go.Gx.T8 Go.Gx.T4 Go.Gx.T3

theorem c_ScopeOwn (v : Value) (l : List CT) {G : Ghost} (hs : Cs G v l) (w : World) (hG : Has G w) :
    Calls Try.prog 4 #[v] w (Ret fun r w' => r = Value.bool true ∧ Since nX w w') := by
  refine enter (args := [_]) (X := nX) (G := G) (l := [(0, v)]) Try.func4 rfl Try.ntmps4 hG ⟨rfl, trivial⟩ (Nat.le_of_ble_eq_true rfl) ?_
  obtain ⟨rs, hr, hp, hl⟩ := hs.inv
  have hlr : l.length = rs.length := by rw [hl]; simp
  have hbd := hr.bound
  refine c_seq ?_
  refine c_region ?_
  refine r_val .none rfl (p_assign rfl) ?_
  refine r_nil ?_
  refine e_next ?_
  refine c_seq ?_
  refine c_seq ?_
  refine c_region ?_
  refine r_val .none rfl (p_move rfl) ?_
  refine r_call (vs := [_]) .none rfl cl11 rfl (fun w hw => c_fine6 _ _ hs w hw) ?_
  refine r_val .none rfl (p_not rfl) ?_
  refine r_nil ?_
  refine e_next ?_
  refine c_splitn (d := 9) rfl (fun h_1 => ?_) (fun h_1 => ?_)
  · skip
    first
      | (exfalso; first | omega | assumption)
      | (
        refine c_cond_t rfl ?_
        refine c_seq ?_
        refine c_region ?_
        refine r_call (vs := []) .none rfl cl12 rfl (fun w hw => c_awake6 w) ?_
        refine r_val .none rfl (p_assign rfl) ?_
        refine r_nil ?_
        refine e_next ?_
        refine c_ret ?_
        refine e_ret_then ?_
        refine e_ret1 Try.results4 (.tmp rfl .nil) (fun w hm => ⟨?_, hm.since⟩)
        rfl
        )
  · skip
    have hf : fineL l = true := h_1
    have hfy := fineL_yes hf
    have hsz : sizeL l ≤ 1000 := by omega
    have hll := sizeL_len l
    have hflat := flat_all_of hfy.1
    first
      | (exfalso; first | omega | assumption)
      | (
        refine c_cond_f rfl ?_
        refine c_skip ?_
        refine e_next ?_
        refine c_seq ?_
        refine c_region ?_
        refine r_val .none rfl (p_move rfl) ?_
        refine r_callm (vs := [_]) .none rfl cl17 rfl (fun w hw => c_own6 _ _ hsz hs w hw) (fun G_2 v_5 hn_3 hr_4 => ?_)
        replace hr := hr.mono hn_3.le
        replace hs := hs.mono hn_3.le
        replace hp := fun p hm0 => (hp p hm0).mono hn_3.le
        have hO := hr_4
        refine r_val .none rfl (p_assign rfl) ?_
        refine r_nil ?_
        refine e_next ?_
        refine c_seq ?_
        refine c_region ?_
        refine r_val .none rfl (p_move rfl) ?_
        refine r_callm (vs := [_]) .none rfl cl15 rfl (fun w hw => c_lref _ _ hsz hs w hw) (fun G_7 v_10 hn_8 hr_9 => ?_)
        replace hr := hr.mono hn_8.le
        replace hs := hs.mono hn_8.le
        replace hp := fun p hm0 => (hp p hm0).mono hn_8.le
        replace hO := hO.mono hn_8.le
        have hR := hr_9
        refine r_nilrow 44 8 ?_
        refine r_callom (k := 0) (vs := [_, _]) .none rfl cl14 rfl rfl (fun w F hw hA hFG => c_rch _ _ [] _ (by simp; omega) (by simp) hR w hw hA hFG) (fun G_12 v_15 hn_13 hr_14 => ?_)
        replace hr := hr.mono hn_13.le
        replace hs := hs.mono hn_13.le
        replace hp := fun p hm0 => (hp p hm0).mono hn_13.le
        replace hO := hO.mono hn_13.le
        replace hR := hR.mono hn_13.le
        obtain ⟨u_16qs, u_16q, u_16p, u_16l⟩ := hr_14
        have u_16l2 : chains [] l = u_16qs.map Prod.fst := u_16l
        have hnw : u_16qs.length = (chains [] l).length := by have h := congrArg List.length u_16l; rw [List.length_map] at h; exact h.symm
        have hce := chains_eq l [] hflat
        have hol := ownC_len l
        refine r_val .none rfl (p_assign rfl) ?_
        refine r_nil ?_
        refine e_next ?_
        refine c_seq ?_
        refine c_seq ?_
        refine c_region ?_
        refine r_val .none rfl (p_move rfl) ?_
        refine r_val .none rfl (p_leng Try.underlying32 rfl hO) ?_
        have bd_17 := (hO).bound
        refine r_val .none rfl (p_move rfl) ?_
        refine r_val .none rfl (p_leng Try.underlying22 rfl hr) ?_
        have bd_18 := (hr).bound
        refine r_val .none rfl (p_ne rfl rfl) ?_
        refine r_nil ?_
        refine e_next ?_
        refine c_splitd (d := 20) rfl (fun h_19 => ?_) (fun h_19 => ?_)
        · skip
          first
            | (exfalso; first | omega | assumption)
            | (
              refine c_cond_t rfl ?_
              refine c_seq ?_
              refine c_region ?_
              refine r_val .none rfl (p_assign rfl) ?_
              refine r_nil ?_
              refine e_next ?_
              refine c_ret ?_
              refine e_ret_then ?_
              refine e_ret1 Try.results4 (.tmp rfl .nil) (fun w hm => ⟨?_, hm.since⟩)
              rfl
              )
        · skip
          first
            | (exfalso; first | omega | assumption)
            | (
              refine c_cond_f rfl ?_
              refine c_skip ?_
              refine e_next ?_
              refine c_seq ?_
              refine c_seq ?_
              refine c_region ?_
              refine r_val .none rfl (p_move rfl) ?_
              refine r_val .none rfl (p_leng Try.underlying32 rfl hO) ?_
              have bd_20 := (hO).bound
              refine r_val .none rfl (p_move rfl) ?_
              refine r_nil ?_
              refine e_next ?_
              refine c_block ?_
              refine c_name (d := 0) rfl (fun u_21 hu_21 => ?_)
              refine c_name (d := 3) rfl (fun u_22 hu_22 => ?_)
              refine c_name (d := 4) rfl (fun u_23 hu_23 => ?_)
              refine c_name (d := 21) rfl (fun u_24 hu_24 => ?_)
              refine c_name (d := 22) rfl (fun u_25 hu_25 => ?_)
              refine c_nameL (k := 0) rfl (fun A_26 hA_26 => ?_)
              refine c_loop (σ := Nat × Ghost) (fun s => [(23, Value.int .i64 (s.1 : Nat)), (0, u_21), (3, u_22), (4, u_23), (21, u_24), (22, u_25)]) (fun s => [A_26]) (fun s => s.2) (fun s => s.1 ≤ rs.length ∧ GNew w nX G_12 s.2) (fun s => rs.length - s.1) ((0, _)) ⟨Nat.zero_le _, GNew.refl _ _ _⟩ rfl ⟨rfl, rfl, rfl, rfl, rfl, rfl, trivial⟩ (.keep (fun _ _ h => h) (.nil)) (fun s hphi => ?_)
              subst hu_21
              subst hu_22
              subst hu_23
              subst hu_24
              subst hu_25
              subst hA_26
              obtain ⟨k, H⟩ := s
              obtain ⟨hk, hgn⟩ := hphi
              dsimp only at hk hgn ⊢
              replace hr := hr.mono hgn.le
              replace hs := hs.mono hgn.le
              replace hp := fun p hm0 => (hp p hm0).mono hgn.le
              replace hO := hO.mono hgn.le
              replace hR := hR.mono hgn.le
              replace u_16q := u_16q.mono hgn.le
              replace u_16p := fun p hm0 => (u_16p p hm0).mono hgn.le
              refine c_seq ?_
              refine c_region ?_
              refine r_val .none rfl (p_lt rfl rfl) ?_
              refine r_nil ?_
              refine e_next ?_
              refine c_seq ?_
              refine c_splitd (d := 24) rfl (fun h_27 => ?_) (fun h_27 => ?_)
              · skip
                first
                  | (exfalso; first | omega | assumption)
                  | (
                    refine c_cond_t rfl ?_
                    refine c_skip ?_
                    refine e_next ?_
                    refine c_seq ?_
                    refine c_block ?_
                    refine c_seq ?_
                    refine c_region ?_
                    refine r_val .none rfl (p_move rfl) ?_
                    refine r_iaddr_g .none rfl Try.underlying32 sz3 rfl hO rfl (by first | exact of_decide_eq_true rfl | omega) (fun p_29 o_30 R_28 => ?_)
                    obtain ⟨hat1, hat2, hat3⟩ := chains_at (k := k) hflat (by omega)
                    have hown := own_at (k := k) (l := l) (by omega) hat3
                    refine r_val .none rfl (p_ldg0 Try.underlying3 rfl rfl R_28 (by first | exact of_decide_eq_true rfl | omega) (congrArg (Value.int .i64) hown : Value.int .i64 ((ownC l).getD k 0) = Value.int .i64 (((sizeL (l.take (k + 1)) - 1 : Nat)) : Int))) ?_
                    refine r_val .none rfl (p_assign rfl) ?_
                    refine r_val .none rfl (p_assign rfl) ?_
                    refine r_nil ?_
                    refine e_next ?_
                    refine c_seq ?_
                    refine c_region_d (fun _ => false) _ mixed (.keep (fun _ _ h => h) (.nil)) ?_
                    refine d_val1 0 rfl rfl (by kernel_rfl) (fun _ _ => rfl) .none rfl (p_move rfl) ?_
                    refine d_val1 1 rfl rfl (by kernel_rfl) (fun _ _ => rfl) .none rfl (p_lt rfl rfl) ?_
                    refine d_val1 2 rfl rfl (by kernel_rfl) (fun _ _ => rfl) .none rfl (p_move rfl) ?_
                    refine d_splitd (d := 30) rfl (fun h_31 => ?_) (fun h_31 => ?_)
                    · skip
                      first
                        | (exfalso; first | omega | assumption)
                        | (
                          refine d_skip1 3 rfl rfl (by kernel_rfl) (fun _ _ => rfl) rfl (.no rfl rfl) ?_
                          refine d_skip1 4 rfl rfl (by kernel_rfl) (fun _ _ => rfl) rfl (.no rfl rfl) ?_
                          refine d_skip1 5 rfl rfl (by kernel_rfl) (fun _ _ => rfl) rfl (.no rfl rfl) ?_
                          refine d_skip1 6 rfl rfl (by kernel_rfl) (fun _ _ => rfl) rfl (.no rfl rfl) ?_
                          refine d_val1 7 rfl rfl (by kernel_rfl) (fun _ _ => rfl) .none rfl (p_pick_t rfl rfl) ?_
                          refine d_val1 8 rfl rfl (by kernel_rfl) (fun _ _ => rfl) .none rfl (p_move rfl) ?_
                          refine d_skip1 9 rfl rfl (by kernel_rfl) (fun _ _ => rfl) rfl (.no rfl rfl) ?_
                          refine d_skip1 10 rfl rfl (by kernel_rfl) (fun _ _ => rfl) rfl (.no rfl rfl) ?_
                          refine d_skip1 11 rfl rfl (by kernel_rfl) (fun _ _ => rfl) rfl (.no rfl rfl) ?_
                          refine d_skip1 12 rfl rfl (by kernel_rfl) (fun _ _ => rfl) rfl (.no rfl rfl) ?_
                          refine d_skip1 13 rfl rfl (by kernel_rfl) (fun _ _ => rfl) rfl (.no rfl rfl) ?_
                          refine d_skip1 14 rfl rfl (by kernel_rfl) (fun _ _ => rfl) rfl (.no rfl rfl) ?_
                          refine d_skip1 15 rfl rfl (by kernel_rfl) (fun _ _ => rfl) rfl (.no rfl rfl) ?_
                          refine d_skip1 16 rfl rfl (by kernel_rfl) (fun _ _ => rfl) rfl (.no rfl rfl) ?_
                          refine d_skip1 17 rfl rfl (by kernel_rfl) (fun _ _ => rfl) rfl (.no rfl rfl) ?_
                          refine d_skip1 18 rfl rfl (by kernel_rfl) (fun _ _ => rfl) rfl (.no rfl rfl) ?_
                          refine d_skip1 19 rfl rfl (by kernel_rfl) (fun _ _ => rfl) rfl (.no rfl rfl) ?_
                          refine d_val1 20 rfl rfl (by kernel_rfl) (fun _ _ => rfl) .none rfl (p_pick_t rfl rfl) ?_
                          refine d_nil (by kernel_rfl) ?_
                          refine e_next ?_
                          refine c_cond_t rfl ?_
                          refine c_seq ?_
                          refine c_region ?_
                          refine r_val .none rfl (p_assign rfl) ?_
                          refine r_nil ?_
                          refine e_next ?_
                          refine c_ret ?_
                          refine e_ret_block ?_
                          refine e_ret_then ?_
                          refine e_ret_then ?_
                          refine e_ret_block ?_
                          refine e_ret_then ?_
                          refine e_ret1 Try.results4 (.tmp rfl .nil) (fun w hm => ⟨?_, hm.since⟩)
                          rfl
                          )
                    · skip
                      first
                        | (exfalso; first | omega | assumption)
                        | (
                          refine d_val1 3 rfl rfl (by kernel_rfl) (fun _ _ => rfl) (.some rfl rfl) rfl (p_move rfl) ?_
                          refine d_val1 4 rfl rfl (by kernel_rfl) (fun _ _ => rfl) (.some rfl rfl) rfl (p_move rfl) ?_
                          refine d_val1 5 rfl rfl (by kernel_rfl) (fun _ _ => rfl) (.some rfl rfl) rfl (p_leng Try.underlying27 rfl u_16q) ?_
                          have bd_32 := (u_16q).bound
                          refine d_val1 6 rfl rfl (by kernel_rfl) (fun _ _ => rfl) (.some rfl rfl) rfl (p_ge rfl rfl) ?_
                          refine d_val1 7 rfl rfl (by kernel_rfl) (fun _ _ => rfl) .none rfl (p_pick_f rfl rfl) ?_
                          refine d_val1 8 rfl rfl (by kernel_rfl) (fun _ _ => rfl) .none rfl (p_move rfl) ?_
                          refine d_splitd (d := 36) rfl (fun h_33 => ?_) (fun h_33 => ?_)
                          · skip
                            first
                              | (exfalso; first | omega | assumption)
                              | (
                                refine d_skip1 9 rfl rfl (by kernel_rfl) (fun _ _ => rfl) rfl (.no rfl rfl) ?_
                                refine d_skip1 10 rfl rfl (by kernel_rfl) (fun _ _ => rfl) rfl (.no rfl rfl) ?_
                                refine d_skip1 11 rfl rfl (by kernel_rfl) (fun _ _ => rfl) rfl (.no rfl rfl) ?_
                                refine d_skip1 12 rfl rfl (by kernel_rfl) (fun _ _ => rfl) rfl (.no rfl rfl) ?_
                                refine d_skip1 13 rfl rfl (by kernel_rfl) (fun _ _ => rfl) rfl (.no rfl rfl) ?_
                                refine d_skip1 14 rfl rfl (by kernel_rfl) (fun _ _ => rfl) rfl (.no rfl rfl) ?_
                                refine d_skip1 15 rfl rfl (by kernel_rfl) (fun _ _ => rfl) rfl (.no rfl rfl) ?_
                                refine d_skip1 16 rfl rfl (by kernel_rfl) (fun _ _ => rfl) rfl (.no rfl rfl) ?_
                                refine d_skip1 17 rfl rfl (by kernel_rfl) (fun _ _ => rfl) rfl (.no rfl rfl) ?_
                                refine d_skip1 18 rfl rfl (by kernel_rfl) (fun _ _ => rfl) rfl (.no rfl rfl) ?_
                                refine d_skip1 19 rfl rfl (by kernel_rfl) (fun _ _ => rfl) rfl (.no rfl rfl) ?_
                                refine d_val1 20 rfl rfl (by kernel_rfl) (fun _ _ => rfl) .none rfl (p_pick_t rfl rfl) ?_
                                refine d_nil (by kernel_rfl) ?_
                                refine e_next ?_
                                refine c_cond_t rfl ?_
                                refine c_seq ?_
                                refine c_region ?_
                                refine r_val .none rfl (p_assign rfl) ?_
                                refine r_nil ?_
                                refine e_next ?_
                                refine c_ret ?_
                                refine e_ret_block ?_
                                refine e_ret_then ?_
                                refine e_ret_then ?_
                                refine e_ret_block ?_
                                refine e_ret_then ?_
                                refine e_ret1 Try.results4 (.tmp rfl .nil) (fun w hm => ⟨?_, hm.since⟩)
                                rfl
                                )
                          · skip
                            first
                              | (exfalso; first | omega | assumption)
                              | (
                                refine d_val1 9 rfl rfl (by kernel_rfl) (fun _ _ => rfl) (.some rfl rfl) rfl (p_move rfl) ?_
                                refine d_val1 10 rfl rfl (by kernel_rfl) (fun _ _ => rfl) (.some rfl rfl) rfl (p_move rfl) ?_
                                refine d_iaddr_g 11 rfl rfl (by kernel_rfl) (fun _ _ => rfl) (.some rfl rfl) rfl Try.underlying27 sz29 rfl u_16q rfl (by first | exact of_decide_eq_true rfl | omega) (fun p_35 o_36 R_34 => ?_)
                                have hc_37 := u_16p _ (getD_mem (i := (sizeL (l.take (k + 1)) - 1)) (d := e6) (by omega))
                                refine d_val1 12 rfl rfl (by kernel_rfl) (fun _ _ => rfl) (.some rfl rfl) rfl (p_ldg0 Try.underlying29 rfl rfl R_34 (by first | exact of_decide_eq_true rfl | omega) rfl) ?_
                                refine d_val1 13 rfl rfl (by kernel_rfl) (fun _ _ => rfl) (.some rfl rfl) rfl (p_move rfl) ?_
                                refine d_val1 14 rfl rfl (by kernel_rfl) (fun _ _ => rfl) (.some rfl rfl) rfl (p_move rfl) ?_
                                refine d_val1 15 rfl rfl (by kernel_rfl) (fun _ _ => rfl) (.some rfl rfl) rfl (p_add rfl rfl (by omega)) ?_
                                refine d_slice0 16 (k + 1) rfl rfl (by kernel_rfl) (fun _ _ => rfl) (.some rfl rfl) rfl Try.underlying22 sz38 rfl hr rfl (by first | exact of_decide_eq_true rfl | omega) (fun v_38 hs_39 => ?_)
                                have hT_41 := Tr.take2 (by omega) hs_39 hp
                                have hszk : sizeL ((rs.map Prod.fst).take (k + 1)) ≤ 1000 := Nat.le_trans (sizeL_takeA _ _) (by rw [← hl]; exact hsz)
                                refine d_eff 17 rfl (by kernel_rfl) (fun K_42 hKK_42 hcK_42 => ?_)
                                refine r_callm (vs := [_]) (.some rfl rfl) rfl cl15 rfl (fun w hw => c_lref _ _ hszk hT_41 w hw) (fun G_43 v_46 hn_44 hr_45 => ?_)
                                replace hr := hr.mono hn_44.le
                                replace hs := hs.mono hn_44.le
                                replace hp := fun p hm0 => (hp p hm0).mono hn_44.le
                                replace hO := hO.mono hn_44.le
                                replace hR := hR.mono hn_44.le
                                replace u_16q := u_16q.mono hn_44.le
                                replace u_16p := fun p hm0 => (u_16p p hm0).mono hn_44.le
                                replace R_28 := R_28.mono hn_44.le
                                replace R_34 := R_34.mono hn_44.le
                                replace hc_37 := hc_37.mono hn_44.le
                                replace hs_39 := hs_39.mono hn_44.le
                                replace hT_41 := hT_41.mono hn_44.le
                                have u_47 := hr_45
                                refine r_nil (e_d (i := 17) (brk := (fun _ => false)) (ph' := true) hKK_42 hcK_42 rfl (fun _ => hn_44.le) (fun _ => .keep (fun _ _ h => h) (.nil)) ?_)
                                clear hKK_42 hcK_42 K_42
                                refine d_eff 18 rfl (by kernel_rfl) (fun K_48 hKK_48 hcK_48 => ?_)
                                refine r_call (vs := [_, _]) (.some rfl rfl) rfl cl16 rfl (fun w hw => c_rsame6 _ _ _ _ hc_37 u_47 w hw) ?_
                                refine r_nil (e_d (i := 18) (brk := (fun _ => false)) (ph' := true) hKK_48 hcK_48 rfl (fun _ => hn_44.le) (fun _ => .keep (fun _ _ h => h) (.nil)) ?_)
                                clear hKK_48 hcK_48 K_48
                                refine d_val1 19 rfl rfl (by kernel_rfl) (fun _ _ => rfl) (.some rfl rfl) rfl (p_not rfl) ?_
                                refine d_val1 20 rfl rfl (by kernel_rfl) (fun _ _ => rfl) .none rfl (p_pick_f rfl rfl) ?_
                                refine d_nil (by kernel_rfl) ?_
                                refine e_next ?_
                                refine c_splitn (d := 48) rfl (fun h_49 => ?_) (fun h_49 => ?_)
                                · skip
                                  have hx : False := absurd (h_49) (by rw [← chain_get u_16l2, hat1, hl, (ceqL_iff _ _).2 rfl]; decide)
                                  first
                                    | (exfalso; first | omega | assumption)
                                    | (
                                      refine c_cond_t rfl ?_
                                      refine c_seq ?_
                                      refine c_region ?_
                                      refine r_val .none rfl (p_assign rfl) ?_
                                      refine r_nil ?_
                                      refine e_next ?_
                                      refine c_ret ?_
                                      refine e_ret_block ?_
                                      refine e_ret_then ?_
                                      refine e_ret_then ?_
                                      refine e_ret_block ?_
                                      refine e_ret_then ?_
                                      refine e_ret1 Try.results4 (.tmp rfl .nil) (fun w hm => ⟨?_, hm.since⟩)
                                      rfl
                                      )
                                · skip
                                  first
                                    | (exfalso; first | omega | assumption)
                                    | (
                                      refine c_cond_f rfl ?_
                                      refine c_skip ?_
                                      refine e_norm_block ?_
                                      refine e_next ?_
                                      refine c_region ?_
                                      refine r_val .none rfl (p_add rfl rfl (by omega)) ?_
                                      refine r_val .none rfl (p_move rfl) ?_
                                      refine r_nil ?_
                                      refine e_round ((k + 1, _)) ⟨⟨by dsimp only; omega, (hgn.trans hn_44)⟩, by dsimp only; omega⟩ rfl ⟨rfl, rfl, rfl, rfl, rfl, rfl, trivial⟩ (.keep (fun _ _ h => h) (.nil))
                                      )
                                )
                          )
                    )
              · skip
                first
                  | (exfalso; first | omega | assumption)
                  | (
                    refine c_cond_f rfl ?_
                    refine c_exit ?_
                    refine e_exit_then ?_
                    refine e_exit_then ?_
                    refine e_exit_block ?_
                    refine e_next ?_
                    refine c_seq ?_
                    refine c_region ?_
                    refine r_val .none rfl (p_move rfl) ?_
                    refine r_val .none rfl (p_leng Try.underlying22 rfl hr) ?_
                    have bd_50 := (hr).bound
                    refine r_val .none rfl (p_eq rfl rfl) ?_
                    refine r_val .none rfl (p_move rfl) ?_
                    refine r_splitd (d := 53) rfl (fun h_51 => ?_) (fun h_51 => ?_)
                    · skip
                      first
                        | (exfalso; first | omega | assumption)
                        | (
                          refine r_skip rfl (.no rfl rfl) ?_
                          refine r_skip rfl (.no rfl rfl) ?_
                          refine r_skip rfl (.no rfl rfl) ?_
                          refine r_skip rfl (.no rfl rfl) ?_
                          refine r_skip rfl (.no rfl rfl) ?_
                          refine r_skip rfl (.no rfl rfl) ?_
                          refine r_skip rfl (.no rfl rfl) ?_
                          refine r_skip rfl (.no rfl rfl) ?_
                          refine r_skip rfl (.no rfl rfl) ?_
                          refine r_skip rfl (.no rfl rfl) ?_
                          refine r_val .none rfl (p_pick_t rfl rfl) ?_
                          refine r_val .none rfl (p_move rfl) ?_
                          refine r_call (vs := []) (.some rfl rfl) rfl cl12 rfl (fun w hw => c_awake6 w) ?_
                          refine r_val .none rfl (p_pick_t rfl rfl) ?_
                          refine r_val .none rfl (p_assign rfl) ?_
                          refine r_nil ?_
                          refine e_next ?_
                          refine c_ret ?_
                          refine e_ret1 Try.results4 (.tmp rfl .nil) (fun w hm => ⟨?_, hm.since⟩)
                          rfl
                          )
                    · skip
                      first
                        | (exfalso; first | omega | assumption)
                        | (
                          refine r_val (.some rfl rfl) rfl (p_move rfl) ?_
                          refine r_val (.some rfl rfl) rfl (p_move rfl) ?_
                          refine r_val (.some rfl rfl) rfl (p_leng Try.underlying22 rfl hr) ?_
                          have bd_52 := (hr).bound
                          refine r_val (.some rfl rfl) rfl (p_sub rfl rfl (by omega)) ?_
                          refine r_say (d := 57) (v := Value.int .i64 ((rs.length - 1 : Nat) : Int)) (congrArg (fun x => some (Value.int .i64 x)) (by omega)) ?_
                          have hlast := own_last (l := l) (by omega)
                          rw [hlr] at hlast
                          refine r_iaddr_g (.some rfl rfl) rfl Try.underlying32 sz3 rfl hO rfl (by first | exact of_decide_eq_true rfl | omega) (fun p_54 o_55 R_53 => ?_)
                          refine r_val (.some rfl rfl) rfl (p_ldg0 Try.underlying3 rfl rfl R_53 (by first | exact of_decide_eq_true rfl | omega) (rfl : _ = Value.int _ _)) ?_
                          refine r_val (.some rfl rfl) rfl (p_move rfl) ?_
                          refine r_val (.some rfl rfl) rfl (p_leng Try.underlying27 rfl u_16q) ?_
                          have bd_56 := (u_16q).bound
                          refine r_val (.some rfl rfl) rfl (p_sub rfl rfl (by omega)) ?_
                          refine r_val (.some rfl rfl) rfl (p_eq rfl rfl) ?_
                          refine r_val .none rfl (p_pick_f rfl rfl) ?_
                          refine r_val .none rfl (p_move rfl) ?_
                          refine r_splitd (d := 65) rfl (fun h_57 => ?_) (fun h_57 => ?_)
                          · skip
                            first
                              | (exfalso; first | omega | assumption)
                              | (
                                refine r_call (vs := []) (.some rfl rfl) rfl cl12 rfl (fun w hw => c_awake6 w) ?_
                                refine r_val .none rfl (p_pick_t rfl rfl) ?_
                                refine r_val .none rfl (p_assign rfl) ?_
                                refine r_nil ?_
                                refine e_next ?_
                                refine c_ret ?_
                                refine e_ret1 Try.results4 (.tmp rfl .nil) (fun w hm => ⟨?_, hm.since⟩)
                                rfl
                                )
                          · skip
                            first
                              | (exfalso; first | omega | assumption)
                              | (
                                refine r_skip rfl (.no rfl rfl) ?_
                                refine r_val .none rfl (p_pick_f rfl rfl) ?_
                                refine r_val .none rfl (p_assign rfl) ?_
                                refine r_nil ?_
                                refine e_next ?_
                                refine c_ret ?_
                                refine e_ret1 Try.results4 (.tmp rfl .nil) (fun w hm => ⟨?_, hm.since⟩)
                                rfl
                                )
                          )
                    )
              )
        )
end Go.Proofs.Ytoflaphnlfggkaa
