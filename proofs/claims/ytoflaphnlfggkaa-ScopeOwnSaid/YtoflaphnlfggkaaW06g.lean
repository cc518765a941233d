/- Walks: what Go functions of this chapter come to, each as a function on plain data; no condition but those that each theorem names. Printed by a program of this work (gen.py). -/
import Derived.Test.YtoflaphnlfggkaaW06f
import Derived.Test.YtoflaphnlfggkaaPl06c
import Derived.Test.YtoflaphnlfggkaaRows
namespace Go.Proofs.Ytoflaphnlfggkaa
open Go.Gx Go.Gx.T4 Go.Gx.T3 Go.Gx.T6 Go.Gx.T8 Go.Gx.T4 Go.Gx.T3 Go.Gx.T8 Go.Gx.T4 Go.Gx.T3
theorem cl11 : Callable Try.prog 11 := callable Try.func11 (by kernel_rfl) rfl
theorem cl12 : Callable Try.prog 12 := callable Try.func12 (by kernel_rfl) rfl
theorem cl16 : Callable Try.prog 16 := callable Try.func16 (by kernel_rfl) rfl
theorem c_ScopeChains (v : Value) (l : List CT) {G : Ghost} (hs : Cs G v l) (w : World) (hG : Has G w) :
    Calls Try.prog 3 #[v] w (Ret fun r w' => r = Value.bool true ∧ Since nX w w') := by
  refine enter (args := [_]) (X := nX) (G := G) (l := [(0, v)]) Try.func3 rfl Try.ntmps3 hG ⟨rfl, trivial⟩ (Nat.le_of_ble_eq_true rfl) ?_
  refine c_seq ?_
  refine c_region ?_
  refine r_val .none rfl (p_assign rfl) ?_
  refine r_nil ?_
  refine e_next ?_
  refine c_seq ?_
  refine c_seq ?_
  refine c_region ?_
  refine r_val .none rfl (p_move rfl) ?_
  refine r_call (vs := [_]) .none rfl cl11 rfl (fun w hw => c_fine6 _ _ hs w hw) ?_
  refine r_val .none rfl (p_not rfl) ?_
  refine r_nil ?_
  refine e_next ?_
  refine c_splitn (d := 8) rfl (fun h_1 => ?_) (fun h_1 => ?_)
  · skip
    first
      | (exfalso; first | omega | assumption)
      | (
        refine c_cond_t rfl ?_
        refine c_seq ?_
        refine c_region ?_
        refine r_call (vs := []) .none rfl cl12 rfl (fun w hw => c_awake6 w) ?_
        refine r_val .none rfl (p_assign rfl) ?_
        refine r_nil ?_
        refine e_next ?_
        refine c_ret ?_
        refine e_ret_then ?_
        refine e_ret1 Try.results3 (.tmp rfl .nil) (fun w hm => ⟨?_, hm.since⟩)
        rfl
        )
  · skip
    have hf : fineL l = true := h_1
    have hfy := fineL_yes hf
    have hsz : sizeL l ≤ 1000 := by omega
    have hll := sizeL_len l
    have hflat := flat_all_of hfy.1
    first
      | (exfalso; first | omega | assumption)
      | (
        refine c_cond_f rfl ?_
        refine c_skip ?_
        refine e_next ?_
        refine c_seq ?_
        refine c_region ?_
        refine r_val .none rfl (p_move rfl) ?_
        refine r_callm (vs := [_]) .none rfl cl13 rfl (fun w hw => c_chains6 _ _ hsz hs w hw) (fun G_2 v_5 hn_3 hr_4 => ?_)
        replace hs := hs.mono hn_3.le
        obtain ⟨u_6qs, u_6q, u_6p, u_6l⟩ := hr_4
        have hnc : u_6qs.length = (chains [] l).length := by have h := congrArg List.length u_6l; rw [List.length_map] at h; exact h.symm
        refine r_val .none rfl (p_assign rfl) ?_
        refine r_nil ?_
        refine e_next ?_
        refine c_seq ?_
        refine c_region ?_
        refine r_val .none rfl (p_move rfl) ?_
        refine r_callm (vs := [_]) .none rfl cl15 rfl (fun w hw => c_lref _ _ hsz hs w hw) (fun G_7 v_10 hn_8 hr_9 => ?_)
        replace hs := hs.mono hn_8.le
        replace u_6q := u_6q.mono hn_8.le
        replace u_6p := fun p hm0 => (u_6p p hm0).mono hn_8.le
        have hR := hr_9
        refine r_nilrow 44 8 ?_
        refine r_callom (k := 0) (vs := [_, _]) .none rfl cl14 rfl rfl (fun w F hw hA hFG => c_rch _ _ [] _ (by simp; omega) (by simp) hR w hw hA hFG) (fun G_12 v_15 hn_13 hr_14 => ?_)
        replace hs := hs.mono hn_13.le
        replace u_6q := u_6q.mono hn_13.le
        replace u_6p := fun p hm0 => (u_6p p hm0).mono hn_13.le
        replace hR := hR.mono hn_13.le
        obtain ⟨u_16qs, u_16q, u_16p, u_16l⟩ := hr_14
        have hnw : u_16qs.length = (chains [] l).length := by have h := congrArg List.length u_16l; rw [List.length_map] at h; exact h.symm
        refine r_val .none rfl (p_assign rfl) ?_
        refine r_nil ?_
        refine e_next ?_
        refine c_seq ?_
        refine c_seq ?_
        refine c_region ?_
        refine r_val .none rfl (p_move rfl) ?_
        refine r_val .none rfl (p_leng Try.underlying25 rfl u_6q) ?_
        have bd_17 := (u_6q).bound
        refine r_val .none rfl (p_move rfl) ?_
        refine r_val .none rfl (p_leng Try.underlying27 rfl u_16q) ?_
        have bd_18 := (u_16q).bound
        refine r_val .none rfl (p_ne rfl rfl) ?_
        refine r_nil ?_
        refine e_next ?_
        refine c_splitd (d := 19) rfl (fun h_19 => ?_) (fun h_19 => ?_)
        · skip
          first
            | (exfalso; first | omega | assumption)
            | (
              refine c_cond_t rfl ?_
              refine c_seq ?_
              refine c_region ?_
              refine r_val .none rfl (p_assign rfl) ?_
              refine r_nil ?_
              refine e_next ?_
              refine c_ret ?_
              refine e_ret_then ?_
              refine e_ret1 Try.results3 (.tmp rfl .nil) (fun w hm => ⟨?_, hm.since⟩)
              rfl
              )
        · skip
          first
            | (exfalso; first | omega | assumption)
            | (
              refine c_cond_f rfl ?_
              refine c_skip ?_
              refine e_next ?_
              refine c_seq ?_
              refine c_seq ?_
              refine c_region ?_
              refine r_val .none rfl (p_move rfl) ?_
              refine r_val .none rfl (p_leng Try.underlying25 rfl u_6q) ?_
              have bd_20 := (u_6q).bound
              refine r_val .none rfl (p_move rfl) ?_
              refine r_nil ?_
              refine e_next ?_
              refine c_block ?_
              refine c_name (d := 3) rfl (fun u_21 hu_21 => ?_)
              refine c_name (d := 4) rfl (fun u_22 hu_22 => ?_)
              refine c_name (d := 21) rfl (fun u_23 hu_23 => ?_)
              refine c_nameL (k := 0) rfl (fun A_24 hA_24 => ?_)
              refine c_loop (σ := Nat × Ghost) (fun s => [(22, Value.int .i64 (s.1 : Nat)), (3, u_21), (4, u_22), (21, u_23)]) (fun s => [A_24]) (fun s => s.2) (fun s => s.1 ≤ (chains [] l).length ∧ GNew w nX G_12 s.2) (fun s => (chains [] l).length - s.1) ((0, _)) ⟨Nat.zero_le _, GNew.refl _ _ _⟩ rfl ⟨rfl, rfl, rfl, rfl, trivial⟩ (.keep (fun _ _ h => h) (.nil)) (fun s hphi => ?_)
              subst hu_21
              subst hu_22
              subst hu_23
              subst hA_24
              obtain ⟨k, H⟩ := s
              obtain ⟨hk, hgn⟩ := hphi
              dsimp only at hk hgn ⊢
              replace hs := hs.mono hgn.le
              replace u_6q := u_6q.mono hgn.le
              replace u_6p := fun p hm0 => (u_6p p hm0).mono hgn.le
              replace hR := hR.mono hgn.le
              replace u_16q := u_16q.mono hgn.le
              replace u_16p := fun p hm0 => (u_16p p hm0).mono hgn.le
              refine c_seq ?_
              refine c_region ?_
              refine r_val .none rfl (p_lt rfl rfl) ?_
              refine r_nil ?_
              refine e_next ?_
              refine c_seq ?_
              refine c_splitd (d := 23) rfl (fun h_25 => ?_) (fun h_25 => ?_)
              · skip
                first
                  | (exfalso; first | omega | assumption)
                  | (
                    refine c_cond_t rfl ?_
                    refine c_skip ?_
                    refine e_next ?_
                    refine c_seq ?_
                    refine c_block ?_
                    refine c_seq ?_
                    refine c_region ?_
                    refine r_val .none rfl (p_move rfl) ?_
                    refine r_val .none rfl (p_assign rfl) ?_
                    refine r_nil ?_
                    refine e_next ?_
                    refine c_seq ?_
                    refine c_region_d (fun _ => false) _ mixed (.keep (fun _ _ h => h) (.nil)) ?_
                    refine d_val1 0 rfl rfl (by kernel_rfl) (fun _ _ => rfl) .none rfl (p_move rfl) ?_
                    refine d_val1 1 rfl rfl (by kernel_rfl) (fun _ _ => rfl) .none rfl (p_move rfl) ?_
                    refine d_iaddr_g 2 rfl rfl (by kernel_rfl) (fun _ _ => rfl) .none rfl Try.underlying25 sz22 rfl u_6q rfl (by first | exact of_decide_eq_true rfl | omega) (fun p_27 o_28 R_26 => ?_)
                    have hc_29 := u_6p _ (getD_mem (i := k) (d := e6) (by omega))
                    have hszk : sizeL (u_6qs.getD k e6).1 ≤ 1000 := chain_small u_6l (by omega) hsz
                    refine d_val1 3 rfl rfl (by kernel_rfl) (fun _ _ => rfl) .none rfl (p_ldg0 Try.underlying22 rfl rfl R_26 (by first | exact of_decide_eq_true rfl | omega) rfl) ?_
                    refine d_val1 5 rfl rfl (by kernel_rfl) (fun _ _ => rfl) .none rfl (p_move rfl) ?_
                    refine d_val1 6 rfl rfl (by kernel_rfl) (fun _ _ => rfl) .none rfl (p_move rfl) ?_
                    refine d_iaddr_g 7 rfl rfl (by kernel_rfl) (fun _ _ => rfl) .none rfl Try.underlying27 sz29 rfl u_16q rfl (by first | exact of_decide_eq_true rfl | omega) (fun p_31 o_32 R_30 => ?_)
                    have hc_33 := u_16p _ (getD_mem (i := k) (d := e6) (by omega))
                    refine d_val1 8 rfl rfl (by kernel_rfl) (fun _ _ => rfl) .none rfl (p_ldg0 Try.underlying29 rfl rfl R_30 (by first | exact of_decide_eq_true rfl | omega) rfl) ?_
                    refine d_eff 4 rfl (by kernel_rfl) (fun K_34 hKK_34 hcK_34 => ?_)
                    refine r_callm (vs := [_]) .none rfl cl15 rfl (fun w hw => c_lref _ _ hszk hc_29 w hw) (fun G_35 v_38 hn_36 hr_37 => ?_)
                    replace hs := hs.mono hn_36.le
                    replace u_6q := u_6q.mono hn_36.le
                    replace u_6p := fun p hm0 => (u_6p p hm0).mono hn_36.le
                    replace hR := hR.mono hn_36.le
                    replace u_16q := u_16q.mono hn_36.le
                    replace u_16p := fun p hm0 => (u_16p p hm0).mono hn_36.le
                    replace R_26 := R_26.mono hn_36.le
                    replace hc_29 := hc_29.mono hn_36.le
                    replace R_30 := R_30.mono hn_36.le
                    replace hc_33 := hc_33.mono hn_36.le
                    have u_39 := hr_37
                    refine r_nil (e_d (i := 4) (brk := (fun _ => false)) (ph' := true) hKK_34 hcK_34 rfl (fun _ => hn_36.le) (fun _ => .keep (fun _ _ h => h) (.nil)) ?_)
                    clear hKK_34 hcK_34 K_34
                    refine d_eff 9 rfl (by kernel_rfl) (fun K_40 hKK_40 hcK_40 => ?_)
                    refine r_call (vs := [_, _]) .none rfl cl16 rfl (fun w hw => c_rsame6 _ _ _ _ u_39 hc_33 w hw) ?_
                    refine r_nil (e_d (i := 9) (brk := (fun _ => false)) (ph' := true) hKK_40 hcK_40 rfl (fun _ => hn_36.le) (fun _ => .keep (fun _ _ h => h) (.nil)) ?_)
                    clear hKK_40 hcK_40 K_40
                    refine d_val1 10 rfl rfl (by kernel_rfl) (fun _ _ => rfl) .none rfl (p_not rfl) ?_
                    refine d_nil (by kernel_rfl) ?_
                    refine e_next ?_
                    refine c_splitn (d := 35) rfl (fun h_41 => ?_) (fun h_41 => ?_)
                    · skip
                      have hx : False := absurd (h_41) (by rw [chain_same u_6l u_16l]; decide)
                      first
                        | (exfalso; first | omega | assumption)
                        | (
                          refine c_cond_t rfl ?_
                          refine c_seq ?_
                          refine c_region ?_
                          refine r_val .none rfl (p_assign rfl) ?_
                          refine r_nil ?_
                          refine e_next ?_
                          refine c_ret ?_
                          refine e_ret_block ?_
                          refine e_ret_then ?_
                          refine e_ret_then ?_
                          refine e_ret_block ?_
                          refine e_ret_then ?_
                          refine e_ret1 Try.results3 (.tmp rfl .nil) (fun w hm => ⟨?_, hm.since⟩)
                          rfl
                          )
                    · skip
                      first
                        | (exfalso; first | omega | assumption)
                        | (
                          refine c_cond_f rfl ?_
                          refine c_skip ?_
                          refine e_norm_block ?_
                          refine e_next ?_
                          refine c_region ?_
                          refine r_val .none rfl (p_add rfl rfl (by omega)) ?_
                          refine r_val .none rfl (p_move rfl) ?_
                          refine r_nil ?_
                          refine e_round ((k + 1, _)) ⟨⟨by dsimp only; omega, (hgn.trans hn_36)⟩, by dsimp only; omega⟩ rfl ⟨rfl, rfl, rfl, rfl, trivial⟩ (.keep (fun _ _ h => h) (.nil))
                          )
                    )
              · skip
                first
                  | (exfalso; first | omega | assumption)
                  | (
                    refine c_cond_f rfl ?_
                    refine c_exit ?_
                    refine e_exit_then ?_
                    refine e_exit_then ?_
                    refine e_exit_block ?_
                    refine e_next ?_
                    refine c_seq ?_
                    refine c_region ?_
                    refine r_call (vs := []) .none rfl cl12 rfl (fun w hw => c_awake6 w) ?_
                    refine r_val .none rfl (p_assign rfl) ?_
                    refine r_nil ?_
                    refine e_next ?_
                    refine c_ret ?_
                    refine e_ret1 Try.results3 (.tmp rfl .nil) (fun w hm => ⟨?_, hm.since⟩)
                    rfl
                    )
              )
        )
end Go.Proofs.Ytoflaphnlfggkaa
