/- Walks: what Go functions of this chapter come to, each as a function on plain data; no condition but those that each theorem names. Printed by a program of this work (gen.py). -/
import Derived.Test.YtpcpbfajadgmpaaW04g
import Derived.Test.YtpcpbfajadgmpaaRows
namespace Go.Proofs.Ytpcpbfajadgmpaa
open Go.Gx Go.Gx.T3 Go.Gx.T4 Go.Gx.T3

theorem c_CondTells (c : CT) (sv : Value) {G : Ghost} (hs : Cs G sv c.subs) (w : World) (hG : Has G w) :
    Calls Try.prog 10 #[Value.agg #[Value.int .i64 c.h.k, Value.bool c.h.v0, Value.int .i64 c.h.n0, Value.bool c.h.v1, Value.int .i64 c.h.n1, Value.bool c.h.v2, Value.int .i64 c.h.n2, sv]] w (Ret fun r w' => r = Value.bool true ∧ Since nX w w') := by
  refine enter (args := [_]) (X := nX) (G := G) (l := [(0, Value.agg #[Value.int .i64 c.h.k, Value.bool c.h.v0, Value.int .i64 c.h.n0, Value.bool c.h.v1, Value.int .i64 c.h.n1, Value.bool c.h.v2, Value.int .i64 c.h.n2, sv])]) Try.func10 rfl Try.ntmps10 hG ⟨rfl, trivial⟩ (Nat.le_of_ble_eq_true rfl) ?_
  refine c_seq ?_
  refine c_region ?_
  refine r_box .none rfl rfl (IsRow.lit _) (fun b_1 => ?_)
  refine r_val .none rfl (p_assign rfl) ?_
  refine r_nil ?_
  refine e_next ?_
  refine c_seq ?_
  refine c_seq ?_
  refine c_region ?_
  refine r_val .none rfl (p_ldw (k := 0) Try.underlying27 rfl sz27 rfl rfl (rfl : _ = Value.agg #[_, _, _, _, _, _, _, _])) ?_
  refine r_call (vs := [_, _]) .none rfl cl11 rfl (fun w hw => c_Small c sv 60 (by omega) hs w hw) ?_
  refine r_val .none rfl (p_not rfl) ?_
  refine r_val .none rfl (p_move rfl) ?_
  refine r_splitn (d := 9) rfl (fun h_1 => ?_) (fun h_1 => ?_)
  · skip
    first
      | (exfalso; omega)
      | (
        refine r_skip rfl (.no rfl rfl) ?_
        refine r_skip rfl (.no rfl rfl) ?_
        refine r_skip rfl (.no rfl rfl) ?_
        refine r_skip rfl (.no rfl rfl) ?_
        refine r_val .none rfl (p_pick_t rfl rfl) ?_
        refine r_nil ?_
        refine e_next ?_
        refine c_cond_t rfl ?_
        refine c_seq ?_
        refine c_region ?_
        refine r_call (vs := []) .none rfl cl12 rfl (fun w hw => c_awake4 w) ?_
        refine r_val .none rfl (p_assign rfl) ?_
        refine r_nil ?_
        refine e_next ?_
        refine c_ret ?_
        refine e_ret_then ?_
        refine e_ret1 Try.results10 (.tmp rfl .nil) (fun w hm => ⟨?_, hm.since⟩)
        first
        | rfl
        | (exfalso; obtain ⟨ha, hb⟩ := cv_at hck (by assumption); rcases hC with h | h; omega; exact h hb; done)
        | (rw [cv_end hck (by omega)]; simp; done)
        | (exfalso; have e := cv_end hck (n := s) (by omega); omega)
        )
  · skip
    have hsz : size c ≤ 1000 := Nat.le_trans (small_le (m := 60) (by assumption)) (by decide)
    first
      | (exfalso; omega)
      | (
        refine r_val (.some rfl rfl) rfl (p_ldw (k := 0) Try.underlying27 rfl sz27 rfl rfl (rfl : _ = Value.agg #[_, _, _, _, _, _, _, _])) ?_
        refine r_callm (vs := [_]) (.some rfl rfl) rfl cl15 rfl (fun w hw => c_ref4 c sv hsz hs w hw) (fun G_2 v_5 hn_3 hr_4 => ?_)
        replace hs := hs.mono hn_3.le
        obtain ⟨u_6, rfl, u_6s⟩ := hr_4
        refine r_call (vs := [_, _]) (.some rfl rfl) rfl cl14 rfl (fun w hw => c_rcheck c _ _ (by omega) u_6s w hw) ?_
        refine r_val (.some rfl rfl) rfl (p_ne rfl rfl) ?_
        refine r_val .none rfl (p_pick_f rfl rfl) ?_
        refine r_nil ?_
        refine e_next ?_
        refine c_splitd (d := 14) rfl (fun h_7 => ?_) (fun h_7 => ?_)
        · skip
          first
            | (exfalso; omega)
            | (
              refine c_cond_t rfl ?_
              refine c_seq ?_
              refine c_region ?_
              refine r_call (vs := []) .none rfl cl12 rfl (fun w hw => c_awake4 w) ?_
              refine r_val .none rfl (p_assign rfl) ?_
              refine r_nil ?_
              refine e_next ?_
              refine c_ret ?_
              refine e_ret_then ?_
              refine e_ret1 Try.results10 (.tmp rfl .nil) (fun w hm => ⟨?_, hm.since⟩)
              first
              | rfl
              | (exfalso; obtain ⟨ha, hb⟩ := cv_at hck (by assumption); rcases hC with h | h; omega; exact h hb; done)
              | (rw [cv_end hck (by omega)]; simp; done)
              | (exfalso; have e := cv_end hck (n := s) (by omega); omega)
              )
        · skip
          have hck : check c 1 = 0 := Decidable.not_not.1 h_7
          first
            | (exfalso; omega)
            | (
              refine c_cond_f rfl ?_
              refine c_skip ?_
              refine e_next ?_
              refine c_seq ?_
              refine c_region ?_
              refine r_val .none rfl (p_ldw (k := 0) Try.underlying27 rfl sz27 rfl rfl (rfl : _ = Value.agg #[_, _, _, _, _, _, _, _])) ?_
              refine r_callrow (vs := [_]) .none rfl cl30 rfl (fun w hw => c_cvars c sv hsz hs w hw) (fun v_8 => ?_)
              refine r_val .none rfl (p_assign rfl) ?_
              refine r_nil ?_
              refine e_next ?_
              refine c_seq ?_
              refine c_region ?_
              refine r_val .none rfl (p_assign rfl) ?_
              refine r_nil ?_
              refine e_next ?_
              refine c_seq ?_
              refine c_seq ?_
              refine c_region ?_
              refine r_val .none rfl (p_assign rfl) ?_
              refine r_nil ?_
              refine e_next ?_
              refine c_block ?_
              refine c_name (d := 1) rfl (fun u_9 hu_9 => ?_)
              refine c_name (d := 3) rfl (fun u_10 hu_10 => ?_)
              refine c_nameL (k := 0) rfl (fun A_11 hA_11 => ?_)
              refine c_nameL (k := 1) rfl (fun A_12 hA_12 => ?_)
              refine c_loop (σ := Nat × Ghost) (fun s => [(5, Value.int .i64 (s.1 : Nat)), (4, Value.int .i64 (Set.below (cvars c) (s.1 : Nat) : Nat)), (1, u_9), (3, u_10)]) (fun s => [A_11, A_12]) (fun s => s.2) (fun s => (1 ≤ s.1 ∧ s.1 ≤ 33) ∧ GNew w nX G_2 s.2) (fun s => 33 - s.1) ((1, _)) ⟨⟨Nat.le_refl _, by dsimp only; omega⟩, GNew.refl _ _ _⟩ rfl ⟨rfl, (congrArg (fun z => some (Value.int .i64 z)) (cv_start hck).symm), rfl, rfl, trivial⟩ (.keep (fun _ _ h => h) (.keep (fun _ _ h => h) (.nil))) (fun s hphi => ?_)
              subst hu_9
              subst hu_10
              subst hA_11
              subst hA_12
              obtain ⟨s, H⟩ := s
              obtain ⟨hss, hgn⟩ := hphi
              dsimp only at hss hgn ⊢
              replace hs := hs.mono hgn.le
              replace u_6s := u_6s.mono hgn.le
              refine c_seq ?_
              refine c_seq ?_
              refine c_region ?_
              refine r_val .none rfl (p_move rfl) ?_
              refine r_val .none rfl (p_le rfl rfl) ?_
              refine r_nil ?_
              refine e_next ?_
              refine c_splitd (d := 19) rfl (fun h_13 => ?_) (fun h_13 => ?_)
              · skip
                first
                  | (exfalso; omega)
                  | (
                    refine c_cond_t rfl ?_
                    refine c_skip ?_
                    refine e_next ?_
                    refine c_seq ?_
                    refine c_block ?_
                    refine c_seq ?_
                    refine c_seq ?_
                    refine c_region ?_
                    refine r_val .none rfl (p_ldw (k := 1) Try.underlying27 rfl sz27 rfl rfl (rfl : _ = Value.agg #[_, _, _, _, _, _, _, _])) ?_
                    refine r_callm (vs := [_]) .none rfl cl15 rfl (fun w hw => c_ref4 c sv hsz hs w hw) (fun G_14 v_17 hn_15 hr_16 => ?_)
                    replace hs := hs.mono hn_15.le
                    replace u_6s := u_6s.mono hn_15.le
                    obtain ⟨u_18, rfl, u_18s⟩ := hr_16
                    refine r_val .none rfl (p_move rfl) ?_
                    refine r_call (vs := [_, _]) .none rfl cl31 rfl (fun w hw => c_rhas c _ _ u_18s w hw) ?_
                    refine r_val .none rfl (p_not rfl) ?_
                    refine r_nil ?_
                    refine e_next ?_
                    refine c_splitn (d := 26) rfl (fun h_19 => ?_) (fun h_19 => ?_)
                    · skip
                      first
                        | (exfalso; omega)
                        | (
                          refine c_cond_t rfl ?_
                          refine c_exit ?_
                          refine e_exit_then ?_
                          refine e_exit_block ?_
                          refine e_next ?_
                          refine c_region ?_
                          refine r_val .none rfl (p_move rfl) ?_
                          refine r_val .none rfl (p_add rfl rfl (by omega)) ?_
                          refine r_val .none rfl (p_assign rfl) ?_
                          refine r_nil ?_
                          refine e_round ((s + 1, _)) ⟨⟨⟨by dsimp only; omega, by dsimp only; omega⟩, (hgn.trans hn_15)⟩, by dsimp only; omega⟩ rfl ⟨rfl, (congrArg (fun z => some (Value.int .i64 z)) (by first | exact cv_yes hck (by assumption) | exact cv_no hck (by assumption))), rfl, rfl, trivial⟩ (.keep (fun _ _ h => h) (.keep (fun _ _ h => h) (.nil)))
                          )
                    · skip
                      first
                        | (exfalso; omega)
                        | (
                          refine c_cond_f rfl ?_
                          refine c_skip ?_
                          refine e_next ?_
                          refine c_seq ?_
                          refine c_seq ?_
                          refine c_region ?_
                          refine r_val .none rfl (p_move rfl) ?_
                          refine r_val .none rfl (p_move rfl) ?_
                          refine r_val .none rfl (p_leno (k := 0) Try.underlying57 rfl rfl) ?_
                          refine r_val .none rfl (p_ge rfl rfl) ?_
                          refine r_val .none rfl (p_move rfl) ?_
                          refine' r_or (c := 31) (d := 38) [_, _, _, _, _, _, _] rfl (fun h_20 Q_21 hQ_22 => ?_) (fun h_20 Q_21 hQ_22 => ?_) ?_
                          rotate_left 1
                          · skip
                            replace h_20 := of_decide_eq_false h_20
                            refine r_val (.some rfl rfl) rfl (p_move rfl) ?_
                            refine r_val (.some rfl rfl) rfl (p_move rfl) ?_
                            refine r_iaddr_o (k := 0) (.some rfl rfl) rfl Try.underlying57 sz3 rfl rfl rfl (by first | exact of_decide_eq_true rfl | omega) (fun p_24 c_25 hv_26 => ?_)
                            refine r_val (.some rfl rfl) rfl (p_ldo0 (k := 0) Try.underlying3 rfl rfl hv_26 rfl (by first | exact of_decide_eq_true rfl | omega) (by first | exact of_decide_eq_true rfl | omega) ((flatMap_get (cells := cI) (fun _ => rfl) (0 : Int) _ _ _ (by first | exact of_decide_eq_true rfl | omega) (by first | exact of_decide_eq_true rfl | omega)).trans (rfl : _ = Value.int _ _))) ?_
                            refine r_val (.some rfl rfl) rfl (p_move rfl) ?_
                            refine r_val (.some rfl rfl) rfl (p_ne rfl rfl) ?_
                            refine r_val .none rfl (p_pick_f rfl rfl) ?_
                            refine r_nil (e_fin (d := 38) hQ_22 rfl (by repeat (first | exact .refl | refine .put rfl ?_ | refine .say rfl ?_ | refine .say2 rfl (by first | assumption | simp_all) ?_)))
                          · skip
                            repeat (first | refine r_skip rfl (.no rfl rfl) ?_ | refine r_skip rfl (.un rfl rfl) ?_)
                            refine r_val (by first | exact .none | exact .some rfl rfl) rfl (p_pick_t rfl rfl) ?_
                            refine r_nil (e_fin (d := 38) hQ_22 rfl (by repeat (first | exact .refl | refine .put rfl ?_ | refine .say rfl ?_ | refine .say2 rfl (by first | assumption | simp_all) ?_)))
                          refine r_nil ?_
                          refine e_next ?_
                          refine c_split (d := 38) rfl (fun h_27 => ?_) (fun h_27 => ?_)
                          · skip
                            try simp only [norms] at h_27
                            have hC := h_27
                            first
                              | (exfalso; omega)
                              | (
                                refine c_cond_t rfl ?_
                                refine c_seq ?_
                                refine c_region ?_
                                refine r_val .none rfl (p_assign rfl) ?_
                                refine r_nil ?_
                                refine e_next ?_
                                refine c_ret ?_
                                refine e_ret_then ?_
                                refine e_ret_block ?_
                                refine e_ret_then ?_
                                refine e_ret_then ?_
                                refine e_ret_block ?_
                                refine e_ret_then ?_
                                refine e_ret1 Try.results10 (.tmp rfl .nil) (fun w hm => ⟨?_, hm.since⟩)
                                first
                                | rfl
                                | (exfalso; obtain ⟨ha, hb⟩ := cv_at hck (by assumption); rcases hC with h | h; omega; exact h hb; done)
                                | (rw [cv_end hck (by omega)]; simp; done)
                                | (exfalso; have e := cv_end hck (n := s) (by omega); omega)
                                )
                          · skip
                            try simp only [norms] at h_27
                            first
                              | (exfalso; omega)
                              | (
                                refine c_cond_f rfl ?_
                                refine c_skip ?_
                                refine e_next ?_
                                refine c_region ?_
                                refine r_val .none rfl (p_move rfl) ?_
                                refine r_val .none rfl (p_add rfl rfl (by have q1 := (cv_at hck (show has c s = true by assumption)).1; have q2 := cvars_len c; omega)) ?_
                                refine r_val .none rfl (p_assign rfl) ?_
                                refine r_nil ?_
                                refine e_norm_block ?_
                                refine e_next ?_
                                refine c_region ?_
                                refine r_val .none rfl (p_move rfl) ?_
                                refine r_val .none rfl (p_add rfl rfl (by omega)) ?_
                                refine r_val .none rfl (p_assign rfl) ?_
                                refine r_nil ?_
                                refine e_round ((s + 1, _)) ⟨⟨⟨by dsimp only; omega, by dsimp only; omega⟩, (hgn.trans hn_15)⟩, by dsimp only; omega⟩ rfl ⟨rfl, (congrArg (fun z => some (Value.int .i64 z)) (by first | exact cv_yes hck (by assumption) | exact cv_no hck (by assumption))), rfl, rfl, trivial⟩ (.keep (fun _ _ h => h) (.keep (fun _ _ h => h) (.nil)))
                                )
                          )
                    )
              · skip
                first
                  | (exfalso; omega)
                  | (
                    refine c_cond_f rfl ?_
                    refine c_exit ?_
                    refine e_exit_then ?_
                    refine e_exit_then ?_
                    refine e_exit_block ?_
                    refine e_next ?_
                    refine c_seq ?_
                    refine c_region_d (fun _ => false) _ mixed (.keep (fun _ _ h => h) (.keep (fun _ _ h => h) (.nil))) ?_
                    refine d_val1 0 rfl rfl (by kernel_rfl) (fun _ _ => rfl) .none rfl (p_move rfl) ?_
                    refine d_val1 1 rfl rfl (by kernel_rfl) (fun _ _ => rfl) .none rfl (p_move rfl) ?_
                    refine d_val1 2 rfl rfl (by kernel_rfl) (fun _ _ => rfl) .none rfl (p_leno (k := 0) Try.underlying57 rfl rfl) ?_
                    refine d_val1 3 rfl rfl (by kernel_rfl) (fun _ _ => rfl) .none rfl (p_eq rfl rfl) ?_
                    refine d_val1 4 rfl rfl (by kernel_rfl) (fun _ _ => rfl) .none rfl (p_move rfl) ?_
                    refine d_splitd (d := 45) rfl (fun h_28 => ?_) (fun h_28 => ?_)
                    · skip
                      first
                        | (exfalso; omega)
                        | (
                          refine d_val1 5 rfl rfl (by kernel_rfl) (fun _ _ => rfl) (.some rfl rfl) rfl (p_ldw (k := 1) Try.underlying27 rfl sz27 rfl rfl (rfl : _ = Value.agg #[_, _, _, _, _, _, _, _])) ?_
                          refine d_val1 7 rfl rfl (by kernel_rfl) (fun _ _ => rfl) (.some rfl rfl) rfl (p_ldw (k := 1) Try.underlying27 rfl sz27 rfl rfl (rfl : _ = Value.agg #[_, _, _, _, _, _, _, _])) ?_
                          refine d_eff 6 rfl (by kernel_rfl) (fun K_29 hKK_29 hcK_29 => ?_)
                          refine r_call (vs := [_]) (.some rfl rfl) rfl cl32 rfl (fun w hw => c_size c sv hsz hs w hw) ?_
                          refine r_nil (e_d (i := 6) (brk := (fun _ => false)) (ph' := true) hKK_29 hcK_29 rfl (fun _ => GLe.refl _) (fun _ => .keep (fun _ _ h => h) (.keep (fun _ _ h => h) (.nil))) ?_)
                          clear hKK_29 hcK_29 K_29
                          refine d_eff 8 rfl (by kernel_rfl) (fun K_30 hKK_30 hcK_30 => ?_)
                          refine r_callm (vs := [_]) (.some rfl rfl) rfl cl15 rfl (fun w hw => c_ref4 c sv hsz hs w hw) (fun G_31 v_34 hn_32 hr_33 => ?_)
                          replace hs := hs.mono hn_32.le
                          replace u_6s := u_6s.mono hn_32.le
                          obtain ⟨u_35, rfl, u_35s⟩ := hr_33
                          refine r_nil (e_d (i := 8) (brk := (fun _ => false)) (ph' := true) hKK_30 hcK_30 rfl (fun _ => hn_32.le) (fun _ => .keep (fun _ _ h => h) (.keep (fun _ _ h => h) (.nil))) ?_)
                          clear hKK_30 hcK_30 K_30
                          refine d_eff 9 rfl (by kernel_rfl) (fun K_36 hKK_36 hcK_36 => ?_)
                          refine r_call (vs := [_]) (.some rfl rfl) rfl cl33 rfl (fun w hw => c_rsize c _ hsz u_35s w hw) ?_
                          refine r_nil (e_d (i := 9) (brk := (fun _ => false)) (ph' := true) hKK_36 hcK_36 rfl (fun _ => hn_32.le) (fun _ => .keep (fun _ _ h => h) (.keep (fun _ _ h => h) (.nil))) ?_)
                          clear hKK_36 hcK_36 K_36
                          refine d_val1 10 rfl rfl (by kernel_rfl) (fun _ _ => rfl) (.some rfl rfl) rfl (p_eq rfl rfl) ?_
                          refine d_val1 11 rfl rfl (by kernel_rfl) (fun _ _ => rfl) .none rfl (p_pick_t rfl rfl) ?_
                          refine d_val1 12 rfl rfl (by kernel_rfl) (fun _ _ => rfl) .none rfl (p_move rfl) ?_
                          refine d_splitd (d := 53) rfl (fun h_37 => ?_) (fun h_37 => ?_)
                          · skip
                            first
                              | (exfalso; omega)
                              | (
                                refine d_eff 13 rfl (by kernel_rfl) (fun K_38 hKK_38 hcK_38 => ?_)
                                refine r_call (vs := []) (.some rfl rfl) rfl cl12 rfl (fun w hw => c_awake4 w) ?_
                                refine r_nil (e_d (i := 13) (brk := (fun _ => false)) (ph' := true) hKK_38 hcK_38 rfl (fun _ => hn_32.le) (fun _ => .keep (fun _ _ h => h) (.keep (fun _ _ h => h) (.nil))) ?_)
                                clear hKK_38 hcK_38 K_38
                                refine d_val1 14 rfl rfl (by kernel_rfl) (fun _ _ => rfl) .none rfl (p_pick_t rfl rfl) ?_
                                refine d_val1 15 rfl rfl (by kernel_rfl) (fun _ _ => rfl) .none rfl (p_assign rfl) ?_
                                refine d_nil (by kernel_rfl) ?_
                                refine e_next ?_
                                refine c_ret ?_
                                refine e_ret1 Try.results10 (.tmp rfl .nil) (fun w hm => ⟨?_, hm.since⟩)
                                first
                                | rfl
                                | (exfalso; obtain ⟨ha, hb⟩ := cv_at hck (by assumption); rcases hC with h | h; omega; exact h hb; done)
                                | (rw [cv_end hck (by omega)]; simp; done)
                                | (exfalso; have e := cv_end hck (n := s) (by omega); omega)
                                )
                          · skip
                            first
                              | (exfalso; omega)
                              | (
                                refine d_skip1 13 rfl rfl (by kernel_rfl) (fun _ _ => rfl) rfl (.no rfl rfl) ?_
                                refine d_val1 14 rfl rfl (by kernel_rfl) (fun _ _ => rfl) .none rfl (p_pick_f rfl rfl) ?_
                                refine d_val1 15 rfl rfl (by kernel_rfl) (fun _ _ => rfl) .none rfl (p_assign rfl) ?_
                                refine d_nil (by kernel_rfl) ?_
                                refine e_next ?_
                                refine c_ret ?_
                                refine e_ret1 Try.results10 (.tmp rfl .nil) (fun w hm => ⟨?_, hm.since⟩)
                                first
                                | rfl
                                | (exfalso; obtain ⟨ha, hb⟩ := cv_at hck (by assumption); rcases hC with h | h; omega; exact h hb; done)
                                | (rw [cv_end hck (by omega)]; simp; done)
                                | (exfalso; have e := cv_end hck (n := s) (by omega); omega)
                                )
                          )
                    · skip
                      first
                        | (exfalso; omega)
                        | (
                          refine d_skip1 5 rfl rfl (by kernel_rfl) (fun _ _ => rfl) rfl (.no rfl rfl) ?_
                          refine d_skip1 6 rfl rfl (by kernel_rfl) (fun _ _ => rfl) rfl (.no rfl rfl) ?_
                          refine d_skip1 7 rfl rfl (by kernel_rfl) (fun _ _ => rfl) rfl (.no rfl rfl) ?_
                          refine d_skip1 8 rfl rfl (by kernel_rfl) (fun _ _ => rfl) rfl (.no rfl rfl) ?_
                          refine d_skip1 9 rfl rfl (by kernel_rfl) (fun _ _ => rfl) rfl (.no rfl rfl) ?_
                          refine d_skip1 10 rfl rfl (by kernel_rfl) (fun _ _ => rfl) rfl (.no rfl rfl) ?_
                          refine d_val1 11 rfl rfl (by kernel_rfl) (fun _ _ => rfl) .none rfl (p_pick_f rfl rfl) ?_
                          refine d_val1 12 rfl rfl (by kernel_rfl) (fun _ _ => rfl) .none rfl (p_move rfl) ?_
                          refine d_skip1 13 rfl rfl (by kernel_rfl) (fun _ _ => rfl) rfl (.no rfl rfl) ?_
                          refine d_val1 14 rfl rfl (by kernel_rfl) (fun _ _ => rfl) .none rfl (p_pick_f rfl rfl) ?_
                          refine d_val1 15 rfl rfl (by kernel_rfl) (fun _ _ => rfl) .none rfl (p_assign rfl) ?_
                          refine d_nil (by kernel_rfl) ?_
                          refine e_next ?_
                          refine c_ret ?_
                          refine e_ret1 Try.results10 (.tmp rfl .nil) (fun w hm => ⟨?_, hm.since⟩)
                          first
                          | rfl
                          | (exfalso; obtain ⟨ha, hb⟩ := cv_at hck (by assumption); rcases hC with h | h; omega; exact h hb; done)
                          | (rw [cv_end hck (by omega)]; simp; done)
                          | (exfalso; have e := cv_end hck (n := s) (by omega); omega)
                          )
                    )
              )
        )
end Go.Proofs.Ytpcpbfajadgmpaa
