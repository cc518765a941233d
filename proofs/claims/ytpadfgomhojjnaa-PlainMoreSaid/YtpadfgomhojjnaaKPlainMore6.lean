/- Texts of this work, laid together: a logic of steps, plain laws, and walks of Go functions, each without a condition but those that its theorems name. -/
import Derived.Test.YtpadfgomhojjnaaKPlainMore5
import Derived.Test.YtpadfgomhojjnaaRows
/- Walks: what Go functions of this chapter come to, each as a function on plain data; no condition but those that each theorem names. Printed by a program of this work (gen.py). -/
namespace Go.Proofs.Ytpadfgomhojjnaa
open Go.Gx Go.Gx.T13 Go.Gx.T8 Go.Gx.T4 Go.Gx.T3 Go.Gx.T14 Go.Gx.T13 Go.Gx.T8 Go.Gx.T6 Go.Gx.T4 Go.Gx.T3 Go.Gx.T3 Go.Gx.T4 Go.Gx.T3 Go.Gx.T6 Go.Gx.T8 Go.Gx.T4 Go.Gx.T3 Go.Gx.T8 Go.Gx.T4 Go.Gx.T3 Go.Gx.T8 Go.Gx.T6 Go.Gx.T4 Go.Gx.T3
theorem cl32 : Callable Try.prog 32 := callable Try.func32 (by kernel_rfl) rfl
theorem cl41 : Callable Try.prog 41 := callable Try.func41 (by kernel_rfl) rfl
theorem c_same14_t (v v2 : Value) (a b : List (List Int)) {G : Ghost} (hab : a = b) (ha : LI G v a) (hb : LI G v2 b) (w : World) (hG : Has G w) :
    Calls Try.prog 37 #[v, v2] w (Ret fun r w' => r = Value.bool true ∧ Since nX w w') := by
  have h := c_same14 v v2 a b ha hb w hG
  rw [decide_eq_true hab] at h
  exact h
theorem c_PlainMore (v : Value) (l : List CT) (vt : Value) (t : List Tri) {G : Ghost} (hs : Cs G v l) (ht : SlL G vt 3 triL z3 t) (w : World) (hG : Has G w) :
    Calls Try.prog 7 #[v, vt] w (Ret fun r w' => r = Value.bool true ∧ Since nX w w') := by
  refine enter (args := [_, _]) (X := nX) (G := G) (l := [(0, v), (1, vt)]) Try.func7 rfl Try.ntmps7 hG ⟨rfl, rfl, trivial⟩ (Nat.le_of_ble_eq_true rfl) ?_
  obtain ⟨rs, hr, hp, hl⟩ := hs.inv
  have hlr : l.length = rs.length := by rw [hl]; simp
  refine c_seq ?_
  refine c_region ?_
  refine r_val .none rfl (p_assign rfl) ?_
  refine r_nil ?_
  refine e_next ?_
  refine c_seq ?_
  refine c_seq ?_
  refine c_region ?_
  refine r_val .none rfl (p_move rfl) ?_
  refine r_call (vs := [_]) .none rfl cl40 rfl (fun w hw => c_fine6 _ l hs w hw) ?_
  refine r_val .none rfl (p_not rfl) ?_
  refine r_val .none rfl (p_move rfl) ?_
  refine r_splitn (d := 21) rfl (fun h_1 => ?_) (fun h_1 => ?_)
  · skip
    first
      | (exfalso; first | omega | assumption)
      | (
        refine r_skip rfl (.no rfl rfl) ?_
        refine r_skip rfl (.no rfl rfl) ?_
        refine r_skip rfl (.no rfl rfl) ?_
        refine r_val .none rfl (p_pick_t rfl rfl) ?_
        refine r_val .none rfl (p_move rfl) ?_
        refine r_skip rfl (.no rfl rfl) ?_
        refine r_skip rfl (.no rfl rfl) ?_
        refine r_skip rfl (.no rfl rfl) ?_
        refine r_val .none rfl (p_pick_t rfl rfl) ?_
        refine r_val .none rfl (p_move rfl) ?_
        refine r_skip rfl (.no rfl rfl) ?_
        refine r_skip rfl (.no rfl rfl) ?_
        refine r_skip rfl (.no rfl rfl) ?_
        refine r_skip rfl (.no rfl rfl) ?_
        refine r_skip rfl (.no rfl rfl) ?_
        refine r_skip rfl (.no rfl rfl) ?_
        refine r_val .none rfl (p_pick_t rfl rfl) ?_
        refine r_nil ?_
        refine e_next ?_
        refine c_cond_t rfl ?_
        refine c_seq ?_
        refine c_region ?_
        refine r_call (vs := []) .none rfl cl31 rfl (fun w hw => c_awake14 w) ?_
        refine r_val .none rfl (p_assign rfl) ?_
        refine r_nil ?_
        refine e_next ?_
        refine c_ret ?_
        refine e_ret_then ?_
        refine e_ret1 Try.results7 (.tmp rfl .nil) (fun w hm => ⟨?_, hm.since⟩)
        rfl
        )
  · skip
    have hf : fineL l = true := h_1
    have hfy := fineL_yes hf
    have hsz : sizeL l ≤ 1000 := by omega
    have hll := sizeL_len l
    have hflat := flat_all_of hfy.1
    have hss : sszL (stepsOf [] l) ≤ 1000 := Nat.le_trans (sszL_of l []) (by omega)
    have hoks : okSL (stepsOf [] l) := okSL_of l [] (by simp; omega)
    first
      | (exfalso; first | omega | assumption)
      | (
        refine r_val (.some rfl rfl) rfl (p_move rfl) ?_
        refine r_val (.some rfl rfl) rfl (p_leng Try.underlying70 rfl ht) ?_
        have bd_2 := (ht).bound
        refine r_val (.some rfl rfl) rfl (p_lt rfl rfl) ?_
        refine r_val .none rfl (p_pick_f rfl rfl) ?_
        refine r_val .none rfl (p_move rfl) ?_
        refine r_splitd (d := 26) rfl (fun h_3 => ?_) (fun h_3 => ?_)
        · skip
          first
            | (exfalso; first | omega | assumption)
            | (
              refine r_skip rfl (.no rfl rfl) ?_
              refine r_skip rfl (.no rfl rfl) ?_
              refine r_skip rfl (.no rfl rfl) ?_
              refine r_val .none rfl (p_pick_t rfl rfl) ?_
              refine r_val .none rfl (p_move rfl) ?_
              refine r_skip rfl (.no rfl rfl) ?_
              refine r_skip rfl (.no rfl rfl) ?_
              refine r_skip rfl (.no rfl rfl) ?_
              refine r_skip rfl (.no rfl rfl) ?_
              refine r_skip rfl (.no rfl rfl) ?_
              refine r_skip rfl (.no rfl rfl) ?_
              refine r_val .none rfl (p_pick_t rfl rfl) ?_
              refine r_nil ?_
              refine e_next ?_
              refine c_cond_t rfl ?_
              refine c_seq ?_
              refine c_region ?_
              refine r_call (vs := []) .none rfl cl31 rfl (fun w hw => c_awake14 w) ?_
              refine r_val .none rfl (p_assign rfl) ?_
              refine r_nil ?_
              refine e_next ?_
              refine c_ret ?_
              refine e_ret_then ?_
              refine e_ret1 Try.results7 (.tmp rfl .nil) (fun w hm => ⟨?_, hm.since⟩)
              rfl
              )
        · skip
          first
            | (exfalso; first | omega | assumption)
            | (
              refine r_val (.some rfl rfl) rfl (p_move rfl) ?_
              refine r_val (.some rfl rfl) rfl (p_leng Try.underlying70 rfl ht) ?_
              have bd_4 := (ht).bound
              refine r_val (.some rfl rfl) rfl (p_gt rfl rfl) ?_
              refine r_val .none rfl (p_pick_f rfl rfl) ?_
              refine r_val .none rfl (p_move rfl) ?_
              refine r_splitd (d := 31) rfl (fun h_5 => ?_) (fun h_5 => ?_)
              · skip
                first
                  | (exfalso; first | omega | assumption)
                  | (
                    refine r_skip rfl (.no rfl rfl) ?_
                    refine r_skip rfl (.no rfl rfl) ?_
                    refine r_skip rfl (.no rfl rfl) ?_
                    refine r_skip rfl (.no rfl rfl) ?_
                    refine r_skip rfl (.no rfl rfl) ?_
                    refine r_skip rfl (.no rfl rfl) ?_
                    refine r_val .none rfl (p_pick_t rfl rfl) ?_
                    refine r_nil ?_
                    refine e_next ?_
                    refine c_cond_t rfl ?_
                    refine c_seq ?_
                    refine c_region ?_
                    refine r_call (vs := []) .none rfl cl31 rfl (fun w hw => c_awake14 w) ?_
                    refine r_val .none rfl (p_assign rfl) ?_
                    refine r_nil ?_
                    refine e_next ?_
                    refine c_ret ?_
                    refine e_ret_then ?_
                    refine e_ret1 Try.results7 (.tmp rfl .nil) (fun w hm => ⟨?_, hm.since⟩)
                    rfl
                    )
              · skip
                first
                  | (exfalso; first | omega | assumption)
                  | (
                    refine r_val (.some rfl rfl) rfl (p_move rfl) ?_
                    refine r_val (.some rfl rfl) rfl (p_leng Try.underlying70 rfl ht) ?_
                    have bd_6 := (ht).bound
                    refine r_val (.some rfl rfl) rfl (p_move rfl) ?_
                    refine r_callm (vs := [_]) (.some rfl rfl) rfl cl42 rfl (fun w hw => c_lref _ _ hsz hs w hw) (fun G_7 v_10 hn_8 hr_9 => ?_)
                    replace hr := hr.mono hn_8.le
                    replace ht := ht.mono hn_8.le
                    replace hs := hs.mono hn_8.le
                    replace hp := fun p hm0 => (hp p hm0).mono hn_8.le
                    have hR := hr_9
                    refine r_call (vs := [_, _, _]) (.some rfl rfl) rfl cl41 rfl (fun w hw => c_cost t.length _ l (by omega) hsz hR w hw) ?_
                    refine r_val (.some rfl rfl) rfl (p_not rfl) ?_
                    refine r_val .none rfl (p_pick_f rfl rfl) ?_
                    refine r_nil ?_
                    refine e_next ?_
                    refine c_splitn (d := 38) rfl (fun h_12 => ?_) (fun h_12 => ?_)
                    · skip
                      first
                        | (exfalso; first | omega | assumption)
                        | (
                          refine c_cond_t rfl ?_
                          refine c_seq ?_
                          refine c_region ?_
                          refine r_call (vs := []) .none rfl cl31 rfl (fun w hw => c_awake14 w) ?_
                          refine r_val .none rfl (p_assign rfl) ?_
                          refine r_nil ?_
                          refine e_next ?_
                          refine c_ret ?_
                          refine e_ret_then ?_
                          refine e_ret1 Try.results7 (.tmp rfl .nil) (fun w hm => ⟨?_, hm.since⟩)
                          rfl
                          )
                    · skip
                      have hcost : costB t.length l = true := h_12
                      first
                        | (exfalso; first | omega | assumption)
                        | (
                          refine c_cond_f rfl ?_
                          refine c_skip ?_
                          refine e_next ?_
                          refine c_seq ?_
                          refine c_seq ?_
                          refine c_region ?_
                          refine r_val .none rfl (p_move rfl) ?_
                          refine r_val .none rfl (p_leng Try.underlying67 rfl hr) ?_
                          have bd_13 := (hr).bound
                          refine r_val .none rfl (p_move rfl) ?_
                          refine r_nil ?_
                          refine e_next ?_
                          refine c_block ?_
                          refine c_name (d := 0) rfl (fun u_14 hu_14 => ?_)
                          refine c_name (d := 1) rfl (fun u_15 hu_15 => ?_)
                          refine c_name (d := 40) rfl (fun u_16 hu_16 => ?_)
                          refine c_name (d := 41) rfl (fun u_17 hu_17 => ?_)
                          refine c_loop (σ := Nat × Ghost) (fun s => [(42, Value.int .i64 (s.1 : Nat)), (0, u_14), (1, u_15), (40, u_16), (41, u_17)]) (fun s => []) (fun s => s.2) (fun s => s.1 ≤ rs.length ∧ (∀ c ∈ (rs.map Prod.fst).take s.1, c.h.k = 1) ∧ GNew w nX G_7 s.2) (fun s => rs.length - s.1) ((0, _)) ⟨Nat.zero_le _, by simp, GNew.refl _ _ _⟩ rfl ⟨rfl, rfl, rfl, rfl, rfl, trivial⟩ (.nil) (fun s hphi => ?_)
                          subst hu_14
                          subst hu_15
                          subst hu_16
                          subst hu_17
                          obtain ⟨k, H⟩ := s
                          obtain ⟨hk, hkk, hgn⟩ := hphi
                          dsimp only at hk hkk hgn ⊢
                          replace hr := hr.mono hgn.le
                          replace ht := ht.mono hgn.le
                          replace hs := hs.mono hgn.le
                          replace hp := fun p hm0 => (hp p hm0).mono hgn.le
                          replace hR := hR.mono hgn.le
                          refine c_seq ?_
                          refine c_region ?_
                          refine r_val .none rfl (p_lt rfl rfl) ?_
                          refine r_nil ?_
                          refine e_next ?_
                          refine c_seq ?_
                          refine c_splitd (d := 43) rfl (fun h_18 => ?_) (fun h_18 => ?_)
                          · skip
                            first
                              | (exfalso; first | omega | assumption)
                              | (
                                refine c_cond_t rfl ?_
                                refine c_skip ?_
                                refine e_next ?_
                                refine c_seq ?_
                                refine c_block ?_
                                refine c_seq ?_
                                refine c_region ?_
                                refine r_iaddr_g .none rfl Try.underlying67 sz97 rfl hr rfl (by first | exact of_decide_eq_true rfl | omega) (fun p_20 o_21 R_19 => ?_)
                                have hc_22 := hp _ (getD_mem (i := k) (d := d0) (by omega))
                                refine r_val .none rfl (p_ldga0 Try.underlying97 rfl sz97 rfl R_19 (by first | exact of_decide_eq_true rfl | omega) (rfl : _ = Value.agg #[_, _, _, _, _, _, _, _])) ?_
                                refine r_alloc .none rfl zr97 (IsRow.lit _) (fun b_1 => ?_)
                                refine r_stw (k := 0) .none sz97 rfl rfl (IsRow.lit _) (one_lit rfl (all_cons rfl (all_cons rfl (all_cons rfl (all_cons rfl (all_cons rfl (all_cons rfl (all_cons rfl (all_cons (hc_22).one rfl))))))))) rfl ?_
                                refine r_nil ?_
                                refine e_next ?_
                                refine c_seq ?_
                                refine c_region ?_
                                refine r_val .none rfl (p_ldw (k := 0) Try.underlying97 rfl sz97 rfl rfl (rfl : _ = Value.agg #[_, _, _, _, _, _, _, _])) ?_
                                refine r_callm (vs := [_]) .none rfl cl43 rfl (fun w hw => c_ref4 (rs.getD k d0).1 _ (Nat.le_trans (sizeL_mem (by rw [hl]; exact List.mem_map.2 ⟨_, getD_mem (i := k) (d := d0) (by omega), rfl⟩)) hsz) hc_22 w hw) (fun G_23 v_26 hn_24 hr_25 => ?_)
                                replace hr := hr.mono hn_24.le
                                replace ht := ht.mono hn_24.le
                                replace hs := hs.mono hn_24.le
                                replace hp := fun p hm0 => (hp p hm0).mono hn_24.le
                                replace hR := hR.mono hn_24.le
                                replace R_19 := R_19.mono hn_24.le
                                replace hc_22 := hc_22.mono hn_24.le
                                obtain ⟨u_27, rfl, u_27s⟩ := hr_25
                                refine r_val .none rfl (p_field1 Try.underlying102 rfl Try.underlying3 rfl sz3 rfl (IsRow.lit _) rfl (by first | exact of_decide_eq_true rfl | omega) (rfl : _ = Value.int _ _)) ?_
                                refine r_val .none rfl (p_ne rfl rfl) ?_
                                refine r_nil ?_
                                refine e_next ?_
                                refine c_splitd (d := 49) rfl (fun h_28 => ?_) (fun h_28 => ?_)
                                · skip
                                  first
                                    | (exfalso; first | omega | assumption)
                                    | (
                                      refine c_cond_t rfl ?_
                                      refine c_seq ?_
                                      refine c_region ?_
                                      refine r_call (vs := []) .none rfl cl31 rfl (fun w hw => c_awake14 w) ?_
                                      refine r_val .none rfl (p_assign rfl) ?_
                                      refine r_nil ?_
                                      refine e_next ?_
                                      refine c_ret ?_
                                      refine e_ret_block ?_
                                      refine e_ret_then ?_
                                      refine e_ret_then ?_
                                      refine e_ret_block ?_
                                      refine e_ret_then ?_
                                      refine e_ret1 Try.results7 (.tmp rfl .nil) (fun w hm => ⟨?_, hm.since⟩)
                                      rfl
                                      )
                                · skip
                                  have hE := Decidable.not_not.1 (h_28)
                                  first
                                    | (exfalso; first | omega | assumption)
                                    | (
                                      refine c_cond_f rfl ?_
                                      refine c_skip ?_
                                      refine e_norm_block ?_
                                      refine e_next ?_
                                      refine c_region ?_
                                      refine r_val .none rfl (p_add rfl rfl (by omega)) ?_
                                      refine r_val .none rfl (p_move rfl) ?_
                                      refine r_nil ?_
                                      refine e_round ((k + 1, _)) ⟨⟨by dsimp only; omega, fun c hc => by rw [map_take (d := d0) (by omega)] at hc; rcases List.mem_append.1 hc with h | h; exact hkk c h; rw [List.mem_singleton.1 h]; exact hE, (hgn.trans hn_24)⟩, by dsimp only; omega⟩ rfl ⟨rfl, rfl, rfl, rfl, rfl, trivial⟩ (.drop (.nil))
                                      )
                                )
                          · skip
                            have hk1 : ∀ c ∈ l, c.h.k = 1 := fun c hc => hkk c (by rw [List.take_of_length_le (by simp; omega), ← hl]; exact hc)
                            first
                              | (exfalso; first | omega | assumption)
                              | (
                                refine c_cond_f rfl ?_
                                refine c_exit ?_
                                refine e_exit_then ?_
                                refine e_exit_then ?_
                                refine e_exit_block ?_
                                refine e_next ?_
                                refine c_seq ?_
                                refine c_region ?_
                                refine r_val .none rfl (p_move rfl) ?_
                                refine r_callm (vs := [_, _]) .none rfl cl32 rfl (fun w hw => c_facts _ t 1 (by omega) (by decide) ht w hw) (fun G_29 v_32 hn_30 hr_31 => ?_)
                                replace hr := hr.mono hn_30.le
                                replace ht := ht.mono hn_30.le
                                replace hs := hs.mono hn_30.le
                                replace hp := fun p hm0 => (hp p hm0).mono hn_30.le
                                replace hR := hR.mono hn_30.le
                                obtain ⟨fv, rfl, hF⟩ := hr_31
                                refine r_val .none rfl (p_move rfl) ?_
                                refine r_val .none rfl (p_extract rfl rfl) ?_
                                refine r_val .none rfl (p_extract rfl rfl) ?_
                                refine r_val .none rfl (p_assign rfl) ?_
                                refine r_val .none rfl (p_assign rfl) ?_
                                refine r_nil ?_
                                refine e_next ?_
                                refine c_seq ?_
                                refine c_seq ?_
                                refine c_region ?_
                                refine r_val .none rfl (p_move rfl) ?_
                                refine r_val .none rfl (p_not rfl) ?_
                                refine r_nil ?_
                                refine e_next ?_
                                refine c_splitn (d := 58) rfl (fun h_34 => ?_) (fun h_34 => ?_)
                                · skip
                                  first
                                    | (exfalso; first | omega | assumption)
                                    | (
                                      refine c_cond_t rfl ?_
                                      refine c_seq ?_
                                      refine c_region ?_
                                      refine r_call (vs := []) .none rfl cl31 rfl (fun w hw => c_awake14 w) ?_
                                      refine r_val .none rfl (p_assign rfl) ?_
                                      refine r_nil ?_
                                      refine e_next ?_
                                      refine c_ret ?_
                                      refine e_ret_then ?_
                                      refine e_ret1 Try.results7 (.tmp rfl .nil) (fun w hm => ⟨?_, hm.since⟩)
                                      rfl
                                      )
                                · skip
                                  have hall : allOk t = true := h_34
                                  rw [fcts_yes hall] at hF
                                  have hfl := fTo_len t 1 t.length
                                  first
                                    | (exfalso; first | omega | assumption)
                                    | (
                                      refine c_cond_f rfl ?_
                                      refine c_skip ?_
                                      refine e_next ?_
                                      refine c_seq ?_
                                      refine c_region ?_
                                      refine r_val .none rfl (p_move rfl) ?_
                                      refine r_callm (vs := [_]) .none rfl cl42 rfl (fun w hw => c_lref _ _ hsz hs w hw) (fun G_35 v_38 hn_36 hr_37 => ?_)
                                      replace hr := hr.mono hn_36.le
                                      replace ht := ht.mono hn_36.le
                                      replace hs := hs.mono hn_36.le
                                      replace hp := fun p hm0 => (hp p hm0).mono hn_36.le
                                      replace hR := hR.mono hn_36.le
                                      replace hF := hF.mono hn_36.le
                                      have hR := hr_37
                                      refine r_callm (vs := [_]) .none rfl cl36 rfl (fun w hw => c_compile _ _ hsz hR w hw) (fun G_40 v_43 hn_41 hr_42 => ?_)
                                      replace hr := hr.mono hn_41.le
                                      replace ht := ht.mono hn_41.le
                                      replace hs := hs.mono hn_41.le
                                      replace hp := fun p hm0 => (hp p hm0).mono hn_41.le
                                      replace hR := hR.mono hn_41.le
                                      replace hF := hF.mono hn_41.le
                                      have hS := hr_42
                                      refine r_callm (vs := [_]) .none rfl cl35 rfl (fun w hw => c_steps _ _ (by omega) hS w hw) (fun G_45 v_48 hn_46 hr_47 => ?_)
                                      replace hr := hr.mono hn_46.le
                                      replace ht := ht.mono hn_46.le
                                      replace hs := hs.mono hn_46.le
                                      replace hp := fun p hm0 => (hp p hm0).mono hn_46.le
                                      replace hR := hR.mono hn_46.le
                                      replace hF := hF.mono hn_46.le
                                      replace hS := hS.mono hn_46.le
                                      have u_49 := hr_47
                                      refine r_val .none rfl (p_assign rfl) ?_
                                      refine r_nil ?_
                                      refine e_next ?_
                                      refine c_seq ?_
                                      refine c_region_d (fun j => [10, 11].contains j) _ mixed (.nil) ?_
                                      refine d_val1 0 rfl rfl (by kernel_rfl) (fun j hj => by have h : 11 < j := (Nat.lt_of_lt_of_le (by decide : 11 < 12) hj); simp; omega) .none rfl (p_move rfl) ?_
                                      refine d_val1 1 rfl rfl (by kernel_rfl) (fun j hj => by have h : 11 < j := (Nat.lt_of_lt_of_le (by decide : 11 < 12) hj); simp; omega) .none rfl (p_move rfl) ?_
                                      refine d_val1 3 rfl rfl (by kernel_rfl) (fun j hj => by have h : 11 < j := (Nat.lt_of_lt_of_le (by decide : 11 < 12) hj); simp; omega) .none rfl (p_move rfl) ?_
                                      refine d_val1 4 rfl rfl (by kernel_rfl) (fun j hj => by have h : 11 < j := (Nat.lt_of_lt_of_le (by decide : 11 < 12) hj); simp; omega) .none rfl (p_move rfl) ?_
                                      refine d_val1 5 rfl rfl (by kernel_rfl) (fun j hj => by have h : 11 < j := (Nat.lt_of_lt_of_le (by decide : 11 < 12) hj); simp; omega) .none rfl (p_leng Try.underlying72 rfl hF) ?_
                                      have bd_50 := (hF).bound
                                      refine d_val1 6 rfl rfl (by kernel_rfl) (fun j hj => by have h : 11 < j := (Nat.lt_of_lt_of_le (by decide : 11 < 12) hj); simp; omega) .none rfl (p_sub rfl rfl (by omega)) ?_
                                      refine d_say (d := 70) (v := Value.int .i64 ((t.length - 1 : Nat) : Int)) (congrArg (fun x => some (Value.int .i64 x)) (by rw [fTo_len]; omega)) ?_
                                      refine d_slice0 7 (t.length - 1) rfl rfl (by kernel_rfl) (fun j hj => by have h : 11 < j := (Nat.lt_of_lt_of_le (by decide : 11 < 12) hj); simp; omega) .none rfl Try.underlying72 sz120 rfl hF rfl (by first | exact of_decide_eq_true rfl | omega) (fun v_51 hs_52 => ?_)
                                      have hF2 := sl_take (cells := fC) (by rw [fTo_len]; omega) hs_52
                                      rw [fTo_take t 1 (by omega)] at hF2
                                      refine d_val1 8 rfl rfl (by kernel_rfl) (fun j hj => by have h : 11 < j := (Nat.lt_of_lt_of_le (by decide : 11 < 12) hj); simp; omega) .none rfl (p_move rfl) ?_
                                      refine d_eff 2 rfl (by kernel_rfl) (fun K_54 hKK_54 hcK_54 => ?_)
                                      refine r_callm (vs := [_, _]) .none rfl cl34 rfl (fun w hw => c_partial _ _ (fTo t 1 t.length) (stepsOf [] l) ⟨by rw [fTo_len]; omega, by omega⟩ hoks (Nat.le_trans (gm_small0 hcost (by rw [fTo_len]; omega) _) (by decide)) hF u_49 w hw) (fun G_55 v_58 hn_56 hr_57 => ?_)
                                      replace hr := hr.mono hn_56.le
                                      replace ht := ht.mono hn_56.le
                                      replace hs := hs.mono hn_56.le
                                      replace hp := fun p hm0 => (hp p hm0).mono hn_56.le
                                      replace hR := hR.mono hn_56.le
                                      replace hF := hF.mono hn_56.le
                                      replace hS := hS.mono hn_56.le
                                      replace u_49 := u_49.mono hn_56.le
                                      replace hs_52 := hs_52.mono hn_56.le
                                      replace hF2 := hF2.mono hn_56.le
                                      obtain ⟨qs, hq, hqp, hql⟩ := hr_57
                                      refine r_nil (e_d (i := 2) (brk := (fun j => [10, 11].contains j)) (ph' := true) hKK_54 hcK_54 rfl (fun _ => hn_56.le) (fun _ => .nil) ?_)
                                      clear hKK_54 hcK_54 K_54
                                      refine d_eff 9 rfl (by kernel_rfl) (fun K_60 hKK_60 hcK_60 => ?_)
                                      refine r_callm (vs := [_, _]) .none rfl cl34 rfl (fun w hw => c_partial _ _ (fTo t 1 (t.length - 1)) (stepsOf [] l) ⟨by rw [fTo_len]; omega, by omega⟩ hoks (Nat.le_trans (gm_small0 hcost (by rw [fTo_len]; omega) _) (by decide)) hF2 u_49 w hw) (fun G_61 v_64 hn_62 hr_63 => ?_)
                                      replace hr := hr.mono hn_62.le
                                      replace ht := ht.mono hn_62.le
                                      replace hs := hs.mono hn_62.le
                                      replace hp := fun p hm0 => (hp p hm0).mono hn_62.le
                                      replace hR := hR.mono hn_62.le
                                      replace hF := hF.mono hn_62.le
                                      replace hS := hS.mono hn_62.le
                                      replace u_49 := u_49.mono hn_62.le
                                      replace hs_52 := hs_52.mono hn_62.le
                                      replace hF2 := hF2.mono hn_62.le
                                      replace hq := hq.mono hn_62.le
                                      replace hqp := fun p hm0 => (hqp p hm0).mono hn_62.le
                                      obtain ⟨qs2, hq2, hqp2, hql2⟩ := hr_63
                                      have hAB := more_facts (t := t) (l := l) (by omega) hk1
                                      refine r_nil (e_d (i := 9) (brk := (fun j => [10, 11].contains j)) (ph' := true) hKK_60 hcK_60 rfl (fun _ => (hn_56.trans hn_62).le) (fun _ => .nil) ?_)
                                      clear hKK_60 hcK_60 K_60
                                      refine d_val2 10 rfl rfl (by kernel_rfl) .none rfl (fun _ => p_assign rfl) ?_
                                      refine d_val2 11 rfl rfl (by kernel_rfl) .none rfl (fun _ => p_assign rfl) ?_
                                      refine d_nil (by kernel_rfl) ?_
                                      refine e_next ?_
                                      refine c_seq ?_
                                      refine c_region ?_
                                      refine r_val .none rfl (p_assign rfl) ?_
                                      refine r_nil ?_
                                      refine e_next ?_
                                      refine c_seq ?_
                                      refine c_seq ?_
                                      refine c_region ?_
                                      refine r_val .none rfl (p_move rfl) ?_
                                      refine r_val .none rfl (p_leng Try.underlying79 rfl hq) ?_
                                      have bd_66 := (hq).bound
                                      refine r_val .none rfl (p_move rfl) ?_
                                      refine r_nil ?_
                                      refine e_next ?_
                                      refine c_block ?_
                                      refine c_name (d := 1) rfl (fun u_67 hu_67 => ?_)
                                      refine c_name (d := 11) rfl (fun u_68 hu_68 => ?_)
                                      refine c_name (d := 74) rfl (fun u_69 hu_69 => ?_)
                                      refine c_name (d := 75) rfl (fun u_70 hu_70 => ?_)
                                      refine c_loop (σ := Nat × Ghost) (fun s => [(76, Value.int .i64 (s.1 : Nat)), (12, Value.int .i64 (cnt ((gm (fTo t 1 t.length) (stepsOf [] l) ([], [])).map Prod.fst) (t.length : Nat) s.1 : Nat)), (1, u_67), (11, u_68), (74, u_69), (75, u_70)]) (fun s => []) (fun s => s.2) (fun s => s.1 ≤ qs.length ∧ GNew w nX G_61 s.2) (fun s => qs.length - s.1) ((0, _)) ⟨Nat.zero_le _, GNew.refl _ _ _⟩ rfl ⟨rfl, rfl, rfl, rfl, rfl, rfl, trivial⟩ (.nil) (fun s hphi => ?_)
                                      subst hu_67
                                      subst hu_68
                                      subst hu_69
                                      subst hu_70
                                      obtain ⟨j, H2⟩ := s
                                      obtain ⟨hj, hgn2⟩ := hphi
                                      dsimp only at hj hgn2 ⊢
                                      have hcl := cnt_le ((gm (fTo t 1 t.length) (stepsOf [] l) ([], [])).map Prod.fst) (t.length : Nat) j
                                      replace hr := hr.mono hgn2.le
                                      replace ht := ht.mono hgn2.le
                                      replace hs := hs.mono hgn2.le
                                      replace hp := fun p hm0 => (hp p hm0).mono hgn2.le
                                      replace hR := hR.mono hgn2.le
                                      replace hF := hF.mono hgn2.le
                                      replace hS := hS.mono hgn2.le
                                      replace u_49 := u_49.mono hgn2.le
                                      replace hs_52 := hs_52.mono hgn2.le
                                      replace hF2 := hF2.mono hgn2.le
                                      replace hq := hq.mono hgn2.le
                                      replace hqp := fun p hm0 => (hqp p hm0).mono hgn2.le
                                      replace hq2 := hq2.mono hgn2.le
                                      replace hqp2 := fun p hm0 => (hqp2 p hm0).mono hgn2.le
                                      refine c_seq ?_
                                      refine c_region ?_
                                      refine r_val .none rfl (p_lt rfl rfl) ?_
                                      refine r_nil ?_
                                      refine e_next ?_
                                      refine c_seq ?_
                                      refine c_splitd (d := 77) rfl (fun h_71 => ?_) (fun h_71 => ?_)
                                      · skip
                                        first
                                          | (exfalso; first | omega | assumption)
                                          | (
                                            refine c_cond_t rfl ?_
                                            refine c_skip ?_
                                            refine e_next ?_
                                            refine c_seq ?_
                                            refine c_block ?_
                                            refine c_seq ?_
                                            refine c_region ?_
                                            refine r_iaddr_g .none rfl Try.underlying79 sz22 rfl hq rfl (by first | exact of_decide_eq_true rfl | omega) (fun p_73 o_74 R_72 => ?_)
                                            have hq_75 := hqp _ (getD_mem (i := j) (d := es14) (by omega))
                                            refine r_val .none rfl (p_ldg0 Try.underlying22 rfl rfl R_72 (by first | exact of_decide_eq_true rfl | omega) rfl) ?_
                                            obtain ⟨a_76, c_77, e_78⟩ := SlG.len hq_75
                                            refine r_say (d := 79) (v := Value.slice a_76 (qs.getD j es14).1.length c_77) (congrArg some e_78) ?_
                                            rw [e_78] at hq_75
                                            refine r_val .none rfl (p_assign rfl) ?_
                                            refine r_nil ?_
                                            refine e_next ?_
                                            refine c_seq ?_
                                            refine c_region ?_
                                            refine r_val .none rfl (p_assign rfl) ?_
                                            refine r_nil ?_
                                            refine e_next ?_
                                            refine c_seq ?_
                                            refine c_seq ?_
                                            refine c_region ?_
                                            refine r_val .none rfl (p_move rfl) ?_
                                            refine r_val .none rfl (p_leng Try.underlying22 rfl hq_75) ?_
                                            have bd_79 := (hq_75).bound
                                            refine r_val .none rfl (p_move rfl) ?_
                                            refine r_nil ?_
                                            refine e_next ?_
                                            refine c_block ?_
                                            refine c_name (d := 1) rfl (fun u_80 hu_80 => ?_)
                                            refine c_name (d := 11) rfl (fun u_81 hu_81 => ?_)
                                            refine c_name (d := 12) rfl (fun u_82 hu_82 => ?_)
                                            refine c_name (d := 14) rfl (fun u_83 hu_83 => ?_)
                                            refine c_name (d := 74) rfl (fun u_84 hu_84 => ?_)
                                            refine c_name (d := 75) rfl (fun u_85 hu_85 => ?_)
                                            refine c_name (d := 76) rfl (fun u_86 hu_86 => ?_)
                                            refine c_name (d := 77) rfl (fun u_87 hu_87 => ?_)
                                            refine c_name (d := 78) rfl (fun u_88 hu_88 => ?_)
                                            refine c_name (d := 79) rfl (fun u_89 hu_89 => ?_)
                                            refine c_name (d := 80) rfl (fun u_90 hu_90 => ?_)
                                            refine c_name (d := 81) rfl (fun u_91 hu_91 => ?_)
                                            refine c_loop (σ := Nat) (fun i => [(82, Value.int .i64 (i : Nat)), (15, Value.bool (hasTo (qs.getD j es14).1 (t.length : Nat) i)), (1, u_80), (11, u_81), (12, u_82), (14, u_83), (74, u_84), (75, u_85), (76, u_86), (77, u_87), (78, u_88), (79, u_89), (80, u_90), (81, u_91)]) (fun i => []) (fun _ => _) (fun i => i ≤ (qs.getD j es14).1.length) (fun i => (qs.getD j es14).1.length - i) (0) (Nat.zero_le _) rfl ⟨rfl, rfl, rfl, rfl, rfl, rfl, rfl, rfl, rfl, rfl, rfl, rfl, rfl, rfl, trivial⟩ (.nil) (fun i hphi => ?_)
                                            subst hu_80
                                            subst hu_81
                                            subst hu_82
                                            subst hu_83
                                            subst hu_84
                                            subst hu_85
                                            subst hu_86
                                            subst hu_87
                                            subst hu_88
                                            subst hu_89
                                            subst hu_90
                                            subst hu_91
                                            refine c_seq ?_
                                            refine c_region ?_
                                            refine r_val .none rfl (p_lt rfl rfl) ?_
                                            refine r_nil ?_
                                            refine e_next ?_
                                            refine c_seq ?_
                                            refine c_splitd (d := 83) rfl (fun h_92 => ?_) (fun h_92 => ?_)
                                            · skip
                                              first
                                                | (exfalso; first | omega | assumption)
                                                | (
                                                  refine c_cond_t rfl ?_
                                                  refine c_skip ?_
                                                  refine e_next ?_
                                                  refine c_seq ?_
                                                  refine c_block ?_
                                                  refine c_seq ?_
                                                  refine c_region ?_
                                                  refine r_iaddr_g .none rfl Try.underlying22 sz3 rfl hq_75 rfl (by first | exact of_decide_eq_true rfl | omega) (fun p_94 o_95 R_93 => ?_)
                                                  refine r_val .none rfl (p_ldg0 Try.underlying3 rfl rfl R_93 (by first | exact of_decide_eq_true rfl | omega) (rfl : _ = Value.int _ _)) ?_
                                                  refine r_val .none rfl (p_assign rfl) ?_
                                                  refine r_nil ?_
                                                  refine e_next ?_
                                                  refine c_region ?_
                                                  refine r_val .none rfl (p_move rfl) ?_
                                                  refine r_val .none rfl (p_move rfl) ?_
                                                  refine r_split (d := 87) rfl (fun h_96 => ?_) (fun h_96 => ?_)
                                                  · skip
                                                    have hx1 := h_96
                                                    first
                                                      | (exfalso; first | omega | assumption)
                                                      | (
                                                        refine r_skip rfl (.no rfl rfl) ?_
                                                        refine r_skip rfl (.no rfl rfl) ?_
                                                        refine r_skip rfl (.no rfl rfl) ?_
                                                        refine r_skip rfl (.no rfl rfl) ?_
                                                        refine r_val .none rfl (p_pick_t rfl rfl) ?_
                                                        refine r_val .none rfl (p_assign rfl) ?_
                                                        refine r_nil ?_
                                                        refine e_norm_block ?_
                                                        refine e_next ?_
                                                        refine c_region ?_
                                                        refine r_val .none rfl (p_add rfl rfl (by omega)) ?_
                                                        refine r_val .none rfl (p_move rfl) ?_
                                                        refine r_nil ?_
                                                        refine e_round (i + 1) ⟨by omega, by omega⟩ rfl ⟨rfl, (congrArg (fun b => some (Value.bool b)) (by rw [hasTo_succ (by omega), hx1]; first | done | rfl)), rfl, rfl, rfl, rfl, rfl, rfl, rfl, rfl, rfl, rfl, rfl, rfl, trivial⟩ (.nil)
                                                        )
                                                  · skip
                                                    have hx1 := h_96
                                                    first
                                                      | (exfalso; first | omega | assumption)
                                                      | (
                                                        refine r_val (.some rfl rfl) rfl (p_move rfl) ?_
                                                        refine r_val (.some rfl rfl) rfl (p_move rfl) ?_
                                                        refine r_val (.some rfl rfl) rfl (p_leng Try.underlying70 rfl ht) ?_
                                                        have bd_97 := (ht).bound
                                                        refine r_val (.some rfl rfl) rfl (p_eq rfl rfl) ?_
                                                        refine r_val .none rfl (p_pick_f rfl rfl) ?_
                                                        refine r_val .none rfl (p_assign rfl) ?_
                                                        refine r_nil ?_
                                                        refine e_norm_block ?_
                                                        refine e_next ?_
                                                        refine c_region ?_
                                                        refine r_val .none rfl (p_add rfl rfl (by omega)) ?_
                                                        refine r_val .none rfl (p_move rfl) ?_
                                                        refine r_nil ?_
                                                        refine e_round (i + 1) ⟨by omega, by omega⟩ rfl ⟨rfl, (congrArg (fun b => some (Value.bool b)) (by rw [hasTo_succ (by omega), hx1]; first | done | rfl)), rfl, rfl, rfl, rfl, rfl, rfl, rfl, rfl, rfl, rfl, rfl, rfl, trivial⟩ (.nil)
                                                        )
                                                  )
                                            · skip
                                              first
                                                | (exfalso; first | omega | assumption)
                                                | (
                                                  refine c_cond_f rfl ?_
                                                  refine c_exit ?_
                                                  refine e_exit_then ?_
                                                  refine e_exit_then ?_
                                                  refine e_exit_block ?_
                                                  refine e_next ?_
                                                  refine c_seq ?_
                                                  refine c_seq ?_
                                                  refine c_region ?_
                                                  refine r_val .none rfl (p_move rfl) ?_
                                                  refine r_nil ?_
                                                  refine e_next ?_
                                                  refine c_split (d := 94) rfl (fun h_98 => ?_) (fun h_98 => ?_)
                                                  · skip
                                                    have hh : has (t.length : Nat) (qs.getD j es14).1 = true := by rw [← hasTo_all (i := i) (by omega)]; exact h_98
                                                    first
                                                      | (exfalso; first | omega | assumption)
                                                      | (
                                                        refine c_cond_t rfl ?_
                                                        refine c_exit ?_
                                                        refine e_exit_then ?_
                                                        refine e_exit_block ?_
                                                        refine e_next ?_
                                                        refine c_region ?_
                                                        refine r_val .none rfl (p_add rfl rfl (by omega)) ?_
                                                        refine r_val .none rfl (p_move rfl) ?_
                                                        refine r_nil ?_
                                                        refine e_round ((j + 1, _)) ⟨⟨by dsimp only; omega, hgn2⟩, by dsimp only; omega⟩ rfl ⟨rfl, (congrArg (fun z => some (Value.int .i64 z)) (by first | (rw [cnt_yes2 hql (by omega) hh]; done) | (rw [cnt_no2 hql (by omega) hh]; omega))), rfl, rfl, rfl, rfl, trivial⟩ (.nil)
                                                        )
                                                  · skip
                                                    have hh : has (t.length : Nat) (qs.getD j es14).1 = false := by rw [← hasTo_all (i := i) (by omega)]; exact h_98
                                                    have hA2 := more_at hql hql2 hAB (j := j) (by omega) hh
                                                    first
                                                      | (exfalso; first | omega | assumption)
                                                      | (
                                                        refine c_cond_f rfl ?_
                                                        refine c_skip ?_
                                                        refine e_next ?_
                                                        refine c_seq ?_
                                                        refine c_seq ?_
                                                        refine c_region ?_
                                                        refine r_val .none rfl (p_move rfl) ?_
                                                        refine r_val .none rfl (p_move rfl) ?_
                                                        refine r_val .none rfl (p_leng Try.underlying79 rfl hq2) ?_
                                                        have bd_99 := (hq2).bound
                                                        refine r_val .none rfl (p_ge rfl rfl) ?_
                                                        refine r_val .none rfl (p_move rfl) ?_
                                                        refine r_splitd (d := 99) rfl (fun h_100 => ?_) (fun h_100 => ?_)
                                                        · skip
                                                          first
                                                            | (exfalso; first | omega | assumption)
                                                            | (
                                                              refine r_skip rfl (.no rfl rfl) ?_
                                                              refine r_skip rfl (.no rfl rfl) ?_
                                                              refine r_skip rfl (.no rfl rfl) ?_
                                                              refine r_skip rfl (.no rfl rfl) ?_
                                                              refine r_skip rfl (.no rfl rfl) ?_
                                                              refine r_skip rfl (.no rfl rfl) ?_
                                                              refine r_skip rfl (.no rfl rfl) ?_
                                                              refine r_skip rfl (.no rfl rfl) ?_
                                                              refine r_skip rfl (.no rfl rfl) ?_
                                                              refine r_val .none rfl (p_pick_t rfl rfl) ?_
                                                              refine r_nil ?_
                                                              refine e_next ?_
                                                              refine c_cond_t rfl ?_
                                                              refine c_seq ?_
                                                              refine c_region ?_
                                                              refine r_val .none rfl (p_assign rfl) ?_
                                                              refine r_nil ?_
                                                              refine e_next ?_
                                                              refine c_ret ?_
                                                              refine e_ret_then ?_
                                                              refine e_ret_block ?_
                                                              refine e_ret_then ?_
                                                              refine e_ret_then ?_
                                                              refine e_ret_block ?_
                                                              refine e_ret_then ?_
                                                              refine e_ret1 Try.results7 (.tmp rfl .nil) (fun w hm => ⟨?_, hm.since⟩)
                                                              rfl
                                                              )
                                                        · skip
                                                          first
                                                            | (exfalso; first | omega | assumption)
                                                            | (
                                                              refine r_val (.some rfl rfl) rfl (p_move rfl) ?_
                                                              refine r_bslice (vs := [(0, Value.slice _ _ _)]) (c := #[_]) (.some rfl rfl) rfl Try.underlying79 el22 rfl rfl rfl (bs22_10s3 _ _ _) (IsRow.lit _) (fun b_2 => ?_)
                                                              refine r_freezeB (k := 0) 1 1 rfl rfl (by decide) (fun G_101 hn_102 hs_103 => ?_)
                                                              replace hr := hr.mono hn_102.le
                                                              replace ht := ht.mono hn_102.le
                                                              replace hs := hs.mono hn_102.le
                                                              replace hp := fun p hm0 => (hp p hm0).mono hn_102.le
                                                              replace hR := hR.mono hn_102.le
                                                              replace hF := hF.mono hn_102.le
                                                              replace hS := hS.mono hn_102.le
                                                              replace u_49 := u_49.mono hn_102.le
                                                              replace hs_52 := hs_52.mono hn_102.le
                                                              replace hF2 := hF2.mono hn_102.le
                                                              replace hq := hq.mono hn_102.le
                                                              replace hqp := fun p hm0 => (hqp p hm0).mono hn_102.le
                                                              replace hq2 := hq2.mono hn_102.le
                                                              replace hqp2 := fun p hm0 => (hqp2 p hm0).mono hn_102.le
                                                              replace R_72 := R_72.mono hn_102.le
                                                              replace hq_75 := hq_75.mono hn_102.le
                                                              have h101 : SlL G_101 (Value.slice (some ⟨b_2, 0, none⟩) 1 1) 1 lC (([] : List Int), Value.slice none 0 0) [((qs.getD j es14).1, Value.slice a_76 (qs.getD j es14).1.length c_77)] := SlG.congr hs_103 (fun i hi j hj => by match i, hi with | 0, _ => (match j, hj with | 0, _ => rfl))
                                                              have Lh101 : LI G_101 (Value.slice (some ⟨b_2, 0, none⟩) 1 1) [(qs.getD j es14).1] := Ls.mk _ h101 (by intro p hm0; simp only [List.mem_cons, List.not_mem_nil, or_false] at hm0; subst hm0; exact hq_75)
                                                              refine r_val (.some rfl rfl) rfl (p_move rfl) ?_
                                                              refine r_val (.some rfl rfl) rfl (p_move rfl) ?_
                                                              refine r_iaddr_g (.some rfl rfl) rfl Try.underlying79 sz22 rfl hq2 rfl (by first | exact of_decide_eq_true rfl | omega) (fun p_105 o_106 R_104 => ?_)
                                                              have hq_107 := hqp2 _ (getD_mem (i := (cnt ((gm (fTo t 1 t.length) (stepsOf [] l) ([], [])).map Prod.fst) (t.length : Nat) j)) (d := es14) (by omega))
                                                              refine r_val (.some rfl rfl) rfl (p_ldg0 Try.underlying22 rfl rfl R_104 (by first | exact of_decide_eq_true rfl | omega) rfl) ?_
                                                              obtain ⟨a_108, c_109, e_110⟩ := SlG.len hq_107
                                                              refine r_say (d := 105) (v := Value.slice a_108 (qs2.getD (cnt ((gm (fTo t 1 t.length) (stepsOf [] l) ([], [])).map Prod.fst) (t.length : Nat) j) es14).1.length c_109) (congrArg some e_110) ?_
                                                              rw [e_110] at hq_107
                                                              refine r_bslice (vs := [(0, Value.slice _ _ _)]) (c := #[_]) (.some rfl rfl) rfl Try.underlying79 el22 rfl rfl rfl (bs22_10s3 _ _ _) (IsRow.lit _) (fun b_3 => ?_)
                                                              refine r_freezeB (k := 0) 1 1 rfl rfl (by decide) (fun G_111 hn_112 hs_113 => ?_)
                                                              replace hr := hr.mono hn_112.le
                                                              replace ht := ht.mono hn_112.le
                                                              replace hs := hs.mono hn_112.le
                                                              replace hp := fun p hm0 => (hp p hm0).mono hn_112.le
                                                              replace hR := hR.mono hn_112.le
                                                              replace hF := hF.mono hn_112.le
                                                              replace hS := hS.mono hn_112.le
                                                              replace u_49 := u_49.mono hn_112.le
                                                              replace hs_52 := hs_52.mono hn_112.le
                                                              replace hF2 := hF2.mono hn_112.le
                                                              replace hq := hq.mono hn_112.le
                                                              replace hqp := fun p hm0 => (hqp p hm0).mono hn_112.le
                                                              replace hq2 := hq2.mono hn_112.le
                                                              replace hqp2 := fun p hm0 => (hqp2 p hm0).mono hn_112.le
                                                              replace R_72 := R_72.mono hn_112.le
                                                              replace hq_75 := hq_75.mono hn_112.le
                                                              replace h101 := h101.mono hn_112.le
                                                              replace Lh101 := LI.mono Lh101 hn_112.le
                                                              replace R_104 := R_104.mono hn_112.le
                                                              replace hq_107 := hq_107.mono hn_112.le
                                                              have h106 : SlL G_111 (Value.slice (some ⟨b_3, 0, none⟩) 1 1) 1 lC (([] : List Int), Value.slice none 0 0) [((qs2.getD (cnt ((gm (fTo t 1 t.length) (stepsOf [] l) ([], [])).map Prod.fst) (t.length : Nat) j) es14).1, Value.slice a_108 (qs2.getD (cnt ((gm (fTo t 1 t.length) (stepsOf [] l) ([], [])).map Prod.fst) (t.length : Nat) j) es14).1.length c_109)] := SlG.congr hs_113 (fun i hi j hj => by match i, hi with | 0, _ => (match j, hj with | 0, _ => rfl))
                                                              have Lh106 : LI G_111 (Value.slice (some ⟨b_3, 0, none⟩) 1 1) [(qs2.getD (cnt ((gm (fTo t 1 t.length) (stepsOf [] l) ([], [])).map Prod.fst) (t.length : Nat) j) es14).1] := Ls.mk _ h106 (by intro p hm0; simp only [List.mem_cons, List.not_mem_nil, or_false] at hm0; subst hm0; exact hq_107)
                                                              refine r_call (vs := [_, _]) (.some rfl rfl) rfl cl37 rfl (fun w hw => c_same14_t _ _ [(qs.getD j es14).1] [(qs2.getD (cnt ((gm (fTo t 1 t.length) (stepsOf [] l) ([], [])).map Prod.fst) (t.length : Nat) j) es14).1] (by rw [hA2.2]) Lh101 Lh106 w hw) ?_
                                                              refine r_val (.some rfl rfl) rfl (p_not rfl) ?_
                                                              refine r_say (d := 108) (v := Value.bool false) rfl ?_
                                                              refine r_val .none rfl (p_pick_f rfl rfl) ?_
                                                              refine r_nil ?_
                                                              refine e_next ?_
                                                              refine c_cond_f rfl ?_
                                                              refine c_skip ?_
                                                              refine e_next ?_
                                                              refine c_region ?_
                                                              refine r_val .none rfl (p_move rfl) ?_
                                                              refine r_val .none rfl (p_add rfl rfl (by omega)) ?_
                                                              refine r_val .none rfl (p_assign rfl) ?_
                                                              refine r_nil ?_
                                                              refine e_norm_block ?_
                                                              refine e_next ?_
                                                              refine c_region ?_
                                                              refine r_val .none rfl (p_add rfl rfl (by omega)) ?_
                                                              refine r_val .none rfl (p_move rfl) ?_
                                                              refine r_nil ?_
                                                              refine e_round ((j + 1, _)) ⟨⟨by dsimp only; omega, ((hgn2.trans hn_102).trans hn_112)⟩, by dsimp only; omega⟩ rfl ⟨rfl, (congrArg (fun z => some (Value.int .i64 z)) (by first | (rw [cnt_yes2 hql (by omega) hh]; done) | (rw [cnt_no2 hql (by omega) hh]; omega))), rfl, rfl, rfl, rfl, trivial⟩ (.nil)
                                                              )
                                                        )
                                                  )
                                            )
                                      · skip
                                        first
                                          | (exfalso; first | omega | assumption)
                                          | (
                                            refine c_cond_f rfl ?_
                                            refine c_exit ?_
                                            refine e_exit_then ?_
                                            refine e_exit_then ?_
                                            refine e_exit_block ?_
                                            refine e_next ?_
                                            refine c_seq ?_
                                            refine c_region ?_
                                            refine r_val .none rfl (p_move rfl) ?_
                                            refine r_val .none rfl (p_move rfl) ?_
                                            refine r_val .none rfl (p_leng Try.underlying79 rfl hq2) ?_
                                            have bd_114 := (hq2).bound
                                            have hend : cnt ((gm (fTo t 1 t.length) (stepsOf [] l) ([], [])).map Prod.fst) (t.length : Nat) j = qs2.length := by rw [cnt_end hAB (by rw [hql, List.length_map]; omega), hql2, List.length_map]
                                            refine r_val .none rfl (p_eq rfl rfl) ?_
                                            refine r_val .none rfl (p_move rfl) ?_
                                            refine r_splitd (d := 117) rfl (fun h_115 => ?_) (fun h_115 => ?_)
                                            · skip
                                              first
                                                | (exfalso; first | omega | assumption)
                                                | (
                                                  refine r_call (vs := []) (.some rfl rfl) rfl cl31 rfl (fun w hw => c_awake14 w) ?_
                                                  refine r_val .none rfl (p_pick_t rfl rfl) ?_
                                                  refine r_val .none rfl (p_assign rfl) ?_
                                                  refine r_nil ?_
                                                  refine e_next ?_
                                                  refine c_ret ?_
                                                  refine e_ret1 Try.results7 (.tmp rfl .nil) (fun w hm => ⟨?_, hm.since⟩)
                                                  rfl
                                                  )
                                            · skip
                                              first
                                                | (exfalso; first | omega | assumption)
                                                | (
                                                  refine r_skip rfl (.no rfl rfl) ?_
                                                  refine r_val .none rfl (p_pick_f rfl rfl) ?_
                                                  refine r_val .none rfl (p_assign rfl) ?_
                                                  refine r_nil ?_
                                                  refine e_next ?_
                                                  refine c_ret ?_
                                                  refine e_ret1 Try.results7 (.tmp rfl .nil) (fun w hm => ⟨?_, hm.since⟩)
                                                  rfl
                                                  )
                                            )
                                      )
                                )
                          )
                    )
              )
        )
end Go.Proofs.Ytpadfgomhojjnaa

/- Walks: what Go functions of this chapter come to, each as a function on plain data; no condition but those that each theorem names. Printed by a program of this work (gen.py). -/
namespace Go.Proofs.Ytpadfgomhojjnaa
open Go.Gx Go.Gx.T3 Go.Gx.T4 Go.Gx.T3 Go.ChangeShapes Go.WideShapes Go.ChangeAt Go.RowKit

theorem open_cond_l : leafT Try.prog 10 97 = some [3, 4, 3, 4, 3, 4, 3, 67] := by kernel_rfl
theorem open_cond_n {H : Type} {enc : TypeId × Value → H} {W : World} {base : Nat} {sp : Nat → Bool} {held : Bool} : ∀ (B n : Nat) (cs : List Value) (x : DataW H × List MemPlace), n ≤ B → DataW.trod enc Try.prog W base sp held n 97 cs = some x → ∃ a : CT × Value, cs = cvC a ∧ Cs (GW W) a.2 a.1.subs
  | 0, n, cs, x, hn, h => by
    obtain rfl : n = 0 := by omega
    simp [DataW.trod] at h
  | B + 1, n, cs, x, hn, h => by
    obtain ⟨n', rfl, hl⟩ := leavesB_struct 9 Try.underlying97 open_cond_l h
    obtain ⟨x0, r0, e0, f0, g0⟩ := hl.inv
    obtain ⟨a0, rfl, _⟩ := f0.leaf.int Try.underlying3
    obtain ⟨x1, r1, e1, f1, g1⟩ := g0.inv
    obtain ⟨a1, rfl⟩ := f1.leaf.bool Try.underlying4
    obtain ⟨x2, r2, e2, f2, g2⟩ := g1.inv
    obtain ⟨a2, rfl, _⟩ := f2.leaf.int Try.underlying3
    obtain ⟨x3, r3, e3, f3, g3⟩ := g2.inv
    obtain ⟨a3, rfl⟩ := f3.leaf.bool Try.underlying4
    obtain ⟨x4, r4, e4, f4, g4⟩ := g3.inv
    obtain ⟨a4, rfl, _⟩ := f4.leaf.int Try.underlying3
    obtain ⟨x5, r5, e5, f5, g5⟩ := g4.inv
    obtain ⟨a5, rfl⟩ := f5.leaf.bool Try.underlying4
    obtain ⟨x6, r6, e6, f6, g6⟩ := g5.inv
    obtain ⟨a6, rfl, _⟩ := f6.leaf.int Try.underlying3
    obtain ⟨x7, r7, e7, f7, g7⟩ := g6.inv
    have z := g7.inv0
    obtain ⟨l, h1, h2⟩ := open_slB (cells := cvC) (Qa := fun a => Cs (GW W) a.2 a.1.subs) d0 Try.underlying67 (show Program.cellsOf Try.prog 97 = 8 by kernel_rfl) (by decide) (fun m cs' y hm hy => open_cond_n B m cs' y (by omega) hy) f7
    refine ⟨(CT.mk ⟨a0, a1, a2, a3, a4, a5, a6⟩ (l.map Prod.fst), x7), ?_, Tr.mk l h1 h2⟩
    rw [e0, e1, e2, e3, e4, e5, e6, e7, z]; rfl
set_option maxRecDepth 100000 in
theorem open_cond {H : Type} {enc : TypeId × Value → H} {W : World} {base : Nat} {sp : Nat → Bool} {held : Bool} {r : Reach} {b0 : Nat} {v : Value} {y : DataW H} {ps : List MemPlace} (hv : Value.okWide Try.prog W r b0 97 v) (h : DataW.Trod enc Try.prog W base sp held 97 v y ps) : ∃ (c : CT) (sv : Value), v = Value.agg #[Value.int .i64 c.h.k, Value.bool c.h.v0, Value.int .i64 c.h.n0, Value.bool c.h.v1, Value.int .i64 c.h.n1, Value.bool c.h.v2, Value.int .i64 c.h.n2, sv] ∧ Cs (GW W) sv c.subs := by
  obtain ⟨cs, rfl⟩ := agg_of_wide Try.underlying97 rfl hv
  obtain ⟨fuel, hf⟩ := h
  obtain ⟨a, e, hs⟩ := open_cond_n fuel fuel cs.toList _ (Nat.le_refl _) hf
  refine ⟨a.1, a.2, ?_, hs⟩
  have : cs = (cvC a).toArray := by apply Array.ext'; simpa using e
  rw [this]; rfl
set_option maxRecDepth 100000 in
theorem open_conds {H : Type} {enc : TypeId × Value → H} {W : World} {base : Nat} {sp : Nat → Bool} {held : Bool} {r : Reach} {b0 : Nat} {v : Value} {y : DataW H} {ps : List MemPlace} (hv : Value.okWide Try.prog W r b0 67 v) (h : DataW.Trod enc Try.prog W base sp held 67 v y ps) : ∃ l : List CT, Cs (GW W) v l := by
  obtain ⟨a, n, c, rfl⟩ := okWide_slice Try.underlying67 hv
  obtain ⟨fuel, hf⟩ := h
  obtain ⟨l, h1, h2⟩ := open_slB (B := fuel) (cells := cvC) (Qa := fun a => Cs (GW W) a.2 a.1.subs) d0 Try.underlying67 (show Program.cellsOf Try.prog 97 = 8 by kernel_rfl) (by decide) (fun m cs' y hm hy => open_cond_n fuel m cs' y (by omega) hy) ⟨fuel, _, Nat.le_refl _, hf⟩
  exact ⟨l.map Prod.fst, Tr.mk l h1 h2⟩
end Go.Proofs.Ytpadfgomhojjnaa
