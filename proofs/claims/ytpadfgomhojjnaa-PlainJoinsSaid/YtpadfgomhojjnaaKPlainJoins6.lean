/- Texts of this work, laid together: a logic of steps, plain laws, and walks of Go functions, each without a condition but those that its theorems name. -/
import Derived.Test.YtpadfgomhojjnaaKPlainJoins5
import Derived.Test.YtpadfgomhojjnaaRows
/- Walks: what Go functions of this chapter come to, each as a function on plain data; no condition but those that each theorem names. Printed by a program of this work (gen.py). -/
namespace Go.Proofs.Ytpadfgomhojjnaa
open Go.Gx Go.Gx.T13 Go.Gx.T8 Go.Gx.T4 Go.Gx.T3 Go.Gx.T14 Go.Gx.T13 Go.Gx.T8 Go.Gx.T6 Go.Gx.T4 Go.Gx.T3 Go.Gx.T3 Go.Gx.T4 Go.Gx.T3 Go.Gx.T5 Go.Gx.T1 Go.Gx.T8 Go.Gx.T6 Go.Gx.T4 Go.Gx.T3 Go.Gx.T6 Go.Gx.T8 Go.Gx.T4 Go.Gx.T3 Go.Gx.T8 Go.Gx.T4 Go.Gx.T3 Go.Gx.T8 Go.Gx.T6 Go.Gx.T4 Go.Gx.T3
theorem cl30 : Callable Try.prog 30 := callable Try.func30 (by kernel_rfl) rfl
theorem cl53 : Callable Try.prog 53 := callable Try.func53 (by kernel_rfl) rfl
theorem c_fine14 (nm : ByteArray) (cv : Value) (l : List CT) (f : Nat) {G : Ghost} (hs : Cs G cv l) (w : World) (hG : Has G w) :
    Calls Try.prog 30 #[Value.agg #[Value.string nm, cv], Value.int .i64 (f : Nat)] w (Ret fun r w' => r = Value.bool (fine14 nm l f) ∧ Since nX w w') := by
  refine enter (args := [_, _]) (X := nX) (G := G) (l := [(0, Value.agg #[Value.string nm, cv]), (1, Value.int .i64 (f : Nat))]) Try.func30 rfl Try.ntmps30 hG ⟨rfl, rfl, trivial⟩ (Nat.le_of_ble_eq_true rfl) ?_
  refine c_seq ?_
  refine c_region ?_
  refine r_box .none rfl rfl (IsRow.lit _) (fun b_1 => ?_)
  refine r_val .none rfl (p_assign rfl) ?_
  refine r_nil ?_
  refine e_next ?_
  refine c_seq ?_
  refine c_region ?_
  refine r_val .none rfl (p_ldw (k := 0) Try.underlying69 rfl sz69 rfl rfl (rfl : _ = Value.agg #[_, _])) ?_
  refine r_call (vs := [_]) .none rfl cl53 rfl (fun w hw => c_fine5 nm _ l hs w hw) ?_
  refine r_val .none rfl (p_move rfl) ?_
  refine r_split (d := 7) rfl (fun h_1 => ?_) (fun h_1 => ?_)
  · skip
    have hR := h_1
    have hsz : sizeL l ≤ 1000 := by have := (T5.fine_yes hR).1; omega
    first
      | (exfalso; omega)
      | (
        refine r_val (.some rfl rfl) rfl (p_move rfl) ?_
        refine r_val (.some rfl rfl) rfl (p_le rfl rfl) ?_
        refine r_val .none rfl (p_pick_t rfl rfl) ?_
        refine r_val .none rfl (p_move rfl) ?_
        refine r_splitd (d := 11) rfl (fun h_2 => ?_) (fun h_2 => ?_)
        · skip
          first
            | (exfalso; omega)
            | (
              refine r_val (.some rfl rfl) rfl (p_move rfl) ?_
              refine r_val (.some rfl rfl) rfl (p_ldw (k := 0) Try.underlying69 rfl sz69 rfl rfl (rfl : _ = Value.agg #[_, _])) ?_
              refine r_callm (vs := [_]) (.some rfl rfl) rfl cl33 rfl (fun w hw => c_ref5 nm _ l hsz hs w hw) (fun G_3 v_6 hn_4 hr_5 => ?_)
              replace hs := hs.mono hn_4.le
              obtain ⟨u_7, rfl, u_7s⟩ := hr_5
              obtain ⟨u_7a, u_7c, rfl⟩ := Tr.len u_7s
              refine r_val (.some rfl rfl) rfl (p_field1 Try.underlying77 rfl Try.underlying75 rfl sz75 rfl (IsRow.lit _) rfl (by first | exact of_decide_eq_true rfl | omega) (rfl : _ = Value.slice _ _ _)) ?_
              refine r_call (vs := [_, _, _]) (.some rfl rfl) rfl cl41 rfl (fun w hw => c_cost f _ l (by omega) hsz u_7s w hw) ?_
              refine r_val .none rfl (p_pick_t rfl rfl) ?_
              refine r_val .none rfl (p_assign rfl) ?_
              refine r_nil ?_
              refine e_next ?_
              refine c_ret ?_
              refine e_ret1 Try.results30 (.tmp rfl .nil) (fun w hm => ⟨?_, hm.since⟩)
              first
              | exact congrArg Value.bool (by unfold fine14; rw [hR, Bool.false_and])
              | exact congrArg Value.bool (by unfold fine14; rw [hR, decide_eq_false (by omega), Bool.true_and, Bool.false_and])
              | exact congrArg Value.bool (by unfold fine14; rw [hR, decide_eq_true (by omega), Bool.true_and, Bool.true_and])
              )
        · skip
          first
            | (exfalso; omega)
            | (
              refine r_skip rfl (.no rfl rfl) ?_
              refine r_skip rfl (.no rfl rfl) ?_
              refine r_skip rfl (.no rfl rfl) ?_
              refine r_skip rfl (.no rfl rfl) ?_
              refine r_skip rfl (.no rfl rfl) ?_
              refine r_val .none rfl (p_pick_f rfl rfl) ?_
              refine r_val .none rfl (p_assign rfl) ?_
              refine r_nil ?_
              refine e_next ?_
              refine c_ret ?_
              refine e_ret1 Try.results30 (.tmp rfl .nil) (fun w hm => ⟨?_, hm.since⟩)
              first
              | exact congrArg Value.bool (by unfold fine14; rw [hR, Bool.false_and])
              | exact congrArg Value.bool (by unfold fine14; rw [hR, decide_eq_false (by omega), Bool.true_and, Bool.false_and])
              | exact congrArg Value.bool (by unfold fine14; rw [hR, decide_eq_true (by omega), Bool.true_and, Bool.true_and])
              )
        )
  · skip
    have hR := h_1
    first
      | (exfalso; omega)
      | (
        refine r_skip rfl (.no rfl rfl) ?_
        refine r_skip rfl (.no rfl rfl) ?_
        refine r_val .none rfl (p_pick_f rfl rfl) ?_
        refine r_val .none rfl (p_move rfl) ?_
        refine r_skip rfl (.no rfl rfl) ?_
        refine r_skip rfl (.no rfl rfl) ?_
        refine r_skip rfl (.no rfl rfl) ?_
        refine r_skip rfl (.no rfl rfl) ?_
        refine r_skip rfl (.no rfl rfl) ?_
        refine r_val .none rfl (p_pick_f rfl rfl) ?_
        refine r_val .none rfl (p_assign rfl) ?_
        refine r_nil ?_
        refine e_next ?_
        refine c_ret ?_
        refine e_ret1 Try.results30 (.tmp rfl .nil) (fun w hm => ⟨?_, hm.since⟩)
        first
        | exact congrArg Value.bool (by unfold fine14; rw [hR, Bool.false_and])
        | exact congrArg Value.bool (by unfold fine14; rw [hR, decide_eq_false (by omega), Bool.true_and, Bool.false_and])
        | exact congrArg Value.bool (by unfold fine14; rw [hR, decide_eq_true (by omega), Bool.true_and, Bool.true_and])
        )
theorem c_PlainJoins (nm : ByteArray) (cv : Value) (l : List CT) (vt : Value) (t : List Tri) {G : Ghost} (hs : Cs G cv l) (ht : SlL G vt 3 triL z3 t) (w : World) (hG : Has G w) :
    Calls Try.prog 8 #[Value.agg #[Value.string nm, cv], vt] w (Ret fun r w' => r = Value.bool true ∧ Since nX w w') := by
  refine enter (args := [_, _]) (X := nX) (G := G) (l := [(0, Value.agg #[Value.string nm, cv]), (1, vt)]) Try.func8 rfl Try.ntmps8 hG ⟨rfl, rfl, trivial⟩ (Nat.le_of_ble_eq_true rfl) ?_
  refine c_seq ?_
  refine c_region ?_
  refine r_box .none rfl rfl (IsRow.lit _) (fun b_1 => ?_)
  refine r_val .none rfl (p_assign rfl) ?_
  refine r_nil ?_
  refine e_next ?_
  refine c_seq ?_
  refine c_seq ?_
  refine c_region ?_
  refine r_val .none rfl (p_ldw (k := 0) Try.underlying69 rfl sz69 rfl rfl (rfl : _ = Value.agg #[_, _])) ?_
  refine r_val .none rfl (p_move rfl) ?_
  refine r_val .none rfl (p_leng Try.underlying70 rfl ht) ?_
  have bd_1 := (ht).bound
  refine r_call (vs := [_, _]) .none rfl cl30 rfl (fun w hw => c_fine14 nm _ l t.length hs w hw) ?_
  refine r_val .none rfl (p_not rfl) ?_
  refine r_nil ?_
  refine e_next ?_
  refine c_splitn (d := 19) rfl (fun h_2 => ?_) (fun h_2 => ?_)
  · skip
    first
      | (exfalso; first | omega | assumption)
      | (
        refine c_cond_t rfl ?_
        refine c_seq ?_
        refine c_region ?_
        refine r_call (vs := []) .none rfl cl31 rfl (fun w hw => c_awake14 w) ?_
        refine r_val .none rfl (p_assign rfl) ?_
        refine r_nil ?_
        refine e_next ?_
        refine c_ret ?_
        refine e_ret_then ?_
        refine e_ret1 Try.results8 (.tmp rfl .nil) (fun w hm => ⟨?_, hm.since⟩)
        rfl
        )
  · skip
    have hfy := fine14_yes (h_2)
    have hsz : sizeL l ≤ 1000 := by omega
    have hcost := hfy.2.2.1
    have hss : sszL (stepsOf [] l) ≤ 1000 := Nat.le_trans (sszL_of l []) (by omega)
    have hoks : okSL (stepsOf [] l) := okSL_of l [] (by simp; omega)
    first
      | (exfalso; first | omega | assumption)
      | (
        refine c_cond_f rfl ?_
        refine c_skip ?_
        refine e_next ?_
        refine c_seq ?_
        refine c_region ?_
        refine r_val .none rfl (p_move rfl) ?_
        refine r_callm (vs := [_, _]) .none rfl cl32 rfl (fun w hw => c_facts _ t 1 (by omega) (by decide) ht w hw) (fun G_3 v_6 hn_4 hr_5 => ?_)
        replace ht := ht.mono hn_4.le
        replace hs := hs.mono hn_4.le
        obtain ⟨fv, rfl, hF⟩ := hr_5
        refine r_val .none rfl (p_move rfl) ?_
        refine r_val .none rfl (p_extract rfl rfl) ?_
        refine r_val .none rfl (p_extract rfl rfl) ?_
        refine r_val .none rfl (p_assign rfl) ?_
        refine r_val .none rfl (p_assign rfl) ?_
        refine r_nil ?_
        refine e_next ?_
        refine c_seq ?_
        refine c_seq ?_
        refine c_region ?_
        refine r_val .none rfl (p_move rfl) ?_
        refine r_val .none rfl (p_not rfl) ?_
        refine r_nil ?_
        refine e_next ?_
        refine c_splitn (d := 27) rfl (fun h_8 => ?_) (fun h_8 => ?_)
        · skip
          first
            | (exfalso; first | omega | assumption)
            | (
              refine c_cond_t rfl ?_
              refine c_seq ?_
              refine c_region ?_
              refine r_call (vs := []) .none rfl cl31 rfl (fun w hw => c_awake14 w) ?_
              refine r_val .none rfl (p_assign rfl) ?_
              refine r_nil ?_
              refine e_next ?_
              refine c_ret ?_
              refine e_ret_then ?_
              refine e_ret1 Try.results8 (.tmp rfl .nil) (fun w hm => ⟨?_, hm.since⟩)
              rfl
              )
        · skip
          have hall : allOk t = true := h_8
          rw [fcts_yes hall] at hF
          have hfl := fTo_len t 1 t.length
          first
            | (exfalso; first | omega | assumption)
            | (
              refine c_cond_f rfl ?_
              refine c_skip ?_
              refine e_next ?_
              refine c_seq ?_
              refine c_region ?_
              refine r_val .none rfl (p_ldw (k := 0) Try.underlying69 rfl sz69 rfl rfl (rfl : _ = Value.agg #[_, _])) ?_
              refine r_callm (vs := [_]) .none rfl cl33 rfl (fun w hw => c_ref5 nm _ l hsz hs w hw) (fun G_9 v_12 hn_10 hr_11 => ?_)
              replace ht := ht.mono hn_10.le
              replace hs := hs.mono hn_10.le
              replace hF := hF.mono hn_10.le
              obtain ⟨u_13, rfl, u_13s⟩ := hr_11
              obtain ⟨u_13a, u_13c, rfl⟩ := Tr.len u_13s
              refine r_val .none rfl (p_field1 Try.underlying77 rfl Try.underlying75 rfl sz75 rfl (IsRow.lit _) rfl (by first | exact of_decide_eq_true rfl | omega) (rfl : _ = Value.slice _ _ _)) ?_
              refine r_callm (vs := [_]) .none rfl cl36 rfl (fun w hw => c_compile _ l hsz u_13s w hw) (fun G_14 v_17 hn_15 hr_16 => ?_)
              replace ht := ht.mono hn_15.le
              replace hs := hs.mono hn_15.le
              replace hF := hF.mono hn_15.le
              replace u_13s := u_13s.mono hn_15.le
              have u_18 := hr_16
              refine r_callm (vs := [_]) .none rfl cl35 rfl (fun w hw => c_steps _ _ (by omega) u_18 w hw) (fun G_19 v_22 hn_20 hr_21 => ?_)
              replace ht := ht.mono hn_20.le
              replace hs := hs.mono hn_20.le
              replace hF := hF.mono hn_20.le
              replace u_13s := u_13s.mono hn_20.le
              replace u_18 := u_18.mono hn_20.le
              obtain ⟨qS, hS, hSt, hSs, hSl⟩ := hr_21.inv
              refine r_val .none rfl (p_assign rfl) ?_
              refine r_nil ?_
              refine e_next ?_
              refine c_seq ?_
              refine c_region ?_
              refine r_val .none rfl (p_move rfl) ?_
              refine r_callm (vs := [_, _]) .none rfl cl34 rfl (fun w hw => c_partial _ _ (fTo t 1 t.length) [] ⟨by rw [fTo_len]; omega, by rw [sszL]; omega⟩ (by rw [okSL]; trivial) (by rw [gm]; decide) hF Ss.nil w hw) (fun G_24 v_27 hn_25 hr_26 => ?_)
              replace ht := ht.mono hn_25.le
              replace hs := hs.mono hn_25.le
              replace hF := hF.mono hn_25.le
              replace u_13s := u_13s.mono hn_25.le
              replace u_18 := u_18.mono hn_25.le
              replace hS := hS.mono hn_25.le
              replace hSt := fun p hm0 => (hSt p hm0).mono hn_25.le
              replace hSs := fun p hm0 => (hSs p hm0).mono hn_25.le
              have hLI := hr_26
              obtain ⟨qs0, hq0, hqp0, hql0⟩ := hr_26
              have hq1 := was_one hql0
              refine r_val .none rfl (p_assign rfl) ?_
              refine r_nil ?_
              refine e_next ?_
              refine c_seq ?_
              refine c_seq ?_
              refine c_region ?_
              refine r_val .none rfl (p_move rfl) ?_
              refine r_val .none rfl (p_leng Try.underlying79 rfl hq0) ?_
              have bd_29 := (hq0).bound
              refine r_val .none rfl (p_ne rfl rfl) ?_
              refine r_val .none rfl (p_move rfl) ?_
              refine r_splitd (d := 39) rfl (fun h_30 => ?_) (fun h_30 => ?_)
              · skip
                first
                  | (exfalso; first | omega | assumption)
                  | (
                    refine r_skip rfl (.no rfl rfl) ?_
                    refine r_skip rfl (.no rfl rfl) ?_
                    refine r_skip rfl (.no rfl rfl) ?_
                    refine r_skip rfl (.no rfl rfl) ?_
                    refine r_skip rfl (.no rfl rfl) ?_
                    refine r_val .none rfl (p_pick_t rfl rfl) ?_
                    refine r_nil ?_
                    refine e_next ?_
                    refine c_cond_t rfl ?_
                    refine c_seq ?_
                    refine c_region ?_
                    refine r_val .none rfl (p_assign rfl) ?_
                    refine r_nil ?_
                    refine e_next ?_
                    refine c_ret ?_
                    refine e_ret_then ?_
                    refine e_ret1 Try.results8 (.tmp rfl .nil) (fun w hm => ⟨?_, hm.since⟩)
                    rfl
                    )
              · skip
                first
                  | (exfalso; first | omega | assumption)
                  | (
                    refine r_val (.some rfl rfl) rfl (p_move rfl) ?_
                    refine r_iaddr_g (i := 0) (.some rfl rfl) rfl Try.underlying79 sz22 rfl hq0 rfl (by first | exact of_decide_eq_true rfl | omega) (fun p_32 o_33 R_31 => ?_)
                    have hq_34 := hqp0 _ (getD_mem (i := 0) (d := es14) (by omega))
                    refine r_val (.some rfl rfl) rfl (p_ldg0 Try.underlying22 rfl rfl R_31 (by first | exact of_decide_eq_true rfl | omega) rfl) ?_
                    refine r_val (.some rfl rfl) rfl (p_leng Try.underlying22 rfl hq_34) ?_
                    have bd_35 := (hq_34).bound
                    refine r_val (.some rfl rfl) rfl (p_ne rfl rfl) ?_
                    refine r_val .none rfl (p_pick_f rfl rfl) ?_
                    refine r_nil ?_
                    refine e_next ?_
                    refine c_splitd (d := 45) rfl (fun h_36 => ?_) (fun h_36 => ?_)
                    · skip
                      first
                        | (exfalso; first | omega | assumption)
                        | (
                          refine c_cond_t rfl ?_
                          refine c_seq ?_
                          refine c_region ?_
                          refine r_val .none rfl (p_assign rfl) ?_
                          refine r_nil ?_
                          refine e_next ?_
                          refine c_ret ?_
                          refine e_ret_then ?_
                          refine e_ret1 Try.results8 (.tmp rfl .nil) (fun w hm => ⟨?_, hm.since⟩)
                          rfl
                          )
                    · skip
                      first
                        | (exfalso; first | omega | assumption)
                        | (
                          refine c_cond_f rfl ?_
                          refine c_skip ?_
                          refine e_next ?_
                          refine c_seq ?_
                          refine c_seq ?_
                          refine c_region ?_
                          refine r_val .none rfl (p_move rfl) ?_
                          refine r_val .none rfl (p_leng Try.underlying81 rfl hS) ?_
                          have bd_37 := (hS).bound
                          refine r_val .none rfl (p_move rfl) ?_
                          refine r_nil ?_
                          refine e_next ?_
                          refine c_block ?_
                          refine c_name (d := 5) rfl (fun u_38 hu_38 => ?_)
                          refine c_name (d := 7) rfl (fun u_39 hu_39 => ?_)
                          refine c_name (d := 47) rfl (fun u_40 hu_40 => ?_)
                          refine c_nameL (k := 0) rfl (fun A_41 hA_41 => ?_)
                          refine c_loop (σ := Nat × Value × Ghost) (fun s => [(48, Value.int .i64 (s.1 : Nat)), (8, s.2.1), (5, u_38), (7, u_39), (47, u_40)]) (fun s => [A_41]) (fun s => s.2.2) (fun s => s.1 ≤ qS.length ∧ LI s.2.2 s.2.1 ((gm (fTo t 1 t.length) ((stepsOf [] l).take s.1) ([], [])).map Prod.fst) ∧ GNew w nX G_24 s.2.2) (fun s => qS.length - s.1) ((0, _, _)) ⟨Nat.zero_le _, by rw [List.take_zero]; exact hLI, GNew.refl _ _ _⟩ rfl ⟨rfl, rfl, rfl, rfl, rfl, trivial⟩ (.keep (fun _ _ h => h) (.nil)) (fun s hphi => ?_)
                          subst hu_38
                          subst hu_39
                          subst hu_40
                          subst hA_41
                          obtain ⟨i, wv, H⟩ := s
                          obtain ⟨hi, hLI1, hgn⟩ := hphi
                          dsimp only at hi hLI1 hgn ⊢
                          obtain ⟨qs, hq, hqp, hql⟩ := hLI1
                          replace ht := ht.mono hgn.le
                          replace hs := hs.mono hgn.le
                          replace hF := hF.mono hgn.le
                          replace u_13s := u_13s.mono hgn.le
                          replace u_18 := u_18.mono hgn.le
                          replace hS := hS.mono hgn.le
                          replace hSt := fun p hm0 => (hSt p hm0).mono hgn.le
                          replace hSs := fun p hm0 => (hSs p hm0).mono hgn.le
                          replace hLI := LI.mono hLI hgn.le
                          replace hq0 := hq0.mono hgn.le
                          replace hqp0 := fun p hm0 => (hqp0 p hm0).mono hgn.le
                          replace R_31 := R_31.mono hgn.le
                          replace hq_34 := hq_34.mono hgn.le
                          refine c_seq ?_
                          refine c_region ?_
                          refine r_val .none rfl (p_lt rfl rfl) ?_
                          refine r_nil ?_
                          refine e_next ?_
                          refine c_seq ?_
                          refine c_splitd (d := 49) rfl (fun h_42 => ?_) (fun h_42 => ?_)
                          · skip
                            first
                              | (exfalso; first | omega | assumption)
                              | (
                                refine c_cond_t rfl ?_
                                refine c_skip ?_
                                refine e_next ?_
                                refine c_seq ?_
                                refine c_block ?_
                                refine c_seq ?_
                                refine c_region ?_
                                refine r_val .none rfl (p_move rfl) ?_
                                refine r_val .none rfl (p_assign rfl) ?_
                                refine r_nil ?_
                                refine e_next ?_
                                refine c_seq ?_
                                refine c_region ?_
                                refine r_val .none rfl (p_move rfl) ?_
                                refine r_val .none rfl (p_move rfl) ?_
                                refine r_val .none rfl (p_move rfl) ?_
                                refine r_val .none rfl (p_add rfl rfl (by omega)) ?_
                                refine r_say (d := 54) (v := Value.int .i64 ((i + 1 : Nat) : Int)) (congrArg (fun x => some (Value.int .i64 x)) (by omega)) ?_
                                refine r_slice0 ((i + 1)) .none rfl Try.underlying81 sz109 rfl hS rfl (by first | exact of_decide_eq_true rfl | omega) (fun v_43 hs_44 => ?_)
                                have hT := ss_take (by omega) hs_44 hSt hSs
                                rw [← hSl] at hT
                                refine r_callm (vs := [_, _]) .none rfl cl34 rfl (fun w hw => c_partial _ _ (fTo t 1 t.length) ((stepsOf [] l).take (i + 1)) ⟨by rw [fTo_len]; omega, Nat.le_trans (sszL_take_le _ _) hss⟩ (okSL_take _ hoks) (Nat.le_trans (gm_small hcost (by rw [fTo_len]; omega) _) (by decide)) hF hT w hw) (fun G_46 v_49 hn_47 hr_48 => ?_)
                                replace ht := ht.mono hn_47.le
                                replace hs := hs.mono hn_47.le
                                replace hF := hF.mono hn_47.le
                                replace u_13s := u_13s.mono hn_47.le
                                replace u_18 := u_18.mono hn_47.le
                                replace hS := hS.mono hn_47.le
                                replace hSt := fun p hm0 => (hSt p hm0).mono hn_47.le
                                replace hSs := fun p hm0 => (hSs p hm0).mono hn_47.le
                                replace hLI := LI.mono hLI hn_47.le
                                replace hq0 := hq0.mono hn_47.le
                                replace hqp0 := fun p hm0 => (hqp0 p hm0).mono hn_47.le
                                replace R_31 := R_31.mono hn_47.le
                                replace hq_34 := hq_34.mono hn_47.le
                                replace hq := hq.mono hn_47.le
                                replace hqp := fun p hm0 => (hqp p hm0).mono hn_47.le
                                replace hs_44 := hs_44.mono hn_47.le
                                replace hT := hT.mono hn_47.le
                                have hLI2 := hr_48
                                obtain ⟨qs2, hq2, hqp2, hql2⟩ := hr_48
                                have hE0 := emb_step2 (fs := (fTo t 1 t.length)) (m := ([], [])) hSl (i := i) (by omega)
                                refine r_val .none rfl (p_assign rfl) ?_
                                refine r_nil ?_
                                refine e_next ?_
                                refine c_seq ?_
                                refine c_region ?_
                                refine r_val .none rfl (p_assign rfl) ?_
                                refine r_nil ?_
                                refine e_next ?_
                                refine c_seq ?_
                                refine c_seq ?_
                                refine c_region ?_
                                refine r_val .none rfl (p_move rfl) ?_
                                refine r_val .none rfl (p_leng Try.underlying79 rfl hq2) ?_
                                have bd_51 := (hq2).bound
                                refine r_val .none rfl (p_move rfl) ?_
                                refine r_nil ?_
                                refine e_next ?_
                                refine c_block ?_
                                refine c_name (d := 5) rfl (fun u_52 hu_52 => ?_)
                                refine c_name (d := 7) rfl (fun u_53 hu_53 => ?_)
                                refine c_name (d := 8) rfl (fun u_54 hu_54 => ?_)
                                refine c_name (d := 9) rfl (fun u_55 hu_55 => ?_)
                                refine c_name (d := 10) rfl (fun u_56 hu_56 => ?_)
                                refine c_name (d := 47) rfl (fun u_57 hu_57 => ?_)
                                refine c_name (d := 48) rfl (fun u_58 hu_58 => ?_)
                                refine c_name (d := 49) rfl (fun u_59 hu_59 => ?_)
                                refine c_name (d := 50) rfl (fun u_60 hu_60 => ?_)
                                refine c_name (d := 51) rfl (fun u_61 hu_61 => ?_)
                                refine c_name (d := 52) rfl (fun u_62 hu_62 => ?_)
                                refine c_name (d := 53) rfl (fun u_63 hu_63 => ?_)
                                refine c_name (d := 54) rfl (fun u_64 hu_64 => ?_)
                                refine c_name (d := 55) rfl (fun u_65 hu_65 => ?_)
                                refine c_name (d := 56) rfl (fun u_66 hu_66 => ?_)
                                refine c_name (d := 57) rfl (fun u_67 hu_67 => ?_)
                                refine c_name (d := 58) rfl (fun u_68 hu_68 => ?_)
                                refine c_nameL (k := 0) rfl (fun A_69 hA_69 => ?_)
                                refine c_loop (σ := Nat × Nat × Ghost) (fun s => [(59, Value.int .i64 (s.1 : Nat)), (11, Value.int .i64 (s.2.1 : Nat)), (5, u_52), (7, u_53), (8, u_54), (9, u_55), (10, u_56), (47, u_57), (48, u_58), (49, u_59), (50, u_60), (51, u_61), (52, u_62), (53, u_63), (54, u_64), (55, u_65), (56, u_66), (57, u_67), (58, u_68)]) (fun s => [A_69]) (fun s => s.2.2) (fun s => s.1 ≤ qs2.length ∧ Emb (decide ((qS.getD i s0).1.h.k = 1)) ((gm (fTo t 1 t.length) ((stepsOf [] l).take i) ([], [])).map Prod.fst) s.2.1 (((gm (fTo t 1 t.length) ((stepsOf [] l).take (i + 1)) ([], [])).map Prod.fst).drop s.1) ∧ GNew w nX G_46 s.2.2) (fun s => qs2.length - s.1) ((0, 0, _)) ⟨Nat.zero_le _, by rw [List.drop_zero]; exact hE0, GNew.refl _ _ _⟩ rfl ⟨rfl, rfl, rfl, rfl, rfl, rfl, rfl, rfl, rfl, rfl, rfl, rfl, rfl, rfl, rfl, rfl, rfl, rfl, rfl, trivial⟩ (.keep (fun _ _ h => h) (.nil)) (fun s hphi => ?_)
                                subst hu_52
                                subst hu_53
                                subst hu_54
                                subst hu_55
                                subst hu_56
                                subst hu_57
                                subst hu_58
                                subst hu_59
                                subst hu_60
                                subst hu_61
                                subst hu_62
                                subst hu_63
                                subst hu_64
                                subst hu_65
                                subst hu_66
                                subst hu_67
                                subst hu_68
                                subst hA_69
                                obtain ⟨j, kk, H2⟩ := s
                                obtain ⟨hj, hE9, hgn2⟩ := hphi
                                dsimp only at hj hE9 hgn2 ⊢
                                replace ht := ht.mono hgn2.le
                                replace hs := hs.mono hgn2.le
                                replace hF := hF.mono hgn2.le
                                replace u_13s := u_13s.mono hgn2.le
                                replace u_18 := u_18.mono hgn2.le
                                replace hS := hS.mono hgn2.le
                                replace hSt := fun p hm0 => (hSt p hm0).mono hgn2.le
                                replace hSs := fun p hm0 => (hSs p hm0).mono hgn2.le
                                replace hLI := LI.mono hLI hgn2.le
                                replace hq0 := hq0.mono hgn2.le
                                replace hqp0 := fun p hm0 => (hqp0 p hm0).mono hgn2.le
                                replace R_31 := R_31.mono hgn2.le
                                replace hq_34 := hq_34.mono hgn2.le
                                replace hq := hq.mono hgn2.le
                                replace hqp := fun p hm0 => (hqp p hm0).mono hgn2.le
                                replace hs_44 := hs_44.mono hgn2.le
                                replace hT := hT.mono hgn2.le
                                replace hLI2 := LI.mono hLI2 hgn2.le
                                replace hq2 := hq2.mono hgn2.le
                                replace hqp2 := fun p hm0 => (hqp2 p hm0).mono hgn2.le
                                refine c_seq ?_
                                refine c_region ?_
                                refine r_val .none rfl (p_lt rfl rfl) ?_
                                refine r_nil ?_
                                refine e_next ?_
                                refine c_seq ?_
                                refine c_splitd (d := 60) rfl (fun h_70 => ?_) (fun h_70 => ?_)
                                · skip
                                  first
                                    | (exfalso; first | omega | assumption)
                                    | (
                                      refine c_cond_t rfl ?_
                                      refine c_skip ?_
                                      refine e_next ?_
                                      refine c_seq ?_
                                      refine c_block ?_
                                      refine c_seq ?_
                                      refine c_region ?_
                                      refine r_iaddr_g .none rfl Try.underlying79 sz22 rfl hq2 rfl (by first | exact of_decide_eq_true rfl | omega) (fun p_72 o_73 R_71 => ?_)
                                      have hq_74 := hqp2 _ (getD_mem (i := j) (d := es14) (by omega))
                                      refine r_val .none rfl (p_ldg0 Try.underlying22 rfl rfl R_71 (by first | exact of_decide_eq_true rfl | omega) rfl) ?_
                                      obtain ⟨a_75, c_76, e_77⟩ := SlG.len hq_74
                                      refine r_say (d := 62) (v := Value.slice a_75 (qs2.getD j es14).1.length c_76) (congrArg some e_77) ?_
                                      rw [e_77] at hq_74
                                      obtain ⟨a, ha1, ha2, ha3, ha4, ha5⟩ := emb_at hql hql2 (by omega) hE9
                                      refine r_val .none rfl (p_assign rfl) ?_
                                      refine r_nil ?_
                                      refine e_next ?_
                                      refine c_seq ?_
                                      refine c_region ?_
                                      refine r_val .none rfl (p_move rfl) ?_
                                      refine r_val .none rfl (p_leng Try.underlying22 rfl hq_74) ?_
                                      have bd_78 := (hq_74).bound
                                      refine r_val .none rfl (p_assign rfl) ?_
                                      refine r_nil ?_
                                      refine e_next ?_
                                      refine c_seq ?_
                                      refine c_seq ?_
                                      refine c_region ?_
                                      refine r_val .none rfl (p_move rfl) ?_
                                      refine r_val .none rfl (p_move rfl) ?_
                                      refine r_iaddr_g .none rfl Try.underlying81 sz109 rfl hS rfl (by first | exact of_decide_eq_true rfl | omega) (fun p_80 o_81 R_79 => ?_)
                                      refine r_val .none rfl (p_field Try.underlying109 rfl sz3 rfl) ?_
                                      refine r_val .none rfl (p_ldg (j := 0) Try.underlying3 rfl rfl R_79 (by first | exact of_decide_eq_true rfl | omega) (rfl : _ = Value.int _ _)) ?_
                                      refine r_val .none rfl (p_eq rfl rfl) ?_
                                      refine r_nil ?_
                                      refine e_next ?_
                                      refine c_splitd (d := 70) rfl (fun h_82 => ?_) (fun h_82 => ?_)
                                      · skip
                                        have hkd := h_82
                                        first
                                          | (exfalso; first | omega | assumption)
                                          | (
                                            refine c_cond_t rfl ?_
                                            refine c_region ?_
                                            refine r_val .none rfl (p_move rfl) ?_
                                            refine r_val .none rfl (p_sub rfl rfl (by omega)) ?_
                                            refine r_val .none rfl (p_assign rfl) ?_
                                            refine r_nil ?_
                                            refine e_next ?_
                                            refine c_seq ?_
                                            refine c_seq ?_
                                            refine c_region ?_
                                            refine r_val .none rfl (p_move rfl) ?_
                                            obtain ⟨n, hn⟩ : ∃ n : Nat, n + 1 = (qs2.getD j es14).1.length := ⟨(qs2.getD j es14).1.length - 1, by have := ha4 (decide_eq_true hkd); omega⟩
                                            have hst : (qs2.getD j es14).1.take n = stp (decide ((qS.getD i s0).1.h.k = 1)) (qs2.getD j es14).1 := stp_take (fun _ => hn) (fun h => absurd hkd (of_decide_eq_false h))
                                            refine r_say (d := 14) (v := Value.int .i64 ((n : Nat) : Int)) (congrArg (fun x => some (Value.int .i64 x)) (by omega)) ?_
                                            refine r_say (d := 73) (v := Value.int .i64 ((n : Nat) : Int)) (congrArg (fun x => some (Value.int .i64 x)) (by omega)) ?_
                                            refine r_val .none rfl (p_lt rfl rfl) ?_
                                            refine r_nil ?_
                                            refine e_next ?_
                                            refine c_splitd (d := 74) rfl (fun h_83 => ?_) (fun h_83 => ?_)
                                            · skip
                                              first
                                                | (exfalso; first | omega | assumption)
                                                | (
                                                  refine c_cond_t rfl ?_
                                                  refine c_seq ?_
                                                  refine c_region ?_
                                                  refine r_val .none rfl (p_assign rfl) ?_
                                                  refine r_nil ?_
                                                  refine e_next ?_
                                                  refine c_ret ?_
                                                  refine e_ret_then ?_
                                                  refine e_ret_block ?_
                                                  refine e_ret_then ?_
                                                  refine e_ret_then ?_
                                                  refine e_ret_block ?_
                                                  refine e_ret_then ?_
                                                  refine e_ret_block ?_
                                                  refine e_ret_then ?_
                                                  refine e_ret_then ?_
                                                  refine e_ret_block ?_
                                                  refine e_ret_then ?_
                                                  refine e_ret1 Try.results8 (.tmp rfl .nil) (fun w hm => ⟨?_, hm.since⟩)
                                                  rfl
                                                  )
                                            · skip
                                              first
                                                | (exfalso; first | omega | assumption)
                                                | (
                                                  refine c_cond_f rfl ?_
                                                  refine c_skip ?_
                                                  refine e_next ?_
                                                  refine c_seq ?_
                                                  refine c_block ?_
                                                  refine c_name (d := 5) rfl (fun u_84 hu_84 => ?_)
                                                  refine c_name (d := 7) rfl (fun u_85 hu_85 => ?_)
                                                  refine c_name (d := 8) rfl (fun u_86 hu_86 => ?_)
                                                  refine c_name (d := 9) rfl (fun u_87 hu_87 => ?_)
                                                  refine c_name (d := 10) rfl (fun u_88 hu_88 => ?_)
                                                  refine c_name (d := 13) rfl (fun u_89 hu_89 => ?_)
                                                  refine c_name (d := 14) rfl (fun u_90 hu_90 => ?_)
                                                  refine c_name (d := 47) rfl (fun u_91 hu_91 => ?_)
                                                  refine c_name (d := 48) rfl (fun u_92 hu_92 => ?_)
                                                  refine c_name (d := 49) rfl (fun u_93 hu_93 => ?_)
                                                  refine c_name (d := 50) rfl (fun u_94 hu_94 => ?_)
                                                  refine c_name (d := 51) rfl (fun u_95 hu_95 => ?_)
                                                  refine c_name (d := 52) rfl (fun u_96 hu_96 => ?_)
                                                  refine c_name (d := 53) rfl (fun u_97 hu_97 => ?_)
                                                  refine c_name (d := 54) rfl (fun u_98 hu_98 => ?_)
                                                  refine c_name (d := 55) rfl (fun u_99 hu_99 => ?_)
                                                  refine c_name (d := 56) rfl (fun u_100 hu_100 => ?_)
                                                  refine c_name (d := 57) rfl (fun u_101 hu_101 => ?_)
                                                  refine c_name (d := 58) rfl (fun u_102 hu_102 => ?_)
                                                  refine c_name (d := 59) rfl (fun u_103 hu_103 => ?_)
                                                  refine c_name (d := 60) rfl (fun u_104 hu_104 => ?_)
                                                  refine c_name (d := 61) rfl (fun u_105 hu_105 => ?_)
                                                  refine c_name (d := 62) rfl (fun u_106 hu_106 => ?_)
                                                  refine c_name (d := 63) rfl (fun u_107 hu_107 => ?_)
                                                  refine c_name (d := 64) rfl (fun u_108 hu_108 => ?_)
                                                  refine c_name (d := 65) rfl (fun u_109 hu_109 => ?_)
                                                  refine c_name (d := 66) rfl (fun u_110 hu_110 => ?_)
                                                  refine c_name (d := 67) rfl (fun u_111 hu_111 => ?_)
                                                  refine c_name (d := 68) rfl (fun u_112 hu_112 => ?_)
                                                  refine c_name (d := 69) rfl (fun u_113 hu_113 => ?_)
                                                  refine c_name (d := 70) rfl (fun u_114 hu_114 => ?_)
                                                  refine c_name (d := 71) rfl (fun u_115 hu_115 => ?_)
                                                  refine c_name (d := 72) rfl (fun u_116 hu_116 => ?_)
                                                  refine c_name (d := 73) rfl (fun u_117 hu_117 => ?_)
                                                  refine c_name (d := 74) rfl (fun u_118 hu_118 => ?_)
                                                  refine c_nameL (k := 0) rfl (fun A_119 hA_119 => ?_)
                                                  refine c_loop (σ := Nat × Ghost) (fun s => [(11, Value.int .i64 (s.1 : Nat)), (5, u_84), (7, u_85), (8, u_86), (9, u_87), (10, u_88), (13, u_89), (14, u_90), (47, u_91), (48, u_92), (49, u_93), (50, u_94), (51, u_95), (52, u_96), (53, u_97), (54, u_98), (55, u_99), (56, u_100), (57, u_101), (58, u_102), (59, u_103), (60, u_104), (61, u_105), (62, u_106), (63, u_107), (64, u_108), (65, u_109), (66, u_110), (67, u_111), (68, u_112), (69, u_113), (70, u_114), (71, u_115), (72, u_116), (73, u_117), (74, u_118)]) (fun s => [A_119]) (fun s => s.2) (fun s => s.1 ≤ a ∧ GNew w nX H2 s.2) (fun s => a - s.1) ((kk, _)) ⟨ha1, GNew.refl _ _ _⟩ rfl ⟨rfl, rfl, rfl, rfl, rfl, rfl, rfl, rfl, rfl, rfl, rfl, rfl, rfl, rfl, rfl, rfl, rfl, rfl, rfl, rfl, rfl, rfl, rfl, rfl, rfl, rfl, rfl, rfl, rfl, rfl, rfl, rfl, rfl, rfl, rfl, rfl, trivial⟩ (.keep (fun _ _ h => h) (.nil)) (fun s hphi => ?_)
                                                  subst hu_84
                                                  subst hu_85
                                                  subst hu_86
                                                  subst hu_87
                                                  subst hu_88
                                                  subst hu_89
                                                  subst hu_90
                                                  subst hu_91
                                                  subst hu_92
                                                  subst hu_93
                                                  subst hu_94
                                                  subst hu_95
                                                  subst hu_96
                                                  subst hu_97
                                                  subst hu_98
                                                  subst hu_99
                                                  subst hu_100
                                                  subst hu_101
                                                  subst hu_102
                                                  subst hu_103
                                                  subst hu_104
                                                  subst hu_105
                                                  subst hu_106
                                                  subst hu_107
                                                  subst hu_108
                                                  subst hu_109
                                                  subst hu_110
                                                  subst hu_111
                                                  subst hu_112
                                                  subst hu_113
                                                  subst hu_114
                                                  subst hu_115
                                                  subst hu_116
                                                  subst hu_117
                                                  subst hu_118
                                                  subst hA_119
                                                  obtain ⟨k, H3⟩ := s
                                                  obtain ⟨hk, hgn3⟩ := hphi
                                                  dsimp only at hk hgn3 ⊢
                                                  replace ht := ht.mono hgn3.le
                                                  replace hs := hs.mono hgn3.le
                                                  replace hF := hF.mono hgn3.le
                                                  replace u_13s := u_13s.mono hgn3.le
                                                  replace u_18 := u_18.mono hgn3.le
                                                  replace hS := hS.mono hgn3.le
                                                  replace hSt := fun p hm0 => (hSt p hm0).mono hgn3.le
                                                  replace hSs := fun p hm0 => (hSs p hm0).mono hgn3.le
                                                  replace hLI := LI.mono hLI hgn3.le
                                                  replace hq0 := hq0.mono hgn3.le
                                                  replace hqp0 := fun p hm0 => (hqp0 p hm0).mono hgn3.le
                                                  replace R_31 := R_31.mono hgn3.le
                                                  replace hq_34 := hq_34.mono hgn3.le
                                                  replace hq := hq.mono hgn3.le
                                                  replace hqp := fun p hm0 => (hqp p hm0).mono hgn3.le
                                                  replace hs_44 := hs_44.mono hgn3.le
                                                  replace hT := hT.mono hgn3.le
                                                  replace hLI2 := LI.mono hLI2 hgn3.le
                                                  replace hq2 := hq2.mono hgn3.le
                                                  replace hqp2 := fun p hm0 => (hqp2 p hm0).mono hgn3.le
                                                  replace R_71 := R_71.mono hgn3.le
                                                  replace hq_74 := hq_74.mono hgn3.le
                                                  replace R_79 := R_79.mono hgn3.le
                                                  refine c_seq ?_
                                                  refine c_seq ?_
                                                  refine c_region_d (fun _ => false) _ mixed (.keep (fun _ _ h => h) (.nil)) ?_
                                                  refine d_val1 0 rfl rfl (by kernel_rfl) (fun _ _ => rfl) .none rfl (p_move rfl) ?_
                                                  refine d_val1 1 rfl rfl (by kernel_rfl) (fun _ _ => rfl) .none rfl (p_move rfl) ?_
                                                  refine d_val1 2 rfl rfl (by kernel_rfl) (fun _ _ => rfl) .none rfl (p_leng Try.underlying79 rfl hq) ?_
                                                  have bd_120 := (hq).bound
                                                  refine d_val1 3 rfl rfl (by kernel_rfl) (fun _ _ => rfl) .none rfl (p_lt rfl rfl) ?_
                                                  refine d_val1 4 rfl rfl (by kernel_rfl) (fun _ _ => rfl) .none rfl (p_move rfl) ?_
                                                  refine d_splitd (d := 79) rfl (fun h_121 => ?_) (fun h_121 => ?_)
                                                  · skip
                                                    first
                                                      | (exfalso; first | omega | assumption)
                                                      | (
                                                        refine d_val1 5 rfl rfl (by kernel_rfl) (fun _ _ => rfl) (.some rfl rfl) rfl (p_move rfl) ?_
                                                        refine d_val1 6 rfl rfl (by kernel_rfl) (fun _ _ => rfl) (.some rfl rfl) rfl (p_move rfl) ?_
                                                        refine d_iaddr_g 7 rfl rfl (by kernel_rfl) (fun _ _ => rfl) (.some rfl rfl) rfl Try.underlying79 sz22 rfl hq rfl (by first | exact of_decide_eq_true rfl | omega) (fun p_123 o_124 R_122 => ?_)
                                                        have hq_125 := hqp _ (getD_mem (i := k) (d := es14) (by omega))
                                                        refine d_val1 8 rfl rfl (by kernel_rfl) (fun _ _ => rfl) (.some rfl rfl) rfl (p_ldg0 Try.underlying22 rfl rfl R_122 (by first | exact of_decide_eq_true rfl | omega) rfl) ?_
                                                        obtain ⟨a_126, c_127, e_128⟩ := SlG.len hq_125
                                                        refine d_say (d := 83) (v := Value.slice a_126 (qs.getD k es14).1.length c_127) (congrArg some e_128) ?_
                                                        rw [e_128] at hq_125
                                                        refine d_val1 10 rfl rfl (by kernel_rfl) (fun _ _ => rfl) (.some rfl rfl) rfl (p_move rfl) ?_
                                                        refine d_val1 11 rfl rfl (by kernel_rfl) (fun _ _ => rfl) (.some rfl rfl) rfl (p_move rfl) ?_
                                                        refine d_slice0 12 n rfl rfl (by kernel_rfl) (fun _ _ => rfl) (.some rfl rfl) rfl Try.underlying22 sz3 rfl hq_74 rfl (by first | exact of_decide_eq_true rfl | omega) (fun v_129 hs_130 => ?_)
                                                        obtain ⟨a_132, c_133, rfl⟩ := SlG.len hs_130
                                                        have hm2 := sl_take (cells := cI) (by omega) hs_130
                                                        refine d_eff2 9 13 rfl rfl (by kernel_rfl) (fun K_134 hKK_134 hcK_134 => ?_) (fun K_134 hKK_134 hcK_134 => ?_)
                                                        · skip
                                                          refine r_bslice (vs := [(0, Value.slice _ _ _)]) (c := #[_]) (.some rfl rfl) rfl Try.underlying79 el22 rfl rfl rfl (bs22_10s3 _ _ _) (IsRow.lit _) (fun b_2 => ?_)
                                                          refine r_freezeB (k := 0) 1 1 rfl rfl (by decide) (fun G_135 hn_136 hs_137 => ?_)
                                                          replace ht := ht.mono hn_136.le
                                                          replace hs := hs.mono hn_136.le
                                                          replace hF := hF.mono hn_136.le
                                                          replace u_13s := u_13s.mono hn_136.le
                                                          replace u_18 := u_18.mono hn_136.le
                                                          replace hS := hS.mono hn_136.le
                                                          replace hSt := fun p hm0 => (hSt p hm0).mono hn_136.le
                                                          replace hSs := fun p hm0 => (hSs p hm0).mono hn_136.le
                                                          replace hLI := LI.mono hLI hn_136.le
                                                          replace hq0 := hq0.mono hn_136.le
                                                          replace hqp0 := fun p hm0 => (hqp0 p hm0).mono hn_136.le
                                                          replace R_31 := R_31.mono hn_136.le
                                                          replace hq_34 := hq_34.mono hn_136.le
                                                          replace hq := hq.mono hn_136.le
                                                          replace hqp := fun p hm0 => (hqp p hm0).mono hn_136.le
                                                          replace hs_44 := hs_44.mono hn_136.le
                                                          replace hT := hT.mono hn_136.le
                                                          replace hLI2 := LI.mono hLI2 hn_136.le
                                                          replace hq2 := hq2.mono hn_136.le
                                                          replace hqp2 := fun p hm0 => (hqp2 p hm0).mono hn_136.le
                                                          replace R_71 := R_71.mono hn_136.le
                                                          replace hq_74 := hq_74.mono hn_136.le
                                                          replace R_79 := R_79.mono hn_136.le
                                                          replace R_122 := R_122.mono hn_136.le
                                                          replace hq_125 := hq_125.mono hn_136.le
                                                          replace hs_130 := hs_130.mono hn_136.le
                                                          replace hm2 := hm2.mono hn_136.le
                                                          have h84 : SlL G_135 (Value.slice (some ⟨b_2, 0, none⟩) 1 1) 1 lC (([] : List Int), Value.slice none 0 0) [((qs.getD k es14).1, Value.slice a_126 (qs.getD k es14).1.length c_127)] := SlG.congr hs_137 (fun i hi j hj => by match i, hi with | 0, _ => (match j, hj with | 0, _ => rfl))
                                                          have Lh84 : LI G_135 (Value.slice (some ⟨b_2, 0, none⟩) 1 1) [(qs.getD k es14).1] := Ls.mk _ h84 (by intro p hm0; simp only [List.mem_cons, List.not_mem_nil, or_false] at hm0; subst hm0; exact hq_125)
                                                          refine r_nil (e_d (i := 9) (brk := (fun _ => false)) (ph' := true) hKK_134 hcK_134 rfl (fun _ => hn_136.le) (fun _ => .keep (fun _ _ h => h) (.nil)) ?_)
                                                          clear hKK_134 hcK_134 K_134
                                                          refine d_eff 13 rfl (by kernel_rfl) (fun K_138 hKK_138 hcK_138 => ?_)
                                                          refine r_bslice (vs := [(0, Value.slice _ _ _)]) (c := #[_]) (.some rfl rfl) rfl Try.underlying79 el22 rfl rfl rfl (bs22_10s3 _ _ _) (IsRow.lit _) (fun b_3 => ?_)
                                                          refine r_freezeB (k := 0) 1 1 rfl rfl (by decide) (fun G_139 hn_140 hs_141 => ?_)
                                                          replace ht := ht.mono hn_140.le
                                                          replace hs := hs.mono hn_140.le
                                                          replace hF := hF.mono hn_140.le
                                                          replace u_13s := u_13s.mono hn_140.le
                                                          replace u_18 := u_18.mono hn_140.le
                                                          replace hS := hS.mono hn_140.le
                                                          replace hSt := fun p hm0 => (hSt p hm0).mono hn_140.le
                                                          replace hSs := fun p hm0 => (hSs p hm0).mono hn_140.le
                                                          replace hLI := LI.mono hLI hn_140.le
                                                          replace hq0 := hq0.mono hn_140.le
                                                          replace hqp0 := fun p hm0 => (hqp0 p hm0).mono hn_140.le
                                                          replace R_31 := R_31.mono hn_140.le
                                                          replace hq_34 := hq_34.mono hn_140.le
                                                          replace hq := hq.mono hn_140.le
                                                          replace hqp := fun p hm0 => (hqp p hm0).mono hn_140.le
                                                          replace hs_44 := hs_44.mono hn_140.le
                                                          replace hT := hT.mono hn_140.le
                                                          replace hLI2 := LI.mono hLI2 hn_140.le
                                                          replace hq2 := hq2.mono hn_140.le
                                                          replace hqp2 := fun p hm0 => (hqp2 p hm0).mono hn_140.le
                                                          replace R_71 := R_71.mono hn_140.le
                                                          replace hq_74 := hq_74.mono hn_140.le
                                                          replace R_79 := R_79.mono hn_140.le
                                                          replace R_122 := R_122.mono hn_140.le
                                                          replace hq_125 := hq_125.mono hn_140.le
                                                          replace hs_130 := hs_130.mono hn_140.le
                                                          replace hm2 := hm2.mono hn_140.le
                                                          replace h84 := h84.mono hn_140.le
                                                          replace Lh84 := LI.mono Lh84 hn_140.le
                                                          have h88 : SlL G_139 (Value.slice (some ⟨b_3, 0, none⟩) 1 1) 1 lC (([] : List Int), Value.slice none 0 0) [((qs2.getD j es14).1.take n, Value.slice a_132 n c_133)] := SlG.congr hs_141 (fun i hi j hj => by match i, hi with | 0, _ => (match j, hj with | 0, _ => rfl))
                                                          have Lh88 : LI G_139 (Value.slice (some ⟨b_3, 0, none⟩) 1 1) [(qs2.getD j es14).1.take n] := Ls.mk _ h88 (by intro p hm0; simp only [List.mem_cons, List.not_mem_nil, or_false] at hm0; subst hm0; exact hm2)
                                                          refine r_nil (e_d (i := 13) (brk := (fun _ => false)) (ph' := true) hKK_138 hcK_138 rfl (fun _ => (hn_136.trans hn_140).le) (fun _ => .keep (fun _ _ h => h) (.nil)) ?_)
                                                          clear hKK_138 hcK_138 K_138
                                                          refine d_eff 14 rfl (by kernel_rfl) (fun K_142 hKK_142 hcK_142 => ?_)
                                                          refine r_call (vs := [_, _]) (.some rfl rfl) rfl cl37 rfl (fun w hw => c_same14 _ _ [(qs.getD k es14).1] [(qs2.getD j es14).1.take n] Lh84 Lh88 w hw) ?_
                                                          refine r_nil (e_d (i := 14) (brk := (fun _ => false)) (ph' := true) hKK_142 hcK_142 rfl (fun _ => (hn_136.trans hn_140).le) (fun _ => .keep (fun _ _ h => h) (.nil)) ?_)
                                                          clear hKK_142 hcK_142 K_142
                                                          refine d_val1 15 rfl rfl (by kernel_rfl) (fun _ _ => rfl) (.some rfl rfl) rfl (p_not rfl) ?_
                                                          refine d_val1 16 rfl rfl (by kernel_rfl) (fun _ _ => rfl) .none rfl (p_pick_t rfl rfl) ?_
                                                          refine d_nil (by kernel_rfl) ?_
                                                          refine e_next ?_
                                                          refine c_splitn (d := 91) rfl (fun h_143 => ?_) (fun h_143 => ?_)
                                                          · skip
                                                            have hNe : ¬ (qs.getD k es14).1 = (qs2.getD j es14).1.take n := by have h0 := h_143; simpa using h0
                                                            have hka : k ≠ a := fun e => hNe (by rw [e, ha3, hst])
                                                            first
                                                              | (exfalso; first | omega | assumption)
                                                              | (
                                                                refine c_cond_t rfl ?_
                                                                refine c_skip ?_
                                                                refine e_next ?_
                                                                refine c_block ?_
                                                                refine c_region ?_
                                                                refine r_val .none rfl (p_move rfl) ?_
                                                                refine r_val .none rfl (p_add rfl rfl (by omega)) ?_
                                                                refine r_val .none rfl (p_assign rfl) ?_
                                                                refine r_nil ?_
                                                                refine e_norm_block ?_
                                                                refine e_round ((k + 1, _)) ⟨⟨by dsimp only; omega, ((hgn3.trans hn_136).trans hn_140)⟩, by dsimp only; omega⟩ rfl ⟨rfl, rfl, rfl, rfl, rfl, rfl, rfl, rfl, rfl, rfl, rfl, rfl, rfl, rfl, rfl, rfl, rfl, rfl, rfl, rfl, rfl, rfl, rfl, rfl, rfl, rfl, rfl, rfl, rfl, rfl, rfl, rfl, rfl, rfl, rfl, rfl, trivial⟩ (.keep (fun _ _ h => h) (.nil))
                                                                )
                                                          · skip
                                                            have hSm := h_143
                                                            first
                                                              | (exfalso; first | omega | assumption)
                                                              | (
                                                                refine c_cond_f rfl ?_
                                                                refine c_exit ?_
                                                                refine e_exit_then ?_
                                                                refine e_exit_then ?_
                                                                refine e_exit_block ?_
                                                                refine e_next ?_
                                                                refine c_seq ?_
                                                                refine c_seq ?_
                                                                refine c_region ?_
                                                                refine r_val .none rfl (p_move rfl) ?_
                                                                refine r_val .none rfl (p_move rfl) ?_
                                                                refine r_val .none rfl (p_leng Try.underlying79 rfl hq) ?_
                                                                have bd_144 := (hq).bound
                                                                refine r_val .none rfl (p_eq rfl rfl) ?_
                                                                refine r_nil ?_
                                                                refine e_next ?_
                                                                refine c_splitd (d := 97) rfl (fun h_145 => ?_) (fun h_145 => ?_)
                                                                · skip
                                                                  first
                                                                    | (exfalso; first | omega | assumption)
                                                                    | (
                                                                      refine c_cond_t rfl ?_
                                                                      refine c_seq ?_
                                                                      refine c_region ?_
                                                                      refine r_val .none rfl (p_assign rfl) ?_
                                                                      refine r_nil ?_
                                                                      refine e_next ?_
                                                                      refine c_ret ?_
                                                                      refine e_ret_then ?_
                                                                      refine e_ret_block ?_
                                                                      refine e_ret_then ?_
                                                                      refine e_ret_then ?_
                                                                      refine e_ret_block ?_
                                                                      refine e_ret_then ?_
                                                                      refine e_ret_block ?_
                                                                      refine e_ret_then ?_
                                                                      refine e_ret_then ?_
                                                                      refine e_ret_block ?_
                                                                      refine e_ret_then ?_
                                                                      refine e_ret1 Try.results8 (.tmp rfl .nil) (fun w hm => ⟨?_, hm.since⟩)
                                                                      rfl
                                                                      )
                                                                · skip
                                                                  first
                                                                    | (exfalso; first | omega | assumption)
                                                                    | (
                                                                      refine c_cond_f rfl ?_
                                                                      refine c_skip ?_
                                                                      refine e_next ?_
                                                                      refine c_seq ?_
                                                                      refine c_region ?_
                                                                      refine r_val .none rfl (p_move rfl) ?_
                                                                      refine r_val .none rfl (p_move rfl) ?_
                                                                      refine r_iaddr_g .none rfl Try.underlying81 sz109 rfl hS rfl (by first | exact of_decide_eq_true rfl | omega) (fun p_147 o_148 R_146 => ?_)
                                                                      refine r_val .none rfl (p_field Try.underlying109 rfl sz3 rfl) ?_
                                                                      refine r_val .none rfl (p_ldg (j := 0) Try.underlying3 rfl rfl R_146 (by first | exact of_decide_eq_true rfl | omega) (rfl : _ = Value.int _ _)) ?_
                                                                      refine r_val .none rfl (p_ne rfl rfl) ?_
                                                                      refine r_nil ?_
                                                                      refine e_next ?_
                                                                      refine c_splitd (d := 103) rfl (fun h_149 => ?_) (fun h_149 => ?_)
                                                                      · skip
                                                                        first
                                                                          | (exfalso; first | omega | assumption)
                                                                          | (
                                                                            refine c_cond_t rfl ?_
                                                                            refine c_region ?_
                                                                            refine r_val .none rfl (p_move rfl) ?_
                                                                            refine r_val .none rfl (p_add rfl rfl (by omega)) ?_
                                                                            refine r_val .none rfl (p_assign rfl) ?_
                                                                            refine r_nil ?_
                                                                            refine e_norm_block ?_
                                                                            refine e_next ?_
                                                                            refine c_region ?_
                                                                            refine r_val .none rfl (p_add rfl rfl (by omega)) ?_
                                                                            refine r_val .none rfl (p_move rfl) ?_
                                                                            refine r_nil ?_
                                                                            refine e_round ((j + 1, k + 1, _)) ⟨⟨by dsimp only; omega, ha5.mono (by (try dsimp only); first | (rw [if_pos (decide_eq_true hkd)]; omega) | (rw [if_neg (by simpa using hkd)]; omega)), (((hgn2.trans hgn3).trans hn_136).trans hn_140)⟩, by dsimp only; omega⟩ rfl ⟨rfl, rfl, rfl, rfl, rfl, rfl, rfl, rfl, rfl, rfl, rfl, rfl, rfl, rfl, rfl, rfl, rfl, rfl, rfl, trivial⟩ (.keep (fun _ _ h => h) (.nil))
                                                                            )
                                                                      · skip
                                                                        first
                                                                          | (exfalso; first | omega | assumption)
                                                                          | (
                                                                            refine c_cond_f rfl ?_
                                                                            refine c_skip ?_
                                                                            refine e_norm_block ?_
                                                                            refine e_next ?_
                                                                            refine c_region ?_
                                                                            refine r_val .none rfl (p_add rfl rfl (by omega)) ?_
                                                                            refine r_val .none rfl (p_move rfl) ?_
                                                                            refine r_nil ?_
                                                                            refine e_round ((j + 1, k, _)) ⟨⟨by dsimp only; omega, ha5.mono (by (try dsimp only); first | (rw [if_pos (decide_eq_true hkd)]; omega) | (rw [if_neg (by simpa using hkd)]; omega)), (((hgn2.trans hgn3).trans hn_136).trans hn_140)⟩, by dsimp only; omega⟩ rfl ⟨rfl, rfl, rfl, rfl, rfl, rfl, rfl, rfl, rfl, rfl, rfl, rfl, rfl, rfl, rfl, rfl, rfl, rfl, rfl, trivial⟩ (.keep (fun _ _ h => h) (.nil))
                                                                            )
                                                                      )
                                                                )
                                                        · skip
                                                          refine r_bslice (vs := [(0, Value.slice _ _ _)]) (c := #[_]) (.some rfl rfl) rfl Try.underlying79 el22 rfl rfl rfl (bs22_10s3 _ _ _) (IsRow.lit _) (fun b_4 => ?_)
                                                          refine r_freezeB (k := 0) 1 1 rfl rfl (by decide) (fun G_150 hn_151 hs_152 => ?_)
                                                          replace ht := ht.mono hn_151.le
                                                          replace hs := hs.mono hn_151.le
                                                          replace hF := hF.mono hn_151.le
                                                          replace u_13s := u_13s.mono hn_151.le
                                                          replace u_18 := u_18.mono hn_151.le
                                                          replace hS := hS.mono hn_151.le
                                                          replace hSt := fun p hm0 => (hSt p hm0).mono hn_151.le
                                                          replace hSs := fun p hm0 => (hSs p hm0).mono hn_151.le
                                                          replace hLI := LI.mono hLI hn_151.le
                                                          replace hq0 := hq0.mono hn_151.le
                                                          replace hqp0 := fun p hm0 => (hqp0 p hm0).mono hn_151.le
                                                          replace R_31 := R_31.mono hn_151.le
                                                          replace hq_34 := hq_34.mono hn_151.le
                                                          replace hq := hq.mono hn_151.le
                                                          replace hqp := fun p hm0 => (hqp p hm0).mono hn_151.le
                                                          replace hs_44 := hs_44.mono hn_151.le
                                                          replace hT := hT.mono hn_151.le
                                                          replace hLI2 := LI.mono hLI2 hn_151.le
                                                          replace hq2 := hq2.mono hn_151.le
                                                          replace hqp2 := fun p hm0 => (hqp2 p hm0).mono hn_151.le
                                                          replace R_71 := R_71.mono hn_151.le
                                                          replace hq_74 := hq_74.mono hn_151.le
                                                          replace R_79 := R_79.mono hn_151.le
                                                          replace R_122 := R_122.mono hn_151.le
                                                          replace hq_125 := hq_125.mono hn_151.le
                                                          replace hs_130 := hs_130.mono hn_151.le
                                                          replace hm2 := hm2.mono hn_151.le
                                                          have h88 : SlL G_150 (Value.slice (some ⟨b_4, 0, none⟩) 1 1) 1 lC (([] : List Int), Value.slice none 0 0) [((qs2.getD j es14).1.take n, Value.slice a_132 n c_133)] := SlG.congr hs_152 (fun i hi j hj => by match i, hi with | 0, _ => (match j, hj with | 0, _ => rfl))
                                                          have Lh88 : LI G_150 (Value.slice (some ⟨b_4, 0, none⟩) 1 1) [(qs2.getD j es14).1.take n] := Ls.mk _ h88 (by intro p hm0; simp only [List.mem_cons, List.not_mem_nil, or_false] at hm0; subst hm0; exact hm2)
                                                          refine r_nil (e_d (i := 13) (brk := (fun _ => false)) (ph' := true) hKK_134 hcK_134 rfl (fun _ => hn_151.le) (fun _ => .keep (fun _ _ h => h) (.nil)) ?_)
                                                          clear hKK_134 hcK_134 K_134
                                                          refine d_eff 9 rfl (by kernel_rfl) (fun K_153 hKK_153 hcK_153 => ?_)
                                                          refine r_bslice (vs := [(0, Value.slice _ _ _)]) (c := #[_]) (.some rfl rfl) rfl Try.underlying79 el22 rfl rfl rfl (bs22_10s3 _ _ _) (IsRow.lit _) (fun b_5 => ?_)
                                                          refine r_freezeB (k := 0) 1 1 rfl rfl (by decide) (fun G_154 hn_155 hs_156 => ?_)
                                                          replace ht := ht.mono hn_155.le
                                                          replace hs := hs.mono hn_155.le
                                                          replace hF := hF.mono hn_155.le
                                                          replace u_13s := u_13s.mono hn_155.le
                                                          replace u_18 := u_18.mono hn_155.le
                                                          replace hS := hS.mono hn_155.le
                                                          replace hSt := fun p hm0 => (hSt p hm0).mono hn_155.le
                                                          replace hSs := fun p hm0 => (hSs p hm0).mono hn_155.le
                                                          replace hLI := LI.mono hLI hn_155.le
                                                          replace hq0 := hq0.mono hn_155.le
                                                          replace hqp0 := fun p hm0 => (hqp0 p hm0).mono hn_155.le
                                                          replace R_31 := R_31.mono hn_155.le
                                                          replace hq_34 := hq_34.mono hn_155.le
                                                          replace hq := hq.mono hn_155.le
                                                          replace hqp := fun p hm0 => (hqp p hm0).mono hn_155.le
                                                          replace hs_44 := hs_44.mono hn_155.le
                                                          replace hT := hT.mono hn_155.le
                                                          replace hLI2 := LI.mono hLI2 hn_155.le
                                                          replace hq2 := hq2.mono hn_155.le
                                                          replace hqp2 := fun p hm0 => (hqp2 p hm0).mono hn_155.le
                                                          replace R_71 := R_71.mono hn_155.le
                                                          replace hq_74 := hq_74.mono hn_155.le
                                                          replace R_79 := R_79.mono hn_155.le
                                                          replace R_122 := R_122.mono hn_155.le
                                                          replace hq_125 := hq_125.mono hn_155.le
                                                          replace hs_130 := hs_130.mono hn_155.le
                                                          replace hm2 := hm2.mono hn_155.le
                                                          replace h88 := h88.mono hn_155.le
                                                          replace Lh88 := LI.mono Lh88 hn_155.le
                                                          have h84 : SlL G_154 (Value.slice (some ⟨b_5, 0, none⟩) 1 1) 1 lC (([] : List Int), Value.slice none 0 0) [((qs.getD k es14).1, Value.slice a_126 (qs.getD k es14).1.length c_127)] := SlG.congr hs_156 (fun i hi j hj => by match i, hi with | 0, _ => (match j, hj with | 0, _ => rfl))
                                                          have Lh84 : LI G_154 (Value.slice (some ⟨b_5, 0, none⟩) 1 1) [(qs.getD k es14).1] := Ls.mk _ h84 (by intro p hm0; simp only [List.mem_cons, List.not_mem_nil, or_false] at hm0; subst hm0; exact hq_125)
                                                          refine r_nil (e_d (i := 9) (brk := (fun _ => false)) (ph' := true) hKK_153 hcK_153 rfl (fun _ => (hn_151.trans hn_155).le) (fun _ => .keep (fun _ _ h => h) (.nil)) ?_)
                                                          clear hKK_153 hcK_153 K_153
                                                          refine d_eff 14 rfl (by kernel_rfl) (fun K_157 hKK_157 hcK_157 => ?_)
                                                          refine r_call (vs := [_, _]) (.some rfl rfl) rfl cl37 rfl (fun w hw => c_same14 _ _ [(qs.getD k es14).1] [(qs2.getD j es14).1.take n] Lh84 Lh88 w hw) ?_
                                                          refine r_nil (e_d (i := 14) (brk := (fun _ => false)) (ph' := true) hKK_157 hcK_157 rfl (fun _ => (hn_151.trans hn_155).le) (fun _ => .keep (fun _ _ h => h) (.nil)) ?_)
                                                          clear hKK_157 hcK_157 K_157
                                                          refine d_val1 15 rfl rfl (by kernel_rfl) (fun _ _ => rfl) (.some rfl rfl) rfl (p_not rfl) ?_
                                                          refine d_val1 16 rfl rfl (by kernel_rfl) (fun _ _ => rfl) .none rfl (p_pick_t rfl rfl) ?_
                                                          refine d_nil (by kernel_rfl) ?_
                                                          refine e_next ?_
                                                          refine c_splitn (d := 91) rfl (fun h_158 => ?_) (fun h_158 => ?_)
                                                          · skip
                                                            have hNe : ¬ (qs.getD k es14).1 = (qs2.getD j es14).1.take n := by have h0 := h_158; simpa using h0
                                                            have hka : k ≠ a := fun e => hNe (by rw [e, ha3, hst])
                                                            first
                                                              | (exfalso; first | omega | assumption)
                                                              | (
                                                                refine c_cond_t rfl ?_
                                                                refine c_skip ?_
                                                                refine e_next ?_
                                                                refine c_block ?_
                                                                refine c_region ?_
                                                                refine r_val .none rfl (p_move rfl) ?_
                                                                refine r_val .none rfl (p_add rfl rfl (by omega)) ?_
                                                                refine r_val .none rfl (p_assign rfl) ?_
                                                                refine r_nil ?_
                                                                refine e_norm_block ?_
                                                                refine e_round ((k + 1, _)) ⟨⟨by dsimp only; omega, ((hgn3.trans hn_151).trans hn_155)⟩, by dsimp only; omega⟩ rfl ⟨rfl, rfl, rfl, rfl, rfl, rfl, rfl, rfl, rfl, rfl, rfl, rfl, rfl, rfl, rfl, rfl, rfl, rfl, rfl, rfl, rfl, rfl, rfl, rfl, rfl, rfl, rfl, rfl, rfl, rfl, rfl, rfl, rfl, rfl, rfl, rfl, trivial⟩ (.keep (fun _ _ h => h) (.nil))
                                                                )
                                                          · skip
                                                            have hSm := h_158
                                                            first
                                                              | (exfalso; first | omega | assumption)
                                                              | (
                                                                refine c_cond_f rfl ?_
                                                                refine c_exit ?_
                                                                refine e_exit_then ?_
                                                                refine e_exit_then ?_
                                                                refine e_exit_block ?_
                                                                refine e_next ?_
                                                                refine c_seq ?_
                                                                refine c_seq ?_
                                                                refine c_region ?_
                                                                refine r_val .none rfl (p_move rfl) ?_
                                                                refine r_val .none rfl (p_move rfl) ?_
                                                                refine r_val .none rfl (p_leng Try.underlying79 rfl hq) ?_
                                                                have bd_159 := (hq).bound
                                                                refine r_val .none rfl (p_eq rfl rfl) ?_
                                                                refine r_nil ?_
                                                                refine e_next ?_
                                                                refine c_splitd (d := 97) rfl (fun h_160 => ?_) (fun h_160 => ?_)
                                                                · skip
                                                                  first
                                                                    | (exfalso; first | omega | assumption)
                                                                    | (
                                                                      refine c_cond_t rfl ?_
                                                                      refine c_seq ?_
                                                                      refine c_region ?_
                                                                      refine r_val .none rfl (p_assign rfl) ?_
                                                                      refine r_nil ?_
                                                                      refine e_next ?_
                                                                      refine c_ret ?_
                                                                      refine e_ret_then ?_
                                                                      refine e_ret_block ?_
                                                                      refine e_ret_then ?_
                                                                      refine e_ret_then ?_
                                                                      refine e_ret_block ?_
                                                                      refine e_ret_then ?_
                                                                      refine e_ret_block ?_
                                                                      refine e_ret_then ?_
                                                                      refine e_ret_then ?_
                                                                      refine e_ret_block ?_
                                                                      refine e_ret_then ?_
                                                                      refine e_ret1 Try.results8 (.tmp rfl .nil) (fun w hm => ⟨?_, hm.since⟩)
                                                                      rfl
                                                                      )
                                                                · skip
                                                                  first
                                                                    | (exfalso; first | omega | assumption)
                                                                    | (
                                                                      refine c_cond_f rfl ?_
                                                                      refine c_skip ?_
                                                                      refine e_next ?_
                                                                      refine c_seq ?_
                                                                      refine c_region ?_
                                                                      refine r_val .none rfl (p_move rfl) ?_
                                                                      refine r_val .none rfl (p_move rfl) ?_
                                                                      refine r_iaddr_g .none rfl Try.underlying81 sz109 rfl hS rfl (by first | exact of_decide_eq_true rfl | omega) (fun p_162 o_163 R_161 => ?_)
                                                                      refine r_val .none rfl (p_field Try.underlying109 rfl sz3 rfl) ?_
                                                                      refine r_val .none rfl (p_ldg (j := 0) Try.underlying3 rfl rfl R_161 (by first | exact of_decide_eq_true rfl | omega) (rfl : _ = Value.int _ _)) ?_
                                                                      refine r_val .none rfl (p_ne rfl rfl) ?_
                                                                      refine r_nil ?_
                                                                      refine e_next ?_
                                                                      refine c_splitd (d := 103) rfl (fun h_164 => ?_) (fun h_164 => ?_)
                                                                      · skip
                                                                        first
                                                                          | (exfalso; first | omega | assumption)
                                                                          | (
                                                                            refine c_cond_t rfl ?_
                                                                            refine c_region ?_
                                                                            refine r_val .none rfl (p_move rfl) ?_
                                                                            refine r_val .none rfl (p_add rfl rfl (by omega)) ?_
                                                                            refine r_val .none rfl (p_assign rfl) ?_
                                                                            refine r_nil ?_
                                                                            refine e_norm_block ?_
                                                                            refine e_next ?_
                                                                            refine c_region ?_
                                                                            refine r_val .none rfl (p_add rfl rfl (by omega)) ?_
                                                                            refine r_val .none rfl (p_move rfl) ?_
                                                                            refine r_nil ?_
                                                                            refine e_round ((j + 1, k + 1, _)) ⟨⟨by dsimp only; omega, ha5.mono (by (try dsimp only); first | (rw [if_pos (decide_eq_true hkd)]; omega) | (rw [if_neg (by simpa using hkd)]; omega)), (((hgn2.trans hgn3).trans hn_151).trans hn_155)⟩, by dsimp only; omega⟩ rfl ⟨rfl, rfl, rfl, rfl, rfl, rfl, rfl, rfl, rfl, rfl, rfl, rfl, rfl, rfl, rfl, rfl, rfl, rfl, rfl, trivial⟩ (.keep (fun _ _ h => h) (.nil))
                                                                            )
                                                                      · skip
                                                                        first
                                                                          | (exfalso; first | omega | assumption)
                                                                          | (
                                                                            refine c_cond_f rfl ?_
                                                                            refine c_skip ?_
                                                                            refine e_norm_block ?_
                                                                            refine e_next ?_
                                                                            refine c_region ?_
                                                                            refine r_val .none rfl (p_add rfl rfl (by omega)) ?_
                                                                            refine r_val .none rfl (p_move rfl) ?_
                                                                            refine r_nil ?_
                                                                            refine e_round ((j + 1, k, _)) ⟨⟨by dsimp only; omega, ha5.mono (by (try dsimp only); first | (rw [if_pos (decide_eq_true hkd)]; omega) | (rw [if_neg (by simpa using hkd)]; omega)), (((hgn2.trans hgn3).trans hn_151).trans hn_155)⟩, by dsimp only; omega⟩ rfl ⟨rfl, rfl, rfl, rfl, rfl, rfl, rfl, rfl, rfl, rfl, rfl, rfl, rfl, rfl, rfl, rfl, rfl, rfl, rfl, trivial⟩ (.keep (fun _ _ h => h) (.nil))
                                                                            )
                                                                      )
                                                                )
                                                        )
                                                  · skip
                                                    first
                                                      | (exfalso; first | omega | assumption)
                                                      | (
                                                        refine d_skip1 5 rfl rfl (by kernel_rfl) (fun _ _ => rfl) rfl (.no rfl rfl) ?_
                                                        refine d_skip1 6 rfl rfl (by kernel_rfl) (fun _ _ => rfl) rfl (.no rfl rfl) ?_
                                                        refine d_skip1 7 rfl rfl (by kernel_rfl) (fun _ _ => rfl) rfl (.no rfl rfl) ?_
                                                        refine d_skip1 8 rfl rfl (by kernel_rfl) (fun _ _ => rfl) rfl (.no rfl rfl) ?_
                                                        refine d_skip1 9 rfl rfl (by kernel_rfl) (fun _ _ => rfl) rfl (.no rfl rfl) ?_
                                                        refine d_skip1 10 rfl rfl (by kernel_rfl) (fun _ _ => rfl) rfl (.no rfl rfl) ?_
                                                        refine d_skip1 11 rfl rfl (by kernel_rfl) (fun _ _ => rfl) rfl (.no rfl rfl) ?_
                                                        refine d_skip1 12 rfl rfl (by kernel_rfl) (fun _ _ => rfl) rfl (.no rfl rfl) ?_
                                                        refine d_skip1 13 rfl rfl (by kernel_rfl) (fun _ _ => rfl) rfl (.no rfl rfl) ?_
                                                        refine d_skip1 14 rfl rfl (by kernel_rfl) (fun _ _ => rfl) rfl (.no rfl rfl) ?_
                                                        refine d_skip1 15 rfl rfl (by kernel_rfl) (fun _ _ => rfl) rfl (.no rfl rfl) ?_
                                                        refine d_val1 16 rfl rfl (by kernel_rfl) (fun _ _ => rfl) .none rfl (p_pick_f rfl rfl) ?_
                                                        refine d_nil (by kernel_rfl) ?_
                                                        refine e_next ?_
                                                        refine c_cond_f rfl ?_
                                                        refine c_exit ?_
                                                        refine e_exit_then ?_
                                                        refine e_exit_then ?_
                                                        refine e_exit_block ?_
                                                        refine e_next ?_
                                                        refine c_seq ?_
                                                        refine c_seq ?_
                                                        refine c_region ?_
                                                        refine r_val .none rfl (p_move rfl) ?_
                                                        refine r_val .none rfl (p_move rfl) ?_
                                                        refine r_val .none rfl (p_leng Try.underlying79 rfl hq) ?_
                                                        have bd_165 := (hq).bound
                                                        refine r_val .none rfl (p_eq rfl rfl) ?_
                                                        refine r_nil ?_
                                                        refine e_next ?_
                                                        refine c_splitd (d := 97) rfl (fun h_166 => ?_) (fun h_166 => ?_)
                                                        · skip
                                                          first
                                                            | (exfalso; first | omega | assumption)
                                                            | (
                                                              refine c_cond_t rfl ?_
                                                              refine c_seq ?_
                                                              refine c_region ?_
                                                              refine r_val .none rfl (p_assign rfl) ?_
                                                              refine r_nil ?_
                                                              refine e_next ?_
                                                              refine c_ret ?_
                                                              refine e_ret_then ?_
                                                              refine e_ret_block ?_
                                                              refine e_ret_then ?_
                                                              refine e_ret_then ?_
                                                              refine e_ret_block ?_
                                                              refine e_ret_then ?_
                                                              refine e_ret_block ?_
                                                              refine e_ret_then ?_
                                                              refine e_ret_then ?_
                                                              refine e_ret_block ?_
                                                              refine e_ret_then ?_
                                                              refine e_ret1 Try.results8 (.tmp rfl .nil) (fun w hm => ⟨?_, hm.since⟩)
                                                              rfl
                                                              )
                                                        · skip
                                                          first
                                                            | (exfalso; first | omega | assumption)
                                                            | (
                                                              refine c_cond_f rfl ?_
                                                              refine c_skip ?_
                                                              refine e_next ?_
                                                              refine c_seq ?_
                                                              refine c_region ?_
                                                              refine r_val .none rfl (p_move rfl) ?_
                                                              refine r_val .none rfl (p_move rfl) ?_
                                                              refine r_iaddr_g .none rfl Try.underlying81 sz109 rfl hS rfl (by first | exact of_decide_eq_true rfl | omega) (fun p_168 o_169 R_167 => ?_)
                                                              refine r_val .none rfl (p_field Try.underlying109 rfl sz3 rfl) ?_
                                                              refine r_val .none rfl (p_ldg (j := 0) Try.underlying3 rfl rfl R_167 (by first | exact of_decide_eq_true rfl | omega) (rfl : _ = Value.int _ _)) ?_
                                                              refine r_val .none rfl (p_ne rfl rfl) ?_
                                                              refine r_nil ?_
                                                              refine e_next ?_
                                                              refine c_splitd (d := 103) rfl (fun h_170 => ?_) (fun h_170 => ?_)
                                                              · skip
                                                                first
                                                                  | (exfalso; first | omega | assumption)
                                                                  | (
                                                                    refine c_cond_t rfl ?_
                                                                    refine c_region ?_
                                                                    refine r_val .none rfl (p_move rfl) ?_
                                                                    refine r_val .none rfl (p_add rfl rfl (by omega)) ?_
                                                                    refine r_val .none rfl (p_assign rfl) ?_
                                                                    refine r_nil ?_
                                                                    refine e_norm_block ?_
                                                                    refine e_next ?_
                                                                    refine c_region ?_
                                                                    refine r_val .none rfl (p_add rfl rfl (by omega)) ?_
                                                                    refine r_val .none rfl (p_move rfl) ?_
                                                                    refine r_nil ?_
                                                                    refine e_round ((j + 1, k + 1, _)) ⟨⟨by dsimp only; omega, ha5.mono (by (try dsimp only); first | (rw [if_pos (decide_eq_true hkd)]; omega) | (rw [if_neg (by simpa using hkd)]; omega)), (hgn2.trans hgn3)⟩, by dsimp only; omega⟩ rfl ⟨rfl, rfl, rfl, rfl, rfl, rfl, rfl, rfl, rfl, rfl, rfl, rfl, rfl, rfl, rfl, rfl, rfl, rfl, rfl, trivial⟩ (.keep (fun _ _ h => h) (.nil))
                                                                    )
                                                              · skip
                                                                first
                                                                  | (exfalso; first | omega | assumption)
                                                                  | (
                                                                    refine c_cond_f rfl ?_
                                                                    refine c_skip ?_
                                                                    refine e_norm_block ?_
                                                                    refine e_next ?_
                                                                    refine c_region ?_
                                                                    refine r_val .none rfl (p_add rfl rfl (by omega)) ?_
                                                                    refine r_val .none rfl (p_move rfl) ?_
                                                                    refine r_nil ?_
                                                                    refine e_round ((j + 1, k, _)) ⟨⟨by dsimp only; omega, ha5.mono (by (try dsimp only); first | (rw [if_pos (decide_eq_true hkd)]; omega) | (rw [if_neg (by simpa using hkd)]; omega)), (hgn2.trans hgn3)⟩, by dsimp only; omega⟩ rfl ⟨rfl, rfl, rfl, rfl, rfl, rfl, rfl, rfl, rfl, rfl, rfl, rfl, rfl, rfl, rfl, rfl, rfl, rfl, rfl, trivial⟩ (.keep (fun _ _ h => h) (.nil))
                                                                    )
                                                              )
                                                        )
                                                  )
                                            )
                                      · skip
                                        have hkd := h_82
                                        first
                                          | (exfalso; first | omega | assumption)
                                          | (
                                            refine c_cond_f rfl ?_
                                            refine c_skip ?_
                                            refine e_next ?_
                                            refine c_seq ?_
                                            refine c_seq ?_
                                            refine c_region ?_
                                            refine r_val .none rfl (p_move rfl) ?_
                                            obtain ⟨n, hn⟩ : ∃ n : Nat, n = (qs2.getD j es14).1.length := ⟨_, rfl⟩
                                            have hst : (qs2.getD j es14).1.take n = stp (decide ((qS.getD i s0).1.h.k = 1)) (qs2.getD j es14).1 := stp_take (fun h => absurd (of_decide_eq_true h) hkd) (fun _ => hn)
                                            refine r_say (d := 14) (v := Value.int .i64 ((n : Nat) : Int)) (congrArg (fun x => some (Value.int .i64 x)) (by omega)) ?_
                                            refine r_say (d := 73) (v := Value.int .i64 ((n : Nat) : Int)) (congrArg (fun x => some (Value.int .i64 x)) (by omega)) ?_
                                            refine r_val .none rfl (p_lt rfl rfl) ?_
                                            refine r_nil ?_
                                            refine e_next ?_
                                            refine c_splitd (d := 74) rfl (fun h_171 => ?_) (fun h_171 => ?_)
                                            · skip
                                              first
                                                | (exfalso; first | omega | assumption)
                                                | (
                                                  refine c_cond_t rfl ?_
                                                  refine c_seq ?_
                                                  refine c_region ?_
                                                  refine r_val .none rfl (p_assign rfl) ?_
                                                  refine r_nil ?_
                                                  refine e_next ?_
                                                  refine c_ret ?_
                                                  refine e_ret_then ?_
                                                  refine e_ret_block ?_
                                                  refine e_ret_then ?_
                                                  refine e_ret_then ?_
                                                  refine e_ret_block ?_
                                                  refine e_ret_then ?_
                                                  refine e_ret_block ?_
                                                  refine e_ret_then ?_
                                                  refine e_ret_then ?_
                                                  refine e_ret_block ?_
                                                  refine e_ret_then ?_
                                                  refine e_ret1 Try.results8 (.tmp rfl .nil) (fun w hm => ⟨?_, hm.since⟩)
                                                  rfl
                                                  )
                                            · skip
                                              first
                                                | (exfalso; first | omega | assumption)
                                                | (
                                                  refine c_cond_f rfl ?_
                                                  refine c_skip ?_
                                                  refine e_next ?_
                                                  refine c_seq ?_
                                                  refine c_block ?_
                                                  refine c_name (d := 5) rfl (fun u_172 hu_172 => ?_)
                                                  refine c_name (d := 7) rfl (fun u_173 hu_173 => ?_)
                                                  refine c_name (d := 8) rfl (fun u_174 hu_174 => ?_)
                                                  refine c_name (d := 9) rfl (fun u_175 hu_175 => ?_)
                                                  refine c_name (d := 10) rfl (fun u_176 hu_176 => ?_)
                                                  refine c_name (d := 13) rfl (fun u_177 hu_177 => ?_)
                                                  refine c_name (d := 14) rfl (fun u_178 hu_178 => ?_)
                                                  refine c_name (d := 47) rfl (fun u_179 hu_179 => ?_)
                                                  refine c_name (d := 48) rfl (fun u_180 hu_180 => ?_)
                                                  refine c_name (d := 49) rfl (fun u_181 hu_181 => ?_)
                                                  refine c_name (d := 50) rfl (fun u_182 hu_182 => ?_)
                                                  refine c_name (d := 51) rfl (fun u_183 hu_183 => ?_)
                                                  refine c_name (d := 52) rfl (fun u_184 hu_184 => ?_)
                                                  refine c_name (d := 53) rfl (fun u_185 hu_185 => ?_)
                                                  refine c_name (d := 54) rfl (fun u_186 hu_186 => ?_)
                                                  refine c_name (d := 55) rfl (fun u_187 hu_187 => ?_)
                                                  refine c_name (d := 56) rfl (fun u_188 hu_188 => ?_)
                                                  refine c_name (d := 57) rfl (fun u_189 hu_189 => ?_)
                                                  refine c_name (d := 58) rfl (fun u_190 hu_190 => ?_)
                                                  refine c_name (d := 59) rfl (fun u_191 hu_191 => ?_)
                                                  refine c_name (d := 60) rfl (fun u_192 hu_192 => ?_)
                                                  refine c_name (d := 61) rfl (fun u_193 hu_193 => ?_)
                                                  refine c_name (d := 62) rfl (fun u_194 hu_194 => ?_)
                                                  refine c_name (d := 63) rfl (fun u_195 hu_195 => ?_)
                                                  refine c_name (d := 64) rfl (fun u_196 hu_196 => ?_)
                                                  refine c_name (d := 65) rfl (fun u_197 hu_197 => ?_)
                                                  refine c_name (d := 66) rfl (fun u_198 hu_198 => ?_)
                                                  refine c_name (d := 67) rfl (fun u_199 hu_199 => ?_)
                                                  refine c_name (d := 68) rfl (fun u_200 hu_200 => ?_)
                                                  refine c_name (d := 69) rfl (fun u_201 hu_201 => ?_)
                                                  refine c_name (d := 70) rfl (fun u_202 hu_202 => ?_)
                                                  refine c_name (d := 73) rfl (fun u_203 hu_203 => ?_)
                                                  refine c_name (d := 74) rfl (fun u_204 hu_204 => ?_)
                                                  refine c_nameL (k := 0) rfl (fun A_205 hA_205 => ?_)
                                                  refine c_loop (σ := Nat × Ghost) (fun s => [(11, Value.int .i64 (s.1 : Nat)), (5, u_172), (7, u_173), (8, u_174), (9, u_175), (10, u_176), (13, u_177), (14, u_178), (47, u_179), (48, u_180), (49, u_181), (50, u_182), (51, u_183), (52, u_184), (53, u_185), (54, u_186), (55, u_187), (56, u_188), (57, u_189), (58, u_190), (59, u_191), (60, u_192), (61, u_193), (62, u_194), (63, u_195), (64, u_196), (65, u_197), (66, u_198), (67, u_199), (68, u_200), (69, u_201), (70, u_202), (73, u_203), (74, u_204)]) (fun s => [A_205]) (fun s => s.2) (fun s => s.1 ≤ a ∧ GNew w nX H2 s.2) (fun s => a - s.1) ((kk, _)) ⟨ha1, GNew.refl _ _ _⟩ rfl ⟨rfl, rfl, rfl, rfl, rfl, rfl, rfl, rfl, rfl, rfl, rfl, rfl, rfl, rfl, rfl, rfl, rfl, rfl, rfl, rfl, rfl, rfl, rfl, rfl, rfl, rfl, rfl, rfl, rfl, rfl, rfl, rfl, rfl, rfl, trivial⟩ (.keep (fun _ _ h => h) (.nil)) (fun s hphi => ?_)
                                                  subst hu_172
                                                  subst hu_173
                                                  subst hu_174
                                                  subst hu_175
                                                  subst hu_176
                                                  subst hu_177
                                                  subst hu_178
                                                  subst hu_179
                                                  subst hu_180
                                                  subst hu_181
                                                  subst hu_182
                                                  subst hu_183
                                                  subst hu_184
                                                  subst hu_185
                                                  subst hu_186
                                                  subst hu_187
                                                  subst hu_188
                                                  subst hu_189
                                                  subst hu_190
                                                  subst hu_191
                                                  subst hu_192
                                                  subst hu_193
                                                  subst hu_194
                                                  subst hu_195
                                                  subst hu_196
                                                  subst hu_197
                                                  subst hu_198
                                                  subst hu_199
                                                  subst hu_200
                                                  subst hu_201
                                                  subst hu_202
                                                  subst hu_203
                                                  subst hu_204
                                                  subst hA_205
                                                  obtain ⟨k, H3⟩ := s
                                                  obtain ⟨hk, hgn3⟩ := hphi
                                                  dsimp only at hk hgn3 ⊢
                                                  replace ht := ht.mono hgn3.le
                                                  replace hs := hs.mono hgn3.le
                                                  replace hF := hF.mono hgn3.le
                                                  replace u_13s := u_13s.mono hgn3.le
                                                  replace u_18 := u_18.mono hgn3.le
                                                  replace hS := hS.mono hgn3.le
                                                  replace hSt := fun p hm0 => (hSt p hm0).mono hgn3.le
                                                  replace hSs := fun p hm0 => (hSs p hm0).mono hgn3.le
                                                  replace hLI := LI.mono hLI hgn3.le
                                                  replace hq0 := hq0.mono hgn3.le
                                                  replace hqp0 := fun p hm0 => (hqp0 p hm0).mono hgn3.le
                                                  replace R_31 := R_31.mono hgn3.le
                                                  replace hq_34 := hq_34.mono hgn3.le
                                                  replace hq := hq.mono hgn3.le
                                                  replace hqp := fun p hm0 => (hqp p hm0).mono hgn3.le
                                                  replace hs_44 := hs_44.mono hgn3.le
                                                  replace hT := hT.mono hgn3.le
                                                  replace hLI2 := LI.mono hLI2 hgn3.le
                                                  replace hq2 := hq2.mono hgn3.le
                                                  replace hqp2 := fun p hm0 => (hqp2 p hm0).mono hgn3.le
                                                  replace R_71 := R_71.mono hgn3.le
                                                  replace hq_74 := hq_74.mono hgn3.le
                                                  replace R_79 := R_79.mono hgn3.le
                                                  refine c_seq ?_
                                                  refine c_seq ?_
                                                  refine c_region_d (fun _ => false) _ mixed (.keep (fun _ _ h => h) (.nil)) ?_
                                                  refine d_val1 0 rfl rfl (by kernel_rfl) (fun _ _ => rfl) .none rfl (p_move rfl) ?_
                                                  refine d_val1 1 rfl rfl (by kernel_rfl) (fun _ _ => rfl) .none rfl (p_move rfl) ?_
                                                  refine d_val1 2 rfl rfl (by kernel_rfl) (fun _ _ => rfl) .none rfl (p_leng Try.underlying79 rfl hq) ?_
                                                  have bd_206 := (hq).bound
                                                  refine d_val1 3 rfl rfl (by kernel_rfl) (fun _ _ => rfl) .none rfl (p_lt rfl rfl) ?_
                                                  refine d_val1 4 rfl rfl (by kernel_rfl) (fun _ _ => rfl) .none rfl (p_move rfl) ?_
                                                  refine d_splitd (d := 79) rfl (fun h_207 => ?_) (fun h_207 => ?_)
                                                  · skip
                                                    first
                                                      | (exfalso; first | omega | assumption)
                                                      | (
                                                        refine d_val1 5 rfl rfl (by kernel_rfl) (fun _ _ => rfl) (.some rfl rfl) rfl (p_move rfl) ?_
                                                        refine d_val1 6 rfl rfl (by kernel_rfl) (fun _ _ => rfl) (.some rfl rfl) rfl (p_move rfl) ?_
                                                        refine d_iaddr_g 7 rfl rfl (by kernel_rfl) (fun _ _ => rfl) (.some rfl rfl) rfl Try.underlying79 sz22 rfl hq rfl (by first | exact of_decide_eq_true rfl | omega) (fun p_209 o_210 R_208 => ?_)
                                                        have hq_211 := hqp _ (getD_mem (i := k) (d := es14) (by omega))
                                                        refine d_val1 8 rfl rfl (by kernel_rfl) (fun _ _ => rfl) (.some rfl rfl) rfl (p_ldg0 Try.underlying22 rfl rfl R_208 (by first | exact of_decide_eq_true rfl | omega) rfl) ?_
                                                        obtain ⟨a_212, c_213, e_214⟩ := SlG.len hq_211
                                                        refine d_say (d := 83) (v := Value.slice a_212 (qs.getD k es14).1.length c_213) (congrArg some e_214) ?_
                                                        rw [e_214] at hq_211
                                                        refine d_val1 10 rfl rfl (by kernel_rfl) (fun _ _ => rfl) (.some rfl rfl) rfl (p_move rfl) ?_
                                                        refine d_val1 11 rfl rfl (by kernel_rfl) (fun _ _ => rfl) (.some rfl rfl) rfl (p_move rfl) ?_
                                                        refine d_slice0 12 n rfl rfl (by kernel_rfl) (fun _ _ => rfl) (.some rfl rfl) rfl Try.underlying22 sz3 rfl hq_74 rfl (by first | exact of_decide_eq_true rfl | omega) (fun v_215 hs_216 => ?_)
                                                        obtain ⟨a_218, c_219, rfl⟩ := SlG.len hs_216
                                                        have hm2 := sl_take (cells := cI) (by omega) hs_216
                                                        refine d_eff2 9 13 rfl rfl (by kernel_rfl) (fun K_220 hKK_220 hcK_220 => ?_) (fun K_220 hKK_220 hcK_220 => ?_)
                                                        · skip
                                                          refine r_bslice (vs := [(0, Value.slice _ _ _)]) (c := #[_]) (.some rfl rfl) rfl Try.underlying79 el22 rfl rfl rfl (bs22_10s3 _ _ _) (IsRow.lit _) (fun b_6 => ?_)
                                                          refine r_freezeB (k := 0) 1 1 rfl rfl (by decide) (fun G_221 hn_222 hs_223 => ?_)
                                                          replace ht := ht.mono hn_222.le
                                                          replace hs := hs.mono hn_222.le
                                                          replace hF := hF.mono hn_222.le
                                                          replace u_13s := u_13s.mono hn_222.le
                                                          replace u_18 := u_18.mono hn_222.le
                                                          replace hS := hS.mono hn_222.le
                                                          replace hSt := fun p hm0 => (hSt p hm0).mono hn_222.le
                                                          replace hSs := fun p hm0 => (hSs p hm0).mono hn_222.le
                                                          replace hLI := LI.mono hLI hn_222.le
                                                          replace hq0 := hq0.mono hn_222.le
                                                          replace hqp0 := fun p hm0 => (hqp0 p hm0).mono hn_222.le
                                                          replace R_31 := R_31.mono hn_222.le
                                                          replace hq_34 := hq_34.mono hn_222.le
                                                          replace hq := hq.mono hn_222.le
                                                          replace hqp := fun p hm0 => (hqp p hm0).mono hn_222.le
                                                          replace hs_44 := hs_44.mono hn_222.le
                                                          replace hT := hT.mono hn_222.le
                                                          replace hLI2 := LI.mono hLI2 hn_222.le
                                                          replace hq2 := hq2.mono hn_222.le
                                                          replace hqp2 := fun p hm0 => (hqp2 p hm0).mono hn_222.le
                                                          replace R_71 := R_71.mono hn_222.le
                                                          replace hq_74 := hq_74.mono hn_222.le
                                                          replace R_79 := R_79.mono hn_222.le
                                                          replace R_208 := R_208.mono hn_222.le
                                                          replace hq_211 := hq_211.mono hn_222.le
                                                          replace hs_216 := hs_216.mono hn_222.le
                                                          replace hm2 := hm2.mono hn_222.le
                                                          have h84 : SlL G_221 (Value.slice (some ⟨b_6, 0, none⟩) 1 1) 1 lC (([] : List Int), Value.slice none 0 0) [((qs.getD k es14).1, Value.slice a_212 (qs.getD k es14).1.length c_213)] := SlG.congr hs_223 (fun i hi j hj => by match i, hi with | 0, _ => (match j, hj with | 0, _ => rfl))
                                                          have Lh84 : LI G_221 (Value.slice (some ⟨b_6, 0, none⟩) 1 1) [(qs.getD k es14).1] := Ls.mk _ h84 (by intro p hm0; simp only [List.mem_cons, List.not_mem_nil, or_false] at hm0; subst hm0; exact hq_211)
                                                          refine r_nil (e_d (i := 9) (brk := (fun _ => false)) (ph' := true) hKK_220 hcK_220 rfl (fun _ => hn_222.le) (fun _ => .keep (fun _ _ h => h) (.nil)) ?_)
                                                          clear hKK_220 hcK_220 K_220
                                                          refine d_eff 13 rfl (by kernel_rfl) (fun K_224 hKK_224 hcK_224 => ?_)
                                                          refine r_bslice (vs := [(0, Value.slice _ _ _)]) (c := #[_]) (.some rfl rfl) rfl Try.underlying79 el22 rfl rfl rfl (bs22_10s3 _ _ _) (IsRow.lit _) (fun b_7 => ?_)
                                                          refine r_freezeB (k := 0) 1 1 rfl rfl (by decide) (fun G_225 hn_226 hs_227 => ?_)
                                                          replace ht := ht.mono hn_226.le
                                                          replace hs := hs.mono hn_226.le
                                                          replace hF := hF.mono hn_226.le
                                                          replace u_13s := u_13s.mono hn_226.le
                                                          replace u_18 := u_18.mono hn_226.le
                                                          replace hS := hS.mono hn_226.le
                                                          replace hSt := fun p hm0 => (hSt p hm0).mono hn_226.le
                                                          replace hSs := fun p hm0 => (hSs p hm0).mono hn_226.le
                                                          replace hLI := LI.mono hLI hn_226.le
                                                          replace hq0 := hq0.mono hn_226.le
                                                          replace hqp0 := fun p hm0 => (hqp0 p hm0).mono hn_226.le
                                                          replace R_31 := R_31.mono hn_226.le
                                                          replace hq_34 := hq_34.mono hn_226.le
                                                          replace hq := hq.mono hn_226.le
                                                          replace hqp := fun p hm0 => (hqp p hm0).mono hn_226.le
                                                          replace hs_44 := hs_44.mono hn_226.le
                                                          replace hT := hT.mono hn_226.le
                                                          replace hLI2 := LI.mono hLI2 hn_226.le
                                                          replace hq2 := hq2.mono hn_226.le
                                                          replace hqp2 := fun p hm0 => (hqp2 p hm0).mono hn_226.le
                                                          replace R_71 := R_71.mono hn_226.le
                                                          replace hq_74 := hq_74.mono hn_226.le
                                                          replace R_79 := R_79.mono hn_226.le
                                                          replace R_208 := R_208.mono hn_226.le
                                                          replace hq_211 := hq_211.mono hn_226.le
                                                          replace hs_216 := hs_216.mono hn_226.le
                                                          replace hm2 := hm2.mono hn_226.le
                                                          replace h84 := h84.mono hn_226.le
                                                          replace Lh84 := LI.mono Lh84 hn_226.le
                                                          have h88 : SlL G_225 (Value.slice (some ⟨b_7, 0, none⟩) 1 1) 1 lC (([] : List Int), Value.slice none 0 0) [((qs2.getD j es14).1.take n, Value.slice a_218 n c_219)] := SlG.congr hs_227 (fun i hi j hj => by match i, hi with | 0, _ => (match j, hj with | 0, _ => rfl))
                                                          have Lh88 : LI G_225 (Value.slice (some ⟨b_7, 0, none⟩) 1 1) [(qs2.getD j es14).1.take n] := Ls.mk _ h88 (by intro p hm0; simp only [List.mem_cons, List.not_mem_nil, or_false] at hm0; subst hm0; exact hm2)
                                                          refine r_nil (e_d (i := 13) (brk := (fun _ => false)) (ph' := true) hKK_224 hcK_224 rfl (fun _ => (hn_222.trans hn_226).le) (fun _ => .keep (fun _ _ h => h) (.nil)) ?_)
                                                          clear hKK_224 hcK_224 K_224
                                                          refine d_eff 14 rfl (by kernel_rfl) (fun K_228 hKK_228 hcK_228 => ?_)
                                                          refine r_call (vs := [_, _]) (.some rfl rfl) rfl cl37 rfl (fun w hw => c_same14 _ _ [(qs.getD k es14).1] [(qs2.getD j es14).1.take n] Lh84 Lh88 w hw) ?_
                                                          refine r_nil (e_d (i := 14) (brk := (fun _ => false)) (ph' := true) hKK_228 hcK_228 rfl (fun _ => (hn_222.trans hn_226).le) (fun _ => .keep (fun _ _ h => h) (.nil)) ?_)
                                                          clear hKK_228 hcK_228 K_228
                                                          refine d_val1 15 rfl rfl (by kernel_rfl) (fun _ _ => rfl) (.some rfl rfl) rfl (p_not rfl) ?_
                                                          refine d_val1 16 rfl rfl (by kernel_rfl) (fun _ _ => rfl) .none rfl (p_pick_t rfl rfl) ?_
                                                          refine d_nil (by kernel_rfl) ?_
                                                          refine e_next ?_
                                                          refine c_splitn (d := 91) rfl (fun h_229 => ?_) (fun h_229 => ?_)
                                                          · skip
                                                            have hNe : ¬ (qs.getD k es14).1 = (qs2.getD j es14).1.take n := by have h0 := h_229; simpa using h0
                                                            have hka : k ≠ a := fun e => hNe (by rw [e, ha3, hst])
                                                            first
                                                              | (exfalso; first | omega | assumption)
                                                              | (
                                                                refine c_cond_t rfl ?_
                                                                refine c_skip ?_
                                                                refine e_next ?_
                                                                refine c_block ?_
                                                                refine c_region ?_
                                                                refine r_val .none rfl (p_move rfl) ?_
                                                                refine r_val .none rfl (p_add rfl rfl (by omega)) ?_
                                                                refine r_val .none rfl (p_assign rfl) ?_
                                                                refine r_nil ?_
                                                                refine e_norm_block ?_
                                                                refine e_round ((k + 1, _)) ⟨⟨by dsimp only; omega, ((hgn3.trans hn_222).trans hn_226)⟩, by dsimp only; omega⟩ rfl ⟨rfl, rfl, rfl, rfl, rfl, rfl, rfl, rfl, rfl, rfl, rfl, rfl, rfl, rfl, rfl, rfl, rfl, rfl, rfl, rfl, rfl, rfl, rfl, rfl, rfl, rfl, rfl, rfl, rfl, rfl, rfl, rfl, rfl, rfl, trivial⟩ (.keep (fun _ _ h => h) (.nil))
                                                                )
                                                          · skip
                                                            have hSm := h_229
                                                            first
                                                              | (exfalso; first | omega | assumption)
                                                              | (
                                                                refine c_cond_f rfl ?_
                                                                refine c_exit ?_
                                                                refine e_exit_then ?_
                                                                refine e_exit_then ?_
                                                                refine e_exit_block ?_
                                                                refine e_next ?_
                                                                refine c_seq ?_
                                                                refine c_seq ?_
                                                                refine c_region ?_
                                                                refine r_val .none rfl (p_move rfl) ?_
                                                                refine r_val .none rfl (p_move rfl) ?_
                                                                refine r_val .none rfl (p_leng Try.underlying79 rfl hq) ?_
                                                                have bd_230 := (hq).bound
                                                                refine r_val .none rfl (p_eq rfl rfl) ?_
                                                                refine r_nil ?_
                                                                refine e_next ?_
                                                                refine c_splitd (d := 97) rfl (fun h_231 => ?_) (fun h_231 => ?_)
                                                                · skip
                                                                  first
                                                                    | (exfalso; first | omega | assumption)
                                                                    | (
                                                                      refine c_cond_t rfl ?_
                                                                      refine c_seq ?_
                                                                      refine c_region ?_
                                                                      refine r_val .none rfl (p_assign rfl) ?_
                                                                      refine r_nil ?_
                                                                      refine e_next ?_
                                                                      refine c_ret ?_
                                                                      refine e_ret_then ?_
                                                                      refine e_ret_block ?_
                                                                      refine e_ret_then ?_
                                                                      refine e_ret_then ?_
                                                                      refine e_ret_block ?_
                                                                      refine e_ret_then ?_
                                                                      refine e_ret_block ?_
                                                                      refine e_ret_then ?_
                                                                      refine e_ret_then ?_
                                                                      refine e_ret_block ?_
                                                                      refine e_ret_then ?_
                                                                      refine e_ret1 Try.results8 (.tmp rfl .nil) (fun w hm => ⟨?_, hm.since⟩)
                                                                      rfl
                                                                      )
                                                                · skip
                                                                  first
                                                                    | (exfalso; first | omega | assumption)
                                                                    | (
                                                                      refine c_cond_f rfl ?_
                                                                      refine c_skip ?_
                                                                      refine e_next ?_
                                                                      refine c_seq ?_
                                                                      refine c_region ?_
                                                                      refine r_val .none rfl (p_move rfl) ?_
                                                                      refine r_val .none rfl (p_move rfl) ?_
                                                                      refine r_iaddr_g .none rfl Try.underlying81 sz109 rfl hS rfl (by first | exact of_decide_eq_true rfl | omega) (fun p_233 o_234 R_232 => ?_)
                                                                      refine r_val .none rfl (p_field Try.underlying109 rfl sz3 rfl) ?_
                                                                      refine r_val .none rfl (p_ldg (j := 0) Try.underlying3 rfl rfl R_232 (by first | exact of_decide_eq_true rfl | omega) (rfl : _ = Value.int _ _)) ?_
                                                                      refine r_val .none rfl (p_ne rfl rfl) ?_
                                                                      refine r_nil ?_
                                                                      refine e_next ?_
                                                                      refine c_splitd (d := 103) rfl (fun h_235 => ?_) (fun h_235 => ?_)
                                                                      · skip
                                                                        first
                                                                          | (exfalso; first | omega | assumption)
                                                                          | (
                                                                            refine c_cond_t rfl ?_
                                                                            refine c_region ?_
                                                                            refine r_val .none rfl (p_move rfl) ?_
                                                                            refine r_val .none rfl (p_add rfl rfl (by omega)) ?_
                                                                            refine r_val .none rfl (p_assign rfl) ?_
                                                                            refine r_nil ?_
                                                                            refine e_norm_block ?_
                                                                            refine e_next ?_
                                                                            refine c_region ?_
                                                                            refine r_val .none rfl (p_add rfl rfl (by omega)) ?_
                                                                            refine r_val .none rfl (p_move rfl) ?_
                                                                            refine r_nil ?_
                                                                            refine e_round ((j + 1, k + 1, _)) ⟨⟨by dsimp only; omega, ha5.mono (by (try dsimp only); first | (rw [if_pos (decide_eq_true hkd)]; omega) | (rw [if_neg (by simpa using hkd)]; omega)), (((hgn2.trans hgn3).trans hn_222).trans hn_226)⟩, by dsimp only; omega⟩ rfl ⟨rfl, rfl, rfl, rfl, rfl, rfl, rfl, rfl, rfl, rfl, rfl, rfl, rfl, rfl, rfl, rfl, rfl, rfl, rfl, trivial⟩ (.keep (fun _ _ h => h) (.nil))
                                                                            )
                                                                      · skip
                                                                        first
                                                                          | (exfalso; first | omega | assumption)
                                                                          | (
                                                                            refine c_cond_f rfl ?_
                                                                            refine c_skip ?_
                                                                            refine e_norm_block ?_
                                                                            refine e_next ?_
                                                                            refine c_region ?_
                                                                            refine r_val .none rfl (p_add rfl rfl (by omega)) ?_
                                                                            refine r_val .none rfl (p_move rfl) ?_
                                                                            refine r_nil ?_
                                                                            refine e_round ((j + 1, k, _)) ⟨⟨by dsimp only; omega, ha5.mono (by (try dsimp only); first | (rw [if_pos (decide_eq_true hkd)]; omega) | (rw [if_neg (by simpa using hkd)]; omega)), (((hgn2.trans hgn3).trans hn_222).trans hn_226)⟩, by dsimp only; omega⟩ rfl ⟨rfl, rfl, rfl, rfl, rfl, rfl, rfl, rfl, rfl, rfl, rfl, rfl, rfl, rfl, rfl, rfl, rfl, rfl, rfl, trivial⟩ (.keep (fun _ _ h => h) (.nil))
                                                                            )
                                                                      )
                                                                )
                                                        · skip
                                                          refine r_bslice (vs := [(0, Value.slice _ _ _)]) (c := #[_]) (.some rfl rfl) rfl Try.underlying79 el22 rfl rfl rfl (bs22_10s3 _ _ _) (IsRow.lit _) (fun b_8 => ?_)
                                                          refine r_freezeB (k := 0) 1 1 rfl rfl (by decide) (fun G_236 hn_237 hs_238 => ?_)
                                                          replace ht := ht.mono hn_237.le
                                                          replace hs := hs.mono hn_237.le
                                                          replace hF := hF.mono hn_237.le
                                                          replace u_13s := u_13s.mono hn_237.le
                                                          replace u_18 := u_18.mono hn_237.le
                                                          replace hS := hS.mono hn_237.le
                                                          replace hSt := fun p hm0 => (hSt p hm0).mono hn_237.le
                                                          replace hSs := fun p hm0 => (hSs p hm0).mono hn_237.le
                                                          replace hLI := LI.mono hLI hn_237.le
                                                          replace hq0 := hq0.mono hn_237.le
                                                          replace hqp0 := fun p hm0 => (hqp0 p hm0).mono hn_237.le
                                                          replace R_31 := R_31.mono hn_237.le
                                                          replace hq_34 := hq_34.mono hn_237.le
                                                          replace hq := hq.mono hn_237.le
                                                          replace hqp := fun p hm0 => (hqp p hm0).mono hn_237.le
                                                          replace hs_44 := hs_44.mono hn_237.le
                                                          replace hT := hT.mono hn_237.le
                                                          replace hLI2 := LI.mono hLI2 hn_237.le
                                                          replace hq2 := hq2.mono hn_237.le
                                                          replace hqp2 := fun p hm0 => (hqp2 p hm0).mono hn_237.le
                                                          replace R_71 := R_71.mono hn_237.le
                                                          replace hq_74 := hq_74.mono hn_237.le
                                                          replace R_79 := R_79.mono hn_237.le
                                                          replace R_208 := R_208.mono hn_237.le
                                                          replace hq_211 := hq_211.mono hn_237.le
                                                          replace hs_216 := hs_216.mono hn_237.le
                                                          replace hm2 := hm2.mono hn_237.le
                                                          have h88 : SlL G_236 (Value.slice (some ⟨b_8, 0, none⟩) 1 1) 1 lC (([] : List Int), Value.slice none 0 0) [((qs2.getD j es14).1.take n, Value.slice a_218 n c_219)] := SlG.congr hs_238 (fun i hi j hj => by match i, hi with | 0, _ => (match j, hj with | 0, _ => rfl))
                                                          have Lh88 : LI G_236 (Value.slice (some ⟨b_8, 0, none⟩) 1 1) [(qs2.getD j es14).1.take n] := Ls.mk _ h88 (by intro p hm0; simp only [List.mem_cons, List.not_mem_nil, or_false] at hm0; subst hm0; exact hm2)
                                                          refine r_nil (e_d (i := 13) (brk := (fun _ => false)) (ph' := true) hKK_220 hcK_220 rfl (fun _ => hn_237.le) (fun _ => .keep (fun _ _ h => h) (.nil)) ?_)
                                                          clear hKK_220 hcK_220 K_220
                                                          refine d_eff 9 rfl (by kernel_rfl) (fun K_239 hKK_239 hcK_239 => ?_)
                                                          refine r_bslice (vs := [(0, Value.slice _ _ _)]) (c := #[_]) (.some rfl rfl) rfl Try.underlying79 el22 rfl rfl rfl (bs22_10s3 _ _ _) (IsRow.lit _) (fun b_9 => ?_)
                                                          refine r_freezeB (k := 0) 1 1 rfl rfl (by decide) (fun G_240 hn_241 hs_242 => ?_)
                                                          replace ht := ht.mono hn_241.le
                                                          replace hs := hs.mono hn_241.le
                                                          replace hF := hF.mono hn_241.le
                                                          replace u_13s := u_13s.mono hn_241.le
                                                          replace u_18 := u_18.mono hn_241.le
                                                          replace hS := hS.mono hn_241.le
                                                          replace hSt := fun p hm0 => (hSt p hm0).mono hn_241.le
                                                          replace hSs := fun p hm0 => (hSs p hm0).mono hn_241.le
                                                          replace hLI := LI.mono hLI hn_241.le
                                                          replace hq0 := hq0.mono hn_241.le
                                                          replace hqp0 := fun p hm0 => (hqp0 p hm0).mono hn_241.le
                                                          replace R_31 := R_31.mono hn_241.le
                                                          replace hq_34 := hq_34.mono hn_241.le
                                                          replace hq := hq.mono hn_241.le
                                                          replace hqp := fun p hm0 => (hqp p hm0).mono hn_241.le
                                                          replace hs_44 := hs_44.mono hn_241.le
                                                          replace hT := hT.mono hn_241.le
                                                          replace hLI2 := LI.mono hLI2 hn_241.le
                                                          replace hq2 := hq2.mono hn_241.le
                                                          replace hqp2 := fun p hm0 => (hqp2 p hm0).mono hn_241.le
                                                          replace R_71 := R_71.mono hn_241.le
                                                          replace hq_74 := hq_74.mono hn_241.le
                                                          replace R_79 := R_79.mono hn_241.le
                                                          replace R_208 := R_208.mono hn_241.le
                                                          replace hq_211 := hq_211.mono hn_241.le
                                                          replace hs_216 := hs_216.mono hn_241.le
                                                          replace hm2 := hm2.mono hn_241.le
                                                          replace h88 := h88.mono hn_241.le
                                                          replace Lh88 := LI.mono Lh88 hn_241.le
                                                          have h84 : SlL G_240 (Value.slice (some ⟨b_9, 0, none⟩) 1 1) 1 lC (([] : List Int), Value.slice none 0 0) [((qs.getD k es14).1, Value.slice a_212 (qs.getD k es14).1.length c_213)] := SlG.congr hs_242 (fun i hi j hj => by match i, hi with | 0, _ => (match j, hj with | 0, _ => rfl))
                                                          have Lh84 : LI G_240 (Value.slice (some ⟨b_9, 0, none⟩) 1 1) [(qs.getD k es14).1] := Ls.mk _ h84 (by intro p hm0; simp only [List.mem_cons, List.not_mem_nil, or_false] at hm0; subst hm0; exact hq_211)
                                                          refine r_nil (e_d (i := 9) (brk := (fun _ => false)) (ph' := true) hKK_239 hcK_239 rfl (fun _ => (hn_237.trans hn_241).le) (fun _ => .keep (fun _ _ h => h) (.nil)) ?_)
                                                          clear hKK_239 hcK_239 K_239
                                                          refine d_eff 14 rfl (by kernel_rfl) (fun K_243 hKK_243 hcK_243 => ?_)
                                                          refine r_call (vs := [_, _]) (.some rfl rfl) rfl cl37 rfl (fun w hw => c_same14 _ _ [(qs.getD k es14).1] [(qs2.getD j es14).1.take n] Lh84 Lh88 w hw) ?_
                                                          refine r_nil (e_d (i := 14) (brk := (fun _ => false)) (ph' := true) hKK_243 hcK_243 rfl (fun _ => (hn_237.trans hn_241).le) (fun _ => .keep (fun _ _ h => h) (.nil)) ?_)
                                                          clear hKK_243 hcK_243 K_243
                                                          refine d_val1 15 rfl rfl (by kernel_rfl) (fun _ _ => rfl) (.some rfl rfl) rfl (p_not rfl) ?_
                                                          refine d_val1 16 rfl rfl (by kernel_rfl) (fun _ _ => rfl) .none rfl (p_pick_t rfl rfl) ?_
                                                          refine d_nil (by kernel_rfl) ?_
                                                          refine e_next ?_
                                                          refine c_splitn (d := 91) rfl (fun h_244 => ?_) (fun h_244 => ?_)
                                                          · skip
                                                            have hNe : ¬ (qs.getD k es14).1 = (qs2.getD j es14).1.take n := by have h0 := h_244; simpa using h0
                                                            have hka : k ≠ a := fun e => hNe (by rw [e, ha3, hst])
                                                            first
                                                              | (exfalso; first | omega | assumption)
                                                              | (
                                                                refine c_cond_t rfl ?_
                                                                refine c_skip ?_
                                                                refine e_next ?_
                                                                refine c_block ?_
                                                                refine c_region ?_
                                                                refine r_val .none rfl (p_move rfl) ?_
                                                                refine r_val .none rfl (p_add rfl rfl (by omega)) ?_
                                                                refine r_val .none rfl (p_assign rfl) ?_
                                                                refine r_nil ?_
                                                                refine e_norm_block ?_
                                                                refine e_round ((k + 1, _)) ⟨⟨by dsimp only; omega, ((hgn3.trans hn_237).trans hn_241)⟩, by dsimp only; omega⟩ rfl ⟨rfl, rfl, rfl, rfl, rfl, rfl, rfl, rfl, rfl, rfl, rfl, rfl, rfl, rfl, rfl, rfl, rfl, rfl, rfl, rfl, rfl, rfl, rfl, rfl, rfl, rfl, rfl, rfl, rfl, rfl, rfl, rfl, rfl, rfl, trivial⟩ (.keep (fun _ _ h => h) (.nil))
                                                                )
                                                          · skip
                                                            have hSm := h_244
                                                            first
                                                              | (exfalso; first | omega | assumption)
                                                              | (
                                                                refine c_cond_f rfl ?_
                                                                refine c_exit ?_
                                                                refine e_exit_then ?_
                                                                refine e_exit_then ?_
                                                                refine e_exit_block ?_
                                                                refine e_next ?_
                                                                refine c_seq ?_
                                                                refine c_seq ?_
                                                                refine c_region ?_
                                                                refine r_val .none rfl (p_move rfl) ?_
                                                                refine r_val .none rfl (p_move rfl) ?_
                                                                refine r_val .none rfl (p_leng Try.underlying79 rfl hq) ?_
                                                                have bd_245 := (hq).bound
                                                                refine r_val .none rfl (p_eq rfl rfl) ?_
                                                                refine r_nil ?_
                                                                refine e_next ?_
                                                                refine c_splitd (d := 97) rfl (fun h_246 => ?_) (fun h_246 => ?_)
                                                                · skip
                                                                  first
                                                                    | (exfalso; first | omega | assumption)
                                                                    | (
                                                                      refine c_cond_t rfl ?_
                                                                      refine c_seq ?_
                                                                      refine c_region ?_
                                                                      refine r_val .none rfl (p_assign rfl) ?_
                                                                      refine r_nil ?_
                                                                      refine e_next ?_
                                                                      refine c_ret ?_
                                                                      refine e_ret_then ?_
                                                                      refine e_ret_block ?_
                                                                      refine e_ret_then ?_
                                                                      refine e_ret_then ?_
                                                                      refine e_ret_block ?_
                                                                      refine e_ret_then ?_
                                                                      refine e_ret_block ?_
                                                                      refine e_ret_then ?_
                                                                      refine e_ret_then ?_
                                                                      refine e_ret_block ?_
                                                                      refine e_ret_then ?_
                                                                      refine e_ret1 Try.results8 (.tmp rfl .nil) (fun w hm => ⟨?_, hm.since⟩)
                                                                      rfl
                                                                      )
                                                                · skip
                                                                  first
                                                                    | (exfalso; first | omega | assumption)
                                                                    | (
                                                                      refine c_cond_f rfl ?_
                                                                      refine c_skip ?_
                                                                      refine e_next ?_
                                                                      refine c_seq ?_
                                                                      refine c_region ?_
                                                                      refine r_val .none rfl (p_move rfl) ?_
                                                                      refine r_val .none rfl (p_move rfl) ?_
                                                                      refine r_iaddr_g .none rfl Try.underlying81 sz109 rfl hS rfl (by first | exact of_decide_eq_true rfl | omega) (fun p_248 o_249 R_247 => ?_)
                                                                      refine r_val .none rfl (p_field Try.underlying109 rfl sz3 rfl) ?_
                                                                      refine r_val .none rfl (p_ldg (j := 0) Try.underlying3 rfl rfl R_247 (by first | exact of_decide_eq_true rfl | omega) (rfl : _ = Value.int _ _)) ?_
                                                                      refine r_val .none rfl (p_ne rfl rfl) ?_
                                                                      refine r_nil ?_
                                                                      refine e_next ?_
                                                                      refine c_splitd (d := 103) rfl (fun h_250 => ?_) (fun h_250 => ?_)
                                                                      · skip
                                                                        first
                                                                          | (exfalso; first | omega | assumption)
                                                                          | (
                                                                            refine c_cond_t rfl ?_
                                                                            refine c_region ?_
                                                                            refine r_val .none rfl (p_move rfl) ?_
                                                                            refine r_val .none rfl (p_add rfl rfl (by omega)) ?_
                                                                            refine r_val .none rfl (p_assign rfl) ?_
                                                                            refine r_nil ?_
                                                                            refine e_norm_block ?_
                                                                            refine e_next ?_
                                                                            refine c_region ?_
                                                                            refine r_val .none rfl (p_add rfl rfl (by omega)) ?_
                                                                            refine r_val .none rfl (p_move rfl) ?_
                                                                            refine r_nil ?_
                                                                            refine e_round ((j + 1, k + 1, _)) ⟨⟨by dsimp only; omega, ha5.mono (by (try dsimp only); first | (rw [if_pos (decide_eq_true hkd)]; omega) | (rw [if_neg (by simpa using hkd)]; omega)), (((hgn2.trans hgn3).trans hn_237).trans hn_241)⟩, by dsimp only; omega⟩ rfl ⟨rfl, rfl, rfl, rfl, rfl, rfl, rfl, rfl, rfl, rfl, rfl, rfl, rfl, rfl, rfl, rfl, rfl, rfl, rfl, trivial⟩ (.keep (fun _ _ h => h) (.nil))
                                                                            )
                                                                      · skip
                                                                        first
                                                                          | (exfalso; first | omega | assumption)
                                                                          | (
                                                                            refine c_cond_f rfl ?_
                                                                            refine c_skip ?_
                                                                            refine e_norm_block ?_
                                                                            refine e_next ?_
                                                                            refine c_region ?_
                                                                            refine r_val .none rfl (p_add rfl rfl (by omega)) ?_
                                                                            refine r_val .none rfl (p_move rfl) ?_
                                                                            refine r_nil ?_
                                                                            refine e_round ((j + 1, k, _)) ⟨⟨by dsimp only; omega, ha5.mono (by (try dsimp only); first | (rw [if_pos (decide_eq_true hkd)]; omega) | (rw [if_neg (by simpa using hkd)]; omega)), (((hgn2.trans hgn3).trans hn_237).trans hn_241)⟩, by dsimp only; omega⟩ rfl ⟨rfl, rfl, rfl, rfl, rfl, rfl, rfl, rfl, rfl, rfl, rfl, rfl, rfl, rfl, rfl, rfl, rfl, rfl, rfl, trivial⟩ (.keep (fun _ _ h => h) (.nil))
                                                                            )
                                                                      )
                                                                )
                                                        )
                                                  · skip
                                                    first
                                                      | (exfalso; first | omega | assumption)
                                                      | (
                                                        refine d_skip1 5 rfl rfl (by kernel_rfl) (fun _ _ => rfl) rfl (.no rfl rfl) ?_
                                                        refine d_skip1 6 rfl rfl (by kernel_rfl) (fun _ _ => rfl) rfl (.no rfl rfl) ?_
                                                        refine d_skip1 7 rfl rfl (by kernel_rfl) (fun _ _ => rfl) rfl (.no rfl rfl) ?_
                                                        refine d_skip1 8 rfl rfl (by kernel_rfl) (fun _ _ => rfl) rfl (.no rfl rfl) ?_
                                                        refine d_skip1 9 rfl rfl (by kernel_rfl) (fun _ _ => rfl) rfl (.no rfl rfl) ?_
                                                        refine d_skip1 10 rfl rfl (by kernel_rfl) (fun _ _ => rfl) rfl (.no rfl rfl) ?_
                                                        refine d_skip1 11 rfl rfl (by kernel_rfl) (fun _ _ => rfl) rfl (.no rfl rfl) ?_
                                                        refine d_skip1 12 rfl rfl (by kernel_rfl) (fun _ _ => rfl) rfl (.no rfl rfl) ?_
                                                        refine d_skip1 13 rfl rfl (by kernel_rfl) (fun _ _ => rfl) rfl (.no rfl rfl) ?_
                                                        refine d_skip1 14 rfl rfl (by kernel_rfl) (fun _ _ => rfl) rfl (.no rfl rfl) ?_
                                                        refine d_skip1 15 rfl rfl (by kernel_rfl) (fun _ _ => rfl) rfl (.no rfl rfl) ?_
                                                        refine d_val1 16 rfl rfl (by kernel_rfl) (fun _ _ => rfl) .none rfl (p_pick_f rfl rfl) ?_
                                                        refine d_nil (by kernel_rfl) ?_
                                                        refine e_next ?_
                                                        refine c_cond_f rfl ?_
                                                        refine c_exit ?_
                                                        refine e_exit_then ?_
                                                        refine e_exit_then ?_
                                                        refine e_exit_block ?_
                                                        refine e_next ?_
                                                        refine c_seq ?_
                                                        refine c_seq ?_
                                                        refine c_region ?_
                                                        refine r_val .none rfl (p_move rfl) ?_
                                                        refine r_val .none rfl (p_move rfl) ?_
                                                        refine r_val .none rfl (p_leng Try.underlying79 rfl hq) ?_
                                                        have bd_251 := (hq).bound
                                                        refine r_val .none rfl (p_eq rfl rfl) ?_
                                                        refine r_nil ?_
                                                        refine e_next ?_
                                                        refine c_splitd (d := 97) rfl (fun h_252 => ?_) (fun h_252 => ?_)
                                                        · skip
                                                          first
                                                            | (exfalso; first | omega | assumption)
                                                            | (
                                                              refine c_cond_t rfl ?_
                                                              refine c_seq ?_
                                                              refine c_region ?_
                                                              refine r_val .none rfl (p_assign rfl) ?_
                                                              refine r_nil ?_
                                                              refine e_next ?_
                                                              refine c_ret ?_
                                                              refine e_ret_then ?_
                                                              refine e_ret_block ?_
                                                              refine e_ret_then ?_
                                                              refine e_ret_then ?_
                                                              refine e_ret_block ?_
                                                              refine e_ret_then ?_
                                                              refine e_ret_block ?_
                                                              refine e_ret_then ?_
                                                              refine e_ret_then ?_
                                                              refine e_ret_block ?_
                                                              refine e_ret_then ?_
                                                              refine e_ret1 Try.results8 (.tmp rfl .nil) (fun w hm => ⟨?_, hm.since⟩)
                                                              rfl
                                                              )
                                                        · skip
                                                          first
                                                            | (exfalso; first | omega | assumption)
                                                            | (
                                                              refine c_cond_f rfl ?_
                                                              refine c_skip ?_
                                                              refine e_next ?_
                                                              refine c_seq ?_
                                                              refine c_region ?_
                                                              refine r_val .none rfl (p_move rfl) ?_
                                                              refine r_val .none rfl (p_move rfl) ?_
                                                              refine r_iaddr_g .none rfl Try.underlying81 sz109 rfl hS rfl (by first | exact of_decide_eq_true rfl | omega) (fun p_254 o_255 R_253 => ?_)
                                                              refine r_val .none rfl (p_field Try.underlying109 rfl sz3 rfl) ?_
                                                              refine r_val .none rfl (p_ldg (j := 0) Try.underlying3 rfl rfl R_253 (by first | exact of_decide_eq_true rfl | omega) (rfl : _ = Value.int _ _)) ?_
                                                              refine r_val .none rfl (p_ne rfl rfl) ?_
                                                              refine r_nil ?_
                                                              refine e_next ?_
                                                              refine c_splitd (d := 103) rfl (fun h_256 => ?_) (fun h_256 => ?_)
                                                              · skip
                                                                first
                                                                  | (exfalso; first | omega | assumption)
                                                                  | (
                                                                    refine c_cond_t rfl ?_
                                                                    refine c_region ?_
                                                                    refine r_val .none rfl (p_move rfl) ?_
                                                                    refine r_val .none rfl (p_add rfl rfl (by omega)) ?_
                                                                    refine r_val .none rfl (p_assign rfl) ?_
                                                                    refine r_nil ?_
                                                                    refine e_norm_block ?_
                                                                    refine e_next ?_
                                                                    refine c_region ?_
                                                                    refine r_val .none rfl (p_add rfl rfl (by omega)) ?_
                                                                    refine r_val .none rfl (p_move rfl) ?_
                                                                    refine r_nil ?_
                                                                    refine e_round ((j + 1, k + 1, _)) ⟨⟨by dsimp only; omega, ha5.mono (by (try dsimp only); first | (rw [if_pos (decide_eq_true hkd)]; omega) | (rw [if_neg (by simpa using hkd)]; omega)), (hgn2.trans hgn3)⟩, by dsimp only; omega⟩ rfl ⟨rfl, rfl, rfl, rfl, rfl, rfl, rfl, rfl, rfl, rfl, rfl, rfl, rfl, rfl, rfl, rfl, rfl, rfl, rfl, trivial⟩ (.keep (fun _ _ h => h) (.nil))
                                                                    )
                                                              · skip
                                                                first
                                                                  | (exfalso; first | omega | assumption)
                                                                  | (
                                                                    refine c_cond_f rfl ?_
                                                                    refine c_skip ?_
                                                                    refine e_norm_block ?_
                                                                    refine e_next ?_
                                                                    refine c_region ?_
                                                                    refine r_val .none rfl (p_add rfl rfl (by omega)) ?_
                                                                    refine r_val .none rfl (p_move rfl) ?_
                                                                    refine r_nil ?_
                                                                    refine e_round ((j + 1, k, _)) ⟨⟨by dsimp only; omega, ha5.mono (by (try dsimp only); first | (rw [if_pos (decide_eq_true hkd)]; omega) | (rw [if_neg (by simpa using hkd)]; omega)), (hgn2.trans hgn3)⟩, by dsimp only; omega⟩ rfl ⟨rfl, rfl, rfl, rfl, rfl, rfl, rfl, rfl, rfl, rfl, rfl, rfl, rfl, rfl, rfl, rfl, rfl, rfl, rfl, trivial⟩ (.keep (fun _ _ h => h) (.nil))
                                                                    )
                                                              )
                                                        )
                                                  )
                                            )
                                      )
                                · skip
                                  first
                                    | (exfalso; first | omega | assumption)
                                    | (
                                      refine c_cond_f rfl ?_
                                      refine c_exit ?_
                                      refine e_exit_then ?_
                                      refine e_exit_then ?_
                                      refine e_exit_block ?_
                                      refine e_next ?_
                                      refine c_region ?_
                                      refine r_val .none rfl (p_move rfl) ?_
                                      refine r_val .none rfl (p_assign rfl) ?_
                                      refine r_nil ?_
                                      refine e_norm_block ?_
                                      refine e_next ?_
                                      refine c_region ?_
                                      refine r_val .none rfl (p_add rfl rfl (by omega)) ?_
                                      refine r_val .none rfl (p_move rfl) ?_
                                      refine r_nil ?_
                                      refine e_round ((i + 1, _, _)) ⟨⟨by dsimp only; omega, hLI2, ((hgn.trans hn_47).trans hgn2)⟩, by dsimp only; omega⟩ rfl ⟨rfl, rfl, rfl, rfl, rfl, trivial⟩ (.keep (fun _ _ h => h) (.nil))
                                      )
                                )
                          · skip
                            first
                              | (exfalso; first | omega | assumption)
                              | (
                                refine c_cond_f rfl ?_
                                refine c_exit ?_
                                refine e_exit_then ?_
                                refine e_exit_then ?_
                                refine e_exit_block ?_
                                refine e_next ?_
                                refine c_seq ?_
                                refine c_region ?_
                                refine r_call (vs := []) .none rfl cl31 rfl (fun w hw => c_awake14 w) ?_
                                refine r_val .none rfl (p_assign rfl) ?_
                                refine r_nil ?_
                                refine e_next ?_
                                refine c_ret ?_
                                refine e_ret1 Try.results8 (.tmp rfl .nil) (fun w hm => ⟨?_, hm.since⟩)
                                rfl
                                )
                          )
                    )
              )
        )
end Go.Proofs.Ytpadfgomhojjnaa

/- Walks: what Go functions of this chapter come to, each as a function on plain data; no condition but those that each theorem names. Printed by a program of this work (gen.py). -/
namespace Go.Proofs.Ytpadfgomhojjnaa
open Go.Gx Go.Gx.T3 Go.Gx.T4 Go.Gx.T3 Go.ChangeShapes Go.WideShapes Go.ChangeAt Go.RowKit

theorem open_cond_l : leafT Try.prog 10 97 = some [3, 4, 3, 4, 3, 4, 3, 67] := by kernel_rfl
theorem open_cond_n {H : Type} {enc : TypeId × Value → H} {W : World} {base : Nat} {sp : Nat → Bool} {held : Bool} : ∀ (B n : Nat) (cs : List Value) (x : DataW H × List MemPlace), n ≤ B → DataW.trod enc Try.prog W base sp held n 97 cs = some x → ∃ a : CT × Value, cs = cvC a ∧ Cs (GW W) a.2 a.1.subs
  | 0, n, cs, x, hn, h => by
    obtain rfl : n = 0 := by omega
    simp [DataW.trod] at h
  | B + 1, n, cs, x, hn, h => by
    obtain ⟨n', rfl, hl⟩ := leavesB_struct 9 Try.underlying97 open_cond_l h
    obtain ⟨x0, r0, e0, f0, g0⟩ := hl.inv
    obtain ⟨a0, rfl, _⟩ := f0.leaf.int Try.underlying3
    obtain ⟨x1, r1, e1, f1, g1⟩ := g0.inv
    obtain ⟨a1, rfl⟩ := f1.leaf.bool Try.underlying4
    obtain ⟨x2, r2, e2, f2, g2⟩ := g1.inv
    obtain ⟨a2, rfl, _⟩ := f2.leaf.int Try.underlying3
    obtain ⟨x3, r3, e3, f3, g3⟩ := g2.inv
    obtain ⟨a3, rfl⟩ := f3.leaf.bool Try.underlying4
    obtain ⟨x4, r4, e4, f4, g4⟩ := g3.inv
    obtain ⟨a4, rfl, _⟩ := f4.leaf.int Try.underlying3
    obtain ⟨x5, r5, e5, f5, g5⟩ := g4.inv
    obtain ⟨a5, rfl⟩ := f5.leaf.bool Try.underlying4
    obtain ⟨x6, r6, e6, f6, g6⟩ := g5.inv
    obtain ⟨a6, rfl, _⟩ := f6.leaf.int Try.underlying3
    obtain ⟨x7, r7, e7, f7, g7⟩ := g6.inv
    have z := g7.inv0
    obtain ⟨l, h1, h2⟩ := open_slB (cells := cvC) (Qa := fun a => Cs (GW W) a.2 a.1.subs) d0 Try.underlying67 (show Program.cellsOf Try.prog 97 = 8 by kernel_rfl) (by decide) (fun m cs' y hm hy => open_cond_n B m cs' y (by omega) hy) f7
    refine ⟨(CT.mk ⟨a0, a1, a2, a3, a4, a5, a6⟩ (l.map Prod.fst), x7), ?_, Tr.mk l h1 h2⟩
    rw [e0, e1, e2, e3, e4, e5, e6, e7, z]; rfl
end Go.Proofs.Ytpadfgomhojjnaa

/- Walks: what Go functions of this chapter come to, each as a function on plain data; no condition but those that each theorem names. Printed by a program of this work (gen.py). -/
namespace Go.Proofs.Ytpadfgomhojjnaa
open Go.Gx Go.Gx.T1 Go.Gx.T3 Go.Gx.T4 Go.Gx.T3 Go.Gx.T5 Go.Gx.T1 Go.Gx.T8 Go.Gx.T6 Go.Gx.T4 Go.Gx.T3 Go.Gx.T6 Go.Gx.T8 Go.Gx.T4 Go.Gx.T3 Go.Gx.T8 Go.Gx.T4 Go.Gx.T3 Go.Gx.T8 Go.Gx.T6 Go.Gx.T4 Go.Gx.T3

theorem open_rule_l : leafT Try.prog 10 69 = some [9, 67] := by kernel_rfl
set_option maxRecDepth 100000 in
theorem open_rule {H : Type} {enc : TypeId × Value → H} {W : World} {base : Nat} {sp : Nat → Bool} {held : Bool} {r : Reach} {b0 : Nat} {v : Value} {y : DataW H} {ps : List MemPlace} (hv : Value.okWide Try.prog W r b0 69 v) (h : DataW.Trod enc Try.prog W base sp held 69 v y ps) : ∃ (nm : ByteArray) (cv : Value) (l : List CT), v = Value.agg #[Value.string nm, cv] ∧ Cs (GW W) cv l := by
  obtain ⟨cs, rfl⟩ := agg_of_wide Try.underlying69 rfl hv
  obtain ⟨fuel, hf⟩ := h
  cases fuel with
  | zero => simp [DataW.trod] at hf
  | succ B =>
    obtain ⟨n', _, hl⟩ := leavesB_struct 9 Try.underlying69 open_rule_l hf
    obtain ⟨x0, r0, e0, f0, g0⟩ := hl.inv
    obtain ⟨a0, rfl, _⟩ := f0.leaf.string Try.underlying9
    obtain ⟨x1, r1, e1, f1, g1⟩ := g0.inv
    have z := g1.inv0
    obtain ⟨l, h1, h2⟩ := open_slB (cells := cvC) (Qa := fun a => Cs (GW W) a.2 a.1.subs) d0 Try.underlying67 (show Program.cellsOf Try.prog 97 = 8 by kernel_rfl) (by decide) (fun m cs' y hm hy => open_cond_n m m cs' y (Nat.le_refl _) hy) f1
    refine ⟨a0, x1, l.map Prod.fst, ?_, Tr.mk l h1 h2⟩
    have : cs = #[Value.string a0, x1] := by apply Array.ext'; rw [show (Value.agg cs).cells.toList = cs.toList from rfl] at e0; rw [e0, e1, z]
    rw [this]
end Go.Proofs.Ytpadfgomhojjnaa
