/- Walks: what Go functions of this chapter come to, each as a function on plain data; no condition but those that each theorem names. Printed by a program of this work (gen.py). -/
import Derived.Test.YtoflaphnlfggkaaW08n
import Derived.Test.YtoflaphnlfggkaaPl06c
import Derived.Test.YtoflaphnlfggkaaRows
namespace Go.Proofs.Ytoflaphnlfggkaa
open Go.Gx Go.Gx.T4 Go.Gx.T3 Go.Gx.T6 Go.Gx.T8 Go.Gx.T4 Go.Gx.T3 Go.Gx.T8 Go.Gx.T4 Go.Gx.T3 Go.Gx.T8 Go.Gx.T6 Go.Gx.T4 Go.Gx.T3
theorem cl11 : Callable Try.prog 11 := callable Try.func11 (by kernel_rfl) rfl
theorem cl20 : Callable Try.prog 20 := callable Try.func20 (by kernel_rfl) rfl
theorem cl22 : Callable Try.prog 22 := callable Try.func22 (by kernel_rfl) rfl
theorem cl23 : Callable Try.prog 23 := callable Try.func23 (by kernel_rfl) rfl
theorem c_CompNames (v : Value) (l : List CT) (kk : Int) {G : Ghost} (hs : Cs G v l) (hkk : 0 ≤ kk ∧ kk ≤ 255) (w : World) (hG : Has G w) :
    Calls Try.prog 6 #[v, Value.int .u8 kk] w (Ret fun r w' => r = Value.bool true ∧ Since nX w w') := by
  refine enter (args := [_, _]) (X := nX) (G := G) (l := [(0, v), (1, Value.int .u8 kk)]) Try.func6 rfl Try.ntmps6 hG ⟨rfl, rfl, trivial⟩ (Nat.le_of_ble_eq_true rfl) ?_
  obtain ⟨rs, hr, hp, hl⟩ := hs.inv
  have hlr : l.length = rs.length := by rw [hl]; simp
  have hbd := hr.bound
  refine c_seq ?_
  refine c_region ?_
  refine r_val .none rfl (p_assign rfl) ?_
  refine r_nil ?_
  refine e_next ?_
  refine c_seq ?_
  refine c_seq ?_
  refine c_region ?_
  refine r_val .none rfl (p_move rfl) ?_
  refine r_call (vs := [_]) .none rfl cl11 rfl (fun w hw => c_fine6 _ _ hs w hw) ?_
  refine r_val .none rfl (p_not rfl) ?_
  refine r_nil ?_
  refine e_next ?_
  refine c_splitn (d := 10) rfl (fun h_1 => ?_) (fun h_1 => ?_)
  · skip
    first
      | (exfalso; first | omega | assumption)
      | (
        refine c_cond_t rfl ?_
        refine c_seq ?_
        refine c_region ?_
        refine r_call (vs := []) .none rfl cl20 rfl (fun w hw => c_awake8 w) ?_
        refine r_val .none rfl (p_assign rfl) ?_
        refine r_nil ?_
        refine e_next ?_
        refine c_ret ?_
        refine e_ret_then ?_
        refine e_ret1 Try.results6 (.tmp rfl .nil) (fun w hm => ⟨?_, hm.since⟩)
        first
        | rfl
        | exact congrArg Value.bool (by rw [tn_same hfy.1, (seqL_iff _ _).2 rfl]; rfl)
        )
  · skip
    have hf : fineL l = true := h_1
    have hfy := fineL_yes hf
    have hsz : sizeL l ≤ 1000 := by omega
    have hll := sizeL_len l
    have hflat := flat_all_of hfy.1
    have hoL := ok_all hfy.1
    have hss6 : sszL (stepsOf [] l) ≤ 64 := Nat.le_trans (sszL_of l []) (by omega)
    have hss : sszL (stepsOf [] l) ≤ 5000 := by omega
    have hss2 : sszL (stepsOf [] (tnL (kk % 32) l)) ≤ 5000 := by rw [tn_same hfy.1]; exact hss
    first
      | (exfalso; first | omega | assumption)
      | (
        refine c_cond_f rfl ?_
        refine c_skip ?_
        refine e_next ?_
        refine c_seq ?_
        refine c_region ?_
        refine r_val .none rfl (p_assign rfl) ?_
        refine r_nil ?_
        refine e_next ?_
        refine c_seq ?_
        refine c_seq ?_
        refine c_region ?_
        refine r_val .none rfl (p_move rfl) ?_
        refine r_val .none rfl (p_leng Try.underlying22 rfl hr) ?_
        have bd_2 := (hr).bound
        refine r_val .none rfl (p_move rfl) ?_
        refine r_nil ?_
        refine e_next ?_
        refine c_block ?_
        refine c_nilrow 38 8 ?_
        refine c_name (d := 0) rfl (fun u_3 hu_3 => ?_)
        refine c_name (d := 1) rfl (fun u_4 hu_4 => ?_)
        refine c_name (d := 4) rfl (fun u_5 hu_5 => ?_)
        refine c_name (d := 12) rfl (fun u_6 hu_6 => ?_)
        refine c_name (d := 13) rfl (fun u_7 hu_7 => ?_)
        refine c_loop (σ := Nat × Value × List (CT × Value) × Ghost) (fun s => [(14, Value.int .i64 (s.1 : Nat)), (5, s.2.1), (0, u_3), (1, u_4), (4, u_5), (12, u_6), (13, u_7)]) (fun s => [rowA (s.2.1) 38 8 (s.2.2.1).length ((s.2.2.1).flatMap cvC)]) (fun s => s.2.2.2) (fun s => s.1 ≤ rs.length ∧ s.2.2.1.map Prod.fst = tnL (kk % 32) ((rs.map Prod.fst).take s.1) ∧ (∀ p ∈ s.2.2.1, Cs s.2.2.2 p.2 p.1.subs) ∧ GNew w nX G s.2.2.2) (fun s => rs.length - s.1) ((0, _, [], _)) ⟨Nat.zero_le _, rfl, by simp, GNew.refl _ _ _⟩ rfl ⟨rfl, rfl, rfl, rfl, rfl, rfl, rfl, trivial⟩ (.keep (fun _ _ h => rowA_nil rfl _ _ h) (.nil)) (fun s hphi => ?_)
        subst hu_3
        subst hu_4
        subst hu_5
        subst hu_6
        subst hu_7
        obtain ⟨k, v, qs, H⟩ := s
        obtain ⟨hk, hq, hqs, hgn⟩ := hphi
        dsimp only at hk hq hqs hgn ⊢
        have hql : qs.length ≤ k := (by have := congrArg List.length hq; rw [tnL_len] at this; simp at this; omega)
        replace hr := hr.mono hgn.le
        replace hs := hs.mono hgn.le
        replace hp := fun p hm0 => (hp p hm0).mono hgn.le
        refine c_seq ?_
        refine c_region ?_
        refine r_val .none rfl (p_lt rfl rfl) ?_
        refine r_nil ?_
        refine e_next ?_
        refine c_seq ?_
        refine c_splitd (d := 15) rfl (fun h_8 => ?_) (fun h_8 => ?_)
        · skip
          first
            | (exfalso; first | omega | assumption)
            | (
              refine c_cond_t rfl ?_
              refine c_skip ?_
              refine e_next ?_
              refine c_seq ?_
              refine c_block ?_
              refine c_seq ?_
              refine c_region ?_
              refine r_iaddr_g .none rfl Try.underlying22 sz38 rfl hr rfl (by first | exact of_decide_eq_true rfl | omega) (fun p_10 o_11 R_9 => ?_)
              have hc_12 := hp _ (getD_mem (i := k) (d := d0) (by omega))
              have hz3 : size (rs.getD k d0).1 ≤ 1000 := Nat.le_trans (sizeL_mem (by rw [hl]; exact List.mem_map.2 ⟨_, getD_mem (i := k) (d := d0) (by omega), rfl⟩)) hsz
              have hok3 := okCL_at (k := k) (by rw [← hl]; exact hoL) (by omega)
              refine r_val .none rfl (p_ldga0 Try.underlying38 rfl sz38 rfl R_9 (by first | exact of_decide_eq_true rfl | omega) (rfl : _ = Value.agg #[_, _, _, _, _, _, _, _])) ?_
              refine r_alloc .none rfl zr38 (IsRow.lit _) (fun b_1 => ?_)
              refine r_stw (k := 0) .none sz38 rfl rfl (IsRow.lit _) (one_lit rfl (all_cons rfl (all_cons rfl (all_cons rfl (all_cons rfl (all_cons rfl (all_cons rfl (all_cons rfl (all_cons (hc_12).one rfl))))))))) rfl ?_
              refine r_nil ?_
              refine e_next ?_
              refine c_region ?_
              refine r_val .none rfl (p_move rfl) ?_
              refine r_val .none rfl (p_ldw (k := 0) Try.underlying38 rfl sz38 rfl rfl (rfl : _ = Value.agg #[_, _, _, _, _, _, _, _])) ?_
              refine r_val .none rfl (p_move rfl) ?_
              refine r_val .none rfl (p_conv Try.underlying5 Try.underlying3 rfl (IntWalk.i64_in _ (by omega))) ?_
              refine r_val .none rfl (p_rem rfl rfl (by omega)) ?_
              refine r_callm (vs := [_, _]) .none rfl cl21 rfl (fun w hw => c_turn (rs.getD k d0).1 _ _ ⟨⟨hz3, hok3⟩, by omega⟩ hc_12 w hw) (fun G_13 v_16 hn_14 hr_15 => ?_)
              replace hr := hr.mono hn_14.le
              replace hs := hs.mono hn_14.le
              replace hp := fun p hm0 => (hp p hm0).mono hn_14.le
              replace hqs := fun p hm0 => (hqs p hm0).mono hn_14.le
              replace R_9 := R_9.mono hn_14.le
              replace hc_12 := hc_12.mono hn_14.le
              obtain ⟨u_17, rfl, u_17s⟩ := hr_15
              refine r_bslice (vs := [(0, Value.agg #[_, _, _, _, _, _, _, _])]) (c := #[_, _, _, _, _, _, _, _]) .none rfl Try.underlying22 el38 rfl rfl rfl (bs38_10a8 _ _ _ _ _ _ _ _) (IsRow.lit _) (fun b_2 => ?_)
              refine r_append (k := 2) (k2 := 0) .none rfl Try.underlying22 el38 rfl (by decide) rfl rfl rfl rfl rfl (one_lit rfl (all_cons rfl (all_cons rfl (all_cons rfl (all_cons rfl (all_cons rfl (all_cons rfl (all_cons rfl (all_cons (u_17s).one rfl))))))))) (by simp only [maxLen]; omega) (by omega) (fun v_18 => ?_)
              refine r_row1 (k := 2) rfl (fun o_19 => ?_)
              refine r_val .none rfl (p_assign rfl) ?_
              refine r_nil ?_
              refine e_norm_block ?_
              refine e_next ?_
              refine c_region ?_
              refine r_val .none rfl (p_add rfl rfl (by omega)) ?_
              refine r_val .none rfl (p_move rfl) ?_
              refine r_nil ?_
              refine e_round ((k + 1, _, qs ++ [(tn (kk % 32) (rs.getD k d0).1, u_17)], _)) ⟨⟨by dsimp only; omega, by rw [tnL_take (by omega), List.map_append, hq]; rfl, (fun p hp' => by rcases List.mem_append.1 hp' with h | h; exact hqs p h; rw [List.mem_singleton.1 h]; exact u_17s), (hgn.trans hn_14)⟩, by dsimp only; omega⟩ rfl ⟨rfl, rfl, rfl, rfl, rfl, rfl, rfl, trivial⟩ (.drop (.drop (.keep (fun _ _ h => rowA_snoc (l := qs) (x := (tn (kk % 32) (rs.getD k d0).1, u_17)) rfl rfl rfl rfl _ _ h) (.nil))))
              )
        · skip
          first
            | (exfalso; first | omega | assumption)
            | (
              refine c_cond_f rfl ?_
              refine c_exit ?_
              refine e_exit_then ?_
              refine e_exit_then ?_
              refine e_exit_block ?_
              refine e_next ?_
              refine c_seq ?_
              refine c_region ?_
              refine r_freeze (k := 0) rfl (fun G_20 hn_21 hs_22 => ?_)
              replace hr := hr.mono hn_21.le
              replace hs := hs.mono hn_21.le
              replace hp := fun p hm0 => (hp p hm0).mono hn_21.le
              replace hqs := fun p hm0 => (hqs p hm0).mono hn_21.le
              have hfz : Cs G_20 v (tnL (kk % 32) l) := by rw [show tnL (kk % 32) l = qs.map Prod.fst by rw [hq, hl, List.take_of_length_le (by simp; omega)]]; exact Tr.mk qs (SlL.of d0 (fun _ => rfl) rfl hs_22) hqs
              refine r_val .none rfl (p_move rfl) ?_
              refine r_callf (vs := [_]) .none rfl cl24 rfl (fun _ _ _ hle hz => hz.mono hle) (fun w hw => c_ccomp _ _ hsz hs w hw) (fun G_23 v_26 hn_24 hr_25 => ?_)
              replace hr := hr.mono hn_24.le
              replace hs := hs.mono hn_24.le
              replace hp := fun p hm0 => (hp p hm0).mono hn_24.le
              replace hqs := fun p hm0 => (hqs p hm0).mono hn_24.le
              replace hfz := hfz.mono hn_24.le
              have u_27 := (hr_25).mono (fr_le _ _)
              refine r_callm (vs := [_]) .none rfl cl23 rfl (fun w hw => c_srefs _ _ hss u_27 w hw) (fun G_28 v_31 hn_29 hr_30 => ?_)
              replace hr := hr.mono hn_29.le
              replace hs := hs.mono hn_29.le
              replace hp := fun p hm0 => (hp p hm0).mono hn_29.le
              replace hqs := fun p hm0 => (hqs p hm0).mono hn_29.le
              replace hfz := hfz.mono hn_29.le
              replace u_27 := u_27.mono hn_29.le
              have u_32 := hr_30
              refine r_val .none rfl (p_move rfl) ?_
              refine r_callf (vs := [_]) .none rfl cl24 rfl (fun _ _ _ hle hz => hz.mono hle) (fun w hw => c_ccomp _ _ (by rw [tnL_size]; exact hsz) hfz w hw) (fun G_33 v_36 hn_34 hr_35 => ?_)
              replace hr := hr.mono hn_34.le
              replace hs := hs.mono hn_34.le
              replace hp := fun p hm0 => (hp p hm0).mono hn_34.le
              replace hqs := fun p hm0 => (hqs p hm0).mono hn_34.le
              replace hfz := hfz.mono hn_34.le
              replace u_27 := u_27.mono hn_34.le
              replace u_32 := u_32.mono hn_34.le
              have u_37 := (hr_35).mono (fr_le _ _)
              refine r_callm (vs := [_]) .none rfl cl23 rfl (fun w hw => c_srefs _ _ hss2 u_37 w hw) (fun G_38 v_41 hn_39 hr_40 => ?_)
              replace hr := hr.mono hn_39.le
              replace hs := hs.mono hn_39.le
              replace hp := fun p hm0 => (hp p hm0).mono hn_39.le
              replace hqs := fun p hm0 => (hqs p hm0).mono hn_39.le
              replace hfz := hfz.mono hn_39.le
              replace u_27 := u_27.mono hn_39.le
              replace u_32 := u_32.mono hn_39.le
              replace u_37 := u_37.mono hn_39.le
              have u_42 := hr_40
              refine r_call (vs := [_, _]) .none rfl cl22 rfl (fun w hw => c_all8 _ _ _ _ u_32 u_42 w hw) ?_
              refine r_val .none rfl (p_move rfl) ?_
              refine' r_and (c := 34) (d := 36) [_, _] rfl (fun h_43 Q_44 hQ_45 => ?_) (fun h_43 Q_44 hQ_45 => ?_) ?_
              rotate_left 1
              · skip
                refine r_call (vs := []) (.some rfl rfl) rfl cl20 rfl (fun w hw => c_awake8 w) ?_
                refine r_val .none rfl (p_pick_t rfl rfl) ?_
                refine r_nil (e_fin (d := 36) hQ_45 rfl (by repeat (first | exact .refl | refine .put rfl ?_ | refine .say rfl ?_ | refine .say2 rfl (by first | assumption | simp_all) ?_)))
              · skip
                repeat (first | refine r_skip rfl (.no rfl rfl) ?_ | refine r_skip rfl (.un rfl rfl) ?_)
                refine r_val (by first | exact .none | exact .some rfl rfl) rfl (p_pick_f rfl rfl) ?_
                refine r_nil (e_fin (d := 36) hQ_45 rfl (by repeat (first | exact .refl | refine .put rfl ?_ | refine .say rfl ?_ | refine .say2 rfl (by first | assumption | simp_all) ?_)))
              refine r_val .none rfl (p_assign rfl) ?_
              refine r_nil ?_
              refine e_next ?_
              refine c_ret ?_
              refine e_ret1 Try.results6 (.tmp rfl .nil) (fun w hm => ⟨?_, hm.since⟩)
              first
              | rfl
              | exact congrArg Value.bool (by rw [tn_same hfy.1, (seqL_iff _ _).2 rfl]; rfl)
              )
        )
end Go.Proofs.Ytoflaphnlfggkaa
