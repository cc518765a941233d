/- Walks: what Go functions of this chapter come to, each as a function on plain data; no condition but those that each theorem names. Printed by a program of this work (gen.py). -/
import Derived.Test.YtoflaphnlfggkaaW08r
import Derived.Test.YtoflaphnlfggkaaPl06c
import Derived.Test.YtoflaphnlfggkaaRows
namespace Go.Proofs.Ytoflaphnlfggkaa
open Go.Gx Go.Gx.T4 Go.Gx.T3 Go.Gx.T6 Go.Gx.T8 Go.Gx.T4 Go.Gx.T3 Go.Gx.T8 Go.Gx.T4 Go.Gx.T3 Go.Gx.T8 Go.Gx.T6 Go.Gx.T4 Go.Gx.T3
theorem cl11 : Callable Try.prog 11 := callable Try.func11 (by kernel_rfl) rfl
theorem cl20 : Callable Try.prog 20 := callable Try.func20 (by kernel_rfl) rfl
theorem c_CompAhead (v : Value) (l : List CT) (kk : Int) {G : Ghost} (hs : Cs G v l) (hkk : 0 ≤ kk ∧ kk ≤ 255) (w : World) (hG : Has G w) :
    Calls Try.prog 8 #[v, Value.int .u8 kk] w (Ret fun r w' => r = Value.bool true ∧ Since nX w w') := by
  refine enter (args := [_, _]) (X := nX) (G := G) (l := [(0, v), (1, Value.int .u8 kk)]) Try.func8 rfl Try.ntmps8 hG ⟨rfl, rfl, trivial⟩ (Nat.le_of_ble_eq_true rfl) ?_
  obtain ⟨rs, hr, hp, hl⟩ := hs.inv
  have hlr : l.length = rs.length := by rw [hl]; simp
  have hbd := hr.bound
  refine c_seq ?_
  refine c_region ?_
  refine r_val .none rfl (p_assign rfl) ?_
  refine r_nil ?_
  refine e_next ?_
  refine c_seq ?_
  refine c_seq ?_
  refine c_region ?_
  refine r_val .none rfl (p_move rfl) ?_
  refine r_call (vs := [_]) .none rfl cl11 rfl (fun w hw => c_fine6 _ _ hs w hw) ?_
  refine r_val .none rfl (p_not rfl) ?_
  refine r_nil ?_
  refine e_next ?_
  refine c_splitn (d := 11) rfl (fun h_1 => ?_) (fun h_1 => ?_)
  · skip
    first
      | (exfalso; first | omega | assumption)
      | (
        refine c_cond_t rfl ?_
        refine c_seq ?_
        refine c_region ?_
        refine r_call (vs := []) .none rfl cl20 rfl (fun w hw => c_awake8 w) ?_
        refine r_val .none rfl (p_assign rfl) ?_
        refine r_nil ?_
        refine e_next ?_
        refine c_ret ?_
        refine e_ret_then ?_
        refine e_ret1 Try.results8 (.tmp rfl .nil) (fun w hm => ⟨?_, hm.since⟩)
        rfl
        )
  · skip
    have hf : fineL l = true := h_1
    have hfy := fineL_yes hf
    have hsz : sizeL l ≤ 1000 := by omega
    have hll := sizeL_len l
    have hflat := flat_all_of hfy.1
    first
      | (exfalso; first | omega | assumption)
      | (
        refine c_cond_f rfl ?_
        refine c_skip ?_
        refine e_next ?_
        refine c_seq ?_
        refine c_region ?_
        refine r_val .none rfl (p_move rfl) ?_
        refine r_val .none rfl (p_conv Try.underlying5 Try.underlying3 rfl (IntWalk.i64_in _ (by omega))) ?_
        refine r_val .none rfl (p_move rfl) ?_
        refine r_val .none rfl (p_leng Try.underlying22 rfl hr) ?_
        have bd_2 := (hr).bound
        refine r_val .none rfl (p_add rfl rfl (by omega)) ?_
        refine r_val .none rfl (p_rem rfl rfl (by omega)) ?_
        obtain ⟨n, hn⟩ : ∃ n : Nat, kk % ((rs.length : Int) + 1) = (n : Int) := ⟨(kk % ((rs.length : Int) + 1)).toNat, by have := Int.emod_nonneg kk (b := (rs.length : Int) + 1) (by omega); omega⟩
        have hnl : n ≤ rs.length := by have h1 := Int.emod_lt_of_pos kk (show (0 : Int) < (rs.length : Int) + 1 by omega); omega
        refine r_say (d := 18) (v := Value.int .i64 ((n : Nat) : Int)) (congrArg (fun x => some (Value.int .i64 x)) (by first | exact hn | omega)) ?_
        refine r_val .none rfl (p_assign rfl) ?_
        refine r_nil ?_
        refine e_next ?_
        refine c_seq ?_
        refine c_region_d (fun _ => false) _ mixed (.nil) ?_
        refine d_val1 0 rfl rfl (by kernel_rfl) (fun _ _ => rfl) .none rfl (p_move rfl) ?_
        refine d_val1 2 rfl rfl (by kernel_rfl) (fun _ _ => rfl) .none rfl (p_move rfl) ?_
        refine d_val1 3 rfl rfl (by kernel_rfl) (fun _ _ => rfl) .none rfl (p_move rfl) ?_
        refine d_slice0 4 n rfl rfl (by kernel_rfl) (fun _ _ => rfl) .none rfl Try.underlying22 sz38 rfl hr rfl (by first | exact of_decide_eq_true rfl | omega) (fun v_3 hs_4 => ?_)
        have hTn := Tr.take2 (by omega) hs_4 hp
        have hszn : sizeL ((rs.map Prod.fst).take n) ≤ 1000 := Nat.le_trans (sizeL_takeA _ _) (by rw [← hl]; exact hsz)
        refine d_eff 1 rfl (by kernel_rfl) (fun K_6 hKK_6 hcK_6 => ?_)
        refine r_callf (vs := [_]) .none rfl cl24 rfl (fun _ _ _ hle hz => hz.mono hle) (fun w hw => c_ccomp _ _ hsz hs w hw) (fun G_7 v_10 hn_8 hr_9 => ?_)
        replace hr := hr.mono hn_8.le
        replace hs := hs.mono hn_8.le
        replace hp := fun p hm0 => (hp p hm0).mono hn_8.le
        replace hs_4 := hs_4.mono hn_8.le
        replace hTn := hTn.mono hn_8.le
        have u_11 := (hr_9).mono (fr_le _ _)
        refine r_nil (e_d (i := 1) (brk := (fun _ => false)) (ph' := true) hKK_6 hcK_6 rfl (fun _ => hn_8.le) (fun _ => .nil) ?_)
        clear hKK_6 hcK_6 K_6
        obtain ⟨as1, ha, hat, hac, hal⟩ := (u_11).inv
        have has : as1.length = rs.length := by have h := congrArg List.length hal; rw [stepsOf_len, List.length_map] at h; omega
        refine d_eff 5 rfl (by kernel_rfl) (fun K_12 hKK_12 hcK_12 => ?_)
        refine r_callf (vs := [_]) .none rfl cl24 rfl (fun _ _ _ hle hz => hz.mono hle) (fun w hw => c_ccomp _ _ hszn hTn w hw) (fun G_13 v_16 hn_14 hr_15 => ?_)
        replace hr := hr.mono hn_14.le
        replace hs := hs.mono hn_14.le
        replace hp := fun p hm0 => (hp p hm0).mono hn_14.le
        replace hs_4 := hs_4.mono hn_14.le
        replace hTn := hTn.mono hn_14.le
        replace u_11 := u_11.mono hn_14.le
        replace ha := ha.mono hn_14.le
        replace hat := fun p hm0 => (hat p hm0).mono hn_14.le
        replace hac := fun p hm0 => (hac p hm0).mono hn_14.le
        have u_17 := (hr_15).mono (fr_le _ _)
        refine r_nil (e_d (i := 5) (brk := (fun _ => false)) (ph' := true) hKK_12 hcK_12 rfl (fun _ => (hn_8.trans hn_14).le) (fun _ => .nil) ?_)
        clear hKK_12 hcK_12 K_12
        obtain ⟨bs, hb, hbt, hbc, hbl⟩ := (u_17).inv
        have hbs : bs.length = n := by have h := congrArg List.length hbl; rw [stepsOf_len, List.length_map, List.length_take, List.length_map] at h; omega
        refine d_val1 6 rfl rfl (by kernel_rfl) (fun _ _ => rfl) .none rfl (p_assign rfl) ?_
        refine d_val1 7 rfl rfl (by kernel_rfl) (fun _ _ => rfl) .none rfl (p_assign rfl) ?_
        refine d_nil (by kernel_rfl) ?_
        refine e_next ?_
        refine c_seq ?_
        refine c_seq ?_
        refine c_region ?_
        refine r_val .none rfl (p_move rfl) ?_
        refine r_val .none rfl (p_leng Try.underlying50 rfl ha) ?_
        have bd_18 := (ha).bound
        refine r_val .none rfl (p_move rfl) ?_
        refine r_val .none rfl (p_leng Try.underlying22 rfl hr) ?_
        have bd_19 := (hr).bound
        refine r_val .none rfl (p_ne rfl rfl) ?_
        refine r_val .none rfl (p_move rfl) ?_
        refine' r_or (c := 30) (d := 35) [_, _, _, _, _] rfl (fun h_20 Q_21 hQ_22 => ?_) (fun h_20 Q_21 hQ_22 => ?_) ?_
        rotate_left 1
        · skip
          replace h_20 := of_decide_eq_false h_20
          refine r_val (.some rfl rfl) rfl (p_move rfl) ?_
          refine r_val (.some rfl rfl) rfl (p_leng Try.underlying50 rfl hb) ?_
          have bd_24 := (hb).bound
          refine r_val (.some rfl rfl) rfl (p_move rfl) ?_
          refine r_val (.some rfl rfl) rfl (p_ne rfl rfl) ?_
          refine r_val .none rfl (p_pick_f rfl rfl) ?_
          refine r_nil (e_fin (d := 35) hQ_22 rfl (by repeat (first | exact .refl | refine .put rfl ?_ | refine .say rfl ?_ | refine .say2 rfl (by first | assumption | simp_all) ?_)))
        · skip
          repeat (first | refine r_skip rfl (.no rfl rfl) ?_ | refine r_skip rfl (.un rfl rfl) ?_)
          refine r_val (by first | exact .none | exact .some rfl rfl) rfl (p_pick_t rfl rfl) ?_
          refine r_nil (e_fin (d := 35) hQ_22 rfl (by repeat (first | exact .refl | refine .put rfl ?_ | refine .say rfl ?_ | refine .say2 rfl (by first | assumption | simp_all) ?_)))
        refine r_nil ?_
        refine e_next ?_
        refine c_split (d := 35) rfl (fun h_25 => ?_) (fun h_25 => ?_)
        · skip
          try simp only [norms] at h_25
          first
            | (exfalso; first | omega | assumption)
            | (
              refine c_cond_t rfl ?_
              refine c_seq ?_
              refine c_region ?_
              refine r_val .none rfl (p_assign rfl) ?_
              refine r_nil ?_
              refine e_next ?_
              refine c_ret ?_
              refine e_ret_then ?_
              refine e_ret1 Try.results8 (.tmp rfl .nil) (fun w hm => ⟨?_, hm.since⟩)
              rfl
              )
        · skip
          try simp only [norms] at h_25
          first
            | (exfalso; first | omega | assumption)
            | (
              refine c_cond_f rfl ?_
              refine c_skip ?_
              refine e_next ?_
              refine c_seq ?_
              refine c_seq ?_
              refine c_region ?_
              refine r_val .none rfl (p_move rfl) ?_
              refine r_val .none rfl (p_leng Try.underlying50 rfl hb) ?_
              have bd_26 := (hb).bound
              refine r_val .none rfl (p_move rfl) ?_
              refine r_nil ?_
              refine e_next ?_
              refine c_block ?_
              refine c_name (d := 0) rfl (fun u_27 hu_27 => ?_)
              refine c_name (d := 6) rfl (fun u_28 hu_28 => ?_)
              refine c_name (d := 7) rfl (fun u_29 hu_29 => ?_)
              refine c_name (d := 37) rfl (fun u_30 hu_30 => ?_)
              refine c_loop (σ := Nat × Ghost) (fun s => [(38, Value.int .i64 (s.1 : Nat)), (0, u_27), (6, u_28), (7, u_29), (37, u_30)]) (fun s => []) (fun s => s.2) (fun s => s.1 ≤ n ∧ GNew w nX G_13 s.2) (fun s => n - s.1) ((0, _)) ⟨Nat.zero_le _, GNew.refl _ _ _⟩ rfl ⟨rfl, rfl, rfl, rfl, rfl, trivial⟩ (.nil) (fun s hphi => ?_)
              subst hu_27
              subst hu_28
              subst hu_29
              subst hu_30
              obtain ⟨i, H⟩ := s
              obtain ⟨hi, hgn⟩ := hphi
              dsimp only at hi hgn ⊢
              replace hr := hr.mono hgn.le
              replace hs := hs.mono hgn.le
              replace hp := fun p hm0 => (hp p hm0).mono hgn.le
              replace hs_4 := hs_4.mono hgn.le
              replace hTn := hTn.mono hgn.le
              replace u_11 := u_11.mono hgn.le
              replace ha := ha.mono hgn.le
              replace hat := fun p hm0 => (hat p hm0).mono hgn.le
              replace hac := fun p hm0 => (hac p hm0).mono hgn.le
              replace u_17 := u_17.mono hgn.le
              replace hb := hb.mono hgn.le
              replace hbt := fun p hm0 => (hbt p hm0).mono hgn.le
              replace hbc := fun p hm0 => (hbc p hm0).mono hgn.le
              refine c_seq ?_
              refine c_region ?_
              refine r_val .none rfl (p_lt rfl rfl) ?_
              refine r_nil ?_
              refine e_next ?_
              refine c_seq ?_
              refine c_splitd (d := 39) rfl (fun h_31 => ?_) (fun h_31 => ?_)
              · skip
                first
                  | (exfalso; first | omega | assumption)
                  | (
                    refine c_cond_t rfl ?_
                    refine c_skip ?_
                    refine e_next ?_
                    refine c_seq ?_
                    refine c_block ?_
                    refine c_seq ?_
                    refine c_region ?_
                    refine r_val .none rfl (p_move rfl) ?_
                    refine r_val .none rfl (p_assign rfl) ?_
                    refine r_nil ?_
                    refine e_next ?_
                    refine c_seq ?_
                    refine c_region_d (fun _ => false) _ mixed (.nil) ?_
                    refine d_val1 0 rfl rfl (by kernel_rfl) (fun _ _ => rfl) .none rfl (p_move rfl) ?_
                    refine d_val1 1 rfl rfl (by kernel_rfl) (fun _ _ => rfl) .none rfl (p_move rfl) ?_
                    refine d_iaddr_g 2 rfl rfl (by kernel_rfl) (fun _ _ => rfl) .none rfl Try.underlying50 sz64 rfl ha rfl (by first | exact of_decide_eq_true rfl | omega) (fun p_33 o_34 R_32 => ?_)
                    have ht_35 := hat _ (getD_mem (i := i) (d := s0) (by omega))
                    have hc_36 := hac _ (getD_mem (i := i) (d := s0) (by omega))
                    refine d_val1 3 rfl rfl (by kernel_rfl) (fun _ _ => rfl) .none rfl (p_ldga0 Try.underlying64 rfl sz64 rfl R_32 (by first | exact of_decide_eq_true rfl | omega) (rfl : _ = Value.agg #[_, _, _, _, _, _])) ?_
                    refine d_val1 4 rfl rfl (by kernel_rfl) (fun _ _ => rfl) .none rfl (p_move rfl) ?_
                    refine d_val1 5 rfl rfl (by kernel_rfl) (fun _ _ => rfl) .none rfl (p_move rfl) ?_
                    refine d_iaddr_g 6 rfl rfl (by kernel_rfl) (fun _ _ => rfl) .none rfl Try.underlying50 sz64 rfl hb rfl (by first | exact of_decide_eq_true rfl | omega) (fun p_38 o_39 R_37 => ?_)
                    have ht_40 := hbt _ (getD_mem (i := i) (d := s0) (by omega))
                    have hc_41 := hbc _ (getD_mem (i := i) (d := s0) (by omega))
                    refine d_val1 7 rfl rfl (by kernel_rfl) (fun _ _ => rfl) .none rfl (p_ldga0 Try.underlying64 rfl sz64 rfl R_37 (by first | exact of_decide_eq_true rfl | omega) (rfl : _ = Value.agg #[_, _, _, _, _, _])) ?_
                    have e1 : (as1.getD i s0).1 = stepOf ((rs.map Prod.fst).take i) (rs.getD i d0).1 := by rw [sv_getD hal, hl, steps_at (by omega)]; rfl
                    have e2 : (bs.getD i s0).1 = stepOf ((rs.map Prod.fst).take i) (rs.getD i d0).1 := by rw [sv_getD hbl, steps_at_take (by omega) (by omega)]
                    have hsm : seq (as1.getD i s0).1 (bs.getD i s0).1 = true := by rw [e1, e2]; exact (seq_iff _ _).2 rfl
                    have hsm2 : seq (stepOf ((rs.map Prod.fst).take i) (rs.getD i d0).1) (as1.getD i s0).1 = true := by rw [e1]; exact (seq_iff _ _).2 rfl
                    have q2 : sizeL ((rs.map Prod.fst).take (i + 1)) ≤ sizeL l := by rw [hl]; exact sizeL_take_le _ _
                    have hz9 : ((rs.map Prod.fst).take i).length + size (rs.getD i d0).1 ≤ 1000 := by have q1 := sizeL_take (rs := rs) (k := i) (by omega); have q3 := sizeL_len ((rs.map Prod.fst).take i); omega
                    refine d_eff 8 rfl (by kernel_rfl) (fun K_42 hKK_42 hcK_42 => ?_)
                    refine r_call (vs := [_, _]) .none rfl cl29 rfl (fun w hw => c_csame _ _ _ _ _ _ ht_35 hc_36 ht_40 hc_41 w hw) ?_
                    refine r_nil (e_d (i := 8) (brk := (fun _ => false)) (ph' := true) hKK_42 hcK_42 rfl (fun _ => GLe.refl _) (fun _ => .nil) ?_)
                    clear hKK_42 hcK_42 K_42
                    refine d_val1 9 rfl rfl (by kernel_rfl) (fun _ _ => rfl) .none rfl (p_not rfl) ?_
                    refine d_val1 10 rfl rfl (by kernel_rfl) (fun _ _ => rfl) .none rfl (p_move rfl) ?_
                    refine d_splitn (d := 51) rfl (fun h_43 => ?_) (fun h_43 => ?_)
                    · skip
                      have hx : False := absurd (h_43) (by rw [hsm]; decide)
                      first
                        | (exfalso; first | omega | assumption)
                        | (
                          refine d_skip1 11 rfl rfl (by kernel_rfl) (fun _ _ => rfl) rfl (.no rfl rfl) ?_
                          refine d_skip1 12 rfl rfl (by kernel_rfl) (fun _ _ => rfl) rfl (.no rfl rfl) ?_
                          refine d_skip1 13 rfl rfl (by kernel_rfl) (fun _ _ => rfl) rfl (.no rfl rfl) ?_
                          refine d_skip1 14 rfl rfl (by kernel_rfl) (fun _ _ => rfl) rfl (.no rfl rfl) ?_
                          refine d_skip1 15 rfl rfl (by kernel_rfl) (fun _ _ => rfl) rfl (.no rfl rfl) ?_
                          refine d_skip1 16 rfl rfl (by kernel_rfl) (fun _ _ => rfl) rfl (.no rfl rfl) ?_
                          refine d_skip1 17 rfl rfl (by kernel_rfl) (fun _ _ => rfl) rfl (.no rfl rfl) ?_
                          refine d_skip1 18 rfl rfl (by kernel_rfl) (fun _ _ => rfl) rfl (.no rfl rfl) ?_
                          refine d_skip1 19 rfl rfl (by kernel_rfl) (fun _ _ => rfl) rfl (.no rfl rfl) ?_
                          refine d_skip1 20 rfl rfl (by kernel_rfl) (fun _ _ => rfl) rfl (.no rfl rfl) ?_
                          refine d_skip1 21 rfl rfl (by kernel_rfl) (fun _ _ => rfl) rfl (.no rfl rfl) ?_
                          refine d_skip1 22 rfl rfl (by kernel_rfl) (fun _ _ => rfl) rfl (.no rfl rfl) ?_
                          refine d_skip1 23 rfl rfl (by kernel_rfl) (fun _ _ => rfl) rfl (.no rfl rfl) ?_
                          refine d_skip1 24 rfl rfl (by kernel_rfl) (fun _ _ => rfl) rfl (.no rfl rfl) ?_
                          refine d_val1 25 rfl rfl (by kernel_rfl) (fun _ _ => rfl) .none rfl (p_pick_t rfl rfl) ?_
                          refine d_nil (by kernel_rfl) ?_
                          refine e_next ?_
                          refine c_cond_t rfl ?_
                          refine c_seq ?_
                          refine c_region ?_
                          refine r_val .none rfl (p_assign rfl) ?_
                          refine r_nil ?_
                          refine e_next ?_
                          refine c_ret ?_
                          refine e_ret_block ?_
                          refine e_ret_then ?_
                          refine e_ret_then ?_
                          refine e_ret_block ?_
                          refine e_ret_then ?_
                          refine e_ret1 Try.results8 (.tmp rfl .nil) (fun w hm => ⟨?_, hm.since⟩)
                          rfl
                          )
                    · skip
                      first
                        | (exfalso; first | omega | assumption)
                        | (
                          refine d_val1 11 rfl rfl (by kernel_rfl) (fun _ _ => rfl) (.some rfl rfl) rfl (p_move rfl) ?_
                          refine d_val1 12 rfl rfl (by kernel_rfl) (fun _ _ => rfl) (.some rfl rfl) rfl (p_move rfl) ?_
                          refine d_slice0 13 i rfl rfl (by kernel_rfl) (fun _ _ => rfl) (.some rfl rfl) rfl Try.underlying22 sz38 rfl hr rfl (by first | exact of_decide_eq_true rfl | omega) (fun v_44 hs_45 => ?_)
                          have hTi := Tr.take2 (by omega) hs_45 hp
                          refine d_val1 14 rfl rfl (by kernel_rfl) (fun _ _ => rfl) (.some rfl rfl) rfl (p_move rfl) ?_
                          refine d_val1 15 rfl rfl (by kernel_rfl) (fun _ _ => rfl) (.some rfl rfl) rfl (p_move rfl) ?_
                          refine d_iaddr_g 16 rfl rfl (by kernel_rfl) (fun _ _ => rfl) (.some rfl rfl) rfl Try.underlying22 sz38 rfl hr rfl (by first | exact of_decide_eq_true rfl | omega) (fun p_48 o_49 R_47 => ?_)
                          have hc_50 := hp _ (getD_mem (i := i) (d := d0) (by omega))
                          refine d_val1 17 rfl rfl (by kernel_rfl) (fun _ _ => rfl) (.some rfl rfl) rfl (p_ldga0 Try.underlying38 rfl sz38 rfl R_47 (by first | exact of_decide_eq_true rfl | omega) (rfl : _ = Value.agg #[_, _, _, _, _, _, _, _])) ?_
                          refine d_val1 19 rfl rfl (by kernel_rfl) (fun _ _ => rfl) (.some rfl rfl) rfl (p_move rfl) ?_
                          refine d_val1 20 rfl rfl (by kernel_rfl) (fun _ _ => rfl) (.some rfl rfl) rfl (p_move rfl) ?_
                          refine d_iaddr_g 21 rfl rfl (by kernel_rfl) (fun _ _ => rfl) (.some rfl rfl) rfl Try.underlying50 sz64 rfl ha rfl (by first | exact of_decide_eq_true rfl | omega) (fun p_52 o_53 R_51 => ?_)
                          have ht_54 := hat _ (getD_mem (i := i) (d := s0) (by omega))
                          have hc_55 := hac _ (getD_mem (i := i) (d := s0) (by omega))
                          refine d_val1 22 rfl rfl (by kernel_rfl) (fun _ _ => rfl) (.some rfl rfl) rfl (p_ldga0 Try.underlying64 rfl sz64 rfl R_51 (by first | exact of_decide_eq_true rfl | omega) (rfl : _ = Value.agg #[_, _, _, _, _, _])) ?_
                          refine d_eff 18 rfl (by kernel_rfl) (fun K_56 hKK_56 hcK_56 => ?_)
                          refine r_callf (vs := [_, _]) (.some rfl rfl) rfl cl30 rfl (fun _ _ _ hle hz => by obtain ⟨ua, ub, h1, h2, h3⟩ := hz; exact ⟨ua, ub, h1, h2.mono hle, h3.mono hle⟩) (fun w hw => c_cstep _ _ _ _ hz9 hc_50 hTi w hw) (fun G_57 v_60 hn_58 hr_59 => ?_)
                          replace hr := hr.mono hn_58.le
                          replace hs := hs.mono hn_58.le
                          replace hp := fun p hm0 => (hp p hm0).mono hn_58.le
                          replace hs_4 := hs_4.mono hn_58.le
                          replace hTn := hTn.mono hn_58.le
                          replace u_11 := u_11.mono hn_58.le
                          replace ha := ha.mono hn_58.le
                          replace hat := fun p hm0 => (hat p hm0).mono hn_58.le
                          replace hac := fun p hm0 => (hac p hm0).mono hn_58.le
                          replace u_17 := u_17.mono hn_58.le
                          replace hb := hb.mono hn_58.le
                          replace hbt := fun p hm0 => (hbt p hm0).mono hn_58.le
                          replace hbc := fun p hm0 => (hbc p hm0).mono hn_58.le
                          replace R_32 := R_32.mono hn_58.le
                          replace ht_35 := ht_35.mono hn_58.le
                          replace hc_36 := hc_36.mono hn_58.le
                          replace R_37 := R_37.mono hn_58.le
                          replace ht_40 := ht_40.mono hn_58.le
                          replace hc_41 := hc_41.mono hn_58.le
                          replace hs_45 := hs_45.mono hn_58.le
                          replace hTi := hTi.mono hn_58.le
                          replace R_47 := R_47.mono hn_58.le
                          replace hc_50 := hc_50.mono hn_58.le
                          replace R_51 := R_51.mono hn_58.le
                          replace ht_54 := ht_54.mono hn_58.le
                          replace hc_55 := hc_55.mono hn_58.le
                          obtain ⟨u_61a, u_61b, rfl, u_61s, u_61t⟩ := hr_59
                          replace u_61s := u_61s.mono (fr_le _ _)
                          replace u_61t := u_61t.mono (fr_le _ _)
                          refine r_nil (e_d (i := 18) (brk := (fun _ => false)) (ph' := true) hKK_56 hcK_56 rfl (fun _ => hn_58.le) (fun _ => .nil) ?_)
                          clear hKK_56 hcK_56 K_56
                          refine d_eff 23 rfl (by kernel_rfl) (fun K_62 hKK_62 hcK_62 => ?_)
                          refine r_call (vs := [_, _]) (.some rfl rfl) rfl cl29 rfl (fun w hw => c_csame _ _ _ _ _ _ u_61s u_61t ht_54 hc_55 w hw) ?_
                          refine r_nil (e_d (i := 23) (brk := (fun _ => false)) (ph' := true) hKK_62 hcK_62 rfl (fun _ => hn_58.le) (fun _ => .nil) ?_)
                          clear hKK_62 hcK_62 K_62
                          refine d_val1 24 rfl rfl (by kernel_rfl) (fun _ _ => rfl) (.some rfl rfl) rfl (p_not rfl) ?_
                          refine d_val1 25 rfl rfl (by kernel_rfl) (fun _ _ => rfl) .none rfl (p_pick_f rfl rfl) ?_
                          refine d_nil (by kernel_rfl) ?_
                          refine e_next ?_
                          refine c_splitn (d := 66) rfl (fun h_63 => ?_) (fun h_63 => ?_)
                          · skip
                            have hx : False := absurd (h_63) (by rw [hsm2]; decide)
                            first
                              | (exfalso; first | omega | assumption)
                              | (
                                refine c_cond_t rfl ?_
                                refine c_seq ?_
                                refine c_region ?_
                                refine r_val .none rfl (p_assign rfl) ?_
                                refine r_nil ?_
                                refine e_next ?_
                                refine c_ret ?_
                                refine e_ret_block ?_
                                refine e_ret_then ?_
                                refine e_ret_then ?_
                                refine e_ret_block ?_
                                refine e_ret_then ?_
                                refine e_ret1 Try.results8 (.tmp rfl .nil) (fun w hm => ⟨?_, hm.since⟩)
                                rfl
                                )
                          · skip
                            first
                              | (exfalso; first | omega | assumption)
                              | (
                                refine c_cond_f rfl ?_
                                refine c_skip ?_
                                refine e_norm_block ?_
                                refine e_next ?_
                                refine c_region ?_
                                refine r_val .none rfl (p_add rfl rfl (by omega)) ?_
                                refine r_val .none rfl (p_move rfl) ?_
                                refine r_nil ?_
                                refine e_round ((i + 1, _)) ⟨⟨by dsimp only; omega, (hgn.trans hn_58)⟩, by dsimp only; omega⟩ rfl ⟨rfl, rfl, rfl, rfl, rfl, trivial⟩ (.nil)
                                )
                          )
                    )
              · skip
                first
                  | (exfalso; first | omega | assumption)
                  | (
                    refine c_cond_f rfl ?_
                    refine c_exit ?_
                    refine e_exit_then ?_
                    refine e_exit_then ?_
                    refine e_exit_block ?_
                    refine e_next ?_
                    refine c_seq ?_
                    refine c_region ?_
                    refine r_call (vs := []) .none rfl cl20 rfl (fun w hw => c_awake8 w) ?_
                    refine r_val .none rfl (p_assign rfl) ?_
                    refine r_nil ?_
                    refine e_next ?_
                    refine c_ret ?_
                    refine e_ret1 Try.results8 (.tmp rfl .nil) (fun w hm => ⟨?_, hm.since⟩)
                    rfl
                    )
              )
        )
end Go.Proofs.Ytoflaphnlfggkaa
