/- Walks: what Go functions of this chapter come to, each as a function on plain data; no condition but those that each theorem names. Printed by a program of this work (gen.py). -/
import Derived.Test.YtoflaphnlfggkaaW08a
import Derived.Test.YtoflaphnlfggkaaPl08
import Derived.Test.YtoflaphnlfggkaaRows
namespace Go.Proofs.Ytoflaphnlfggkaa
open Go.Gx Go.Gx.T3 Go.Gx.T4 Go.Gx.T3 Go.Gx.T8 Go.Gx.T4 Go.Gx.T3
theorem sz101 : SzIs Try.prog 101 3 := by
  unfold SzIs
  kernel_rfl
theorem zr101 : ZeroIs Try.prog 101 (Value.agg #[Value.int .i64 0, Value.int .i64 0, Value.int .i64 0]) := by
  unfold ZeroIs
  kernel_rfl
theorem cl15 : Callable Try.prog 15 := callable Try.func15 (by kernel_rfl) rfl
theorem cl38 : Callable Try.prog 38 := callable Try.func38 (by kernel_rfl) rfl
theorem bl38_2s3 (x0 : Option Addr) (x1 : Nat) (x2 : Nat) : Program.built Try.prog 38 [(2, Value.slice x0 x1 x2)] = some #[Value.int .i64 0, Value.bool false, Value.int .i64 0, Value.bool false, Value.int .i64 0, Value.bool false, Value.int .i64 0, Value.slice x0 x1 x2] := by
  kernel_rfl
theorem bl101_0i1_1i1_2i1 (x0 : Int) (x1 : Int) (x2 : Int) : Program.built Try.prog 101 [(0, Value.int .i64 x0), (1, Value.int .i64 x1), (2, Value.int .i64 x2)] = some #[Value.int .i64 x0, Value.int .i64 x1, Value.int .i64 x2] := by
  kernel_rfl
theorem bl101_  : Program.built Try.prog 101 [] = some #[Value.int .i64 0, Value.int .i64 0, Value.int .i64 0] := by
  kernel_rfl
theorem c_lref (v : Value) (l : List CT) {G : Ghost} (hsz : sizeL l ≤ 1000) (hs : Cs G v l) (w : World) (hG : Has G w) :
    Calls Try.prog 15 #[v] w (Ret fun r w' => ∃ G', GNew w nX G G' ∧ Has G' w' ∧ Rs G' r l ∧ Since nX w w') := by
  refine enter (args := [_]) (X := nX) (G := G) (l := [(0, v)]) Try.func15 rfl Try.ntmps15 hG ⟨rfl, trivial⟩ (Nat.le_of_ble_eq_true rfl) ?_
  obtain ⟨rs, hr, hp, rfl⟩ := hs.inv
  have hbd := hr.bound
  have hll := sizeL_len (rs.map Prod.fst)
  rw [List.length_map] at hll
  refine c_seq ?_
  refine c_region ?_
  refine r_val .none rfl (p_assign rfl) ?_
  refine r_nil ?_
  refine e_next ?_
  refine c_seq ?_
  refine c_region ?_
  refine r_val .none rfl (p_assign rfl) ?_
  refine r_nil ?_
  refine e_next ?_
  refine c_seq ?_
  refine c_seq ?_
  refine c_region ?_
  refine r_val .none rfl (p_move rfl) ?_
  refine r_val .none rfl (p_leng Try.underlying22 rfl hr) ?_
  have bd_1 := (hr).bound
  refine r_val .none rfl (p_move rfl) ?_
  refine r_nil ?_
  refine e_next ?_
  refine c_block ?_
  refine c_nilrow 44 8 ?_
  refine c_name (d := 2) rfl (fun u_2 hu_2 => ?_)
  refine c_name (d := 6) rfl (fun u_3 hu_3 => ?_)
  refine c_name (d := 7) rfl (fun u_4 hu_4 => ?_)
  refine c_loop (σ := Nat × Value × List (CT × Value) × Ghost) (fun s => [(8, Value.int .i64 (s.1 : Nat)), (3, s.2.1), (2, u_2), (6, u_3), (7, u_4)]) (fun s => [rowA (s.2.1) 44 8 (s.2.2.1).length ((s.2.2.1).flatMap rvC)]) (fun s => s.2.2.2) (fun s => s.1 ≤ rs.length ∧ s.2.2.1.map Prod.fst = (rs.map Prod.fst).take s.1 ∧ (∀ p ∈ s.2.2.1, Rs s.2.2.2 p.2 p.1.subs) ∧ GNew w nX G s.2.2.2) (fun s => rs.length - s.1) ((0, _, [], _)) ⟨Nat.zero_le _, rfl, by simp, GNew.refl _ _ _⟩ rfl ⟨rfl, rfl, rfl, rfl, rfl, trivial⟩ (.keep (fun _ _ h => rowA_nil rfl _ _ h) (.nil)) (fun s hphi => ?_)
  subst hu_2
  subst hu_3
  subst hu_4
  obtain ⟨k, v, qs, H⟩ := s
  obtain ⟨hk, hq, hqs, hgn⟩ := hphi
  dsimp only at hk hq hqs hgn ⊢
  have hql : qs.length ≤ k := (by have := congrArg List.length hq; simp at this; omega)
  replace hr := hr.mono hgn.le
  replace hp := fun p hm0 => (hp p hm0).mono hgn.le
  refine c_seq ?_
  refine c_region ?_
  refine r_val .none rfl (p_lt rfl rfl) ?_
  refine r_nil ?_
  refine e_next ?_
  refine c_seq ?_
  refine c_splitd (d := 9) rfl (fun h_5 => ?_) (fun h_5 => ?_)
  · skip
    first
      | (exfalso; omega)
      | (
        refine c_cond_t rfl ?_
        refine c_skip ?_
        refine e_next ?_
        refine c_seq ?_
        refine c_block ?_
        refine c_seq ?_
        refine c_region ?_
        refine r_iaddr_g .none rfl Try.underlying22 sz38 rfl hr rfl (by first | exact of_decide_eq_true rfl | omega) (fun p_7 o_8 R_6 => ?_)
        have hc_9 := hp _ (getD_mem (i := k) (d := d0) (by omega))
        have hz3 : size (rs.getD k d0).1 ≤ 1000 := Nat.le_trans (sizeL_mem (List.mem_map.2 ⟨_, getD_mem (i := k) (d := d0) (by omega), rfl⟩)) hsz
        refine r_val .none rfl (p_ldga0 Try.underlying38 rfl sz38 rfl R_6 (by first | exact of_decide_eq_true rfl | omega) (rfl : _ = Value.agg #[_, _, _, _, _, _, _, _])) ?_
        refine r_alloc .none rfl zr38 (IsRow.lit _) (fun b_1 => ?_)
        refine r_stw (k := 0) .none sz38 rfl rfl (IsRow.lit _) (one_lit rfl (all_cons rfl (all_cons rfl (all_cons rfl (all_cons rfl (all_cons rfl (all_cons rfl (all_cons rfl (all_cons (hc_9).one rfl))))))))) rfl ?_
        refine r_nil ?_
        refine e_next ?_
        refine c_region ?_
        refine r_val .none rfl (p_move rfl) ?_
        refine r_val .none rfl (p_ldw (k := 0) Try.underlying38 rfl sz38 rfl rfl (rfl : _ = Value.agg #[_, _, _, _, _, _, _, _])) ?_
        refine r_callm (vs := [_]) .none rfl cl19 rfl (fun w hw => c_ref4 (rs.getD k d0).1 _ hz3 hc_9 w hw) (fun G_10 v_13 hn_11 hr_12 => ?_)
        replace hr := hr.mono hn_11.le
        replace hp := fun p hm0 => (hp p hm0).mono hn_11.le
        replace hqs := fun p hm0 => (hqs p hm0).mono hn_11.le
        replace R_6 := R_6.mono hn_11.le
        replace hc_9 := hc_9.mono hn_11.le
        obtain ⟨u_14, rfl, u_14s⟩ := hr_12
        refine r_bslice (vs := [(0, Value.agg #[_, _, _, _, _, _, _, _])]) (c := #[_, _, _, _, _, _, _, _]) .none rfl Try.underlying29 el44 rfl rfl rfl (bs44_10a8 _ _ _ _ _ _ _ _) (IsRow.lit _) (fun b_2 => ?_)
        refine r_append (k := 2) (k2 := 0) .none rfl Try.underlying29 el44 rfl (by decide) rfl rfl rfl rfl rfl (one_lit rfl (all_cons rfl (all_cons rfl (all_cons rfl (all_cons rfl (all_cons rfl (all_cons rfl (all_cons rfl (all_cons (u_14s).one rfl))))))))) (by simp only [maxLen]; omega) (by omega) (fun v_15 => ?_)
        refine r_row1 (k := 2) rfl (fun o_16 => ?_)
        refine r_val .none rfl (p_assign rfl) ?_
        refine r_nil ?_
        refine e_norm_block ?_
        refine e_next ?_
        refine c_region ?_
        refine r_val .none rfl (p_add rfl rfl (by omega)) ?_
        refine r_val .none rfl (p_move rfl) ?_
        refine r_nil ?_
        refine e_round ((k + 1, _, qs ++ [((rs.getD k d0).1, u_14)], _)) ⟨⟨by dsimp only; omega, by rw [map_take (d := d0) (by omega), List.map_append, hq]; rfl, (fun p hp' => by rcases List.mem_append.1 hp' with h | h; exact hqs p h; rw [List.mem_singleton.1 h]; exact u_14s), (hgn.trans hn_11)⟩, by dsimp only; omega⟩ rfl ⟨rfl, rfl, rfl, rfl, rfl, trivial⟩ (.drop (.drop (.keep (fun _ _ h => rowA_snoc (l := qs) (x := ((rs.getD k d0).1, u_14)) rfl rfl rfl rfl _ _ h) (.nil))))
        )
  · skip
    first
      | (exfalso; omega)
      | (
        refine c_cond_f rfl ?_
        refine c_exit ?_
        refine e_exit_then ?_
        refine e_exit_then ?_
        refine e_exit_block ?_
        refine e_next ?_
        refine c_seq ?_
        refine c_region ?_
        refine r_val .none rfl (p_move rfl) ?_
        refine r_val .none rfl (p_assign rfl) ?_
        refine r_nil ?_
        refine e_next ?_
        refine c_ret ?_
        refine e_freeze (k := 0) rfl (fun G_17 hn_18 hs_19 => ?_)
        replace hr := hr.mono hn_18.le
        replace hp := fun p hm0 => (hp p hm0).mono hn_18.le
        replace hqs := fun p hm0 => (hqs p hm0).mono hn_18.le
        refine e_ret1 Try.results15 (.tmp rfl .nil) (fun w hm => ⟨_, (hgn.trans hn_18), hm.has, ?_, hm.since⟩)
        rw [show rs.map Prod.fst = qs.map Prod.fst by rw [hq, List.take_of_length_le (by simp; omega)]]
        exact Tr.mk qs (SlL.of d0 (fun _ => rfl) rfl hs_19) hqs
        )
theorem c_fine6 (v : Value) (l : List CT) {G : Ghost} (hs : Cs G v l) (w : World) (hG : Has G w) :
    Calls Try.prog 11 #[v] w (Ret fun r w' => r = Value.bool (fineL l) ∧ Since nX w w') := by
  refine enter (args := [_]) (X := nX) (G := G) (l := [(0, v)]) Try.func11 rfl Try.ntmps11 hG ⟨rfl, trivial⟩ (Nat.le_of_ble_eq_true rfl) ?_
  obtain ⟨rs, hr, hp, hl⟩ := hs.inv
  refine c_seq ?_
  refine c_region ?_
  refine r_val .none rfl (p_assign rfl) ?_
  refine r_nil ?_
  refine e_next ?_
  refine c_seq ?_
  refine c_seq ?_
  refine c_region ?_
  refine r_val .none rfl (p_move rfl) ?_
  obtain ⟨a_1, c_2, rfl⟩ := SlG.len hr
  refine r_val .none rfl (p_build (vs := [(2, Value.slice _ _ _)]) rfl (bl38_2s3 _ _ _)) ?_
  refine r_call (vs := [_, _]) .none rfl cl38 rfl (fun w hw => c_Small (.mk h0 l) _ 18 (by omega) hs w hw) ?_
  refine r_val .none rfl (p_not rfl) ?_
  refine r_nil ?_
  refine e_next ?_
  refine c_splitn (d := 9) rfl (fun h_3 => ?_) (fun h_3 => ?_)
  · skip
    first
      | (exfalso; omega)
      | (
        refine c_cond_t rfl ?_
        refine c_seq ?_
        refine c_region ?_
        refine r_val .none rfl (p_assign rfl) ?_
        refine r_nil ?_
        refine e_next ?_
        refine c_ret ?_
        refine e_ret_then ?_
        refine e_ret1 Try.results11 (.tmp rfl .nil) (fun w hm => ⟨?_, hm.since⟩)
        first
        | (rw [fineL_small (by assumption)]; done)
        | (rw [fineL_bad (c := (qs.getD k d0).1) (by rw [hql]; exact List.mem_map.2 ⟨_, getD_mem (i := k) (d := d0) (by omega), rfl⟩) hE]; done)
        | (have hk : k = qs.length := (by omega); rw [fineL_end (by assumption) (fun c hc => hphi.2 c (by rw [hk, List.take_of_length_le (by simp), ← hql]; exact hc)), hk, List.take_of_length_le (by simp), ← hql]; congr 1; simp; omega)
        )
  · skip
    first
      | (exfalso; omega)
      | (
        refine c_cond_f rfl ?_
        refine c_skip ?_
        refine e_next ?_
        refine c_seq ?_
        refine c_region ?_
        refine r_val .none rfl (p_assign rfl) ?_
        refine r_nil ?_
        refine e_next ?_
        refine c_seq ?_
        refine c_seq ?_
        refine c_region ?_
        refine r_val .none rfl (p_move rfl) ?_
        refine r_callm (vs := [_]) .none rfl cl15 rfl (fun w hw => c_lref _ _ (fine_size (by assumption)) hs w hw) (fun G_4 v_7 hn_5 hr_6 => ?_)
        replace hr := hr.mono hn_5.le
        replace hp := fun p hm0 => (hp p hm0).mono hn_5.le
        replace hs := hs.mono hn_5.le
        obtain ⟨qs, hq, hqp, hql⟩ := hr_6.inv
        have hsz := fine_size (by assumption)
        refine r_val .none rfl (p_leng Try.underlying29 rfl hq) ?_
        have bd_9 := (hq).bound
        refine r_val .none rfl (p_move rfl) ?_
        refine r_nil ?_
        refine e_next ?_
        refine c_block ?_
        refine c_name (d := 11) rfl (fun u_10 hu_10 => ?_)
        refine c_name (d := 12) rfl (fun u_11 hu_11 => ?_)
        refine c_loop (σ := Nat) (fun k => [(13, Value.int .i64 (k : Nat)), (3, Value.int .i64 (sizeL ((qs.map Prod.fst).take k) : Nat)), (11, u_10), (12, u_11)]) (fun k => []) (fun _ => _) (fun k => k ≤ qs.length ∧ ∀ c ∈ (qs.map Prod.fst).take k, check c 1 = 0) (fun k => qs.length - k) (0) ⟨Nat.zero_le _, by simp⟩ rfl ⟨rfl, rfl, rfl, rfl, trivial⟩ (.nil) (fun k hphi => ?_)
        subst hu_10
        subst hu_11
        refine c_seq ?_
        refine c_region ?_
        refine r_val .none rfl (p_lt rfl rfl) ?_
        refine r_nil ?_
        refine e_next ?_
        refine c_seq ?_
        refine c_splitd (d := 14) rfl (fun h_12 => ?_) (fun h_12 => ?_)
        · skip
          first
            | (exfalso; omega)
            | (
              refine c_cond_t rfl ?_
              refine c_skip ?_
              refine e_next ?_
              refine c_seq ?_
              refine c_block ?_
              refine c_seq ?_
              refine c_region ?_
              refine r_iaddr_g .none rfl Try.underlying29 sz44 rfl hq rfl (by first | exact of_decide_eq_true rfl | omega) (fun p_14 o_15 R_13 => ?_)
              have hc_16 := hqp _ (getD_mem (i := k) (d := d0) (by omega))
              refine r_val .none rfl (p_ldga0 Try.underlying44 rfl sz44 rfl R_13 (by first | exact of_decide_eq_true rfl | omega) (rfl : _ = Value.agg #[_, _, _, _, _, _, _, _])) ?_
              have hz4 : size (qs.getD k d0).1 ≤ 1000 := Nat.le_trans (sizeL_mem (by rw [hql]; exact List.mem_map.2 ⟨_, getD_mem (i := k) (d := d0) (by omega), rfl⟩)) hsz
              have hst := sizeL_take (rs := qs) (k := k) (by omega)
              have hst2 : sizeL ((qs.map Prod.fst).take (k + 1)) ≤ sizeL l := by rw [hql]; exact sizeL_take_le _ _
              refine r_alloc .none rfl zr44 (IsRow.lit _) (fun b_1 => ?_)
              refine r_stw (k := 0) .none sz44 rfl rfl (IsRow.lit _) (one_lit rfl (all_cons rfl (all_cons rfl (all_cons rfl (all_cons rfl (all_cons rfl (all_cons rfl (all_cons rfl (all_cons (hc_16).one rfl))))))))) rfl ?_
              refine r_nil ?_
              refine e_next ?_
              refine c_seq ?_
              refine c_seq ?_
              refine c_region ?_
              refine r_val .none rfl (p_ldw (k := 0) Try.underlying44 rfl sz44 rfl rfl (rfl : _ = Value.agg #[_, _, _, _, _, _, _, _])) ?_
              refine r_call (vs := [_, _]) .none rfl cl39 rfl (fun w hw => c_rcheck (qs.getD k d0).1 _ _ (by omega) hc_16 w hw) ?_
              refine r_val .none rfl (p_ne rfl rfl) ?_
              refine r_nil ?_
              refine e_next ?_
              refine c_splitd (d := 19) rfl (fun h_17 => ?_) (fun h_17 => ?_)
              · skip
                have hE := h_17
                first
                  | (exfalso; omega)
                  | (
                    refine c_cond_t rfl ?_
                    refine c_seq ?_
                    refine c_region ?_
                    refine r_val .none rfl (p_assign rfl) ?_
                    refine r_nil ?_
                    refine e_next ?_
                    refine c_ret ?_
                    refine e_ret_then ?_
                    refine e_ret_block ?_
                    refine e_ret_then ?_
                    refine e_ret_then ?_
                    refine e_ret_block ?_
                    refine e_ret_then ?_
                    refine e_ret1 Try.results11 (.tmp rfl .nil) (fun w hm => ⟨?_, hm.since⟩)
                    first
                    | (rw [fineL_small (by assumption)]; done)
                    | (rw [fineL_bad (c := (qs.getD k d0).1) (by rw [hql]; exact List.mem_map.2 ⟨_, getD_mem (i := k) (d := d0) (by omega), rfl⟩) hE]; done)
                    | (have hk : k = qs.length := (by omega); rw [fineL_end (by assumption) (fun c hc => hphi.2 c (by rw [hk, List.take_of_length_le (by simp), ← hql]; exact hc)), hk, List.take_of_length_le (by simp), ← hql]; congr 1; simp; omega)
                    )
              · skip
                have hE := Decidable.not_not.1 h_17
                first
                  | (exfalso; omega)
                  | (
                    refine c_cond_f rfl ?_
                    refine c_skip ?_
                    refine e_next ?_
                    refine c_region ?_
                    refine r_val .none rfl (p_move rfl) ?_
                    refine r_val .none rfl (p_ldw (k := 0) Try.underlying44 rfl sz44 rfl rfl (rfl : _ = Value.agg #[_, _, _, _, _, _, _, _])) ?_
                    refine r_call (vs := [_]) .none rfl cl18 rfl (fun w hw => c_rsize (qs.getD k d0).1 _ hz4 hc_16 w hw) ?_
                    refine r_val .none rfl (p_add rfl rfl (by rw [hst] at hst2; omega)) ?_
                    refine r_val .none rfl (p_assign rfl) ?_
                    refine r_nil ?_
                    refine e_norm_block ?_
                    refine e_next ?_
                    refine c_region ?_
                    refine r_val .none rfl (p_add rfl rfl (by omega)) ?_
                    refine r_val .none rfl (p_move rfl) ?_
                    refine r_nil ?_
                    refine e_round (k + 1) ⟨⟨by omega, fun c hc => by rw [map_take (d := d0) (by omega)] at hc; rcases List.mem_append.1 hc with h | h; exact hphi.2 c h; rw [List.mem_singleton.1 h]; exact hE⟩, by omega⟩ rfl ⟨rfl, (congrArg (fun z => some (Value.int .i64 z)) (by rw [hst]; omega)), rfl, rfl, trivial⟩ (.drop (.nil))
                    )
              )
        · skip
          first
            | (exfalso; omega)
            | (
              refine c_cond_f rfl ?_
              refine c_exit ?_
              refine e_exit_then ?_
              refine e_exit_then ?_
              refine e_exit_block ?_
              refine e_next ?_
              refine c_seq ?_
              refine c_region ?_
              refine r_val .none rfl (p_move rfl) ?_
              refine r_val .none rfl (p_le rfl rfl) ?_
              refine r_val .none rfl (p_assign rfl) ?_
              refine r_nil ?_
              refine e_next ?_
              refine c_ret ?_
              refine e_ret1 Try.results11 (.tmp rfl .nil) (fun w hm => ⟨?_, hm.since⟩)
              first
              | (rw [fineL_small (by assumption)]; done)
              | (rw [fineL_bad (c := (qs.getD k d0).1) (by rw [hql]; exact List.mem_map.2 ⟨_, getD_mem (i := k) (d := d0) (by omega), rfl⟩) hE]; done)
              | (have hk : k = qs.length := (by omega); rw [fineL_end (by assumption) (fun c hc => hphi.2 c (by rw [hk, List.take_of_length_le (by simp), ← hql]; exact hc)), hk, List.take_of_length_le (by simp), ← hql]; congr 1; simp; omega)
              )
        )
theorem c_bound (va : Value) (l : List CT) (v : Int) {G : Ghost} (hs : Rs G va l) (w : World) (hG : Has G w) :
    Calls Try.prog 55 #[va, Value.int .i64 v] w (Ret fun r w' => r = Value.tuple #[Value.agg #[Value.int .i64 (if (bound v l 0).isSome = true then v else 0), Value.int .i64 ((bound v l 0).getD (0, 0)).1, Value.int .i64 ((bound v l 0).getD (0, 0)).2], Value.bool (bound v l 0).isSome] ∧ Since nX w w') := by
  refine enter (args := [_, _]) (X := nX) (G := G) (l := [(0, va), (1, Value.int .i64 v)]) Try.func55 rfl Try.ntmps55 hG ⟨rfl, rfl, trivial⟩ (Nat.le_of_ble_eq_true rfl) ?_
  obtain ⟨rs, hr, hp, rfl⟩ := hs.inv
  have hbd := hr.bound
  refine c_seq ?_
  refine c_region ?_
  refine r_alloc .none rfl zr101 (IsRow.lit _) (fun b_1 => ?_)
  refine r_val .none rfl (p_assign rfl) ?_
  refine r_nil ?_
  refine e_next ?_
  refine c_seq ?_
  refine c_region ?_
  refine r_val .none rfl (p_assign rfl) ?_
  refine r_nil ?_
  refine e_next ?_
  refine c_seq ?_
  refine c_seq ?_
  refine c_region ?_
  refine r_val .none rfl (p_move rfl) ?_
  refine r_val .none rfl (p_leng Try.underlying29 rfl hr) ?_
  have bd_1 := (hr).bound
  refine r_val .none rfl (p_move rfl) ?_
  refine r_nil ?_
  refine e_next ?_
  refine c_block ?_
  refine c_name (d := 1) rfl (fun u_2 hu_2 => ?_)
  refine c_name (d := 4) rfl (fun u_3 hu_3 => ?_)
  refine c_name (d := 10) rfl (fun u_4 hu_4 => ?_)
  refine c_name (d := 11) rfl (fun u_5 hu_5 => ?_)
  refine c_nameL (k := 0) rfl (fun A_6 hA_6 => ?_)
  refine c_loop (σ := Nat × Int) (fun s => [(12, Value.int .i64 (s.1 : Nat)), (6, Value.int .i64 s.2), (1, u_2), (4, u_3), (10, u_4), (11, u_5)]) (fun s => [A_6]) (fun _ => _) (fun s => s.1 ≤ rs.length ∧ (0 ≤ s.2 ∧ s.2 ≤ s.1) ∧ bound v ((rs.map Prod.fst).drop s.1) s.2 = bound v (rs.map Prod.fst) 0) (fun s => rs.length - s.1) ((0, 0)) ⟨Nat.zero_le _, ⟨Int.le_refl _, Int.le_refl _⟩, rfl⟩ rfl ⟨rfl, rfl, rfl, rfl, rfl, rfl, trivial⟩ (.keep (fun _ _ h => h) (.nil)) (fun s hphi => ?_)
  subst hu_2
  subst hu_3
  subst hu_4
  subst hu_5
  subst hA_6
  obtain ⟨k, b⟩ := s
  obtain ⟨hk, hb, hb3⟩ := hphi
  dsimp only at hk hb hb3 ⊢
  refine c_seq ?_
  refine c_region ?_
  refine r_val .none rfl (p_lt rfl rfl) ?_
  refine r_nil ?_
  refine e_next ?_
  refine c_seq ?_
  refine c_splitd (d := 13) rfl (fun h_7 => ?_) (fun h_7 => ?_)
  · skip
    first
      | (exfalso; omega)
      | (
        refine c_cond_t rfl ?_
        refine c_skip ?_
        refine e_next ?_
        refine c_seq ?_
        refine c_block ?_
        refine c_seq ?_
        refine c_region ?_
        refine r_iaddr_g .none rfl Try.underlying29 sz44 rfl hr rfl (by first | exact of_decide_eq_true rfl | omega) (fun p_9 o_10 R_8 => ?_)
        have hc_11 := hp _ (getD_mem (i := k) (d := d0) (by omega))
        refine r_val .none rfl (p_ldga0 Try.underlying44 rfl sz44 rfl R_8 (by first | exact of_decide_eq_true rfl | omega) (rfl : _ = Value.agg #[_, _, _, _, _, _, _, _])) ?_
        refine r_alloc .none rfl zr44 (IsRow.lit _) (fun b_2 => ?_)
        refine r_stw (k := 0) .none sz44 rfl rfl (IsRow.lit _) (one_lit rfl (all_cons rfl (all_cons rfl (all_cons rfl (all_cons rfl (all_cons rfl (all_cons rfl (all_cons rfl (all_cons (hc_11).one rfl))))))))) rfl ?_
        refine r_nil ?_
        refine e_next ?_
        refine c_seq ?_
        refine c_seq ?_
        refine c_region ?_
        refine r_val .none rfl (p_field Try.underlying44 rfl sz3 rfl) ?_
        refine r_val .none rfl (p_ld (k := 0) Try.underlying3 rfl rfl rfl (by first | exact of_decide_eq_true rfl | omega) (rfl : _ = Value.int _ _)) ?_
        refine r_val .none rfl (p_ne rfl rfl) ?_
        refine r_nil ?_
        refine e_next ?_
        refine c_splitd (d := 18) rfl (fun h_12 => ?_) (fun h_12 => ?_)
        · skip
          first
            | (exfalso; omega)
            | (
              refine c_cond_t rfl ?_
              refine c_exit ?_
              refine e_exit_then ?_
              refine e_exit_block ?_
              refine e_next ?_
              refine c_region ?_
              refine r_val .none rfl (p_add rfl rfl (by omega)) ?_
              refine r_val .none rfl (p_move rfl) ?_
              refine r_nil ?_
              refine e_round ((k + 1, _)) ⟨⟨by dsimp only; omega, by dsimp only; omega, by first | (rw [← hb3, map_drop (i := k) (d := d0) (by omega), bound_skip (by omega)]; done) | (rw [← hb3, map_drop (i := k) (d := d0) (by omega), bound_next (by omega) (firstF_no (by omega))]; done)⟩, by dsimp only; omega⟩ rfl ⟨rfl, rfl, rfl, rfl, rfl, rfl, trivial⟩ (.drop (.keep (fun _ _ h => h) (.nil)))
              )
        · skip
          first
            | (exfalso; omega)
            | (
              refine c_cond_f rfl ?_
              refine c_skip ?_
              refine e_next ?_
              refine c_seq ?_
              refine c_seq ?_
              refine c_region ?_
              refine r_val .none rfl (p_assign rfl) ?_
              refine r_nil ?_
              refine e_next ?_
              refine c_block ?_
              refine c_unroll 4 ?_
              refine l_round (n := 3) ?_
              refine c_seq ?_
              refine c_seq ?_
              refine c_region ?_
              refine r_val .none rfl (p_move rfl) ?_
              refine r_val .none rfl (p_lt rfl rfl) ?_
              refine r_say (d := 20) (v := Value.bool true) rfl ?_
              refine r_nil ?_
              refine e_next ?_
              refine c_cond_t rfl ?_
              refine c_skip ?_
              refine e_next ?_
              refine c_seq ?_
              refine c_block ?_
              refine c_seq ?_
              refine c_region ?_
              refine r_val .none rfl (p_move rfl) ?_
              refine r_val .none rfl (p_field Try.underlying44 rfl sz42 rfl) ?_
              refine r_val .none rfl (p_iaddr (k := 0) Try.underlying42 sz41 rfl rfl (by first | exact of_decide_eq_true rfl | omega)) ?_
              refine r_val .none rfl (p_field Try.underlying41 rfl sz3 rfl) ?_
              refine r_val .none rfl (p_ld (k := 0) Try.underlying3 rfl rfl rfl (by first | exact of_decide_eq_true rfl | omega) (rfl : _ = Value.int _ _)) ?_
              refine r_val .none rfl (p_eq rfl rfl) ?_
              refine r_val .none rfl (p_move rfl) ?_
              refine' r_and (c := 29) (d := 37) [_, _, _, _, _, _, _, _] rfl (fun h_13 Q_14 hQ_15 => ?_) (fun h_13 Q_14 hQ_15 => ?_) ?_
              rotate_left 1
              · skip
                replace h_13 := of_decide_eq_true h_13
                refine r_val (.some rfl rfl) rfl (p_move rfl) ?_
                refine r_val (.some rfl rfl) rfl (p_field Try.underlying44 rfl sz42 rfl) ?_
                refine r_val (.some rfl rfl) rfl (p_iaddr (k := 0) Try.underlying42 sz41 rfl rfl (by first | exact of_decide_eq_true rfl | omega)) ?_
                refine r_val (.some rfl rfl) rfl (p_field Try.underlying41 rfl sz3 rfl) ?_
                refine r_val (.some rfl rfl) rfl (p_ld (k := 0) Try.underlying3 rfl rfl rfl (by first | exact of_decide_eq_true rfl | omega) (rfl : _ = Value.int _ _)) ?_
                refine r_val (.some rfl rfl) rfl (p_move rfl) ?_
                refine r_val (.some rfl rfl) rfl (p_eq rfl rfl) ?_
                refine r_val .none rfl (p_pick_t rfl rfl) ?_
                refine r_nil (e_fin (d := 37) hQ_15 rfl (by repeat (first | exact .refl | refine .put rfl ?_ | refine .say rfl ?_ | refine .say2 rfl (by first | assumption | simp_all) ?_)))
              · skip
                repeat (first | refine r_skip rfl (.no rfl rfl) ?_ | refine r_skip rfl (.un rfl rfl) ?_)
                refine r_val (by first | exact .none | exact .some rfl rfl) rfl (p_pick_f rfl rfl) ?_
                refine r_nil (e_fin (d := 37) hQ_15 rfl (by repeat (first | exact .refl | refine .put rfl ?_ | refine .say rfl ?_ | refine .say2 rfl (by first | assumption | simp_all) ?_)))
              refine r_nil ?_
              refine e_next ?_
              refine c_split (d := 37) rfl (fun h_17 => ?_) (fun h_17 => ?_)
              · skip
                try simp only [norms] at h_17
                first
                  | (exfalso; omega)
                  | (
                    refine c_cond_t rfl ?_
                    refine c_seq ?_
                    refine c_region ?_
                    refine r_val .none rfl (p_move rfl) ?_
                    refine r_val .none rfl (p_move rfl) ?_
                    refine r_val .none rfl (p_move rfl) ?_
                    refine r_val .none rfl (p_build (vs := [(0, Value.int _ _), (1, Value.int _ _), (2, Value.int _ _)]) rfl (bl101_0i1_1i1_2i1 _ _ _)) ?_
                    refine r_stw (k := 1) .none sz101 rfl rfl (IsRow.lit _) (one_lit rfl rfl) rfl ?_
                    refine r_val .none rfl (p_assign rfl) ?_
                    refine r_nil ?_
                    refine e_next ?_
                    refine c_ret ?_
                    refine e_ret_block ?_
                    refine e_ret_then ?_
                    refine e_ret_then ?_
                    refine e_ret_block ?_
                    refine e_ret_then ?_
                    refine e_ret_block ?_
                    refine e_ret_then ?_
                    refine e_ret_then ?_
                    refine e_ret_block ?_
                    refine e_ret_then ?_
                    refine e_retn Try.results55 (.cell (k := 1) rfl Try.underlying101 rfl sz101 rfl (rfl : _ = Value.agg #[_, _, _]) (.tmp rfl .nil)) rfl (fun w hm => ⟨?_, hm.since⟩)
                    first
                    | (rw [← hb3, map_drop (i := k) (d := d0) (by omega), bound_here (f := 0) (by omega) (firstF_at 0 (by omega))]; rfl)
                    | (rw [← hb3, map_drop (i := k) (d := d0) (by omega), bound_here (f := 1) (by omega) (firstF_at 1 (by omega))]; rfl)
                    | (rw [← hb3, map_drop (i := k) (d := d0) (by omega), bound_here (f := 2) (by omega) (firstF_at 2 (by omega))]; rfl)
                    | (rw [← hb3, List.drop_eq_nil_of_le (by simp; omega)]; rfl)
                    )
              · skip
                try simp only [norms] at h_17
                first
                  | (exfalso; omega)
                  | (
                    refine c_cond_f rfl ?_
                    refine c_skip ?_
                    refine e_norm_block ?_
                    refine e_next ?_
                    refine c_region ?_
                    refine r_val .none rfl (p_move rfl) ?_
                    refine r_val .none rfl (p_add rfl rfl (by omega)) ?_
                    refine r_val .none rfl (p_assign rfl) ?_
                    refine r_nil ?_
                    refine e_again ?_
                    refine l_round (n := 2) ?_
                    refine c_seq ?_
                    refine c_seq ?_
                    refine c_region ?_
                    refine r_val .none rfl (p_move rfl) ?_
                    refine r_val .none rfl (p_lt rfl rfl) ?_
                    refine r_say (d := 20) (v := Value.bool true) rfl ?_
                    refine r_nil ?_
                    refine e_next ?_
                    refine c_cond_t rfl ?_
                    refine c_skip ?_
                    refine e_next ?_
                    refine c_seq ?_
                    refine c_block ?_
                    refine c_seq ?_
                    refine c_region ?_
                    refine r_val .none rfl (p_move rfl) ?_
                    refine r_val .none rfl (p_field Try.underlying44 rfl sz42 rfl) ?_
                    refine r_val .none rfl (p_iaddr (k := 1) Try.underlying42 sz41 rfl rfl (by first | exact of_decide_eq_true rfl | omega)) ?_
                    refine r_val .none rfl (p_field Try.underlying41 rfl sz3 rfl) ?_
                    refine r_val .none rfl (p_ld (k := 0) Try.underlying3 rfl rfl rfl (by first | exact of_decide_eq_true rfl | omega) (rfl : _ = Value.int _ _)) ?_
                    refine r_val .none rfl (p_eq rfl rfl) ?_
                    refine r_val .none rfl (p_move rfl) ?_
                    refine r_splitd (d := 29) rfl (fun h_18 => ?_) (fun h_18 => ?_)
                    · skip
                      first
                        | (exfalso; omega)
                        | (
                          refine r_val (.some rfl rfl) rfl (p_move rfl) ?_
                          refine r_val (.some rfl rfl) rfl (p_field Try.underlying44 rfl sz42 rfl) ?_
                          refine r_val (.some rfl rfl) rfl (p_iaddr (k := 1) Try.underlying42 sz41 rfl rfl (by first | exact of_decide_eq_true rfl | omega)) ?_
                          refine r_val (.some rfl rfl) rfl (p_field Try.underlying41 rfl sz3 rfl) ?_
                          refine r_val (.some rfl rfl) rfl (p_ld (k := 0) Try.underlying3 rfl rfl rfl (by first | exact of_decide_eq_true rfl | omega) (rfl : _ = Value.int _ _)) ?_
                          refine r_val (.some rfl rfl) rfl (p_move rfl) ?_
                          refine r_val (.some rfl rfl) rfl (p_eq rfl rfl) ?_
                          refine r_val .none rfl (p_pick_t rfl rfl) ?_
                          refine r_nil ?_
                          refine e_next ?_
                          refine c_splitd (d := 37) rfl (fun h_19 => ?_) (fun h_19 => ?_)
                          · skip
                            first
                              | (exfalso; omega)
                              | (
                                refine c_cond_t rfl ?_
                                refine c_seq ?_
                                refine c_region ?_
                                refine r_val .none rfl (p_move rfl) ?_
                                refine r_val .none rfl (p_move rfl) ?_
                                refine r_val .none rfl (p_move rfl) ?_
                                refine r_val .none rfl (p_build (vs := [(0, Value.int _ _), (1, Value.int _ _), (2, Value.int _ _)]) rfl (bl101_0i1_1i1_2i1 _ _ _)) ?_
                                refine r_stw (k := 1) .none sz101 rfl rfl (IsRow.lit _) (one_lit rfl rfl) rfl ?_
                                refine r_val .none rfl (p_assign rfl) ?_
                                refine r_nil ?_
                                refine e_next ?_
                                refine c_ret ?_
                                refine e_ret_block ?_
                                refine e_ret_then ?_
                                refine e_ret_then ?_
                                refine e_ret_block ?_
                                refine e_ret_then ?_
                                refine e_ret_block ?_
                                refine e_ret_then ?_
                                refine e_ret_then ?_
                                refine e_ret_block ?_
                                refine e_ret_then ?_
                                refine e_retn Try.results55 (.cell (k := 1) rfl Try.underlying101 rfl sz101 rfl (rfl : _ = Value.agg #[_, _, _]) (.tmp rfl .nil)) rfl (fun w hm => ⟨?_, hm.since⟩)
                                first
                                | (rw [← hb3, map_drop (i := k) (d := d0) (by omega), bound_here (f := 0) (by omega) (firstF_at 0 (by omega))]; rfl)
                                | (rw [← hb3, map_drop (i := k) (d := d0) (by omega), bound_here (f := 1) (by omega) (firstF_at 1 (by omega))]; rfl)
                                | (rw [← hb3, map_drop (i := k) (d := d0) (by omega), bound_here (f := 2) (by omega) (firstF_at 2 (by omega))]; rfl)
                                | (rw [← hb3, List.drop_eq_nil_of_le (by simp; omega)]; rfl)
                                )
                          · skip
                            first
                              | (exfalso; omega)
                              | (
                                refine c_cond_f rfl ?_
                                refine c_skip ?_
                                refine e_norm_block ?_
                                refine e_next ?_
                                refine c_region ?_
                                refine r_val .none rfl (p_move rfl) ?_
                                refine r_val .none rfl (p_add rfl rfl (by omega)) ?_
                                refine r_val .none rfl (p_assign rfl) ?_
                                refine r_nil ?_
                                refine e_again ?_
                                refine l_round (n := 1) ?_
                                refine c_seq ?_
                                refine c_seq ?_
                                refine c_region ?_
                                refine r_val .none rfl (p_move rfl) ?_
                                refine r_val .none rfl (p_lt rfl rfl) ?_
                                refine r_say (d := 20) (v := Value.bool true) rfl ?_
                                refine r_nil ?_
                                refine e_next ?_
                                refine c_cond_t rfl ?_
                                refine c_skip ?_
                                refine e_next ?_
                                refine c_seq ?_
                                refine c_block ?_
                                refine c_seq ?_
                                refine c_region ?_
                                refine r_val .none rfl (p_move rfl) ?_
                                refine r_val .none rfl (p_field Try.underlying44 rfl sz42 rfl) ?_
                                refine r_val .none rfl (p_iaddr (k := 2) Try.underlying42 sz41 rfl rfl (by first | exact of_decide_eq_true rfl | omega)) ?_
                                refine r_val .none rfl (p_field Try.underlying41 rfl sz3 rfl) ?_
                                refine r_val .none rfl (p_ld (k := 0) Try.underlying3 rfl rfl rfl (by first | exact of_decide_eq_true rfl | omega) (rfl : _ = Value.int _ _)) ?_
                                refine r_val .none rfl (p_eq rfl rfl) ?_
                                refine r_val .none rfl (p_move rfl) ?_
                                refine r_splitd (d := 29) rfl (fun h_20 => ?_) (fun h_20 => ?_)
                                · skip
                                  first
                                    | (exfalso; omega)
                                    | (
                                      refine r_val (.some rfl rfl) rfl (p_move rfl) ?_
                                      refine r_val (.some rfl rfl) rfl (p_field Try.underlying44 rfl sz42 rfl) ?_
                                      refine r_val (.some rfl rfl) rfl (p_iaddr (k := 2) Try.underlying42 sz41 rfl rfl (by first | exact of_decide_eq_true rfl | omega)) ?_
                                      refine r_val (.some rfl rfl) rfl (p_field Try.underlying41 rfl sz3 rfl) ?_
                                      refine r_val (.some rfl rfl) rfl (p_ld (k := 0) Try.underlying3 rfl rfl rfl (by first | exact of_decide_eq_true rfl | omega) (rfl : _ = Value.int _ _)) ?_
                                      refine r_val (.some rfl rfl) rfl (p_move rfl) ?_
                                      refine r_val (.some rfl rfl) rfl (p_eq rfl rfl) ?_
                                      refine r_val .none rfl (p_pick_t rfl rfl) ?_
                                      refine r_nil ?_
                                      refine e_next ?_
                                      refine c_splitd (d := 37) rfl (fun h_21 => ?_) (fun h_21 => ?_)
                                      · skip
                                        first
                                          | (exfalso; omega)
                                          | (
                                            refine c_cond_t rfl ?_
                                            refine c_seq ?_
                                            refine c_region ?_
                                            refine r_val .none rfl (p_move rfl) ?_
                                            refine r_val .none rfl (p_move rfl) ?_
                                            refine r_val .none rfl (p_move rfl) ?_
                                            refine r_val .none rfl (p_build (vs := [(0, Value.int _ _), (1, Value.int _ _), (2, Value.int _ _)]) rfl (bl101_0i1_1i1_2i1 _ _ _)) ?_
                                            refine r_stw (k := 1) .none sz101 rfl rfl (IsRow.lit _) (one_lit rfl rfl) rfl ?_
                                            refine r_val .none rfl (p_assign rfl) ?_
                                            refine r_nil ?_
                                            refine e_next ?_
                                            refine c_ret ?_
                                            refine e_ret_block ?_
                                            refine e_ret_then ?_
                                            refine e_ret_then ?_
                                            refine e_ret_block ?_
                                            refine e_ret_then ?_
                                            refine e_ret_block ?_
                                            refine e_ret_then ?_
                                            refine e_ret_then ?_
                                            refine e_ret_block ?_
                                            refine e_ret_then ?_
                                            refine e_retn Try.results55 (.cell (k := 1) rfl Try.underlying101 rfl sz101 rfl (rfl : _ = Value.agg #[_, _, _]) (.tmp rfl .nil)) rfl (fun w hm => ⟨?_, hm.since⟩)
                                            first
                                            | (rw [← hb3, map_drop (i := k) (d := d0) (by omega), bound_here (f := 0) (by omega) (firstF_at 0 (by omega))]; rfl)
                                            | (rw [← hb3, map_drop (i := k) (d := d0) (by omega), bound_here (f := 1) (by omega) (firstF_at 1 (by omega))]; rfl)
                                            | (rw [← hb3, map_drop (i := k) (d := d0) (by omega), bound_here (f := 2) (by omega) (firstF_at 2 (by omega))]; rfl)
                                            | (rw [← hb3, List.drop_eq_nil_of_le (by simp; omega)]; rfl)
                                            )
                                      · skip
                                        first
                                          | (exfalso; omega)
                                          | (
                                            refine c_cond_f rfl ?_
                                            refine c_skip ?_
                                            refine e_norm_block ?_
                                            refine e_next ?_
                                            refine c_region ?_
                                            refine r_val .none rfl (p_move rfl) ?_
                                            refine r_val .none rfl (p_add rfl rfl (by omega)) ?_
                                            refine r_val .none rfl (p_assign rfl) ?_
                                            refine r_nil ?_
                                            refine e_again ?_
                                            refine l_round (n := 0) ?_
                                            refine c_seq ?_
                                            refine c_seq ?_
                                            refine c_region ?_
                                            refine r_val .none rfl (p_move rfl) ?_
                                            refine r_val .none rfl (p_lt rfl rfl) ?_
                                            refine r_say (d := 20) (v := Value.bool false) rfl ?_
                                            refine r_nil ?_
                                            refine e_next ?_
                                            refine c_cond_f rfl ?_
                                            refine c_exit ?_
                                            refine e_exit_then ?_
                                            refine e_exit_then ?_
                                            refine e_exit_block ?_
                                            refine e_next ?_
                                            refine c_region ?_
                                            refine r_val .none rfl (p_move rfl) ?_
                                            refine r_val .none rfl (p_add rfl rfl (by omega)) ?_
                                            refine r_val .none rfl (p_assign rfl) ?_
                                            refine r_nil ?_
                                            refine e_norm_block ?_
                                            refine e_next ?_
                                            refine c_region ?_
                                            refine r_val .none rfl (p_add rfl rfl (by omega)) ?_
                                            refine r_val .none rfl (p_move rfl) ?_
                                            refine r_nil ?_
                                            refine e_round ((k + 1, _)) ⟨⟨by dsimp only; omega, by dsimp only; omega, by first | (rw [← hb3, map_drop (i := k) (d := d0) (by omega), bound_skip (by omega)]; done) | (rw [← hb3, map_drop (i := k) (d := d0) (by omega), bound_next (by omega) (firstF_no (by omega))]; done)⟩, by dsimp only; omega⟩ rfl ⟨rfl, rfl, rfl, rfl, rfl, rfl, trivial⟩ (.drop (.keep (fun _ _ h => h) (.nil)))
                                            )
                                      )
                                · skip
                                  first
                                    | (exfalso; omega)
                                    | (
                                      refine r_skip rfl (.no rfl rfl) ?_
                                      refine r_skip rfl (.no rfl rfl) ?_
                                      refine r_skip rfl (.no rfl rfl) ?_
                                      refine r_skip rfl (.no rfl rfl) ?_
                                      refine r_skip rfl (.no rfl rfl) ?_
                                      refine r_skip rfl (.no rfl rfl) ?_
                                      refine r_skip rfl (.no rfl rfl) ?_
                                      refine r_val .none rfl (p_pick_f rfl rfl) ?_
                                      refine r_nil ?_
                                      refine e_next ?_
                                      refine c_cond_f rfl ?_
                                      refine c_skip ?_
                                      refine e_norm_block ?_
                                      refine e_next ?_
                                      refine c_region ?_
                                      refine r_val .none rfl (p_move rfl) ?_
                                      refine r_val .none rfl (p_add rfl rfl (by omega)) ?_
                                      refine r_val .none rfl (p_assign rfl) ?_
                                      refine r_nil ?_
                                      refine e_again ?_
                                      refine l_round (n := 0) ?_
                                      refine c_seq ?_
                                      refine c_seq ?_
                                      refine c_region ?_
                                      refine r_val .none rfl (p_move rfl) ?_
                                      refine r_val .none rfl (p_lt rfl rfl) ?_
                                      refine r_say (d := 20) (v := Value.bool false) rfl ?_
                                      refine r_nil ?_
                                      refine e_next ?_
                                      refine c_cond_f rfl ?_
                                      refine c_exit ?_
                                      refine e_exit_then ?_
                                      refine e_exit_then ?_
                                      refine e_exit_block ?_
                                      refine e_next ?_
                                      refine c_region ?_
                                      refine r_val .none rfl (p_move rfl) ?_
                                      refine r_val .none rfl (p_add rfl rfl (by omega)) ?_
                                      refine r_val .none rfl (p_assign rfl) ?_
                                      refine r_nil ?_
                                      refine e_norm_block ?_
                                      refine e_next ?_
                                      refine c_region ?_
                                      refine r_val .none rfl (p_add rfl rfl (by omega)) ?_
                                      refine r_val .none rfl (p_move rfl) ?_
                                      refine r_nil ?_
                                      refine e_round ((k + 1, _)) ⟨⟨by dsimp only; omega, by dsimp only; omega, by first | (rw [← hb3, map_drop (i := k) (d := d0) (by omega), bound_skip (by omega)]; done) | (rw [← hb3, map_drop (i := k) (d := d0) (by omega), bound_next (by omega) (firstF_no (by omega))]; done)⟩, by dsimp only; omega⟩ rfl ⟨rfl, rfl, rfl, rfl, rfl, rfl, trivial⟩ (.drop (.keep (fun _ _ h => h) (.nil)))
                                      )
                                )
                          )
                    · skip
                      first
                        | (exfalso; omega)
                        | (
                          refine r_skip rfl (.no rfl rfl) ?_
                          refine r_skip rfl (.no rfl rfl) ?_
                          refine r_skip rfl (.no rfl rfl) ?_
                          refine r_skip rfl (.no rfl rfl) ?_
                          refine r_skip rfl (.no rfl rfl) ?_
                          refine r_skip rfl (.no rfl rfl) ?_
                          refine r_skip rfl (.no rfl rfl) ?_
                          refine r_val .none rfl (p_pick_f rfl rfl) ?_
                          refine r_nil ?_
                          refine e_next ?_
                          refine c_cond_f rfl ?_
                          refine c_skip ?_
                          refine e_norm_block ?_
                          refine e_next ?_
                          refine c_region ?_
                          refine r_val .none rfl (p_move rfl) ?_
                          refine r_val .none rfl (p_add rfl rfl (by omega)) ?_
                          refine r_val .none rfl (p_assign rfl) ?_
                          refine r_nil ?_
                          refine e_again ?_
                          refine l_round (n := 1) ?_
                          refine c_seq ?_
                          refine c_seq ?_
                          refine c_region ?_
                          refine r_val .none rfl (p_move rfl) ?_
                          refine r_val .none rfl (p_lt rfl rfl) ?_
                          refine r_say (d := 20) (v := Value.bool true) rfl ?_
                          refine r_nil ?_
                          refine e_next ?_
                          refine c_cond_t rfl ?_
                          refine c_skip ?_
                          refine e_next ?_
                          refine c_seq ?_
                          refine c_block ?_
                          refine c_seq ?_
                          refine c_region ?_
                          refine r_val .none rfl (p_move rfl) ?_
                          refine r_val .none rfl (p_field Try.underlying44 rfl sz42 rfl) ?_
                          refine r_val .none rfl (p_iaddr (k := 2) Try.underlying42 sz41 rfl rfl (by first | exact of_decide_eq_true rfl | omega)) ?_
                          refine r_val .none rfl (p_field Try.underlying41 rfl sz3 rfl) ?_
                          refine r_val .none rfl (p_ld (k := 0) Try.underlying3 rfl rfl rfl (by first | exact of_decide_eq_true rfl | omega) (rfl : _ = Value.int _ _)) ?_
                          refine r_val .none rfl (p_eq rfl rfl) ?_
                          refine r_val .none rfl (p_move rfl) ?_
                          refine r_splitd (d := 29) rfl (fun h_22 => ?_) (fun h_22 => ?_)
                          · skip
                            first
                              | (exfalso; omega)
                              | (
                                refine r_val (.some rfl rfl) rfl (p_move rfl) ?_
                                refine r_val (.some rfl rfl) rfl (p_field Try.underlying44 rfl sz42 rfl) ?_
                                refine r_val (.some rfl rfl) rfl (p_iaddr (k := 2) Try.underlying42 sz41 rfl rfl (by first | exact of_decide_eq_true rfl | omega)) ?_
                                refine r_val (.some rfl rfl) rfl (p_field Try.underlying41 rfl sz3 rfl) ?_
                                refine r_val (.some rfl rfl) rfl (p_ld (k := 0) Try.underlying3 rfl rfl rfl (by first | exact of_decide_eq_true rfl | omega) (rfl : _ = Value.int _ _)) ?_
                                refine r_val (.some rfl rfl) rfl (p_move rfl) ?_
                                refine r_val (.some rfl rfl) rfl (p_eq rfl rfl) ?_
                                refine r_val .none rfl (p_pick_t rfl rfl) ?_
                                refine r_nil ?_
                                refine e_next ?_
                                refine c_splitd (d := 37) rfl (fun h_23 => ?_) (fun h_23 => ?_)
                                · skip
                                  first
                                    | (exfalso; omega)
                                    | (
                                      refine c_cond_t rfl ?_
                                      refine c_seq ?_
                                      refine c_region ?_
                                      refine r_val .none rfl (p_move rfl) ?_
                                      refine r_val .none rfl (p_move rfl) ?_
                                      refine r_val .none rfl (p_move rfl) ?_
                                      refine r_val .none rfl (p_build (vs := [(0, Value.int _ _), (1, Value.int _ _), (2, Value.int _ _)]) rfl (bl101_0i1_1i1_2i1 _ _ _)) ?_
                                      refine r_stw (k := 1) .none sz101 rfl rfl (IsRow.lit _) (one_lit rfl rfl) rfl ?_
                                      refine r_val .none rfl (p_assign rfl) ?_
                                      refine r_nil ?_
                                      refine e_next ?_
                                      refine c_ret ?_
                                      refine e_ret_block ?_
                                      refine e_ret_then ?_
                                      refine e_ret_then ?_
                                      refine e_ret_block ?_
                                      refine e_ret_then ?_
                                      refine e_ret_block ?_
                                      refine e_ret_then ?_
                                      refine e_ret_then ?_
                                      refine e_ret_block ?_
                                      refine e_ret_then ?_
                                      refine e_retn Try.results55 (.cell (k := 1) rfl Try.underlying101 rfl sz101 rfl (rfl : _ = Value.agg #[_, _, _]) (.tmp rfl .nil)) rfl (fun w hm => ⟨?_, hm.since⟩)
                                      first
                                      | (rw [← hb3, map_drop (i := k) (d := d0) (by omega), bound_here (f := 0) (by omega) (firstF_at 0 (by omega))]; rfl)
                                      | (rw [← hb3, map_drop (i := k) (d := d0) (by omega), bound_here (f := 1) (by omega) (firstF_at 1 (by omega))]; rfl)
                                      | (rw [← hb3, map_drop (i := k) (d := d0) (by omega), bound_here (f := 2) (by omega) (firstF_at 2 (by omega))]; rfl)
                                      | (rw [← hb3, List.drop_eq_nil_of_le (by simp; omega)]; rfl)
                                      )
                                · skip
                                  first
                                    | (exfalso; omega)
                                    | (
                                      refine c_cond_f rfl ?_
                                      refine c_skip ?_
                                      refine e_norm_block ?_
                                      refine e_next ?_
                                      refine c_region ?_
                                      refine r_val .none rfl (p_move rfl) ?_
                                      refine r_val .none rfl (p_add rfl rfl (by omega)) ?_
                                      refine r_val .none rfl (p_assign rfl) ?_
                                      refine r_nil ?_
                                      refine e_again ?_
                                      refine l_round (n := 0) ?_
                                      refine c_seq ?_
                                      refine c_seq ?_
                                      refine c_region ?_
                                      refine r_val .none rfl (p_move rfl) ?_
                                      refine r_val .none rfl (p_lt rfl rfl) ?_
                                      refine r_say (d := 20) (v := Value.bool false) rfl ?_
                                      refine r_nil ?_
                                      refine e_next ?_
                                      refine c_cond_f rfl ?_
                                      refine c_exit ?_
                                      refine e_exit_then ?_
                                      refine e_exit_then ?_
                                      refine e_exit_block ?_
                                      refine e_next ?_
                                      refine c_region ?_
                                      refine r_val .none rfl (p_move rfl) ?_
                                      refine r_val .none rfl (p_add rfl rfl (by omega)) ?_
                                      refine r_val .none rfl (p_assign rfl) ?_
                                      refine r_nil ?_
                                      refine e_norm_block ?_
                                      refine e_next ?_
                                      refine c_region ?_
                                      refine r_val .none rfl (p_add rfl rfl (by omega)) ?_
                                      refine r_val .none rfl (p_move rfl) ?_
                                      refine r_nil ?_
                                      refine e_round ((k + 1, _)) ⟨⟨by dsimp only; omega, by dsimp only; omega, by first | (rw [← hb3, map_drop (i := k) (d := d0) (by omega), bound_skip (by omega)]; done) | (rw [← hb3, map_drop (i := k) (d := d0) (by omega), bound_next (by omega) (firstF_no (by omega))]; done)⟩, by dsimp only; omega⟩ rfl ⟨rfl, rfl, rfl, rfl, rfl, rfl, trivial⟩ (.drop (.keep (fun _ _ h => h) (.nil)))
                                      )
                                )
                          · skip
                            first
                              | (exfalso; omega)
                              | (
                                refine r_skip rfl (.no rfl rfl) ?_
                                refine r_skip rfl (.no rfl rfl) ?_
                                refine r_skip rfl (.no rfl rfl) ?_
                                refine r_skip rfl (.no rfl rfl) ?_
                                refine r_skip rfl (.no rfl rfl) ?_
                                refine r_skip rfl (.no rfl rfl) ?_
                                refine r_skip rfl (.no rfl rfl) ?_
                                refine r_val .none rfl (p_pick_f rfl rfl) ?_
                                refine r_nil ?_
                                refine e_next ?_
                                refine c_cond_f rfl ?_
                                refine c_skip ?_
                                refine e_norm_block ?_
                                refine e_next ?_
                                refine c_region ?_
                                refine r_val .none rfl (p_move rfl) ?_
                                refine r_val .none rfl (p_add rfl rfl (by omega)) ?_
                                refine r_val .none rfl (p_assign rfl) ?_
                                refine r_nil ?_
                                refine e_again ?_
                                refine l_round (n := 0) ?_
                                refine c_seq ?_
                                refine c_seq ?_
                                refine c_region ?_
                                refine r_val .none rfl (p_move rfl) ?_
                                refine r_val .none rfl (p_lt rfl rfl) ?_
                                refine r_say (d := 20) (v := Value.bool false) rfl ?_
                                refine r_nil ?_
                                refine e_next ?_
                                refine c_cond_f rfl ?_
                                refine c_exit ?_
                                refine e_exit_then ?_
                                refine e_exit_then ?_
                                refine e_exit_block ?_
                                refine e_next ?_
                                refine c_region ?_
                                refine r_val .none rfl (p_move rfl) ?_
                                refine r_val .none rfl (p_add rfl rfl (by omega)) ?_
                                refine r_val .none rfl (p_assign rfl) ?_
                                refine r_nil ?_
                                refine e_norm_block ?_
                                refine e_next ?_
                                refine c_region ?_
                                refine r_val .none rfl (p_add rfl rfl (by omega)) ?_
                                refine r_val .none rfl (p_move rfl) ?_
                                refine r_nil ?_
                                refine e_round ((k + 1, _)) ⟨⟨by dsimp only; omega, by dsimp only; omega, by first | (rw [← hb3, map_drop (i := k) (d := d0) (by omega), bound_skip (by omega)]; done) | (rw [← hb3, map_drop (i := k) (d := d0) (by omega), bound_next (by omega) (firstF_no (by omega))]; done)⟩, by dsimp only; omega⟩ rfl ⟨rfl, rfl, rfl, rfl, rfl, rfl, trivial⟩ (.drop (.keep (fun _ _ h => h) (.nil)))
                                )
                          )
                    )
              )
        )
  · skip
    first
      | (exfalso; omega)
      | (
        refine c_cond_f rfl ?_
        refine c_exit ?_
        refine e_exit_then ?_
        refine e_exit_then ?_
        refine e_exit_block ?_
        refine e_next ?_
        refine c_seq ?_
        refine c_region ?_
        refine r_val .none rfl (p_build (vs := []) rfl (bl101_ )) ?_
        refine r_stw (k := 0) .none sz101 rfl rfl (IsRow.lit _) (one_lit rfl rfl) rfl ?_
        refine r_val .none rfl (p_assign rfl) ?_
        refine r_nil ?_
        refine e_next ?_
        refine c_ret ?_
        refine e_retn Try.results55 (.cell (k := 0) rfl Try.underlying101 rfl sz101 rfl (rfl : _ = Value.agg #[_, _, _]) (.tmp rfl .nil)) rfl (fun w hm => ⟨?_, hm.since⟩)
        first
        | (rw [← hb3, map_drop (i := k) (d := d0) (by omega), bound_here (f := 0) (by omega) (firstF_at 0 (by omega))]; rfl)
        | (rw [← hb3, map_drop (i := k) (d := d0) (by omega), bound_here (f := 1) (by omega) (firstF_at 1 (by omega))]; rfl)
        | (rw [← hb3, map_drop (i := k) (d := d0) (by omega), bound_here (f := 2) (by omega) (firstF_at 2 (by omega))]; rfl)
        | (rw [← hb3, List.drop_eq_nil_of_le (by simp; omega)]; rfl)
        )
end Go.Proofs.Ytoflaphnlfggkaa
