/- Walks: what Go functions of this chapter come to, each as a function on plain data; no condition but those that each theorem names. Printed by a program of this work (gen.py). -/
import Derived.Test.YtoflaphnlfggkaaW08p
import Derived.Test.YtoflaphnlfggkaaRows
namespace Go.Proofs.Ytoflaphnlfggkaa
open Go.Gx Go.Gx.T4 Go.Gx.T3 Go.Gx.T6 Go.Gx.T8 Go.Gx.T4 Go.Gx.T3 Go.Gx.T8 Go.Gx.T4 Go.Gx.T3 Go.Gx.T8 Go.Gx.T6 Go.Gx.T4 Go.Gx.T3
theorem cl30 : Callable Try.prog 30 := callable Try.func30 (by kernel_rfl) rfl
theorem cl48 : Callable Try.prog 48 := callable Try.func48 (by kernel_rfl) rfl
theorem cl52 : Callable Try.prog 52 := callable Try.func52 (by kernel_rfl) rfl
theorem cl53 : Callable Try.prog 53 := callable Try.func53 (by kernel_rfl) rfl
theorem bl64_0i1_3s3 (x0 : Int) (x1 : Option Addr) (x2 : Nat) (x3 : Nat) : Program.built Try.prog 64 [(0, Value.int .i64 x0), (3, Value.slice x1 x2 x3)] = some #[Value.int .i64 x0, Value.int .i64 0, Value.int .i64 0, Value.int .i64 0, Value.slice none 0 0, Value.slice x1 x2 x3] := by
  kernel_rfl
theorem bl64_0i1_1a3_2s3 (x0 : Int) (x1 : Value) (x2 : Value) (x3 : Value) (x4 : Option Addr) (x5 : Nat) (x6 : Nat) : Program.built Try.prog 64 [(0, Value.int .i64 x0), (1, Value.agg #[x1, x2, x3]), (2, Value.slice x4 x5 x6)] = some #[Value.int .i64 x0, x1, x2, x3, Value.slice x4 x5 x6, Value.slice none 0 0] := by
  kernel_rfl
def CStepIs (n : Nat) : Prop := ∀ (c : CT) (sv va : Value) (l : List CT) (G : Ghost) (w : World), SizeOf.sizeOf c ≤ n → l.length + size c ≤ 1000 → Cs G sv c.subs → Cs G va l → Has G w → Calls Try.prog 30 #[va, Value.agg #[Value.int .i64 c.h.k, Value.bool c.h.v0, Value.int .i64 c.h.n0, Value.bool c.h.v1, Value.int .i64 c.h.n1, Value.bool c.h.v2, Value.int .i64 c.h.n2, sv]] w (Ret fun r w' => ∃ H : Ghost, (∀ b, H b ≠ none → w.heap.size ≤ b) ∧ Has H w' ∧ (∃ ua ub, r = Value.agg #[Value.int .i64 (stepOf l c).h.k, Value.int .i64 (stepOf l c).h.k0, Value.int .i64 (stepOf l c).h.k1, Value.int .i64 (stepOf l c).h.k2, ua, ub] ∧ SlL H ua 3 tC t0 (stepOf l c).h.ts ∧ Ss H ub (stepOf l c).subs) ∧ Since nX w w')
theorem c_beh (n : Nat) (ih : CStepIs n) (va vl : Value) (ah l : List CT) {G : Ghost} (hz : SizeOf.sizeOf l ≤ n + 1) (hsz : ah.length + sizeL l ≤ 1000) (hsa : Cs G va ah) (hs : Cs G vl l) (w : World) (hG : Has G w) :
    Calls Try.prog 48 #[va, vl] w (Ret fun r w' => ∃ H : Ghost, (∀ b, H b ≠ none → w.heap.size ≤ b) ∧ Has H w' ∧ Ss H r (stepsOf ah l) ∧ Since nX w w') := by
  refine enter (args := [_, _]) (X := nX) (G := G) (l := [(0, va), (1, vl)]) Try.func48 rfl Try.ntmps48 hG ⟨rfl, rfl, trivial⟩ (Nat.le_of_ble_eq_true rfl) ?_
  obtain ⟨rs, hr, hp, hl⟩ := hs.inv
  have hbd := hr.bound
  have hll := sizeL_len l
  have hlr : l.length = rs.length := by rw [hl]; simp
  rw [hl] at hsz hll
  rw [List.length_map] at hll
  obtain ⟨es, ha, hap, hal⟩ := hsa.inv
  have hel : ah.length = es.length := by rw [hal]; simp
  refine c_seq ?_
  refine c_region ?_
  refine r_val .none rfl (p_assign rfl) ?_
  refine r_nil ?_
  refine e_next ?_
  refine c_seq ?_
  refine c_region ?_
  refine r_val .none rfl (p_assign rfl) ?_
  refine r_nil ?_
  refine e_next ?_
  refine c_seq ?_
  refine c_region ?_
  refine r_val .none rfl (p_move rfl) ?_
  refine r_callrow (vs := [_]) .none rfl cl44 rfl (fun w hw => c_cloneC _ es ha (by omega) hap w hw) (fun v_1 => ?_)
  refine r_val .none rfl (p_assign rfl) ?_
  refine r_nil ?_
  refine e_next ?_
  refine c_seq ?_
  refine c_seq ?_
  refine c_region ?_
  refine r_val .none rfl (p_move rfl) ?_
  refine r_val .none rfl (p_leng Try.underlying22 rfl hr) ?_
  have bd_2 := (hr).bound
  refine r_val .none rfl (p_move rfl) ?_
  refine r_nil ?_
  refine e_next ?_
  refine c_block ?_
  refine c_nilrow 64 6 ?_
  refine c_name (d := 4) rfl (fun u_3 hu_3 => ?_)
  refine c_name (d := 10) rfl (fun u_4 hu_4 => ?_)
  refine c_name (d := 11) rfl (fun u_5 hu_5 => ?_)
  refine c_loop (σ := Nat × Value × Value × List SVal × Ghost) (fun s => [(12, Value.int .i64 (s.1 : Nat)), (5, s.2.1), (0, s.2.2.1), (4, u_3), (10, u_4), (11, u_5)]) (fun s => [rowA (s.2.1) 64 6 (s.2.2.2.1).length ((s.2.2.2.1).flatMap sC), rowA (s.2.2.1) 38 8 ((es ++ rs.take s.1)).length (((es ++ rs.take s.1)).flatMap cvC)]) (fun s => s.2.2.2.2) (fun s => s.1 ≤ rs.length ∧ s.2.2.2.1.map Prod.fst = stepsOf ah ((rs.map Prod.fst).take s.1) ∧ (∀ p ∈ s.2.2.2.1, SlL (fr w s.2.2.2.2) p.2.1 3 tC t0 p.1.h.ts) ∧ (∀ p ∈ s.2.2.2.1, Ss (fr w s.2.2.2.2) p.2.2 p.1.subs) ∧ GNew w nX G s.2.2.2.2) (fun s => rs.length - s.1) ((0, _, _, [], _)) ⟨Nat.zero_le _, rfl, by simp, by simp, GNew.refl _ _ _⟩ rfl ⟨rfl, rfl, rfl, rfl, rfl, rfl, trivial⟩ (.keep (fun _ _ h => rowA_nil rfl _ _ h) (.keep (fun _ _ h => rowA_congr (by simp) (by simp) _ _ h) (.nil))) (fun s hphi => ?_)
  subst hu_3
  subst hu_4
  subst hu_5
  obtain ⟨k, v, v0, qs, H⟩ := s
  obtain ⟨hk, hq, hqt, hqs, hgn⟩ := hphi
  dsimp only at hk hq hqt hqs hgn ⊢
  have hql : qs.length ≤ k := (by have := congrArg List.length hq; rw [stepsOf_len] at this; simp at this; omega)
  refine c_row1 (k := 0) rfl (fun ov_6 => ?_)
  refine c_row1 (k := 1) rfl (fun ov_7 => ?_)
  replace ha := ha.mono hgn.le
  replace hr := hr.mono hgn.le
  replace hp := fun p hm0 => (hp p hm0).mono hgn.le
  replace hap := fun p hm0 => (hap p hm0).mono hgn.le
  refine c_seq ?_
  refine c_region ?_
  refine r_val .none rfl (p_lt rfl rfl) ?_
  refine r_nil ?_
  refine e_next ?_
  refine c_seq ?_
  refine c_splitd (d := 13) rfl (fun h_8 => ?_) (fun h_8 => ?_)
  · skip
    first
      | (exfalso; omega)
      | (
        refine c_cond_t rfl ?_
        refine c_skip ?_
        refine e_next ?_
        refine c_seq ?_
        refine c_block ?_
        refine c_seq ?_
        refine c_region ?_
        refine r_iaddr_g .none rfl Try.underlying22 sz38 rfl hr rfl (by first | exact of_decide_eq_true rfl | omega) (fun p_10 o_11 R_9 => ?_)
        have hc_12 := hp _ (getD_mem (i := k) (d := d0) (by omega))
        have hz9 : (ah ++ ((rs.map Prod.fst).take k)).length + size (rs.getD k d0).1 ≤ 1000 := by have q1 := sizeL_take (rs := rs) (k := k) (by omega); have q2 := sizeL_take_le (rs.map Prod.fst) (k + 1); have q3 := sizeL_len ((rs.map Prod.fst).take k); rw [List.length_take, List.length_map] at q3; rw [List.length_append, List.length_take, List.length_map]; omega
        refine r_val .none rfl (p_ldga0 Try.underlying38 rfl sz38 rfl R_9 (by first | exact of_decide_eq_true rfl | omega) (rfl : _ = Value.agg #[_, _, _, _, _, _, _, _])) ?_
        refine r_alloc .none rfl zr38 (IsRow.lit _) (fun b_1 => ?_)
        refine r_stw (k := 0) .none sz38 rfl rfl (IsRow.lit _) (one_lit rfl (all_cons rfl (all_cons rfl (all_cons rfl (all_cons rfl (all_cons rfl (all_cons rfl (all_cons rfl (all_cons (hc_12).one rfl))))))))) rfl ?_
        refine r_nil ?_
        refine e_next ?_
        refine c_seq ?_
        refine c_region ?_
        refine r_val .none rfl (p_move rfl) ?_
        refine r_val .none rfl (p_move rfl) ?_
        refine r_val .none rfl (p_ldw (k := 0) Try.underlying38 rfl sz38 rfl rfl (rfl : _ = Value.agg #[_, _, _, _, _, _, _, _])) ?_
        refine r_callfr (k := 2) (vs := [_, _]) .none rfl cl30 rfl rfl (fun _ _ _ hle hz => by obtain ⟨ua, ub, h1, h2, h3⟩ := hz; exact ⟨ua, ub, h1, h2.mono hle, h3.mono hle⟩) (fun w G_18 hw hle_19 hs_20 => ih (rs.getD k d0).1 _ _ _ _ w (by have := List.sizeOf_lt_of_mem (show (rs.getD k d0).1 ∈ l by rw [hl]; exact List.mem_map.2 ⟨_, getD_mem (by omega), rfl⟩); omega) hz9 (hc_12.mono hle_19) (by have h : Cs _ _ ((es ++ rs.take k).map Prod.fst) := Tr.mk _ (SlL.of d0 (fun _ => rfl) rfl hs_20) (fun p hm0 => by rcases List.mem_append.1 hm0 with h | h; exact (hap p h).mono hle_19; exact (hp p (List.mem_of_mem_take h)).mono hle_19); rw [List.map_append, ← hal, List.map_take] at h; exact h) hw) (fun G_13 v_16 hn_14 hr_15 => ?_)
        replace ha := ha.mono hn_14.le
        replace hr := hr.mono hn_14.le
        replace hp := fun p hm0 => (hp p hm0).mono hn_14.le
        replace hap := fun p hm0 => (hap p hm0).mono hn_14.le
        replace hqt := fun p hm0 => (hqt p hm0).mono (fr_mono _ hn_14.le)
        replace hqs := fun p hm0 => (hqs p hm0).mono (fr_mono _ hn_14.le)
        replace R_9 := R_9.mono hn_14.le
        replace hc_12 := hc_12.mono hn_14.le
        obtain ⟨u_17a, u_17b, rfl, u_17s, u_17t⟩ := hr_15
        refine r_bslice (vs := [(0, Value.agg #[_, _, _, _, _, _])]) (c := #[_, _, _, _, _, _]) .none rfl Try.underlying50 el64 rfl rfl rfl (bs64_10a6 _ _ _ _ _ _) (IsRow.lit _) (fun b_2 => ?_)
        refine r_append (k := 2) (k2 := 0) .none rfl Try.underlying50 el64 rfl (by decide) rfl rfl rfl rfl rfl (one_lit rfl (all_cons rfl (all_cons rfl (all_cons rfl (all_cons rfl (all_cons (u_17s).one (all_cons (u_17t).one rfl))))))) (by simp only [maxLen]; omega) (by omega) (fun v_21 => ?_)
        refine r_row1 (k := 2) rfl (fun o_22 => ?_)
        refine r_val .none rfl (p_assign rfl) ?_
        refine r_nil ?_
        refine e_next ?_
        refine c_region ?_
        refine r_val .none rfl (p_move rfl) ?_
        refine r_val .none rfl (p_ldw (k := 1) Try.underlying38 rfl sz38 rfl rfl (rfl : _ = Value.agg #[_, _, _, _, _, _, _, _])) ?_
        refine r_bslice (vs := [(0, Value.agg #[_, _, _, _, _, _, _, _])]) (c := #[_, _, _, _, _, _, _, _]) .none rfl Try.underlying22 el38 rfl rfl rfl (bs38_10a8 _ _ _ _ _ _ _ _) (IsRow.lit _) (fun b_3 => ?_)
        refine r_append (k := 4) (k2 := 0) .none rfl Try.underlying22 el38 rfl (by decide) rfl rfl rfl rfl rfl (one_lit rfl (all_cons rfl (all_cons rfl (all_cons rfl (all_cons rfl (all_cons rfl (all_cons rfl (all_cons rfl (all_cons (hc_12).one rfl))))))))) (by rw [List.length_append, List.length_take]; simp only [maxLen]; omega) (by rw [List.length_append, List.length_take]; omega) (fun v_23 => ?_)
        refine r_row1 (k := 4) rfl (fun o_24 => ?_)
        refine r_val .none rfl (p_assign rfl) ?_
        refine r_nil ?_
        refine e_norm_block ?_
        refine e_next ?_
        refine c_region ?_
        refine r_val .none rfl (p_add rfl rfl (by omega)) ?_
        refine r_val .none rfl (p_move rfl) ?_
        refine r_nil ?_
        refine e_round ((k + 1, _, _, qs ++ [(stepOf (ah ++ ((rs.map Prod.fst).take k)) (rs.getD k d0).1, u_17a, u_17b)], _)) ⟨⟨by dsimp only; omega, by rw [stepsOf_take (by omega), List.map_append, hq]; rfl, (fun p hp' => by rcases List.mem_append.1 hp' with h | h; exact hqt p h; rw [List.mem_singleton.1 h]; exact u_17s), (fun p hp' => by rcases List.mem_append.1 hp' with h | h; exact hqs p h; rw [List.mem_singleton.1 h]; exact u_17t), (hgn.trans hn_14)⟩, by dsimp only; omega⟩ rfl ⟨rfl, rfl, rfl, rfl, rfl, rfl, trivial⟩ (.drop (.drop (.drop (.keep (fun _ _ h => rowA_snoc (l := qs) (x := (stepOf (ah ++ ((rs.map Prod.fst).take k)) (rs.getD k d0).1, u_17a, u_17b)) rfl rfl rfl rfl _ _ h) (.keep (fun _ _ h => rowA_snoc (l := es ++ rs.take k) (x := rs.getD k d0) (by rw [take_rs (by omega), List.append_assoc]) rfl rfl rfl _ _ h) (.nil))))))
        )
  · skip
    first
      | (exfalso; omega)
      | (
        refine c_cond_f rfl ?_
        refine c_exit ?_
        refine e_exit_then ?_
        refine e_exit_then ?_
        refine e_exit_block ?_
        refine e_next ?_
        refine c_seq ?_
        refine c_region ?_
        refine r_val .none rfl (p_move rfl) ?_
        refine r_val .none rfl (p_assign rfl) ?_
        refine r_nil ?_
        refine e_next ?_
        refine c_ret ?_
        refine e_freezeF (k := 0) rfl (fun G_25 hn_26 hs_27 => ?_)
        replace ha := ha.mono hn_26.le
        replace hr := hr.mono hn_26.le
        replace hp := fun p hm0 => (hp p hm0).mono hn_26.le
        replace hap := fun p hm0 => (hap p hm0).mono hn_26.le
        replace hqt := fun p hm0 => (hqt p hm0).mono (fr_mono _ hn_26.le)
        replace hqs := fun p hm0 => (hqs p hm0).mono (fr_mono _ hn_26.le)
        refine e_ret1 Try.results48 (.tmp rfl .nil) (fun w hm => ⟨fr _ _, fr_new _ _, fun b o e => hm.has b o (fr_le _ _ b o e), ?_, hm.since⟩)
        rw [show stepsOf ah l = qs.map Prod.fst by rw [hq, hl, List.take_of_length_le (by simp; omega)]]
        exact Ss.mk qs (SlL.of s0 (fun _ => rfl) rfl hs_27) hqt hqs
        )
theorem c_cstep_s (n : Nat) (ih : CStepIs n) (c : CT) (sv va : Value) (l : List CT) {G : Ghost} (hz : SizeOf.sizeOf c ≤ n + 1) (hsz : l.length + size c ≤ 1000) (hs : Cs G sv c.subs) (hs2 : Cs G va l) (w : World) (hG : Has G w) :
    Calls Try.prog 30 #[va, Value.agg #[Value.int .i64 c.h.k, Value.bool c.h.v0, Value.int .i64 c.h.n0, Value.bool c.h.v1, Value.int .i64 c.h.n1, Value.bool c.h.v2, Value.int .i64 c.h.n2, sv]] w (Ret fun r w' => ∃ H : Ghost, (∀ b, H b ≠ none → w.heap.size ≤ b) ∧ Has H w' ∧ (∃ ua ub, r = Value.agg #[Value.int .i64 (stepOf l c).h.k, Value.int .i64 (stepOf l c).h.k0, Value.int .i64 (stepOf l c).h.k1, Value.int .i64 (stepOf l c).h.k2, ua, ub] ∧ SlL H ua 3 tC t0 (stepOf l c).h.ts ∧ Ss H ub (stepOf l c).subs) ∧ Since nX w w') := by
  refine enter (args := [_, _]) (X := nX) (G := G) (l := [(0, va), (1, Value.agg #[Value.int .i64 c.h.k, Value.bool c.h.v0, Value.int .i64 c.h.n0, Value.bool c.h.v1, Value.int .i64 c.h.n1, Value.bool c.h.v2, Value.int .i64 c.h.n2, sv])]) Try.func30 rfl Try.ntmps30 hG ⟨rfl, rfl, trivial⟩ (Nat.le_of_ble_eq_true rfl) ?_
  have hone := hs.one
  have hsq := size_eq c
  refine c_seq ?_
  refine c_region ?_
  refine r_box .none rfl rfl (IsRow.lit _) (fun b_1 => ?_)
  refine r_alloc .none rfl zr64 (IsRow.lit _) (fun b_2 => ?_)
  refine r_nil ?_
  refine e_next ?_
  refine c_seq ?_
  refine c_seq ?_
  refine c_region ?_
  refine r_val .none rfl (p_field Try.underlying38 rfl sz3 rfl) ?_
  refine r_val .none rfl (p_ld (k := 1) Try.underlying3 rfl rfl rfl (by first | exact of_decide_eq_true rfl | omega) (rfl : _ = Value.int _ _)) ?_
  refine r_val .none rfl (p_eq rfl rfl) ?_
  refine r_nil ?_
  refine e_next ?_
  refine c_splitd (d := 7) rfl (fun h_1 => ?_) (fun h_1 => ?_)
  · skip
    first
      | (exfalso; omega)
      | (
        refine c_cond_t rfl ?_
        refine c_seq ?_
        refine c_region_d (fun j => [7].contains j) _ mixed (.keep (fun _ _ h => h) (.keep (fun _ _ h => h) (.nil))) ?_
        refine d_val1 0 rfl rfl (by kernel_rfl) (fun j hj => by have h : 7 < j := (Nat.lt_of_lt_of_le (by decide : 7 < 8) hj); simp; omega) .none rfl (p_field Try.underlying38 rfl sz3 rfl) ?_
        refine d_val1 1 rfl rfl (by kernel_rfl) (fun j hj => by have h : 7 < j := (Nat.lt_of_lt_of_le (by decide : 7 < 8) hj); simp; omega) .none rfl (p_ld (k := 1) Try.underlying3 rfl rfl rfl (by first | exact of_decide_eq_true rfl | omega) (rfl : _ = Value.int _ _)) ?_
        refine d_val1 2 rfl rfl (by kernel_rfl) (fun j hj => by have h : 7 < j := (Nat.lt_of_lt_of_le (by decide : 7 < 8) hj); simp; omega) .none rfl (p_move rfl) ?_
        refine d_val1 3 rfl rfl (by kernel_rfl) (fun j hj => by have h : 7 < j := (Nat.lt_of_lt_of_le (by decide : 7 < 8) hj); simp; omega) .none rfl (p_field Try.underlying38 rfl sz22 rfl) ?_
        refine d_val1 4 rfl rfl (by kernel_rfl) (fun j hj => by have h : 7 < j := (Nat.lt_of_lt_of_le (by decide : 7 < 8) hj); simp; omega) .none rfl (p_ld (k := 1) Try.underlying22 rfl rfl rfl (by first | exact of_decide_eq_true rfl | omega) rfl) ?_
        refine d_eff 5 rfl (by kernel_rfl) (fun K_2 hKK_2 hcK_2 => ?_)
        refine r_callf (vs := [_, _]) .none rfl cl48 rfl (fun _ _ _ hle hz => hz.mono hle) (fun w hw => c_beh n ih _ _ l c.subs (by have := size_subs c; omega) (by omega) hs2 hs w hw) (fun G_3 v_6 hn_4 hr_5 => ?_)
        replace hs2 := hs2.mono hn_4.le
        replace hs := hs.mono hn_4.le
        have u_7 := hr_5
        refine r_nil (e_d (i := 5) (brk := (fun j => [7].contains j)) (ph' := true) hKK_2 hcK_2 rfl (fun _ => hn_4.le) (fun _ => .keep (fun _ _ h => h) (.keep (fun _ _ h => h) (.nil))) ?_)
        clear hKK_2 hcK_2 K_2
        obtain ⟨a_8, c_9, rfl⟩ := Ss.len u_7
        refine d_val1 6 rfl rfl (by kernel_rfl) (fun j hj => by have h : 7 < j := (Nat.lt_of_lt_of_le (by decide : 7 < 8) hj); simp; omega) .none rfl (p_build (vs := [(0, Value.int _ _), (3, Value.slice _ _ _)]) rfl (bl64_0i1_3s3 _ _ _ _)) ?_
        refine d_eff 7 rfl (by kernel_rfl) (fun K_10 hKK_10 hcK_10 => ?_)
        refine r_stw (k := 0) .none sz64 rfl rfl (IsRow.lit _) (one_lit rfl (all_cons rfl (all_cons rfl (all_cons rfl (all_cons rfl (all_cons rfl (all_cons (u_7).one rfl))))))) rfl ?_
        refine r_nil (e_d (i := 7) (brk := (fun j => [7].contains j)) (ph' := false) hKK_10 hcK_10 rfl (fun h => by cases h) (fun h => by cases h) ?_)
        clear hKK_10 hcK_10 K_10
        refine d_nil (by kernel_rfl) ?_
        refine e_next ?_
        refine c_ret ?_
        refine e_ret_then ?_
        refine e_ret1 Try.results30 (.cell (k := 0) rfl Try.underlying64 rfl sz64 rfl (rfl : _ = Value.agg #[_, _, _, _, _, _]) .nil) (fun w hm => ⟨fr _ _, fr_new _ _, fun b o e => hm.has b o (fr_le _ _ b o e), ?_, hm.since⟩)
        rw [stepOf_ncc (by omega)]
        exact ⟨_, _, rfl, SlG.nil _ _ _, u_7⟩
        )
  · skip
    first
      | (exfalso; omega)
      | (
        refine c_cond_f rfl ?_
        refine c_skip ?_
        refine e_next ?_
        refine c_seq ?_
        refine c_region_d (fun j => [9].contains j) _ mixed (.keep (fun _ _ h => h) (.keep (fun _ _ h => h) (.nil))) ?_
        refine d_val1 0 rfl rfl (by kernel_rfl) (fun j hj => by have h : 9 < j := (Nat.lt_of_lt_of_le (by decide : 9 < 10) hj); simp; omega) .none rfl (p_field Try.underlying38 rfl sz3 rfl) ?_
        refine d_val1 1 rfl rfl (by kernel_rfl) (fun j hj => by have h : 9 < j := (Nat.lt_of_lt_of_le (by decide : 9 < 10) hj); simp; omega) .none rfl (p_ld (k := 1) Try.underlying3 rfl rfl rfl (by first | exact of_decide_eq_true rfl | omega) (rfl : _ = Value.int _ _)) ?_
        refine d_val1 2 rfl rfl (by kernel_rfl) (fun j hj => by have h : 9 < j := (Nat.lt_of_lt_of_le (by decide : 9 < 10) hj); simp; omega) .none rfl (p_field Try.underlying38 rfl sz36 rfl) ?_
        refine d_val1 3 rfl rfl (by kernel_rfl) (fun j hj => by have h : 9 < j := (Nat.lt_of_lt_of_le (by decide : 9 < 10) hj); simp; omega) .none rfl (p_lda (k := 1) Try.underlying36 rfl sz36 rfl rfl (by first | exact of_decide_eq_true rfl | omega) (rfl : _ = Value.agg #[_, _, _, _, _, _])) ?_
        refine d_val1 5 rfl rfl (by kernel_rfl) (fun j hj => by have h : 9 < j := (Nat.lt_of_lt_of_le (by decide : 9 < 10) hj); simp; omega) .none rfl (p_move rfl) ?_
        refine d_val1 6 rfl rfl (by kernel_rfl) (fun j hj => by have h : 9 < j := (Nat.lt_of_lt_of_le (by decide : 9 < 10) hj); simp; omega) .none rfl (p_ldw (k := 1) Try.underlying38 rfl sz38 rfl rfl (rfl : _ = Value.agg #[_, _, _, _, _, _, _, _])) ?_
        refine d_eff 4 rfl (by kernel_rfl) (fun K_11 hKK_11 hcK_11 => ?_)
        refine r_call (vs := [_]) .none rfl cl52 rfl (fun w hw => c_keyof c.h w) ?_
        refine r_nil (e_d (i := 4) (brk := (fun j => [9].contains j)) (ph' := true) hKK_11 hcK_11 rfl (fun _ => GLe.refl _) (fun _ => .keep (fun _ _ h => h) (.keep (fun _ _ h => h) (.nil))) ?_)
        clear hKK_11 hcK_11 K_11
        refine d_eff 7 rfl (by kernel_rfl) (fun K_12 hKK_12 hcK_12 => ?_)
        refine r_callf (vs := [_, _]) .none rfl cl53 rfl (fun _ _ _ hle hz => hz.mono hle) (fun w hw => c_tests8 _ _ c sv (by omega) hs2 hone w hw) (fun G_13 v_16 hn_14 hr_15 => ?_)
        replace hs2 := hs2.mono hn_14.le
        replace hs := hs.mono hn_14.le
        have u_17 := hr_15
        refine r_nil (e_d (i := 7) (brk := (fun j => [9].contains j)) (ph' := true) hKK_12 hcK_12 rfl (fun _ => hn_14.le) (fun _ => .keep (fun _ _ h => h) (.keep (fun _ _ h => h) (.nil))) ?_)
        clear hKK_12 hcK_12 K_12
        obtain ⟨a_18, c_19, rfl⟩ := SlG.len u_17
        refine d_val1 8 rfl rfl (by kernel_rfl) (fun j hj => by have h : 9 < j := (Nat.lt_of_lt_of_le (by decide : 9 < 10) hj); simp; omega) .none rfl (p_build (vs := [(0, Value.int _ _), (1, Value.agg #[_, _, _]), (2, Value.slice _ _ _)]) rfl (bl64_0i1_1a3_2s3 _ _ _ _ _ _ _)) ?_
        refine d_eff 9 rfl (by kernel_rfl) (fun K_20 hKK_20 hcK_20 => ?_)
        refine r_stw (k := 0) .none sz64 rfl rfl (IsRow.lit _) (one_lit rfl (all_cons rfl (all_cons rfl (all_cons rfl (all_cons rfl (all_cons (u_17).one (all_cons rfl rfl))))))) rfl ?_
        refine r_nil (e_d (i := 9) (brk := (fun j => [9].contains j)) (ph' := false) hKK_20 hcK_20 rfl (fun h => by cases h) (fun h => by cases h) ?_)
        clear hKK_20 hcK_20 K_20
        refine d_nil (by kernel_rfl) ?_
        refine e_next ?_
        refine c_ret ?_
        refine e_ret1 Try.results30 (.cell (k := 0) rfl Try.underlying64 rfl sz64 rfl (rfl : _ = Value.agg #[_, _, _, _, _, _]) .nil) (fun w hm => ⟨fr _ _, fr_new _ _, fun b o e => hm.has b o (fr_le _ _ b o e), ?_, hm.since⟩)
        rw [stepOf_other (by omega)]
        exact ⟨_, _, rfl, u_17, Ss.nil⟩
        )
theorem c_cstep_n : ∀ n, CStepIs n
  | 0 => fun c sv va l G w hz _ _ _ _ => absurd hz (by have := size_subs c; omega)
  | n + 1 => fun c sv va l G w hz hsz hs hs2 hG => c_cstep_s n (c_cstep_n n) c sv va l hz hsz hs hs2 w hG
theorem c_cstep (c : CT) (sv va : Value) (l : List CT) {G : Ghost} (hsz : l.length + size c ≤ 1000) (hs : Cs G sv c.subs) (hs2 : Cs G va l) (w : World) (hG : Has G w) : Calls Try.prog 30 #[va, Value.agg #[Value.int .i64 c.h.k, Value.bool c.h.v0, Value.int .i64 c.h.n0, Value.bool c.h.v1, Value.int .i64 c.h.n1, Value.bool c.h.v2, Value.int .i64 c.h.n2, sv]] w (Ret fun r w' => ∃ H : Ghost, (∀ b, H b ≠ none → w.heap.size ≤ b) ∧ Has H w' ∧ (∃ ua ub, r = Value.agg #[Value.int .i64 (stepOf l c).h.k, Value.int .i64 (stepOf l c).h.k0, Value.int .i64 (stepOf l c).h.k1, Value.int .i64 (stepOf l c).h.k2, ua, ub] ∧ SlL H ua 3 tC t0 (stepOf l c).h.ts ∧ Ss H ub (stepOf l c).subs) ∧ Since nX w w') := c_cstep_n _ c sv va l G w (Nat.le_refl _) hsz hs hs2 hG
theorem c_ccomp (v : Value) (l : List CT) {G : Ghost} (hsz : sizeL l ≤ 1000) (hs : Cs G v l) (w : World) (hG : Has G w) :
    Calls Try.prog 24 #[v] w (Ret fun r w' => ∃ H : Ghost, (∀ b, H b ≠ none → w.heap.size ≤ b) ∧ Has H w' ∧ Ss H r (stepsOf [] l) ∧ Since nX w w') := by
  refine enter (args := [_]) (X := nX) (G := G) (l := [(0, v)]) Try.func24 rfl Try.ntmps24 hG ⟨rfl, trivial⟩ (Nat.le_of_ble_eq_true rfl) ?_
  refine c_seq ?_
  refine c_region ?_
  refine r_val .none rfl (p_assign rfl) ?_
  refine r_nil ?_
  refine e_next ?_
  refine c_seq ?_
  refine c_region ?_
  refine r_val .none rfl (p_move rfl) ?_
  refine r_callf (vs := [_, _]) .none rfl cl48 rfl (fun _ _ _ hle hz => hz.mono hle) (fun w hw => c_beh _ (c_cstep_n _) _ _ [] l (Nat.le_succ _) (by simpa using hsz) Tr.nil hs w hw) (fun G_1 v_4 hn_2 hr_3 => ?_)
  replace hs := hs.mono hn_2.le
  have u_5 := hr_3
  refine r_val .none rfl (p_assign rfl) ?_
  refine r_nil ?_
  refine e_next ?_
  refine c_ret ?_
  refine e_ret1 Try.results24 (.tmp rfl .nil) (fun w hm => ⟨fr _ _, fr_new _ _, fun b o e => hm.has b o (fr_le _ _ b o e), ?_, hm.since⟩)
  exact u_5
end Go.Proofs.Ytoflaphnlfggkaa
