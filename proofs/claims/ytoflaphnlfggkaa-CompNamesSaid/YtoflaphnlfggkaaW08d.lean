/- Walks: what Go functions of this chapter come to, each as a function on plain data; no condition but those that each theorem names. Printed by a program of this work (gen.py). -/
import Derived.Test.YtoflaphnlfggkaaW08c
import Derived.Test.YtoflaphnlfggkaaRows
namespace Go.Proofs.Ytoflaphnlfggkaa
open Go.Gx Go.Gx.T3 Go.Gx.T4 Go.Gx.T3 Go.Gx.T8 Go.Gx.T4 Go.Gx.T3
theorem sz62 : SzIs Try.prog 62 1 := by
  unfold SzIs
  kernel_rfl
theorem sz64 : SzIs Try.prog 64 6 := by
  unfold SzIs
  kernel_rfl
theorem sz96 : SzIs Try.prog 96 3 := by
  unfold SzIs
  kernel_rfl
theorem zr64 : ZeroIs Try.prog 64 (Value.agg #[Value.int .i64 0, Value.int .i64 0, Value.int .i64 0, Value.int .i64 0, Value.slice none 0 0, Value.slice none 0 0]) := by
  unfold ZeroIs
  kernel_rfl
theorem zr96 : ZeroIs Try.prog 96 (Value.agg #[Value.int .i64 0, Value.int .i64 0, Value.int .i64 0]) := by
  unfold ZeroIs
  kernel_rfl
theorem cl27 : Callable Try.prog 27 := callable Try.func27 (by kernel_rfl) rfl
theorem bl64_0i1_1a3_3s3 (x0 : Int) (x1 : Value) (x2 : Value) (x3 : Value) (x4 : Option Addr) (x5 : Nat) (x6 : Nat) : Program.built Try.prog 64 [(0, Value.int .i64 x0), (1, Value.agg #[x1, x2, x3]), (3, Value.slice x4 x5 x6)] = some #[Value.int .i64 x0, x1, x2, x3, Value.slice none 0 0, Value.slice x4 x5 x6] := by
  kernel_rfl
theorem bl92_0i1_1i1_2i1 (x0 : Int) (x1 : Int) (x2 : Int) : Program.built Try.prog 92 [(0, Value.int .i64 x0), (1, Value.int .i64 x1), (2, Value.int .i64 x2)] = some #[Value.int .i64 x0, Value.int .i64 x1, Value.int .i64 x2] := by
  kernel_rfl
theorem bs64_10a6 (a0 a1 a2 a3 a4 a5 : Value) : Instr.fill (fun i => some (i * 6, 6)) ((Array.range (1 * 6)).map ((Value.agg #[Value.int .i64 0, Value.int .i64 0, Value.int .i64 0, Value.int .i64 0, Value.slice none 0 0, Value.slice none 0 0]).cells[· % (Value.agg #[Value.int .i64 0, Value.int .i64 0, Value.int .i64 0, Value.int .i64 0, Value.slice none 0 0, Value.slice none 0 0]).cells.size]!)) [(0, Value.agg #[a0, a1, a2, a3, a4, a5])] = some #[a0, a1, a2, a3, a4, a5] := by
  kernel_rfl
theorem bs92_10a3 (a0 a1 a2 : Value) : Instr.fill (fun i => some (i * 3, 3)) ((Array.range (1 * 3)).map ((Value.agg #[Value.int .i64 0, Value.int .i64 0, Value.int .i64 0]).cells[· % (Value.agg #[Value.int .i64 0, Value.int .i64 0, Value.int .i64 0]).cells.size]!)) [(0, Value.agg #[a0, a1, a2])] = some #[a0, a1, a2] := by
  kernel_rfl
theorem el64 : ElemIs Try.prog 64 6 80 (Value.agg #[Value.int .i64 0, Value.int .i64 0, Value.int .i64 0, Value.int .i64 0, Value.slice none 0 0, Value.slice none 0 0]) := by
  unfold ElemIs
  kernel_rfl
theorem el92 : ElemIs Try.prog 92 3 24 (Value.agg #[Value.int .i64 0, Value.int .i64 0, Value.int .i64 0]) := by
  unfold ElemIs
  kernel_rfl
def StepsIs (n : Nat) : Prop := ∀ (v : Value) (l : List ST) (G : Ghost) (w : World), SizeOf.sizeOf l ≤ n → sszL l ≤ 5000 → Ss G v l → Has G w → Calls Try.prog 27 #[v] w (Ret fun r w' => ∃ G', GNew w nX G G' ∧ Has G' w' ∧ Ss G' r l ∧ Since nX w w')
theorem c_compile (v : Value) (l : List CT) {G : Ghost} (hsz : sizeL l ≤ 1000) (hs : Rs G v l) (w : World) (hG : Has G w) :
    Calls Try.prog 25 #[v] w (Ret fun r w' => ∃ G', GNew w nX G G' ∧ Has G' w' ∧ Ss G' r (stepsOf [] l) ∧ Since nX w w') := by
  refine enter (args := [_]) (X := nX) (G := G) (l := [(0, v)]) Try.func25 rfl Try.ntmps25 hG ⟨rfl, trivial⟩ (Nat.le_of_ble_eq_true rfl) ?_
  obtain ⟨rs, hr, hp, rfl⟩ := hs.inv
  have hbd := hr.bound
  have hll := sizeL_len (rs.map Prod.fst)
  rw [List.length_map] at hll
  refine c_seq ?_
  refine c_region ?_
  refine r_val .none rfl (p_assign rfl) ?_
  refine r_nil ?_
  refine e_next ?_
  refine c_seq ?_
  refine c_region ?_
  refine r_val .none rfl (p_assign rfl) ?_
  refine r_nil ?_
  refine e_next ?_
  refine c_seq ?_
  refine c_seq ?_
  refine c_region ?_
  refine r_val .none rfl (p_move rfl) ?_
  refine r_val .none rfl (p_leng Try.underlying29 rfl hr) ?_
  have bd_1 := (hr).bound
  refine r_val .none rfl (p_move rfl) ?_
  refine r_nil ?_
  refine e_next ?_
  refine c_block ?_
  refine c_nilrow 70 6 ?_
  refine c_name (d := 0) rfl (fun u_2 hu_2 => ?_)
  refine c_name (d := 2) rfl (fun u_3 hu_3 => ?_)
  refine c_name (d := 6) rfl (fun u_4 hu_4 => ?_)
  refine c_name (d := 7) rfl (fun u_5 hu_5 => ?_)
  refine c_loop (σ := Nat × Value × List SVal × Ghost) (fun s => [(8, Value.int .i64 (s.1 : Nat)), (3, s.2.1), (0, u_2), (2, u_3), (6, u_4), (7, u_5)]) (fun s => [rowA (s.2.1) 70 6 (s.2.2.1).length ((s.2.2.1).flatMap sC)]) (fun s => s.2.2.2) (fun s => s.1 ≤ rs.length ∧ s.2.2.1.map Prod.fst = stepsOf [] ((rs.map Prod.fst).take s.1) ∧ (∀ p ∈ s.2.2.1, SlL s.2.2.2 p.2.1 3 tC t0 p.1.h.ts) ∧ (∀ p ∈ s.2.2.1, Ss s.2.2.2 p.2.2 p.1.subs) ∧ GNew w nX G s.2.2.2) (fun s => rs.length - s.1) ((0, _, [], _)) ⟨Nat.zero_le _, rfl, by simp, by simp, GNew.refl _ _ _⟩ rfl ⟨rfl, rfl, rfl, rfl, rfl, rfl, trivial⟩ (.keep (fun _ _ h => rowA_nil rfl _ _ h) (.nil)) (fun s hphi => ?_)
  subst hu_2
  subst hu_3
  subst hu_4
  subst hu_5
  obtain ⟨k, v, qs, H⟩ := s
  obtain ⟨hk, hq, hqt, hqs, hgn⟩ := hphi
  dsimp only at hk hq hqt hqs hgn ⊢
  have hql : qs.length ≤ k := (by have := congrArg List.length hq; rw [stepsOf_len] at this; simp at this; omega)
  replace hr := hr.mono hgn.le
  replace hp := fun p hm0 => (hp p hm0).mono hgn.le
  refine c_seq ?_
  refine c_region ?_
  refine r_val .none rfl (p_lt rfl rfl) ?_
  refine r_nil ?_
  refine e_next ?_
  refine c_seq ?_
  refine c_splitd (d := 9) rfl (fun h_6 => ?_) (fun h_6 => ?_)
  · skip
    first
      | (exfalso; omega)
      | (
        refine c_cond_t rfl ?_
        refine c_skip ?_
        refine e_next ?_
        refine c_seq ?_
        refine c_block ?_
        refine c_seq ?_
        refine c_region ?_
        refine r_val .none rfl (p_move rfl) ?_
        refine r_iaddr_g .none rfl Try.underlying29 sz44 rfl hr rfl (by first | exact of_decide_eq_true rfl | omega) (fun p_8 o_9 R_7 => ?_)
        have hc_10 := hp _ (getD_mem (i := k) (d := d0) (by omega))
        have hz6 : ((rs.map Prod.fst).take k).length + size (rs.getD k d0).1 ≤ 1000 := by have h1 := sizeL_take (rs := rs) (k := k) (by omega); have h2 := sizeL_take_le (rs.map Prod.fst) (k + 1); have h3 := sizeL_len ((rs.map Prod.fst).take k); omega
        refine r_val .none rfl (p_ldga0 Try.underlying44 rfl sz44 rfl R_7 (by first | exact of_decide_eq_true rfl | omega) (rfl : _ = Value.agg #[_, _, _, _, _, _, _, _])) ?_
        refine r_alloc .none rfl zr44 (IsRow.lit _) (fun b_1 => ?_)
        refine r_val .none rfl (p_assign rfl) ?_
        refine r_stw (k := 0) .none sz44 rfl rfl (IsRow.lit _) (one_lit rfl (all_cons rfl (all_cons rfl (all_cons rfl (all_cons rfl (all_cons rfl (all_cons rfl (all_cons rfl (all_cons (hc_10).one rfl))))))))) rfl ?_
        refine r_nil ?_
        refine e_next ?_
        refine c_region_d (fun _ => false) _ mixed (.keep (fun _ _ h => h) (.drop (.nil))) ?_
        refine d_val1 0 rfl rfl (by kernel_rfl) (fun _ _ => rfl) .none rfl (p_move rfl) ?_
        refine d_val1 1 rfl rfl (by kernel_rfl) (fun _ _ => rfl) .none rfl (p_move rfl) ?_
        refine d_val1 2 rfl rfl (by kernel_rfl) (fun _ _ => rfl) .none rfl (p_move rfl) ?_
        refine d_slice0 3 k rfl rfl (by kernel_rfl) (fun _ _ => rfl) .none rfl Try.underlying29 sz44 rfl hr rfl (by first | exact of_decide_eq_true rfl | omega) (fun v_11 hs_12 => ?_)
        have hT_14 := Tr.take2 (by omega) hs_12 hp
        refine d_val1 4 rfl rfl (by kernel_rfl) (fun _ _ => rfl) .none rfl (p_ldw (k := 0) Try.underlying44 rfl sz44 rfl rfl (rfl : _ = Value.agg #[_, _, _, _, _, _, _, _])) ?_
        refine d_eff 5 rfl (by kernel_rfl) (fun K_15 hKK_15 hcK_15 => ?_)
        refine r_callm (vs := [_, _]) .none rfl cl34 rfl (fun w hw => c_of (rs.getD k d0).1 _ _ _ hz6 hc_10 hT_14 w hw) (fun G_16 v_19 hn_17 hr_18 => ?_)
        replace hr := hr.mono hn_17.le
        replace hp := fun p hm0 => (hp p hm0).mono hn_17.le
        replace hqt := fun p hm0 => (hqt p hm0).mono hn_17.le
        replace hqs := fun p hm0 => (hqs p hm0).mono hn_17.le
        replace R_7 := R_7.mono hn_17.le
        replace hc_10 := hc_10.mono hn_17.le
        replace hs_12 := hs_12.mono hn_17.le
        replace hT_14 := hT_14.mono hn_17.le
        obtain ⟨u_20a, u_20b, rfl, u_20s, u_20t⟩ := hr_18
        refine r_nil (e_d (i := 5) (brk := (fun _ => false)) (ph' := true) hKK_15 hcK_15 rfl (fun _ => hn_17.le) (fun _ => .keep (fun _ _ h => h) (.drop (.nil))) ?_)
        clear hKK_15 hcK_15 K_15
        refine d_eff 6 rfl (by kernel_rfl) (fun K_21 hKK_21 hcK_21 => ?_)
        refine r_bslice (vs := [(0, Value.agg #[_, _, _, _, _, _])]) (c := #[_, _, _, _, _, _]) .none rfl Try.underlying48 el70 rfl rfl rfl (bs70_10a6 _ _ _ _ _ _) (IsRow.lit _) (fun b_2 => ?_)
        refine r_nil (e_d (i := 6) (brk := (fun _ => false)) (ph' := true) hKK_21 hcK_21 rfl (fun _ => hn_17.le) (fun _ => .drop (.keep (fun _ _ h => h) (.drop (.nil)))) ?_)
        clear hKK_21 hcK_21 K_21
        refine d_eff 7 rfl (by kernel_rfl) (fun K_22 hKK_22 hcK_22 => ?_)
        refine r_append (k := 2) (k2 := 0) .none rfl Try.underlying48 el70 rfl (by decide) rfl rfl rfl rfl rfl (one_lit rfl (all_cons rfl (all_cons rfl (all_cons rfl (all_cons rfl (all_cons (u_20s).one (all_cons (u_20t).one rfl))))))) (by simp only [maxLen]; omega) (by omega) (fun v_23 => ?_)
        refine r_row1 (k := 2) rfl (fun o_24 => ?_)
        refine r_nil (e_d (i := 7) (brk := (fun _ => false)) (ph' := true) hKK_22 hcK_22 rfl (fun _ => hn_17.le) (fun _ => .drop (.keep (fun _ _ h => h) (.drop (.nil)))) ?_)
        clear hKK_22 hcK_22 K_22
        refine d_val1 8 rfl rfl (by kernel_rfl) (fun _ _ => rfl) .none rfl (p_assign rfl) ?_
        refine d_nil (by kernel_rfl) ?_
        refine e_norm_block ?_
        refine e_next ?_
        refine c_region ?_
        refine r_val .none rfl (p_add rfl rfl (by omega)) ?_
        refine r_val .none rfl (p_move rfl) ?_
        refine r_nil ?_
        refine e_round ((k + 1, _, qs ++ [(stepOf ((rs.map Prod.fst).take k) (rs.getD k d0).1, u_20a, u_20b)], _)) ⟨⟨by dsimp only; omega, by rw [stepsOf_take (by omega), List.map_append, hq, List.nil_append]; rfl, (fun p hp' => by rcases List.mem_append.1 hp' with h | h; exact hqt p h; rw [List.mem_singleton.1 h]; exact u_20s), (fun p hp' => by rcases List.mem_append.1 hp' with h | h; exact hqs p h; rw [List.mem_singleton.1 h]; exact u_20t), (hgn.trans hn_17)⟩, by dsimp only; omega⟩ rfl ⟨rfl, rfl, rfl, rfl, rfl, rfl, trivial⟩ (.drop (.drop (.keep (fun _ _ h => rowA_snoc (l := qs) (x := (stepOf ((rs.map Prod.fst).take k) (rs.getD k d0).1, u_20a, u_20b)) rfl rfl rfl rfl _ _ h) (.nil))))
        )
  · skip
    first
      | (exfalso; omega)
      | (
        refine c_cond_f rfl ?_
        refine c_exit ?_
        refine e_exit_then ?_
        refine e_exit_then ?_
        refine e_exit_block ?_
        refine e_next ?_
        refine c_seq ?_
        refine c_region ?_
        refine r_val .none rfl (p_move rfl) ?_
        refine r_val .none rfl (p_assign rfl) ?_
        refine r_nil ?_
        refine e_next ?_
        refine c_ret ?_
        refine e_freeze (k := 0) rfl (fun G_25 hn_26 hs_27 => ?_)
        replace hr := hr.mono hn_26.le
        replace hp := fun p hm0 => (hp p hm0).mono hn_26.le
        replace hqt := fun p hm0 => (hqt p hm0).mono hn_26.le
        replace hqs := fun p hm0 => (hqs p hm0).mono hn_26.le
        refine e_ret1 Try.results25 (.tmp rfl .nil) (fun w hm => ⟨_, (hgn.trans hn_26), hm.has, ?_, hm.since⟩)
        rw [show stepsOf [] (rs.map Prod.fst) = qs.map Prod.fst by rw [hq, List.take_of_length_le (by simp; omega)]]
        exact Ss.mk qs (SlL.of s0 (fun _ => rfl) rfl hs_27) hqt hqs
        )
theorem c_steps_s (n : Nat) (ih : StepsIs n) (v : Value) (l : List ST) {G : Ghost} (hz : SizeOf.sizeOf l ≤ n + 1) (hsz : sszL l ≤ 5000) (hs : Ss G v l) (w : World) (hG : Has G w) :
    Calls Try.prog 27 #[v] w (Ret fun r w' => ∃ G', GNew w nX G G' ∧ Has G' w' ∧ Ss G' r l ∧ Since nX w w') := by
  refine enter (args := [_]) (X := nX) (G := G) (l := [(0, v)]) Try.func27 rfl Try.ntmps27 hG ⟨rfl, trivial⟩ (Nat.le_of_ble_eq_true rfl) ?_
  obtain ⟨rs, hr, hrt, hp, hl⟩ := hs.inv
  have hbd := hr.bound
  have hll := sszL_len l
  have hlr : l.length = rs.length := by rw [hl]; simp
  refine c_seq ?_
  refine c_region ?_
  refine r_val .none rfl (p_assign rfl) ?_
  refine r_nil ?_
  refine e_next ?_
  refine c_seq ?_
  refine c_region ?_
  refine r_val .none rfl (p_assign rfl) ?_
  refine r_nil ?_
  refine e_next ?_
  refine c_seq ?_
  refine c_seq ?_
  refine c_region ?_
  refine r_val .none rfl (p_move rfl) ?_
  refine r_val .none rfl (p_leng Try.underlying48 rfl hr) ?_
  have bd_1 := (hr).bound
  refine r_val .none rfl (p_move rfl) ?_
  refine r_nil ?_
  refine e_next ?_
  refine c_block ?_
  refine c_nilrow 64 6 ?_
  refine c_name (d := 2) rfl (fun u_2 hu_2 => ?_)
  refine c_name (d := 9) rfl (fun u_3 hu_3 => ?_)
  refine c_name (d := 10) rfl (fun u_4 hu_4 => ?_)
  refine c_loop (σ := Nat × Value × List SVal × Ghost) (fun s => [(11, Value.int .i64 (s.1 : Nat)), (3, s.2.1), (2, u_2), (9, u_3), (10, u_4)]) (fun s => [rowA (s.2.1) 64 6 (s.2.2.1).length ((s.2.2.1).flatMap sC)]) (fun s => s.2.2.2) (fun s => s.1 ≤ rs.length ∧ s.2.2.1.map Prod.fst = (rs.map Prod.fst).take s.1 ∧ (∀ p ∈ s.2.2.1, SlL s.2.2.2 p.2.1 3 tC t0 p.1.h.ts) ∧ (∀ p ∈ s.2.2.1, Ss s.2.2.2 p.2.2 p.1.subs) ∧ GNew w nX G s.2.2.2) (fun s => rs.length - s.1) ((0, _, [], _)) ⟨Nat.zero_le _, rfl, by simp, by simp, GNew.refl _ _ _⟩ rfl ⟨rfl, rfl, rfl, rfl, rfl, trivial⟩ (.keep (fun _ _ h => rowA_nil rfl _ _ h) (.nil)) (fun s hphi => ?_)
  subst hu_2
  subst hu_3
  subst hu_4
  obtain ⟨k, v, qs, H⟩ := s
  obtain ⟨hk, hq, hqt, hqs, hgn⟩ := hphi
  dsimp only at hk hq hqt hqs hgn ⊢
  have hql : qs.length ≤ k := (by have := congrArg List.length hq; simp at this; omega)
  replace hr := hr.mono hgn.le
  replace hrt := fun p hm0 => (hrt p hm0).mono hgn.le
  replace hp := fun p hm0 => (hp p hm0).mono hgn.le
  refine c_seq ?_
  refine c_region ?_
  refine r_val .none rfl (p_lt rfl rfl) ?_
  refine r_nil ?_
  refine e_next ?_
  refine c_seq ?_
  refine c_splitd (d := 12) rfl (fun h_5 => ?_) (fun h_5 => ?_)
  · skip
    first
      | (exfalso; omega)
      | (
        refine c_cond_t rfl ?_
        refine c_skip ?_
        refine e_next ?_
        refine c_seq ?_
        refine c_block ?_
        refine c_seq ?_
        refine c_region ?_
        refine r_iaddr_g .none rfl Try.underlying48 sz70 rfl hr rfl (by first | exact of_decide_eq_true rfl | omega) (fun p_7 o_8 R_6 => ?_)
        have ht_9 := hrt _ (getD_mem (i := k) (d := s0) (by omega))
        have hc_10 := hp _ (getD_mem (i := k) (d := s0) (by omega))
        have hz7 := Nat.le_trans (sszL_mem (by rw [hl]; exact sv_mem (k := k) (by omega))) hsz
        rw [ssz_eq] at hz7
        refine r_val .none rfl (p_ldga0 Try.underlying70 rfl sz70 rfl R_6 (by first | exact of_decide_eq_true rfl | omega) (rfl : _ = Value.agg #[_, _, _, _, _, _])) ?_
        refine r_alloc .none rfl zr70 (IsRow.lit _) (fun b_1 => ?_)
        refine r_stw (k := 0) .none sz70 rfl rfl (IsRow.lit _) (one_lit rfl (all_cons rfl (all_cons rfl (all_cons rfl (all_cons rfl (all_cons (ht_9).one (all_cons (hc_10).one rfl))))))) rfl ?_
        refine r_nil ?_
        refine e_next ?_
        refine c_seq ?_
        refine c_region_d (fun _ => false) _ mixed (.keep (fun _ _ h => h) (.keep (fun _ _ h => h) (.nil))) ?_
        refine d_val1 0 rfl rfl (by kernel_rfl) (fun _ _ => rfl) .none rfl (p_field Try.underlying70 rfl sz3 rfl) ?_
        refine d_val1 1 rfl rfl (by kernel_rfl) (fun _ _ => rfl) .none rfl (p_ld (k := 0) Try.underlying3 rfl rfl rfl (by first | exact of_decide_eq_true rfl | omega) (rfl : _ = Value.int _ _)) ?_
        refine d_val1 2 rfl rfl (by kernel_rfl) (fun _ _ => rfl) .none rfl (p_field Try.underlying70 rfl sz60 rfl) ?_
        refine d_val1 3 rfl rfl (by kernel_rfl) (fun _ _ => rfl) .none rfl (p_lda (k := 0) Try.underlying60 rfl sz60 rfl rfl (by first | exact of_decide_eq_true rfl | omega) (rfl : _ = Value.agg #[_, _, _])) ?_
        refine d_val1 4 rfl rfl (by kernel_rfl) (fun _ _ => rfl) .none rfl (p_field Try.underlying70 rfl sz48 rfl) ?_
        refine d_val1 5 rfl rfl (by kernel_rfl) (fun _ _ => rfl) .none rfl (p_ld (k := 0) Try.underlying48 rfl rfl rfl (by first | exact of_decide_eq_true rfl | omega) rfl) ?_
        refine d_eff2 6 8 rfl rfl (by kernel_rfl) (fun K_11 hKK_11 hcK_11 => ?_) (fun K_11 hKK_11 hcK_11 => ?_)
        · skip
          refine r_callm (vs := [_]) .none rfl cl27 rfl (fun w hw => ih _ _ _ w (sv_at hl (by omega) hz) (by omega) hc_10 hw) (fun G_12 v_15 hn_13 hr_14 => ?_)
          replace hr := hr.mono hn_13.le
          replace hrt := fun p hm0 => (hrt p hm0).mono hn_13.le
          replace hp := fun p hm0 => (hp p hm0).mono hn_13.le
          replace hqt := fun p hm0 => (hqt p hm0).mono hn_13.le
          replace hqs := fun p hm0 => (hqs p hm0).mono hn_13.le
          replace R_6 := R_6.mono hn_13.le
          replace ht_9 := ht_9.mono hn_13.le
          replace hc_10 := hc_10.mono hn_13.le
          have u_16 := hr_14
          refine r_nil (e_d (i := 6) (brk := (fun _ => false)) (ph' := true) hKK_11 hcK_11 rfl (fun _ => hn_13.le) (fun _ => .keep (fun _ _ h => h) (.keep (fun _ _ h => h) (.nil))) ?_)
          clear hKK_11 hcK_11 K_11
          obtain ⟨a_17, c_18, rfl⟩ := Ss.len u_16
          refine d_val1 7 rfl rfl (by kernel_rfl) (fun _ _ => rfl) .none rfl (p_build (vs := [(0, Value.int _ _), (1, Value.agg #[_, _, _]), (3, Value.slice _ _ _)]) rfl (bl64_0i1_1a3_3s3 _ _ _ _ _ _ _)) ?_
          refine d_eff 8 rfl (by kernel_rfl) (fun K_19 hKK_19 hcK_19 => ?_)
          refine r_alloc .none rfl zr64 (IsRow.lit _) (fun b_2 => ?_)
          refine r_nil (e_d (i := 8) (brk := (fun _ => false)) (ph' := true) hKK_19 hcK_19 rfl (fun _ => hn_13.le) (fun _ => .drop (.keep (fun _ _ h => h) (.keep (fun _ _ h => h) (.nil)))) ?_)
          clear hKK_19 hcK_19 K_19
          refine d_eff 9 rfl (by kernel_rfl) (fun K_20 hKK_20 hcK_20 => ?_)
          refine r_stw (k := 0) .none sz64 rfl rfl (IsRow.lit _) (one_lit rfl (all_cons rfl (all_cons rfl (all_cons rfl (all_cons rfl (all_cons rfl (all_cons (u_16).one rfl))))))) rfl ?_
          refine r_nil (e_d (i := 9) (brk := (fun _ => false)) (ph' := true) hKK_20 hcK_20 rfl (fun _ => hn_13.le) (fun _ => .drop (.keep (fun _ _ h => h) (.keep (fun _ _ h => h) (.nil)))) ?_)
          clear hKK_20 hcK_20 K_20
          refine d_nil (by kernel_rfl) ?_
          refine e_next ?_
          refine c_seq ?_
          refine c_seq ?_
          refine c_region ?_
          refine r_val .none rfl (p_field Try.underlying70 rfl sz68 rfl) ?_
          refine r_val .none rfl (p_ld (k := 1) Try.underlying68 rfl rfl rfl (by first | exact of_decide_eq_true rfl | omega) rfl) ?_
          refine r_val .none rfl (p_leng Try.underlying68 rfl ht_9) ?_
          have bd_21 := (ht_9).bound
          refine r_val .none rfl (p_move rfl) ?_
          refine r_nil ?_
          refine e_next ?_
          refine c_block ?_
          refine c_nilrow 92 3 ?_
          refine c_name (d := 2) rfl (fun u_22 hu_22 => ?_)
          refine c_name (d := 3) rfl (fun u_23 hu_23 => ?_)
          refine c_name (d := 5) rfl (fun u_24 hu_24 => ?_)
          refine c_name (d := 6) rfl (fun u_25 hu_25 => ?_)
          refine c_name (d := 9) rfl (fun u_26 hu_26 => ?_)
          refine c_name (d := 10) rfl (fun u_27 hu_27 => ?_)
          refine c_name (d := 11) rfl (fun u_28 hu_28 => ?_)
          refine c_name (d := 12) rfl (fun u_29 hu_29 => ?_)
          refine c_name (d := 13) rfl (fun u_30 hu_30 => ?_)
          refine c_name (d := 14) rfl (fun u_31 hu_31 => ?_)
          refine c_name (d := 15) rfl (fun u_32 hu_32 => ?_)
          refine c_name (d := 16) rfl (fun u_33 hu_33 => ?_)
          refine c_name (d := 17) rfl (fun u_34 hu_34 => ?_)
          refine c_name (d := 18) rfl (fun u_35 hu_35 => ?_)
          refine c_name (d := 19) rfl (fun u_36 hu_36 => ?_)
          refine c_name (d := 20) rfl (fun u_37 hu_37 => ?_)
          refine c_name (d := 21) rfl (fun u_38 hu_38 => ?_)
          refine c_name (d := 22) rfl (fun u_39 hu_39 => ?_)
          refine c_name (d := 23) rfl (fun u_40 hu_40 => ?_)
          refine c_name (d := 24) rfl (fun u_41 hu_41 => ?_)
          refine c_name (d := 25) rfl (fun u_42 hu_42 => ?_)
          refine c_nameL (k := 2) rfl (fun A_43 hA_43 => ?_)
          refine c_nameL (k := 3) rfl (fun A_44 hA_44 => ?_)
          refine c_loop (σ := Nat × Value) (fun s => [(26, Value.int .i64 (s.1 : Nat)), (2, u_22), (3, u_23), (5, u_24), (6, u_25), (9, u_26), (10, u_27), (11, u_28), (12, u_29), (13, u_30), (14, u_31), (15, u_32), (16, u_33), (17, u_34), (18, u_35), (19, u_36), (20, u_37), (21, u_38), (22, u_39), (23, u_40), (24, u_41), (25, u_42)]) (fun s => [rowA (s.2) 92 3 (((rs.getD k s0).1.h.ts.take s.1)).length ((((rs.getD k s0).1.h.ts.take s.1)).flatMap tC), box b_2 6 64 (at_ [.int .i64 (rs.getD k s0).1.h.k, .int .i64 (rs.getD k s0).1.h.k0, .int .i64 (rs.getD k s0).1.h.k1, .int .i64 (rs.getD k s0).1.h.k2, s.2, (.slice a_17 (rs.getD k s0).1.subs.length c_18)]), A_43, A_44]) (fun _ => _) (fun s => s.1 ≤ (rs.getD k s0).1.h.ts.length) (fun s => (rs.getD k s0).1.h.ts.length - s.1) ((0, _)) (Nat.zero_le _) rfl ⟨rfl, rfl, rfl, rfl, rfl, rfl, rfl, rfl, rfl, rfl, rfl, rfl, rfl, rfl, rfl, rfl, rfl, rfl, rfl, rfl, rfl, rfl, trivial⟩ (.keep (fun _ _ h => rowA_nil rfl _ _ h) (.keep (fun _ _ h => box_congr (fun i hi => by match i, hi with | 0, _ => rfl | 1, _ => rfl | 2, _ => rfl | 3, _ => rfl | 4, _ => rfl | 5, _ => rfl) _ _ h) (.keep (fun _ _ h => h) (.keep (fun _ _ h => h) (.nil))))) (fun s hphi => ?_)
          subst hu_22
          subst hu_23
          subst hu_24
          subst hu_25
          subst hu_26
          subst hu_27
          subst hu_28
          subst hu_29
          subst hu_30
          subst hu_31
          subst hu_32
          subst hu_33
          subst hu_34
          subst hu_35
          subst hu_36
          subst hu_37
          subst hu_38
          subst hu_39
          subst hu_40
          subst hu_41
          subst hu_42
          subst hA_43
          subst hA_44
          obtain ⟨j, u⟩ := s
          dsimp only at hphi ⊢
          refine c_row1 (k := 0) rfl (fun ov => ?_)
          refine c_rowlen (k := 0) rfl (fun l63 => ?_)
          refine c_seq ?_
          refine c_region ?_
          refine r_val .none rfl (p_lt rfl rfl) ?_
          refine r_nil ?_
          refine e_next ?_
          refine c_seq ?_
          refine c_splitd (d := 27) rfl (fun h_45 => ?_) (fun h_45 => ?_)
          · skip
            first
              | (exfalso; omega)
              | (
                refine c_cond_t rfl ?_
                refine c_skip ?_
                refine e_next ?_
                refine c_seq ?_
                refine c_block ?_
                refine c_seq ?_
                refine c_region ?_
                refine r_iaddr_g .none rfl Try.underlying68 sz96 rfl ht_9 rfl (by first | exact of_decide_eq_true rfl | omega) (fun p_47 o_48 R_46 => ?_)
                refine r_val .none rfl (p_ldga0 Try.underlying96 rfl sz96 rfl R_46 (by first | exact of_decide_eq_true rfl | omega) (rfl : _ = Value.agg #[_, _, _])) ?_
                refine r_alloc .none rfl zr96 (IsRow.lit _) (fun b_3 => ?_)
                refine r_stw (k := 0) .none sz96 rfl rfl (IsRow.lit _) (one_lit rfl rfl) rfl ?_
                refine r_nil ?_
                refine e_next ?_
                refine c_region ?_
                refine r_val .none rfl (p_field Try.underlying64 rfl sz62 rfl) ?_
                refine r_val .none rfl (p_ld (k := 2) Try.underlying62 rfl rfl rfl (by first | exact of_decide_eq_true rfl | omega) rfl) ?_
                refine r_val .none rfl (p_field Try.underlying96 rfl sz3 rfl) ?_
                refine r_val .none rfl (p_ld (k := 0) Try.underlying3 rfl rfl rfl (by first | exact of_decide_eq_true rfl | omega) (rfl : _ = Value.int _ _)) ?_
                refine r_val .none rfl (p_field Try.underlying96 rfl sz3 rfl) ?_
                refine r_val .none rfl (p_ld (k := 0) Try.underlying3 rfl rfl rfl (by first | exact of_decide_eq_true rfl | omega) (rfl : _ = Value.int _ _)) ?_
                refine r_val .none rfl (p_field Try.underlying96 rfl sz3 rfl) ?_
                refine r_val .none rfl (p_ld (k := 0) Try.underlying3 rfl rfl rfl (by first | exact of_decide_eq_true rfl | omega) (rfl : _ = Value.int _ _)) ?_
                refine r_val .none rfl (p_build (vs := [(0, Value.int _ _), (1, Value.int _ _), (2, Value.int _ _)]) rfl (bl92_0i1_1i1_2i1 _ _ _)) ?_
                refine r_bslice (vs := [(0, Value.agg #[_, _, _])]) (c := #[_, _, _]) .none rfl Try.underlying62 el92 rfl rfl rfl (bs92_10a3 _ _ _) (IsRow.lit _) (fun b_4 => ?_)
                refine r_append (k := 2) (k2 := 0) .none rfl Try.underlying62 el92 rfl (by decide) rfl rfl rfl rfl rfl (one_lit rfl rfl) (by rw [List.length_take]; simp only [maxLen]; omega) (by rw [List.length_take]; omega) (fun v_49 => ?_)
                refine r_row1 (k := 2) rfl (fun o_50 => ?_)
                refine r_val .none rfl (p_field Try.underlying64 rfl sz62 rfl) ?_
                refine r_st (k := 3) .none sz62 rfl rfl o_50 rfl (by first | exact of_decide_eq_true rfl | omega) ?_
                refine r_nil ?_
                refine e_norm_block ?_
                refine e_next ?_
                refine c_region ?_
                refine r_val .none rfl (p_add rfl rfl (by omega)) ?_
                refine r_val .none rfl (p_move rfl) ?_
                refine r_nil ?_
                refine e_round ((j + 1, _)) ⟨by dsimp only; omega, by dsimp only; omega⟩ rfl ⟨rfl, rfl, rfl, rfl, rfl, rfl, rfl, rfl, rfl, rfl, rfl, rfl, rfl, rfl, rfl, rfl, rfl, rfl, rfl, rfl, rfl, rfl, trivial⟩ (.drop (.drop (.keep (fun _ _ h => rowA_snoc (ts_next (by omega)) rfl rfl rfl _ _ h) (.keep (fun _ _ h => box_congr (fun i hi => by match i, hi with | 0, _ => rfl | 1, _ => rfl | 2, _ => rfl | 3, _ => rfl | 4, _ => rfl | 5, _ => rfl) _ _ h) (.keep (fun _ _ h => h) (.keep (fun _ _ h => h) (.nil)))))))
                )
          · skip
            first
              | (exfalso; omega)
              | (
                refine c_cond_f rfl ?_
                refine c_exit ?_
                refine e_exit_then ?_
                refine e_exit_then ?_
                refine e_exit_block ?_
                refine e_next ?_
                refine c_region ?_
                have hj2 : (rs.getD k s0).1.h.ts.take j = (rs.getD k s0).1.h.ts := List.take_of_length_le (by omega)
                refine r_freeze (k := 0) rfl (fun G_51 hn_52 hs_53 => ?_)
                replace hr := hr.mono hn_52.le
                replace hrt := fun p hm0 => (hrt p hm0).mono hn_52.le
                replace hp := fun p hm0 => (hp p hm0).mono hn_52.le
                replace hqt := fun p hm0 => (hqt p hm0).mono hn_52.le
                replace hqs := fun p hm0 => (hqs p hm0).mono hn_52.le
                replace R_6 := R_6.mono hn_52.le
                replace ht_9 := ht_9.mono hn_52.le
                replace hc_10 := hc_10.mono hn_52.le
                replace u_16 := u_16.mono hn_52.le
                have hts_54 : SlL G_51 u 3 tC t0 (rs.getD k s0).1.h.ts := SlL.of2 t0 (fun _ => rfl) (by rw [hj2]) (by rw [hj2]) hs_53
                refine r_val .none rfl (p_move rfl) ?_
                refine r_val .none rfl (p_ldw (k := 0) Try.underlying64 rfl sz64 rfl rfl (rfl : _ = Value.agg #[_, _, _, _, _, _])) ?_
                refine r_bslice (vs := [(0, Value.agg #[_, _, _, _, _, _])]) (c := #[_, _, _, _, _, _]) .none rfl Try.underlying50 el64 rfl rfl rfl (bs64_10a6 _ _ _ _ _ _) (IsRow.lit _) (fun b_5 => ?_)
                refine r_append (k := 3) (k2 := 0) .none rfl Try.underlying50 el64 rfl (by decide) rfl rfl rfl rfl rfl (one_lit rfl (all_cons rfl (all_cons rfl (all_cons rfl (all_cons rfl (all_cons (hts_54).one (all_cons (u_16).one rfl))))))) (by simp only [maxLen]; omega) (by omega) (fun v_55 => ?_)
                refine r_row1 (k := 3) rfl (fun o_56 => ?_)
                refine r_val .none rfl (p_assign rfl) ?_
                refine r_nil ?_
                refine e_norm_block ?_
                refine e_next ?_
                refine c_region ?_
                refine r_val .none rfl (p_add rfl rfl (by omega)) ?_
                refine r_val .none rfl (p_move rfl) ?_
                refine r_nil ?_
                refine e_round ((k + 1, _, qs ++ [((rs.getD k s0).1, u, (.slice a_17 (rs.getD k s0).1.subs.length c_18))], _)) ⟨⟨by dsimp only; omega, by rw [sv_take (by omega), List.map_append, hq]; rfl, (fun p hp' => by rcases List.mem_append.1 hp' with h | h; exact hqt p h; rw [List.mem_singleton.1 h]; exact hts_54), (fun p hp' => by rcases List.mem_append.1 hp' with h | h; exact hqs p h; rw [List.mem_singleton.1 h]; exact u_16), ((hgn.trans hn_13).trans hn_52)⟩, by dsimp only; omega⟩ rfl ⟨rfl, rfl, rfl, rfl, rfl, trivial⟩ (.drop (.drop (.drop (.keep (fun _ _ h => rowA_snoc (l := qs) (x := ((rs.getD k s0).1, u, (.slice a_17 (rs.getD k s0).1.subs.length c_18))) rfl rfl rfl rfl _ _ h) (.nil)))))
                )
        · skip
          refine r_alloc .none rfl zr64 (IsRow.lit _) (fun b_6 => ?_)
          refine r_nil (e_d (i := 8) (brk := (fun _ => false)) (ph' := true) hKK_11 hcK_11 rfl (fun _ => GLe.refl _) (fun _ => .drop (.keep (fun _ _ h => h) (.keep (fun _ _ h => h) (.nil)))) ?_)
          clear hKK_11 hcK_11 K_11
          refine d_eff 6 rfl (by kernel_rfl) (fun K_57 hKK_57 hcK_57 => ?_)
          refine r_callm (vs := [_]) .none rfl cl27 rfl (fun w hw => ih _ _ _ w (sv_at hl (by omega) hz) (by omega) hc_10 hw) (fun G_58 v_61 hn_59 hr_60 => ?_)
          replace hr := hr.mono hn_59.le
          replace hrt := fun p hm0 => (hrt p hm0).mono hn_59.le
          replace hp := fun p hm0 => (hp p hm0).mono hn_59.le
          replace hqt := fun p hm0 => (hqt p hm0).mono hn_59.le
          replace hqs := fun p hm0 => (hqs p hm0).mono hn_59.le
          replace R_6 := R_6.mono hn_59.le
          replace ht_9 := ht_9.mono hn_59.le
          replace hc_10 := hc_10.mono hn_59.le
          have u_62 := hr_60
          refine r_nil (e_d (i := 6) (brk := (fun _ => false)) (ph' := true) hKK_57 hcK_57 rfl (fun _ => hn_59.le) (fun _ => .drop (.keep (fun _ _ h => h) (.keep (fun _ _ h => h) (.nil)))) ?_)
          clear hKK_57 hcK_57 K_57
          obtain ⟨a_63, c_64, rfl⟩ := Ss.len u_62
          refine d_val1 7 rfl rfl (by kernel_rfl) (fun _ _ => rfl) .none rfl (p_build (vs := [(0, Value.int _ _), (1, Value.agg #[_, _, _]), (3, Value.slice _ _ _)]) rfl (bl64_0i1_1a3_3s3 _ _ _ _ _ _ _)) ?_
          refine d_eff 9 rfl (by kernel_rfl) (fun K_65 hKK_65 hcK_65 => ?_)
          refine r_stw (k := 0) .none sz64 rfl rfl (IsRow.lit _) (one_lit rfl (all_cons rfl (all_cons rfl (all_cons rfl (all_cons rfl (all_cons rfl (all_cons (u_62).one rfl))))))) rfl ?_
          refine r_nil (e_d (i := 9) (brk := (fun _ => false)) (ph' := true) hKK_65 hcK_65 rfl (fun _ => hn_59.le) (fun _ => .drop (.keep (fun _ _ h => h) (.keep (fun _ _ h => h) (.nil)))) ?_)
          clear hKK_65 hcK_65 K_65
          refine d_nil (by kernel_rfl) ?_
          refine e_next ?_
          refine c_seq ?_
          refine c_seq ?_
          refine c_region ?_
          refine r_val .none rfl (p_field Try.underlying70 rfl sz68 rfl) ?_
          refine r_val .none rfl (p_ld (k := 1) Try.underlying68 rfl rfl rfl (by first | exact of_decide_eq_true rfl | omega) rfl) ?_
          refine r_val .none rfl (p_leng Try.underlying68 rfl ht_9) ?_
          have bd_66 := (ht_9).bound
          refine r_val .none rfl (p_move rfl) ?_
          refine r_nil ?_
          refine e_next ?_
          refine c_block ?_
          refine c_nilrow 92 3 ?_
          refine c_name (d := 2) rfl (fun u_67 hu_67 => ?_)
          refine c_name (d := 3) rfl (fun u_68 hu_68 => ?_)
          refine c_name (d := 5) rfl (fun u_69 hu_69 => ?_)
          refine c_name (d := 6) rfl (fun u_70 hu_70 => ?_)
          refine c_name (d := 9) rfl (fun u_71 hu_71 => ?_)
          refine c_name (d := 10) rfl (fun u_72 hu_72 => ?_)
          refine c_name (d := 11) rfl (fun u_73 hu_73 => ?_)
          refine c_name (d := 12) rfl (fun u_74 hu_74 => ?_)
          refine c_name (d := 13) rfl (fun u_75 hu_75 => ?_)
          refine c_name (d := 14) rfl (fun u_76 hu_76 => ?_)
          refine c_name (d := 15) rfl (fun u_77 hu_77 => ?_)
          refine c_name (d := 16) rfl (fun u_78 hu_78 => ?_)
          refine c_name (d := 17) rfl (fun u_79 hu_79 => ?_)
          refine c_name (d := 18) rfl (fun u_80 hu_80 => ?_)
          refine c_name (d := 19) rfl (fun u_81 hu_81 => ?_)
          refine c_name (d := 20) rfl (fun u_82 hu_82 => ?_)
          refine c_name (d := 21) rfl (fun u_83 hu_83 => ?_)
          refine c_name (d := 22) rfl (fun u_84 hu_84 => ?_)
          refine c_name (d := 23) rfl (fun u_85 hu_85 => ?_)
          refine c_name (d := 24) rfl (fun u_86 hu_86 => ?_)
          refine c_name (d := 25) rfl (fun u_87 hu_87 => ?_)
          refine c_nameL (k := 2) rfl (fun A_88 hA_88 => ?_)
          refine c_nameL (k := 3) rfl (fun A_89 hA_89 => ?_)
          refine c_loop (σ := Nat × Value) (fun s => [(26, Value.int .i64 (s.1 : Nat)), (2, u_67), (3, u_68), (5, u_69), (6, u_70), (9, u_71), (10, u_72), (11, u_73), (12, u_74), (13, u_75), (14, u_76), (15, u_77), (16, u_78), (17, u_79), (18, u_80), (19, u_81), (20, u_82), (21, u_83), (22, u_84), (23, u_85), (24, u_86), (25, u_87)]) (fun s => [rowA (s.2) 92 3 (((rs.getD k s0).1.h.ts.take s.1)).length ((((rs.getD k s0).1.h.ts.take s.1)).flatMap tC), box b_6 6 64 (at_ [.int .i64 (rs.getD k s0).1.h.k, .int .i64 (rs.getD k s0).1.h.k0, .int .i64 (rs.getD k s0).1.h.k1, .int .i64 (rs.getD k s0).1.h.k2, s.2, (.slice a_63 (rs.getD k s0).1.subs.length c_64)]), A_88, A_89]) (fun _ => _) (fun s => s.1 ≤ (rs.getD k s0).1.h.ts.length) (fun s => (rs.getD k s0).1.h.ts.length - s.1) ((0, _)) (Nat.zero_le _) rfl ⟨rfl, rfl, rfl, rfl, rfl, rfl, rfl, rfl, rfl, rfl, rfl, rfl, rfl, rfl, rfl, rfl, rfl, rfl, rfl, rfl, rfl, rfl, trivial⟩ (.keep (fun _ _ h => rowA_nil rfl _ _ h) (.keep (fun _ _ h => box_congr (fun i hi => by match i, hi with | 0, _ => rfl | 1, _ => rfl | 2, _ => rfl | 3, _ => rfl | 4, _ => rfl | 5, _ => rfl) _ _ h) (.keep (fun _ _ h => h) (.keep (fun _ _ h => h) (.nil))))) (fun s hphi => ?_)
          subst hu_67
          subst hu_68
          subst hu_69
          subst hu_70
          subst hu_71
          subst hu_72
          subst hu_73
          subst hu_74
          subst hu_75
          subst hu_76
          subst hu_77
          subst hu_78
          subst hu_79
          subst hu_80
          subst hu_81
          subst hu_82
          subst hu_83
          subst hu_84
          subst hu_85
          subst hu_86
          subst hu_87
          subst hA_88
          subst hA_89
          obtain ⟨j, u⟩ := s
          dsimp only at hphi ⊢
          refine c_row1 (k := 0) rfl (fun ov => ?_)
          refine c_rowlen (k := 0) rfl (fun l63 => ?_)
          refine c_seq ?_
          refine c_region ?_
          refine r_val .none rfl (p_lt rfl rfl) ?_
          refine r_nil ?_
          refine e_next ?_
          refine c_seq ?_
          refine c_splitd (d := 27) rfl (fun h_90 => ?_) (fun h_90 => ?_)
          · skip
            first
              | (exfalso; omega)
              | (
                refine c_cond_t rfl ?_
                refine c_skip ?_
                refine e_next ?_
                refine c_seq ?_
                refine c_block ?_
                refine c_seq ?_
                refine c_region ?_
                refine r_iaddr_g .none rfl Try.underlying68 sz96 rfl ht_9 rfl (by first | exact of_decide_eq_true rfl | omega) (fun p_92 o_93 R_91 => ?_)
                refine r_val .none rfl (p_ldga0 Try.underlying96 rfl sz96 rfl R_91 (by first | exact of_decide_eq_true rfl | omega) (rfl : _ = Value.agg #[_, _, _])) ?_
                refine r_alloc .none rfl zr96 (IsRow.lit _) (fun b_7 => ?_)
                refine r_stw (k := 0) .none sz96 rfl rfl (IsRow.lit _) (one_lit rfl rfl) rfl ?_
                refine r_nil ?_
                refine e_next ?_
                refine c_region ?_
                refine r_val .none rfl (p_field Try.underlying64 rfl sz62 rfl) ?_
                refine r_val .none rfl (p_ld (k := 2) Try.underlying62 rfl rfl rfl (by first | exact of_decide_eq_true rfl | omega) rfl) ?_
                refine r_val .none rfl (p_field Try.underlying96 rfl sz3 rfl) ?_
                refine r_val .none rfl (p_ld (k := 0) Try.underlying3 rfl rfl rfl (by first | exact of_decide_eq_true rfl | omega) (rfl : _ = Value.int _ _)) ?_
                refine r_val .none rfl (p_field Try.underlying96 rfl sz3 rfl) ?_
                refine r_val .none rfl (p_ld (k := 0) Try.underlying3 rfl rfl rfl (by first | exact of_decide_eq_true rfl | omega) (rfl : _ = Value.int _ _)) ?_
                refine r_val .none rfl (p_field Try.underlying96 rfl sz3 rfl) ?_
                refine r_val .none rfl (p_ld (k := 0) Try.underlying3 rfl rfl rfl (by first | exact of_decide_eq_true rfl | omega) (rfl : _ = Value.int _ _)) ?_
                refine r_val .none rfl (p_build (vs := [(0, Value.int _ _), (1, Value.int _ _), (2, Value.int _ _)]) rfl (bl92_0i1_1i1_2i1 _ _ _)) ?_
                refine r_bslice (vs := [(0, Value.agg #[_, _, _])]) (c := #[_, _, _]) .none rfl Try.underlying62 el92 rfl rfl rfl (bs92_10a3 _ _ _) (IsRow.lit _) (fun b_8 => ?_)
                refine r_append (k := 2) (k2 := 0) .none rfl Try.underlying62 el92 rfl (by decide) rfl rfl rfl rfl rfl (one_lit rfl rfl) (by rw [List.length_take]; simp only [maxLen]; omega) (by rw [List.length_take]; omega) (fun v_94 => ?_)
                refine r_row1 (k := 2) rfl (fun o_95 => ?_)
                refine r_val .none rfl (p_field Try.underlying64 rfl sz62 rfl) ?_
                refine r_st (k := 3) .none sz62 rfl rfl o_95 rfl (by first | exact of_decide_eq_true rfl | omega) ?_
                refine r_nil ?_
                refine e_norm_block ?_
                refine e_next ?_
                refine c_region ?_
                refine r_val .none rfl (p_add rfl rfl (by omega)) ?_
                refine r_val .none rfl (p_move rfl) ?_
                refine r_nil ?_
                refine e_round ((j + 1, _)) ⟨by dsimp only; omega, by dsimp only; omega⟩ rfl ⟨rfl, rfl, rfl, rfl, rfl, rfl, rfl, rfl, rfl, rfl, rfl, rfl, rfl, rfl, rfl, rfl, rfl, rfl, rfl, rfl, rfl, rfl, trivial⟩ (.drop (.drop (.keep (fun _ _ h => rowA_snoc (ts_next (by omega)) rfl rfl rfl _ _ h) (.keep (fun _ _ h => box_congr (fun i hi => by match i, hi with | 0, _ => rfl | 1, _ => rfl | 2, _ => rfl | 3, _ => rfl | 4, _ => rfl | 5, _ => rfl) _ _ h) (.keep (fun _ _ h => h) (.keep (fun _ _ h => h) (.nil)))))))
                )
          · skip
            first
              | (exfalso; omega)
              | (
                refine c_cond_f rfl ?_
                refine c_exit ?_
                refine e_exit_then ?_
                refine e_exit_then ?_
                refine e_exit_block ?_
                refine e_next ?_
                refine c_region ?_
                have hj2 : (rs.getD k s0).1.h.ts.take j = (rs.getD k s0).1.h.ts := List.take_of_length_le (by omega)
                refine r_freeze (k := 0) rfl (fun G_96 hn_97 hs_98 => ?_)
                replace hr := hr.mono hn_97.le
                replace hrt := fun p hm0 => (hrt p hm0).mono hn_97.le
                replace hp := fun p hm0 => (hp p hm0).mono hn_97.le
                replace hqt := fun p hm0 => (hqt p hm0).mono hn_97.le
                replace hqs := fun p hm0 => (hqs p hm0).mono hn_97.le
                replace R_6 := R_6.mono hn_97.le
                replace ht_9 := ht_9.mono hn_97.le
                replace hc_10 := hc_10.mono hn_97.le
                replace u_62 := u_62.mono hn_97.le
                have hts_99 : SlL G_96 u 3 tC t0 (rs.getD k s0).1.h.ts := SlL.of2 t0 (fun _ => rfl) (by rw [hj2]) (by rw [hj2]) hs_98
                refine r_val .none rfl (p_move rfl) ?_
                refine r_val .none rfl (p_ldw (k := 0) Try.underlying64 rfl sz64 rfl rfl (rfl : _ = Value.agg #[_, _, _, _, _, _])) ?_
                refine r_bslice (vs := [(0, Value.agg #[_, _, _, _, _, _])]) (c := #[_, _, _, _, _, _]) .none rfl Try.underlying50 el64 rfl rfl rfl (bs64_10a6 _ _ _ _ _ _) (IsRow.lit _) (fun b_9 => ?_)
                refine r_append (k := 3) (k2 := 0) .none rfl Try.underlying50 el64 rfl (by decide) rfl rfl rfl rfl rfl (one_lit rfl (all_cons rfl (all_cons rfl (all_cons rfl (all_cons rfl (all_cons (hts_99).one (all_cons (u_62).one rfl))))))) (by simp only [maxLen]; omega) (by omega) (fun v_100 => ?_)
                refine r_row1 (k := 3) rfl (fun o_101 => ?_)
                refine r_val .none rfl (p_assign rfl) ?_
                refine r_nil ?_
                refine e_norm_block ?_
                refine e_next ?_
                refine c_region ?_
                refine r_val .none rfl (p_add rfl rfl (by omega)) ?_
                refine r_val .none rfl (p_move rfl) ?_
                refine r_nil ?_
                refine e_round ((k + 1, _, qs ++ [((rs.getD k s0).1, u, (.slice a_63 (rs.getD k s0).1.subs.length c_64))], _)) ⟨⟨by dsimp only; omega, by rw [sv_take (by omega), List.map_append, hq]; rfl, (fun p hp' => by rcases List.mem_append.1 hp' with h | h; exact hqt p h; rw [List.mem_singleton.1 h]; exact hts_99), (fun p hp' => by rcases List.mem_append.1 hp' with h | h; exact hqs p h; rw [List.mem_singleton.1 h]; exact u_62), ((hgn.trans hn_59).trans hn_97)⟩, by dsimp only; omega⟩ rfl ⟨rfl, rfl, rfl, rfl, rfl, trivial⟩ (.drop (.drop (.drop (.keep (fun _ _ h => rowA_snoc (l := qs) (x := ((rs.getD k s0).1, u, (.slice a_63 (rs.getD k s0).1.subs.length c_64))) rfl rfl rfl rfl _ _ h) (.nil)))))
                )
        )
  · skip
    first
      | (exfalso; omega)
      | (
        refine c_cond_f rfl ?_
        refine c_exit ?_
        refine e_exit_then ?_
        refine e_exit_then ?_
        refine e_exit_block ?_
        refine e_next ?_
        refine c_seq ?_
        refine c_region ?_
        refine r_val .none rfl (p_move rfl) ?_
        refine r_val .none rfl (p_assign rfl) ?_
        refine r_nil ?_
        refine e_next ?_
        refine c_ret ?_
        refine e_freeze (k := 0) rfl (fun G_102 hn_103 hs_104 => ?_)
        replace hr := hr.mono hn_103.le
        replace hrt := fun p hm0 => (hrt p hm0).mono hn_103.le
        replace hp := fun p hm0 => (hp p hm0).mono hn_103.le
        replace hqt := fun p hm0 => (hqt p hm0).mono hn_103.le
        replace hqs := fun p hm0 => (hqs p hm0).mono hn_103.le
        refine e_ret1 Try.results27 (.tmp rfl .nil) (fun w hm => ⟨_, (hgn.trans hn_103), hm.has, ?_, hm.since⟩)
        rw [show l = qs.map Prod.fst by rw [hq, hl, List.take_of_length_le (by simp; omega)]]
        exact Ss.mk qs (SlL.of s0 (fun _ => rfl) rfl hs_104) hqt hqs
        )
theorem c_steps_n : ∀ n, StepsIs n
  | 0 => fun v l G w hz hsz hs hG => absurd hz (by cases l <;> simp)
  | n + 1 => fun v l G w hz hsz hs hG => c_steps_s n (c_steps_n n) v l hz hsz hs w hG
theorem c_steps (v : Value) (l : List ST) {G : Ghost} (hsz : sszL l ≤ 5000) (hs : Ss G v l) (w : World) (hG : Has G w) : Calls Try.prog 27 #[v] w (Ret fun r w' => ∃ G', GNew w nX G G' ∧ Has G' w' ∧ Ss G' r l ∧ Since nX w w') := c_steps_n _ v l G w (Nat.le_refl _) hsz hs hG
end Go.Proofs.Ytoflaphnlfggkaa
