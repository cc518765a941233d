/- Walks: what Go functions of this chapter come to, each as a function on plain data; no condition but those that each theorem names. Printed by a program of this work (gen.py). -/
import Derived.Test.YtoflaphnlfggkaaW08b
import Derived.Test.YtoflaphnlfggkaaGxFreeze
import Derived.Test.YtoflaphnlfggkaaRows
namespace Go.Proofs.Ytoflaphnlfggkaa
open Go.Gx Go.Gx.T3 Go.Gx.T4 Go.Gx.T3 Go.Gx.T8 Go.Gx.T4 Go.Gx.T3
theorem sz48 : SzIs Try.prog 48 1 := by
  unfold SzIs
  kernel_rfl
theorem sz60 : SzIs Try.prog 60 3 := by
  unfold SzIs
  kernel_rfl
theorem sz68 : SzIs Try.prog 68 1 := by
  unfold SzIs
  kernel_rfl
theorem sz70 : SzIs Try.prog 70 6 := by
  unfold SzIs
  kernel_rfl
theorem zr70 : ZeroIs Try.prog 70 (Value.agg #[Value.int .i64 0, Value.int .i64 0, Value.int .i64 0, Value.int .i64 0, Value.slice none 0 0, Value.slice none 0 0]) := by
  unfold ZeroIs
  kernel_rfl
theorem lf41 : leafT Try.prog 9 41 = some [3, 3] := by
  kernel_rfl
theorem ef41 : eqT Try.prog 9 41 = true := by
  kernel_rfl
theorem eg41 : Try.prog.eqGuardType Try.prog.depth 41 = false := by
  kernel_rfl
theorem cl34 : Callable Try.prog 34 := callable Try.func34 (by kernel_rfl) rfl
theorem cl55 : Callable Try.prog 55 := callable Try.func55 (by kernel_rfl) rfl
theorem bl70_0i1 (x0 : Int) : Program.built Try.prog 70 [(0, Value.int .i64 x0)] = some #[Value.int .i64 x0, Value.int .i64 0, Value.int .i64 0, Value.int .i64 0, Value.slice none 0 0, Value.slice none 0 0] := by
  kernel_rfl
theorem bl96_0i1_1i1_2i1 (x0 : Int) (x1 : Int) (x2 : Int) : Program.built Try.prog 96 [(0, Value.int .i64 x0), (1, Value.int .i64 x1), (2, Value.int .i64 x2)] = some #[Value.int .i64 x0, Value.int .i64 x1, Value.int .i64 x2] := by
  kernel_rfl
theorem bs70_10a6 (a0 a1 a2 a3 a4 a5 : Value) : Instr.fill (fun i => some (i * 6, 6)) ((Array.range (1 * 6)).map ((Value.agg #[Value.int .i64 0, Value.int .i64 0, Value.int .i64 0, Value.int .i64 0, Value.slice none 0 0, Value.slice none 0 0]).cells[· % (Value.agg #[Value.int .i64 0, Value.int .i64 0, Value.int .i64 0, Value.int .i64 0, Value.slice none 0 0, Value.slice none 0 0]).cells.size]!)) [(0, Value.agg #[a0, a1, a2, a3, a4, a5])] = some #[a0, a1, a2, a3, a4, a5] := by
  kernel_rfl
theorem bs96_10a3 (a0 a1 a2 : Value) : Instr.fill (fun i => some (i * 3, 3)) ((Array.range (1 * 3)).map ((Value.agg #[Value.int .i64 0, Value.int .i64 0, Value.int .i64 0]).cells[· % (Value.agg #[Value.int .i64 0, Value.int .i64 0, Value.int .i64 0]).cells.size]!)) [(0, Value.agg #[a0, a1, a2])] = some #[a0, a1, a2] := by
  kernel_rfl
theorem el70 : ElemIs Try.prog 70 6 80 (Value.agg #[Value.int .i64 0, Value.int .i64 0, Value.int .i64 0, Value.int .i64 0, Value.slice none 0 0, Value.slice none 0 0]) := by
  unfold ElemIs
  kernel_rfl
theorem el96 : ElemIs Try.prog 96 3 24 (Value.agg #[Value.int .i64 0, Value.int .i64 0, Value.int .i64 0]) := by
  unfold ElemIs
  kernel_rfl
def OfIs (n : Nat) : Prop := ∀ (c : CT) (sv va : Value) (l : List CT) (G : Ghost) (w : World), SizeOf.sizeOf c ≤ n → l.length + size c ≤ 1000 → Rs G sv c.subs → Rs G va l → Has G w → Calls Try.prog 34 #[va, Value.agg #[Value.int .i64 c.h.k, Value.int .i64 (vi c.h.v0), Value.int .i64 c.h.n0, Value.int .i64 (vi c.h.v1), Value.int .i64 c.h.n1, Value.int .i64 (vi c.h.v2), Value.int .i64 c.h.n2, sv]] w (Ret fun r w' => ∃ G', GNew w nX G G' ∧ Has G' w' ∧ (∃ tv uv, r = Value.agg #[Value.int .i64 (stepOf l c).h.k, Value.int .i64 (stepOf l c).h.k0, Value.int .i64 (stepOf l c).h.k1, Value.int .i64 (stepOf l c).h.k2, tv, uv] ∧ SlL G' tv 3 tC t0 (stepOf l c).h.ts ∧ Ss G' uv (stepOf l c).subs) ∧ Since nX w w')
theorem c_of_s (n : Nat) (ih : OfIs n) (c : CT) (sv : Value) (va : Value) (l : List CT) {G : Ghost} (hz : SizeOf.sizeOf c ≤ n + 1) (hch : l.length + size c ≤ 1000) (hs : Rs G sv c.subs) (hs2 : Rs G va l) (w : World) (hG : Has G w) :
    Calls Try.prog 34 #[va, Value.agg #[Value.int .i64 c.h.k, Value.int .i64 (vi c.h.v0), Value.int .i64 c.h.n0, Value.int .i64 (vi c.h.v1), Value.int .i64 c.h.n1, Value.int .i64 (vi c.h.v2), Value.int .i64 c.h.n2, sv]] w (Ret fun r w' => ∃ G', GNew w nX G G' ∧ Has G' w' ∧ (∃ tv uv, r = Value.agg #[Value.int .i64 (stepOf l c).h.k, Value.int .i64 (stepOf l c).h.k0, Value.int .i64 (stepOf l c).h.k1, Value.int .i64 (stepOf l c).h.k2, tv, uv] ∧ SlL G' tv 3 tC t0 (stepOf l c).h.ts ∧ Ss G' uv (stepOf l c).subs) ∧ Since nX w w') := by
  refine enter (args := [_, _]) (X := nX) (G := G) (l := [(0, va), (1, Value.agg #[Value.int .i64 c.h.k, Value.int .i64 (vi c.h.v0), Value.int .i64 c.h.n0, Value.int .i64 (vi c.h.v1), Value.int .i64 c.h.n1, Value.int .i64 (vi c.h.v2), Value.int .i64 c.h.n2, sv])]) Try.func34 rfl Try.ntmps34 hG ⟨rfl, rfl, trivial⟩ (Nat.le_of_ble_eq_true rfl) ?_
  obtain ⟨rs, hr, hp, hl⟩ := hs.inv
  have hlen : c.subs.length = rs.length := by rw [hl]; simp
  have hbd := hr.bound
  have hrl := size_len hl (Nat.le_refl (size c))
  obtain ⟨rc, hrc, hpc, hlc⟩ := hs2.inv
  have hcl : l.length = rc.length := by rw [hlc]; simp
  refine c_seq ?_
  refine c_region ?_
  refine r_box .none rfl rfl (IsRow.lit _) (fun b_1 => ?_)
  refine r_alloc .none rfl zr70 (IsRow.lit _) (fun b_2 => ?_)
  refine r_nil ?_
  refine e_next ?_
  refine c_seq ?_
  refine c_region ?_
  refine r_val .none rfl (p_field Try.underlying44 rfl sz3 rfl) ?_
  refine r_val .none rfl (p_ld (k := 1) Try.underlying3 rfl rfl rfl (by first | exact of_decide_eq_true rfl | omega) (rfl : _ = Value.int _ _)) ?_
  refine r_val .none rfl (p_build (vs := [(0, Value.int _ _)]) rfl (bl70_0i1 _)) ?_
  refine r_alloc .none rfl zr70 (IsRow.lit _) (fun b_3 => ?_)
  refine r_stw (k := 0) .none sz70 rfl rfl (IsRow.lit _) (one_lit rfl rfl) rfl ?_
  refine r_nil ?_
  refine e_next ?_
  refine c_seq ?_
  refine c_seq ?_
  refine c_region ?_
  refine r_val .none rfl (p_field Try.underlying44 rfl sz3 rfl) ?_
  refine r_val .none rfl (p_ld (k := 2) Try.underlying3 rfl rfl rfl (by first | exact of_decide_eq_true rfl | omega) (rfl : _ = Value.int _ _)) ?_
  refine r_val .none rfl (p_eq rfl rfl) ?_
  refine r_nil ?_
  refine e_next ?_
  refine c_splitd (d := 18) rfl (fun h_1 => ?_) (fun h_1 => ?_)
  · skip
    first
      | (exfalso; omega)
      | (
        refine c_cond_t rfl ?_
        refine c_seq ?_
        refine c_seq ?_
        refine c_region ?_
        refine r_val .none rfl (p_field Try.underlying44 rfl sz29 rfl) ?_
        refine r_val .none rfl (p_ld (k := 2) Try.underlying29 rfl rfl rfl (by first | exact of_decide_eq_true rfl | omega) rfl) ?_
        refine r_val .none rfl (p_leng Try.underlying29 rfl hr) ?_
        have bd_2 := (hr).bound
        refine r_val .none rfl (p_move rfl) ?_
        refine r_nil ?_
        refine e_next ?_
        refine c_block ?_
        refine c_nilrow 70 6 ?_
        refine c_name (d := 0) rfl (fun u_3 hu_3 => ?_)
        refine c_name (d := 3) rfl (fun u_4 hu_4 => ?_)
        refine c_name (d := 4) rfl (fun u_5 hu_5 => ?_)
        refine c_name (d := 5) rfl (fun u_6 hu_6 => ?_)
        refine c_name (d := 20) rfl (fun u_7 hu_7 => ?_)
        refine c_name (d := 21) rfl (fun u_8 hu_8 => ?_)
        refine c_nameL (k := 2) rfl (fun A_9 hA_9 => ?_)
        refine c_nameL (k := 3) rfl (fun A_10 hA_10 => ?_)
        refine c_loop (σ := Nat × Value × List SVal × Ghost) (fun s => [(22, Value.int .i64 (s.1 : Nat)), (0, u_3), (3, u_4), (4, u_5), (5, u_6), (20, u_7), (21, u_8)]) (fun s => [rowA (s.2.1) 70 6 (s.2.2.1).length ((s.2.2.1).flatMap sC), box b_3 6 70 (at_ [.int .i64 c.h.k, .int .i64 0, .int .i64 0, .int .i64 0, .slice none 0 0, s.2.1]), A_9, A_10]) (fun s => s.2.2.2) (fun s => s.1 ≤ rs.length ∧ s.2.2.1.map Prod.fst = stepsOf l ((rs.map Prod.fst).take s.1) ∧ (∀ p ∈ s.2.2.1, SlL s.2.2.2 p.2.1 3 tC t0 p.1.h.ts) ∧ (∀ p ∈ s.2.2.1, Ss s.2.2.2 p.2.2 p.1.subs) ∧ GNew w nX G s.2.2.2) (fun s => rs.length - s.1) ((0, _, [], _)) ⟨Nat.zero_le _, rfl, by simp, by simp, GNew.refl _ _ _⟩ rfl ⟨rfl, rfl, rfl, rfl, rfl, rfl, rfl, trivial⟩ (.keep (fun _ _ h => rowA_nil rfl _ _ h) (.keep (fun _ _ h => box_congr (fun i hi => by match i, hi with | 0, _ => rfl | 1, _ => rfl | 2, _ => rfl | 3, _ => rfl | 4, _ => rfl | 5, _ => rfl) _ _ h) (.keep (fun _ _ h => h) (.keep (fun _ _ h => h) (.nil))))) (fun s hphi => ?_)
        subst hu_3
        subst hu_4
        subst hu_5
        subst hu_6
        subst hu_7
        subst hu_8
        subst hA_9
        subst hA_10
        obtain ⟨k, v, qs, H⟩ := s
        obtain ⟨hk, hq, hqt, hqs, hgn⟩ := hphi
        dsimp only at hk hq hqt hqs hgn ⊢
        have hql : qs.length ≤ k := (by have := congrArg List.length hq; rw [stepsOf_len] at this; simp at this; omega)
        refine c_row1 (k := 0) rfl (fun ov => ?_)
        refine c_rowlen (k := 0) rfl (fun l63 => ?_)
        replace hrc := hrc.mono hgn.le
        replace hp := fun p hm0 => (hp p hm0).mono hgn.le
        replace hr := hr.mono hgn.le
        replace hpc := fun p hm0 => (hpc p hm0).mono hgn.le
        replace hs2 := hs2.mono hgn.le
        refine c_seq ?_
        refine c_region ?_
        refine r_val .none rfl (p_lt rfl rfl) ?_
        refine r_nil ?_
        refine e_next ?_
        refine c_seq ?_
        refine c_splitd (d := 23) rfl (fun h_11 => ?_) (fun h_11 => ?_)
        · skip
          first
            | (exfalso; omega)
            | (
              refine c_cond_t rfl ?_
              refine c_skip ?_
              refine e_next ?_
              refine c_seq ?_
              refine c_block ?_
              refine c_seq ?_
              refine c_region ?_
              refine r_val .none rfl (p_move rfl) ?_
              refine r_iaddr_g .none rfl Try.underlying29 sz44 rfl hr rfl (by first | exact of_decide_eq_true rfl | omega) (fun p_13 o_14 R_12 => ?_)
              have hc_15 := hp _ (getD_mem (i := k) (d := d0) (by omega))
              have hz5 : (l ++ ((rs.map Prod.fst).take k)).length + size (rs.getD k d0).1 ≤ 1000 := by have h1 := sizeL_take (rs := rs) (k := k) (by omega); have h2 := sizeL_take_le (rs.map Prod.fst) (k + 1); have h3 := sizeL_len ((rs.map Prod.fst).take k); have h4 := size_eq c; rw [hl] at h4; rw [List.length_take, List.length_map] at h3; rw [List.length_append, List.length_take, List.length_map]; omega
              refine r_val .none rfl (p_ldga0 Try.underlying44 rfl sz44 rfl R_12 (by first | exact of_decide_eq_true rfl | omega) (rfl : _ = Value.agg #[_, _, _, _, _, _, _, _])) ?_
              refine r_alloc .none rfl zr44 (IsRow.lit _) (fun b_4 => ?_)
              refine r_val .none rfl (p_assign rfl) ?_
              refine r_stw (k := 0) .none sz44 rfl rfl (IsRow.lit _) (one_lit rfl (all_cons rfl (all_cons rfl (all_cons rfl (all_cons rfl (all_cons rfl (all_cons rfl (all_cons rfl (all_cons (hc_15).one rfl))))))))) rfl ?_
              refine r_nil ?_
              refine e_next ?_
              refine c_seq ?_
              refine c_region ?_
              refine r_val .none rfl (p_assign rfl) ?_
              refine r_nil ?_
              refine e_next ?_
              refine c_seq ?_
              refine c_region ?_
              refine r_val .none rfl (p_move rfl) ?_
              refine r_val .none rfl (p_move rfl) ?_
              refine r_nilrow 44 8 ?_
              refine r_append_g (k := 0) .none rfl Try.underlying29 el44 rfl (by decide) rfl rfl rfl hrc (rv_ones hpc) (by simp only [maxLen]; omega) (by omega) (fun v_16 => ?_)
              refine r_row1 (k := 0) rfl (fun o_17 => ?_)
              refine r_val .none rfl (p_assign rfl) ?_
              refine r_nil ?_
              refine e_next ?_
              refine c_seq ?_
              refine c_region ?_
              refine r_val .none rfl (p_move rfl) ?_
              refine r_val .none rfl (p_field Try.underlying44 rfl sz29 rfl) ?_
              refine r_val .none rfl (p_ld (k := 5) Try.underlying29 rfl rfl rfl (by first | exact of_decide_eq_true rfl | omega) rfl) ?_
              refine r_val .none rfl (p_move rfl) ?_
              refine r_slice0 (k) .none rfl Try.underlying29 sz44 rfl hr rfl (by first | exact of_decide_eq_true rfl | omega) (fun v_18 hs_19 => ?_)
              have hpt_21 := (Tr.take (by omega) hs_19 hp).1
              refine r_append_g (k := 0) .none rfl Try.underlying29 el44 rfl (by decide) rfl rfl rfl hpt_21 (rv_ones (fun p hm0 => hp p (List.mem_of_mem_take hm0))) (by rw [List.length_take]; simp only [maxLen]; omega) (by rw [List.length_take]; omega) (fun v_22 => ?_)
              refine r_row1 (k := 0) rfl (fun o_23 => ?_)
              refine r_freeze (k := 0) rfl (fun G_24 hn_25 hs_26 => ?_)
              replace hrc := hrc.mono hn_25.le
              replace hp := fun p hm0 => (hp p hm0).mono hn_25.le
              replace hr := hr.mono hn_25.le
              replace hpc := fun p hm0 => (hpc p hm0).mono hn_25.le
              replace hs2 := hs2.mono hn_25.le
              replace hqt := fun p hm0 => (hqt p hm0).mono hn_25.le
              replace hqs := fun p hm0 => (hqs p hm0).mono hn_25.le
              replace R_12 := R_12.mono hn_25.le
              replace hc_15 := hc_15.mono hn_25.le
              replace hs_19 := hs_19.mono hn_25.le
              replace hpt_21 := hpt_21.mono hn_25.le
              have hf_27 : SlL G_24 v_22 8 rvC d0 (rc ++ rs.take k) := SlL.of2 d0 (fun _ => rfl) (by simp) (by rw [List.nil_append, flat_all (cells := rvC) (fun _ => rfl), flat_all (cells := rvC) (fun _ => rfl), List.flatMap_append]) hs_26
              have hT_28 : Rs G_24 v_22 (l ++ ((rs.map Prod.fst).take k)) := by rw [hlc, ← List.map_take, ← List.map_append]; exact Tr.mk _ hf_27 (fun p hm0 => by rcases List.mem_append.1 hm0 with h | h; exact hpc p h; exact hp p (List.mem_of_mem_take h))
              refine r_val .none rfl (p_assign rfl) ?_
              refine r_nil ?_
              refine e_next ?_
              refine c_region_d (fun j => [6, 7, 8].contains j) _ mixed (.keep (fun _ _ h => h) (.keep (fun _ _ h => h) (.keep (fun _ _ h => h) (.keep (fun _ _ h => h) (.keep (fun _ _ h => h) (.nil)))))) ?_
              refine d_val1 0 rfl rfl (by kernel_rfl) (fun j hj => by have h : 8 < j := (Nat.lt_of_lt_of_le (by decide : 8 < 9) hj); simp; omega) .none rfl (p_field Try.underlying70 rfl sz48 rfl) ?_
              refine d_val1 1 rfl rfl (by kernel_rfl) (fun j hj => by have h : 8 < j := (Nat.lt_of_lt_of_le (by decide : 8 < 9) hj); simp; omega) .none rfl (p_ld (k := 2) Try.underlying48 rfl rfl rfl (by first | exact of_decide_eq_true rfl | omega) rfl) ?_
              refine d_val1 2 rfl rfl (by kernel_rfl) (fun j hj => by have h : 8 < j := (Nat.lt_of_lt_of_le (by decide : 8 < 9) hj); simp; omega) .none rfl (p_move rfl) ?_
              refine d_val1 3 rfl rfl (by kernel_rfl) (fun j hj => by have h : 8 < j := (Nat.lt_of_lt_of_le (by decide : 8 < 9) hj); simp; omega) .none rfl (p_ldw (k := 0) Try.underlying44 rfl sz44 rfl rfl (rfl : _ = Value.agg #[_, _, _, _, _, _, _, _])) ?_
              refine d_eff 4 rfl (by kernel_rfl) (fun K_29 hKK_29 hcK_29 => ?_)
              refine r_callm (vs := [_, _]) .none rfl cl34 rfl (fun w hw => ih (rs.getD k d0).1 _ _ _ _ w (size_at hl (by omega) hz) hz5 hc_15 hT_28 hw) (fun G_30 v_33 hn_31 hr_32 => ?_)
              replace hrc := hrc.mono hn_31.le
              replace hp := fun p hm0 => (hp p hm0).mono hn_31.le
              replace hr := hr.mono hn_31.le
              replace hpc := fun p hm0 => (hpc p hm0).mono hn_31.le
              replace hs2 := hs2.mono hn_31.le
              replace hqt := fun p hm0 => (hqt p hm0).mono hn_31.le
              replace hqs := fun p hm0 => (hqs p hm0).mono hn_31.le
              replace R_12 := R_12.mono hn_31.le
              replace hc_15 := hc_15.mono hn_31.le
              replace hs_19 := hs_19.mono hn_31.le
              replace hpt_21 := hpt_21.mono hn_31.le
              replace hT_28 := hT_28.mono hn_31.le
              obtain ⟨u_34a, u_34b, rfl, u_34s, u_34t⟩ := hr_32
              refine r_nil (e_d (i := 4) (brk := (fun j => [6, 7, 8].contains j)) (ph' := true) hKK_29 hcK_29 rfl (fun _ => hn_31.le) (fun _ => .keep (fun _ _ h => h) (.keep (fun _ _ h => h) (.keep (fun _ _ h => h) (.keep (fun _ _ h => h) (.keep (fun _ _ h => h) (.nil)))))) ?_)
              clear hKK_29 hcK_29 K_29
              refine d_eff 5 rfl (by kernel_rfl) (fun K_35 hKK_35 hcK_35 => ?_)
              refine r_bslice (vs := [(0, Value.agg #[_, _, _, _, _, _])]) (c := #[_, _, _, _, _, _]) .none rfl Try.underlying48 el70 rfl rfl rfl (bs70_10a6 _ _ _ _ _ _) (IsRow.lit _) (fun b_5 => ?_)
              refine r_nil (e_d (i := 5) (brk := (fun j => [6, 7, 8].contains j)) (ph' := true) hKK_35 hcK_35 rfl (fun _ => hn_31.le) (fun _ => .drop (.keep (fun _ _ h => h) (.keep (fun _ _ h => h) (.keep (fun _ _ h => h) (.keep (fun _ _ h => h) (.keep (fun _ _ h => h) (.nil))))))) ?_)
              clear hKK_35 hcK_35 K_35
              refine d_eff 6 rfl (by kernel_rfl) (fun K_36 hKK_36 hcK_36 => ?_)
              refine r_append (k := 2) (k2 := 0) .none rfl Try.underlying48 el70 rfl (by decide) rfl rfl rfl rfl rfl (one_lit rfl (all_cons rfl (all_cons rfl (all_cons rfl (all_cons rfl (all_cons (u_34s).one (all_cons (u_34t).one rfl))))))) (by simp only [maxLen]; omega) (by omega) (fun v_37 => ?_)
              refine r_row1 (k := 2) rfl (fun o_38 => ?_)
              refine r_nil (e_d (i := 6) (brk := (fun j => [6, 7, 8].contains j)) (ph' := false) hKK_36 hcK_36 rfl (fun h => by cases h) (fun h => by cases h) ?_)
              clear hKK_36 hcK_36 K_36
              refine d_val2 7 rfl rfl (by kernel_rfl) .none rfl (fun _ => p_field Try.underlying70 rfl sz48 rfl) ?_
              refine d_eff 8 rfl (by kernel_rfl) (fun K_39 hKK_39 hcK_39 => ?_)
              refine r_st (k := 3) .none sz48 rfl rfl o_38 rfl (by first | exact of_decide_eq_true rfl | omega) ?_
              refine r_nil (e_d (i := 8) (brk := (fun j => [6, 7, 8].contains j)) (ph' := false) hKK_39 hcK_39 rfl (fun h => by cases h) (fun h => by cases h) ?_)
              clear hKK_39 hcK_39 K_39
              refine d_nil (by kernel_rfl) ?_
              refine e_norm_block ?_
              refine e_next ?_
              refine c_region ?_
              refine r_val .none rfl (p_add rfl rfl (by omega)) ?_
              refine r_val .none rfl (p_move rfl) ?_
              refine r_nil ?_
              refine e_round ((k + 1, _, qs ++ [(stepOf (l ++ ((rs.map Prod.fst).take k)) (rs.getD k d0).1, u_34a, u_34b)], _)) ⟨⟨by dsimp only; omega, by rw [stepsOf_take (by omega), List.map_append, hq]; rfl, (fun p hp' => by rcases List.mem_append.1 hp' with h | h; exact hqt p h; rw [List.mem_singleton.1 h]; exact u_34s), (fun p hp' => by rcases List.mem_append.1 hp' with h | h; exact hqs p h; rw [List.mem_singleton.1 h]; exact u_34t), ((hgn.trans hn_25).trans hn_31)⟩, by dsimp only; omega⟩ rfl ⟨rfl, rfl, rfl, rfl, rfl, rfl, rfl, trivial⟩ (.drop (.drop (.keep (fun _ _ h => rowA_snoc (l := qs) (x := (stepOf (l ++ ((rs.map Prod.fst).take k)) (rs.getD k d0).1, u_34a, u_34b)) rfl rfl rfl rfl _ _ h) (.keep (fun _ _ h => box_congr (fun i hi => by match i, hi with | 0, _ => rfl | 1, _ => rfl | 2, _ => rfl | 3, _ => rfl | 4, _ => rfl | 5, _ => rfl) _ _ h) (.keep (fun _ _ h => h) (.keep (fun _ _ h => h) (.nil)))))))
              )
        · skip
          first
            | (exfalso; omega)
            | (
              refine c_cond_f rfl ?_
              refine c_exit ?_
              refine e_exit_then ?_
              refine e_exit_then ?_
              refine e_exit_block ?_
              refine e_next ?_
              refine c_seq ?_
              refine c_region ?_
              refine r_val .none rfl (p_ldw (k := 1) Try.underlying70 rfl sz70 rfl rfl (rfl : _ = Value.agg #[_, _, _, _, _, _])) ?_
              refine r_stw (k := 2) .none sz70 rfl rfl (IsRow.lit _) (one_lit rfl (all_cons rfl (all_cons rfl (all_cons rfl (all_cons rfl (all_cons rfl (all_cons ov rfl))))))) rfl ?_
              refine r_nil ?_
              refine e_next ?_
              refine c_ret ?_
              refine e_ret_then ?_
              refine e_freeze (k := 0) rfl (fun G_40 hn_41 hs_42 => ?_)
              replace hrc := hrc.mono hn_41.le
              replace hp := fun p hm0 => (hp p hm0).mono hn_41.le
              replace hr := hr.mono hn_41.le
              replace hpc := fun p hm0 => (hpc p hm0).mono hn_41.le
              replace hs2 := hs2.mono hn_41.le
              replace hqt := fun p hm0 => (hqt p hm0).mono hn_41.le
              replace hqs := fun p hm0 => (hqs p hm0).mono hn_41.le
              refine e_ret1 Try.results34 (.cell (k := 1) rfl Try.underlying70 rfl sz70 rfl (rfl : _ = Value.agg #[_, _, _, _, _, _]) .nil) (fun w hm => ⟨_, (hgn.trans hn_41), hm.has, ?_, hm.since⟩)
              have hk2 : k = rs.length := by omega
              rw [stepOf_ncc (by omega)]
              refine ⟨_, _, rfl, SlG.nil _ _ _, ?_⟩
              show Ss _ _ (stepsOf l c.subs)
              rw [show stepsOf l c.subs = qs.map Prod.fst by rw [hq, hl, List.take_of_length_le (by simp; omega)]]
              exact Ss.mk qs (SlL.of s0 (fun _ => rfl) rfl hs_42) hqt hqs
              )
        )
  · skip
    first
      | (exfalso; omega)
      | (
        refine c_cond_f rfl ?_
        refine c_skip ?_
        refine e_next ?_
        refine c_seq ?_
        refine c_seq ?_
        refine c_region ?_
        refine r_val .none rfl (p_assign rfl) ?_
        refine r_nil ?_
        refine e_next ?_
        refine c_block ?_
        refine c_nilrow 96 3 ?_
        refine c_name (d := 0) rfl (fun u_43 hu_43 => ?_)
        refine c_name (d := 3) rfl (fun u_44 hu_44 => ?_)
        refine c_name (d := 4) rfl (fun u_45 hu_45 => ?_)
        refine c_name (d := 5) rfl (fun u_46 hu_46 => ?_)
        refine c_nameL (k := 2) rfl (fun A_47 hA_47 => ?_)
        refine c_nameL (k := 3) rfl (fun A_48 hA_48 => ?_)
        refine c_loop (σ := Nat × Value) (fun s => [(9, Value.int .i64 (s.1 : Nat)), (0, u_43), (3, u_44), (4, u_45), (5, u_46)]) (fun s => [rowA (s.2) 96 3 ((testsTo l c.h s.1)).length (((testsTo l c.h s.1)).flatMap tC), box b_3 6 70 (at_ [.int .i64 c.h.k, .int .i64 (keyTo c.h s.1 0), .int .i64 (keyTo c.h s.1 1), .int .i64 (keyTo c.h s.1 2), s.2, .slice none 0 0]), A_47, A_48]) (fun _ => _) (fun s => s.1 ≤ 3) (fun s => 3 - s.1) ((0, _)) (by omega) rfl ⟨rfl, rfl, rfl, rfl, rfl, trivial⟩ (.keep (fun _ _ h => rowA_nil rfl _ _ h) (.keep (fun _ _ h => box_congr (fun i hi => by match i, hi with | 0, _ => rfl | 1, _ => rfl | 2, _ => rfl | 3, _ => rfl | 4, _ => rfl | 5, _ => rfl) _ _ h) (.keep (fun _ _ h => h) (.keep (fun _ _ h => h) (.nil))))) (fun s hphi => ?_)
        subst hu_43
        subst hu_44
        subst hu_45
        subst hu_46
        subst hA_47
        subst hA_48
        obtain ⟨f, v⟩ := s
        dsimp only at hphi ⊢
        refine c_row1 (k := 0) rfl (fun ov => ?_)
        refine c_rowlen (k := 0) rfl (fun l63 => ?_)
        obtain rfl | rfl | rfl | rfl : f = 0 ∨ f = 1 ∨ f = 2 ∨ f = 3 := by omega
        · skip
          refine c_seq ?_
          refine c_seq ?_
          refine c_region ?_
          refine r_val .none rfl (p_move rfl) ?_
          refine r_val .none rfl (p_lt rfl rfl) ?_
          refine r_say (d := 47) (v := Value.bool true) rfl ?_
          refine r_nil ?_
          refine e_next ?_
          refine c_cond_t rfl ?_
          refine c_skip ?_
          refine e_next ?_
          refine c_seq ?_
          refine c_block ?_
          refine c_seq ?_
          refine c_seq ?_
          refine c_region ?_
          refine r_val .none rfl (p_move rfl) ?_
          refine r_val .none rfl (p_field Try.underlying44 rfl sz42 rfl) ?_
          refine r_val .none rfl (p_iaddr (k := 0) Try.underlying42 sz41 rfl rfl (by first | exact of_decide_eq_true rfl | omega)) ?_
          refine r_val .none rfl (p_field Try.underlying41 rfl sz3 rfl) ?_
          refine r_val .none rfl (p_ld (k := 3) Try.underlying3 rfl rfl rfl (by first | exact of_decide_eq_true rfl | omega) (rfl : _ = Value.int _ _)) ?_
          refine r_val .none rfl (p_eq rfl rfl) ?_
          refine r_nil ?_
          refine e_next ?_
          refine c_splitd (d := 55) rfl (fun h_49 => ?_) (fun h_49 => ?_)
          · skip
            have hv : vF c.h 0 = false := vF_no h_49
            first
              | (exfalso; omega)
              | (
                refine c_cond_t rfl ?_
                refine c_seq ?_
                refine c_region ?_
                refine r_val .none rfl (p_move rfl) ?_
                refine r_val .none rfl (p_move rfl) ?_
                refine r_val .none rfl (p_field Try.underlying44 rfl sz42 rfl) ?_
                refine r_val .none rfl (p_iaddr (k := 0) Try.underlying42 sz41 rfl rfl (by first | exact of_decide_eq_true rfl | omega)) ?_
                refine r_val .none rfl (p_field Try.underlying41 rfl sz3 rfl) ?_
                refine r_val .none rfl (p_ld (k := 3) Try.underlying3 rfl rfl rfl (by first | exact of_decide_eq_true rfl | omega) (rfl : _ = Value.int _ _)) ?_
                refine r_val .none rfl (p_field Try.underlying70 rfl sz60 rfl) ?_
                refine r_val .none rfl (p_iaddr (k := 0) Try.underlying60 sz3 rfl rfl (by first | exact of_decide_eq_true rfl | omega)) ?_
                refine r_st (k := 1) .none sz3 rfl rfl rfl rfl (by first | exact of_decide_eq_true rfl | omega) ?_
                refine r_nil ?_
                refine e_next ?_
                refine c_exit ?_
                refine e_exit_then ?_
                refine e_exit_block ?_
                refine e_next ?_
                refine c_region ?_
                refine r_val .none rfl (p_move rfl) ?_
                refine r_val .none rfl (p_add rfl rfl (by omega)) ?_
                refine r_val .none rfl (p_assign rfl) ?_
                refine r_nil ?_
                refine e_round ((1, _)) ⟨Nat.le_of_ble_eq_true rfl, Nat.le_of_ble_eq_true rfl⟩ rfl ⟨rfl, rfl, rfl, rfl, rfl, trivial⟩ (.keep (fun _ _ h => rowA_same (by show testsTo l c.h (0 + 1) = _; rw [testsTo_succ, (by first | exact T1 (by assumption) | exact T4 (by assumption) (by assumption) (dup0 _) : testF l c.h 0 = []), List.append_nil]) _ _ h) (.keep (fun _ _ h => box_congr (fun i hi => by match i, hi with | 0, _ => rfl | 1, _ => exact (by first | exact congrArg (Value.int .i64) (key_set (h := c.h) (f := 0) (by assumption)).symm | exact congrArg (Value.int .i64) ((show keyTo c.h 0 0 = 0 by simp [keyTo]).trans (key_not (h := c.h) (f := 0) (by assumption)).symm)) | 2, _ => exact congrArg (Value.int .i64) (key_else (h := c.h) (f := 0) (i := 1) (by decide)).symm | 3, _ => exact congrArg (Value.int .i64) (key_else (h := c.h) (f := 0) (i := 2) (by decide)).symm | 4, _ => rfl | 5, _ => rfl) _ _ h) (.keep (fun _ _ h => h) (.keep (fun _ _ h => h) (.nil)))))
                )
          · skip
            have hv : vF c.h 0 = true := vF_yes h_49
            first
              | (exfalso; omega)
              | (
                refine c_cond_f rfl ?_
                refine c_skip ?_
                refine e_next ?_
                refine c_seq ?_
                refine c_region ?_
                refine r_val .none rfl (p_move rfl) ?_
                refine r_val .none rfl (p_move rfl) ?_
                refine r_val .none rfl (p_field Try.underlying44 rfl sz42 rfl) ?_
                refine r_val .none rfl (p_iaddr (k := 0) Try.underlying42 sz41 rfl rfl (by first | exact of_decide_eq_true rfl | omega)) ?_
                refine r_val .none rfl (p_field Try.underlying41 rfl sz3 rfl) ?_
                refine r_val .none rfl (p_ld (k := 3) Try.underlying3 rfl rfl rfl (by first | exact of_decide_eq_true rfl | omega) (rfl : _ = Value.int _ _)) ?_
                refine r_call (vs := [_, _]) .none rfl cl55 rfl (fun w hw => c_bound _ _ _ hs2 w hw) ?_
                refine r_val .none rfl (p_move rfl) ?_
                refine r_val .none rfl (p_extract rfl rfl) ?_
                refine r_val .none rfl (p_extract rfl rfl) ?_
                refine r_alloc .none rfl zr101 (IsRow.lit _) (fun b_6 => ?_)
                refine r_stw (k := 0) .none sz101 rfl rfl (IsRow.lit _) (one_lit rfl rfl) rfl ?_
                refine r_val .none rfl (p_assign rfl) ?_
                refine r_nil ?_
                refine e_next ?_
                refine c_seq ?_
                refine c_seq ?_
                refine c_region ?_
                refine r_val .none rfl (p_move rfl) ?_
                refine r_nil ?_
                refine e_next ?_
                refine c_split (d := 74) rfl (fun h_50 => ?_) (fun h_50 => ?_)
                · skip
                  have hb : (bound (nF c.h 0) l 0).isSome = true := h_50
                  first
                    | (exfalso; omega)
                    | (
                      refine c_cond_t rfl ?_
                      refine c_seq ?_
                      refine c_region ?_
                      refine r_val .none rfl (p_field Try.underlying70 rfl sz68 rfl) ?_
                      refine r_val .none rfl (p_ld (k := 2) Try.underlying68 rfl rfl rfl (by first | exact of_decide_eq_true rfl | omega) rfl) ?_
                      refine r_val .none rfl (p_move rfl) ?_
                      refine r_val .none rfl (p_field Try.underlying101 rfl sz3 rfl) ?_
                      refine r_val .none rfl (p_ld (k := 0) Try.underlying3 rfl rfl rfl (by first | exact of_decide_eq_true rfl | omega) (rfl : _ = Value.int _ _)) ?_
                      refine r_val .none rfl (p_field Try.underlying101 rfl sz3 rfl) ?_
                      refine r_val .none rfl (p_ld (k := 0) Try.underlying3 rfl rfl rfl (by first | exact of_decide_eq_true rfl | omega) (rfl : _ = Value.int _ _)) ?_
                      refine r_val .none rfl (p_build (vs := [(0, Value.int _ _), (1, Value.int _ _), (2, Value.int _ _)]) rfl (bl96_0i1_1i1_2i1 _ _ _)) ?_
                      refine r_bslice (vs := [(0, Value.agg #[_, _, _])]) (c := #[_, _, _]) .none rfl Try.underlying68 el96 rfl rfl rfl (bs96_10a3 _ _ _) (IsRow.lit _) (fun b_7 => ?_)
                      refine r_append (k := 2) (k2 := 0) .none rfl Try.underlying68 el96 rfl (by decide) rfl rfl rfl rfl rfl (one_lit rfl rfl) (by have q0 := testsTo_len l c.h 0; have q1 := testsTo_len l c.h 1; have q2 := testsTo_len l c.h 2; simp only [maxLen]; omega) (by have q0 := testsTo_len l c.h 0; have q1 := testsTo_len l c.h 1; have q2 := testsTo_len l c.h 2; omega) (fun v_51 => ?_)
                      refine r_row1 (k := 2) rfl (fun o_52 => ?_)
                      refine r_val .none rfl (p_field Try.underlying70 rfl sz68 rfl) ?_
                      refine r_st (k := 3) .none sz68 rfl rfl o_52 rfl (by first | exact of_decide_eq_true rfl | omega) ?_
                      refine r_nil ?_
                      refine e_next ?_
                      refine c_exit ?_
                      refine e_exit_then ?_
                      refine e_exit_block ?_
                      refine e_next ?_
                      refine c_region ?_
                      refine r_val .none rfl (p_move rfl) ?_
                      refine r_val .none rfl (p_add rfl rfl (by omega)) ?_
                      refine r_val .none rfl (p_assign rfl) ?_
                      refine r_nil ?_
                      refine e_round ((1, _)) ⟨Nat.le_of_ble_eq_true rfl, Nat.le_of_ble_eq_true rfl⟩ rfl ⟨rfl, rfl, rfl, rfl, rfl, trivial⟩ (.drop (.drop (.keep (fun _ _ h => rowA_snoc (x := (((0 : Nat) : Int), ((bound (nF c.h 0) l 0).getD (0, 0)).1, ((bound (nF c.h 0) l 0).getD (0, 0)).2)) (by show testsTo l c.h (0 + 1) = _; rw [testsTo_succ, T2 (by assumption) (by assumption)]) rfl rfl rfl _ _ h) (.keep (fun _ _ h => box_congr (fun i hi => by match i, hi with | 0, _ => rfl | 1, _ => exact (by first | exact congrArg (Value.int .i64) (key_set (h := c.h) (f := 0) (by assumption)).symm | exact congrArg (Value.int .i64) ((show keyTo c.h 0 0 = 0 by simp [keyTo]).trans (key_not (h := c.h) (f := 0) (by assumption)).symm)) | 2, _ => exact congrArg (Value.int .i64) (key_else (h := c.h) (f := 0) (i := 1) (by decide)).symm | 3, _ => exact congrArg (Value.int .i64) (key_else (h := c.h) (f := 0) (i := 2) (by decide)).symm | 4, _ => rfl | 5, _ => rfl) _ _ h) (.keep (fun _ _ h => h) (.keep (fun _ _ h => h) (.nil)))))))
                      )
                · skip
                  have hb : (bound (nF c.h 0) l 0).isSome = false := h_50
                  first
                    | (exfalso; omega)
                    | (
                      refine c_cond_f rfl ?_
                      refine c_skip ?_
                      refine e_next ?_
                      refine c_seq ?_
                      refine c_region ?_
                      refine r_val .none rfl (p_assign rfl) ?_
                      refine r_nil ?_
                      refine e_next ?_
                      refine c_block ?_
                      refine c_unroll 3 ?_
                      refine l_round (n := 2) ?_
                      refine c_seq ?_
                      refine c_seq ?_
                      refine c_region ?_
                      refine r_val .none rfl (p_move rfl) ?_
                      refine r_val .none rfl (p_move rfl) ?_
                      refine r_val .none rfl (p_lt rfl rfl) ?_
                      refine r_say (d := 88) (v := Value.bool false) rfl ?_
                      refine r_nil ?_
                      refine e_next ?_
                      refine c_cond_f rfl ?_
                      refine c_exit ?_
                      refine e_exit_then ?_
                      refine e_exit_then ?_
                      refine e_exit_block ?_
                      refine e_norm_block ?_
                      refine e_next ?_
                      refine c_region ?_
                      refine r_val .none rfl (p_move rfl) ?_
                      refine r_val .none rfl (p_add rfl rfl (by omega)) ?_
                      refine r_val .none rfl (p_assign rfl) ?_
                      refine r_nil ?_
                      refine e_round ((1, _)) ⟨Nat.le_of_ble_eq_true rfl, Nat.le_of_ble_eq_true rfl⟩ rfl ⟨rfl, rfl, rfl, rfl, rfl, trivial⟩ (.drop (.keep (fun _ _ h => rowA_same (by show testsTo l c.h (0 + 1) = _; rw [testsTo_succ, (by first | exact T1 (by assumption) | exact T4 (by assumption) (by assumption) (dup0 _) : testF l c.h 0 = []), List.append_nil]) _ _ h) (.keep (fun _ _ h => box_congr (fun i hi => by match i, hi with | 0, _ => rfl | 1, _ => exact (by first | exact congrArg (Value.int .i64) (key_set (h := c.h) (f := 0) (by assumption)).symm | exact congrArg (Value.int .i64) ((show keyTo c.h 0 0 = 0 by simp [keyTo]).trans (key_not (h := c.h) (f := 0) (by assumption)).symm)) | 2, _ => exact congrArg (Value.int .i64) (key_else (h := c.h) (f := 0) (i := 1) (by decide)).symm | 3, _ => exact congrArg (Value.int .i64) (key_else (h := c.h) (f := 0) (i := 2) (by decide)).symm | 4, _ => rfl | 5, _ => rfl) _ _ h) (.keep (fun _ _ h => h) (.keep (fun _ _ h => h) (.nil))))))
                      )
                )
        · skip
          refine c_seq ?_
          refine c_seq ?_
          refine c_region ?_
          refine r_val .none rfl (p_move rfl) ?_
          refine r_val .none rfl (p_lt rfl rfl) ?_
          refine r_say (d := 47) (v := Value.bool true) rfl ?_
          refine r_nil ?_
          refine e_next ?_
          refine c_cond_t rfl ?_
          refine c_skip ?_
          refine e_next ?_
          refine c_seq ?_
          refine c_block ?_
          refine c_seq ?_
          refine c_seq ?_
          refine c_region ?_
          refine r_val .none rfl (p_move rfl) ?_
          refine r_val .none rfl (p_field Try.underlying44 rfl sz42 rfl) ?_
          refine r_val .none rfl (p_iaddr (k := 1) Try.underlying42 sz41 rfl rfl (by first | exact of_decide_eq_true rfl | omega)) ?_
          refine r_val .none rfl (p_field Try.underlying41 rfl sz3 rfl) ?_
          refine r_val .none rfl (p_ld (k := 3) Try.underlying3 rfl rfl rfl (by first | exact of_decide_eq_true rfl | omega) (rfl : _ = Value.int _ _)) ?_
          refine r_val .none rfl (p_eq rfl rfl) ?_
          refine r_nil ?_
          refine e_next ?_
          refine c_splitd (d := 55) rfl (fun h_53 => ?_) (fun h_53 => ?_)
          · skip
            have hv : vF c.h 1 = false := vF_no h_53
            first
              | (exfalso; omega)
              | (
                refine c_cond_t rfl ?_
                refine c_seq ?_
                refine c_region ?_
                refine r_val .none rfl (p_move rfl) ?_
                refine r_val .none rfl (p_move rfl) ?_
                refine r_val .none rfl (p_field Try.underlying44 rfl sz42 rfl) ?_
                refine r_val .none rfl (p_iaddr (k := 1) Try.underlying42 sz41 rfl rfl (by first | exact of_decide_eq_true rfl | omega)) ?_
                refine r_val .none rfl (p_field Try.underlying41 rfl sz3 rfl) ?_
                refine r_val .none rfl (p_ld (k := 3) Try.underlying3 rfl rfl rfl (by first | exact of_decide_eq_true rfl | omega) (rfl : _ = Value.int _ _)) ?_
                refine r_val .none rfl (p_field Try.underlying70 rfl sz60 rfl) ?_
                refine r_val .none rfl (p_iaddr (k := 1) Try.underlying60 sz3 rfl rfl (by first | exact of_decide_eq_true rfl | omega)) ?_
                refine r_st (k := 1) .none sz3 rfl rfl rfl rfl (by first | exact of_decide_eq_true rfl | omega) ?_
                refine r_nil ?_
                refine e_next ?_
                refine c_exit ?_
                refine e_exit_then ?_
                refine e_exit_block ?_
                refine e_next ?_
                refine c_region ?_
                refine r_val .none rfl (p_move rfl) ?_
                refine r_val .none rfl (p_add rfl rfl (by omega)) ?_
                refine r_val .none rfl (p_assign rfl) ?_
                refine r_nil ?_
                refine e_round ((2, _)) ⟨Nat.le_of_ble_eq_true rfl, Nat.le_of_ble_eq_true rfl⟩ rfl ⟨rfl, rfl, rfl, rfl, rfl, trivial⟩ (.keep (fun _ _ h => rowA_same (by show testsTo l c.h (1 + 1) = _; rw [testsTo_succ, (by first | exact T1 (by assumption) | exact T4 (by assumption) (by assumption) (dup1_no (by assumption)) : testF l c.h 1 = []), List.append_nil]) _ _ h) (.keep (fun _ _ h => box_congr (fun i hi => by match i, hi with | 0, _ => rfl | 1, _ => exact congrArg (Value.int .i64) (key_else (h := c.h) (f := 1) (i := 0) (by decide)).symm | 2, _ => exact (by first | exact congrArg (Value.int .i64) (key_set (h := c.h) (f := 1) (by assumption)).symm | exact congrArg (Value.int .i64) ((show keyTo c.h 1 1 = 0 by simp [keyTo]).trans (key_not (h := c.h) (f := 1) (by assumption)).symm)) | 3, _ => exact congrArg (Value.int .i64) (key_else (h := c.h) (f := 1) (i := 2) (by decide)).symm | 4, _ => rfl | 5, _ => rfl) _ _ h) (.keep (fun _ _ h => h) (.keep (fun _ _ h => h) (.nil)))))
                )
          · skip
            have hv : vF c.h 1 = true := vF_yes h_53
            first
              | (exfalso; omega)
              | (
                refine c_cond_f rfl ?_
                refine c_skip ?_
                refine e_next ?_
                refine c_seq ?_
                refine c_region ?_
                refine r_val .none rfl (p_move rfl) ?_
                refine r_val .none rfl (p_move rfl) ?_
                refine r_val .none rfl (p_field Try.underlying44 rfl sz42 rfl) ?_
                refine r_val .none rfl (p_iaddr (k := 1) Try.underlying42 sz41 rfl rfl (by first | exact of_decide_eq_true rfl | omega)) ?_
                refine r_val .none rfl (p_field Try.underlying41 rfl sz3 rfl) ?_
                refine r_val .none rfl (p_ld (k := 3) Try.underlying3 rfl rfl rfl (by first | exact of_decide_eq_true rfl | omega) (rfl : _ = Value.int _ _)) ?_
                refine r_call (vs := [_, _]) .none rfl cl55 rfl (fun w hw => c_bound _ _ _ hs2 w hw) ?_
                refine r_val .none rfl (p_move rfl) ?_
                refine r_val .none rfl (p_extract rfl rfl) ?_
                refine r_val .none rfl (p_extract rfl rfl) ?_
                refine r_alloc .none rfl zr101 (IsRow.lit _) (fun b_8 => ?_)
                refine r_stw (k := 0) .none sz101 rfl rfl (IsRow.lit _) (one_lit rfl rfl) rfl ?_
                refine r_val .none rfl (p_assign rfl) ?_
                refine r_nil ?_
                refine e_next ?_
                refine c_seq ?_
                refine c_seq ?_
                refine c_region ?_
                refine r_val .none rfl (p_move rfl) ?_
                refine r_nil ?_
                refine e_next ?_
                refine c_split (d := 74) rfl (fun h_54 => ?_) (fun h_54 => ?_)
                · skip
                  have hb : (bound (nF c.h 1) l 0).isSome = true := h_54
                  first
                    | (exfalso; omega)
                    | (
                      refine c_cond_t rfl ?_
                      refine c_seq ?_
                      refine c_region ?_
                      refine r_val .none rfl (p_field Try.underlying70 rfl sz68 rfl) ?_
                      refine r_val .none rfl (p_ld (k := 2) Try.underlying68 rfl rfl rfl (by first | exact of_decide_eq_true rfl | omega) rfl) ?_
                      refine r_val .none rfl (p_move rfl) ?_
                      refine r_val .none rfl (p_field Try.underlying101 rfl sz3 rfl) ?_
                      refine r_val .none rfl (p_ld (k := 0) Try.underlying3 rfl rfl rfl (by first | exact of_decide_eq_true rfl | omega) (rfl : _ = Value.int _ _)) ?_
                      refine r_val .none rfl (p_field Try.underlying101 rfl sz3 rfl) ?_
                      refine r_val .none rfl (p_ld (k := 0) Try.underlying3 rfl rfl rfl (by first | exact of_decide_eq_true rfl | omega) (rfl : _ = Value.int _ _)) ?_
                      refine r_val .none rfl (p_build (vs := [(0, Value.int _ _), (1, Value.int _ _), (2, Value.int _ _)]) rfl (bl96_0i1_1i1_2i1 _ _ _)) ?_
                      refine r_bslice (vs := [(0, Value.agg #[_, _, _])]) (c := #[_, _, _]) .none rfl Try.underlying68 el96 rfl rfl rfl (bs96_10a3 _ _ _) (IsRow.lit _) (fun b_9 => ?_)
                      refine r_append (k := 2) (k2 := 0) .none rfl Try.underlying68 el96 rfl (by decide) rfl rfl rfl rfl rfl (one_lit rfl rfl) (by have q0 := testsTo_len l c.h 0; have q1 := testsTo_len l c.h 1; have q2 := testsTo_len l c.h 2; simp only [maxLen]; omega) (by have q0 := testsTo_len l c.h 0; have q1 := testsTo_len l c.h 1; have q2 := testsTo_len l c.h 2; omega) (fun v_55 => ?_)
                      refine r_row1 (k := 2) rfl (fun o_56 => ?_)
                      refine r_val .none rfl (p_field Try.underlying70 rfl sz68 rfl) ?_
                      refine r_st (k := 3) .none sz68 rfl rfl o_56 rfl (by first | exact of_decide_eq_true rfl | omega) ?_
                      refine r_nil ?_
                      refine e_next ?_
                      refine c_exit ?_
                      refine e_exit_then ?_
                      refine e_exit_block ?_
                      refine e_next ?_
                      refine c_region ?_
                      refine r_val .none rfl (p_move rfl) ?_
                      refine r_val .none rfl (p_add rfl rfl (by omega)) ?_
                      refine r_val .none rfl (p_assign rfl) ?_
                      refine r_nil ?_
                      refine e_round ((2, _)) ⟨Nat.le_of_ble_eq_true rfl, Nat.le_of_ble_eq_true rfl⟩ rfl ⟨rfl, rfl, rfl, rfl, rfl, trivial⟩ (.drop (.drop (.keep (fun _ _ h => rowA_snoc (x := (((1 : Nat) : Int), ((bound (nF c.h 1) l 0).getD (0, 0)).1, ((bound (nF c.h 1) l 0).getD (0, 0)).2)) (by show testsTo l c.h (1 + 1) = _; rw [testsTo_succ, T2 (by assumption) (by assumption)]) rfl rfl rfl _ _ h) (.keep (fun _ _ h => box_congr (fun i hi => by match i, hi with | 0, _ => rfl | 1, _ => exact congrArg (Value.int .i64) (key_else (h := c.h) (f := 1) (i := 0) (by decide)).symm | 2, _ => exact (by first | exact congrArg (Value.int .i64) (key_set (h := c.h) (f := 1) (by assumption)).symm | exact congrArg (Value.int .i64) ((show keyTo c.h 1 1 = 0 by simp [keyTo]).trans (key_not (h := c.h) (f := 1) (by assumption)).symm)) | 3, _ => exact congrArg (Value.int .i64) (key_else (h := c.h) (f := 1) (i := 2) (by decide)).symm | 4, _ => rfl | 5, _ => rfl) _ _ h) (.keep (fun _ _ h => h) (.keep (fun _ _ h => h) (.nil)))))))
                      )
                · skip
                  have hb : (bound (nF c.h 1) l 0).isSome = false := h_54
                  first
                    | (exfalso; omega)
                    | (
                      refine c_cond_f rfl ?_
                      refine c_skip ?_
                      refine e_next ?_
                      refine c_seq ?_
                      refine c_region ?_
                      refine r_val .none rfl (p_assign rfl) ?_
                      refine r_nil ?_
                      refine e_next ?_
                      refine c_block ?_
                      refine c_unroll 3 ?_
                      refine l_round (n := 2) ?_
                      refine c_seq ?_
                      refine c_seq ?_
                      refine c_region ?_
                      refine r_val .none rfl (p_move rfl) ?_
                      refine r_val .none rfl (p_move rfl) ?_
                      refine r_val .none rfl (p_lt rfl rfl) ?_
                      refine r_say (d := 88) (v := Value.bool true) rfl ?_
                      refine r_nil ?_
                      refine e_next ?_
                      refine c_cond_t rfl ?_
                      refine c_skip ?_
                      refine e_next ?_
                      refine c_seq ?_
                      refine c_block ?_
                      refine c_seq ?_
                      refine c_region_q mixed (by kernel_rfl) ?_
                      refine q_val .none rfl (p_move rfl) ?_
                      refine q_val .none rfl (p_field Try.underlying44 rfl sz42 rfl) ?_
                      refine q_val .none rfl (p_iaddr (k := 0) Try.underlying42 sz41 rfl rfl (by first | exact of_decide_eq_true rfl | omega)) ?_
                      refine q_val .none rfl (p_lda (k := 4) Try.underlying41 rfl sz41 rfl rfl (by first | exact of_decide_eq_true rfl | omega) (rfl : _ = Value.agg #[_, _])) ?_
                      refine q_val .none rfl (p_move rfl) ?_
                      refine q_val .none rfl (p_field Try.underlying44 rfl sz42 rfl) ?_
                      refine q_val .none rfl (p_iaddr (k := 1) Try.underlying42 sz41 rfl rfl (by first | exact of_decide_eq_true rfl | omega)) ?_
                      refine q_val .none rfl (p_lda (k := 4) Try.underlying41 rfl sz41 rfl rfl (by first | exact of_decide_eq_true rfl | omega) (rfl : _ = Value.agg #[_, _])) ?_
                      refine q_val .none rfl (p_eqa rfl rfl (eq_flat Try.underlying41 rfl lf41 ef41 eg41 (.cons (.int Try.underlying3) (.cons (.int Try.underlying3) (.nil))) (.cons (.int Try.underlying3) (.cons (.int Try.underlying3) (.nil))))) ?_
                      refine q_nil ?_
                      refine e_next ?_
                      refine c_split (d := 99) rfl (fun h_57 => ?_) (fun h_57 => ?_)
                      · skip
                        first | have s0 : sameF c.h 0 1 = true := (same_cs c.h 0 1).symm.trans h_57 | have s1 : sameF c.h 1 1 = true := (same_cs c.h 1 1).symm.trans h_57
                        first
                          | (exfalso; omega)
                          | (
                            refine c_cond_t rfl ?_
                            refine c_seq ?_
                            refine c_region ?_
                            refine r_val .none rfl (p_field Try.underlying70 rfl sz68 rfl) ?_
                            refine r_val .none rfl (p_ld (k := 2) Try.underlying68 rfl rfl rfl (by first | exact of_decide_eq_true rfl | omega) rfl) ?_
                            refine r_val .none rfl (p_move rfl) ?_
                            refine r_val .none rfl (p_move rfl) ?_
                            refine r_val .none rfl (p_build (vs := [(0, Value.int _ _), (1, Value.int _ _), (2, Value.int _ _)]) rfl (bl96_0i1_1i1_2i1 _ _ _)) ?_
                            refine r_bslice (vs := [(0, Value.agg #[_, _, _])]) (c := #[_, _, _]) .none rfl Try.underlying68 el96 rfl rfl rfl (bs96_10a3 _ _ _) (IsRow.lit _) (fun b_10 => ?_)
                            refine r_append (k := 2) (k2 := 0) .none rfl Try.underlying68 el96 rfl (by decide) rfl rfl rfl rfl rfl (one_lit rfl rfl) (by have q0 := testsTo_len l c.h 0; have q1 := testsTo_len l c.h 1; have q2 := testsTo_len l c.h 2; simp only [maxLen]; omega) (by have q0 := testsTo_len l c.h 0; have q1 := testsTo_len l c.h 1; have q2 := testsTo_len l c.h 2; omega) (fun v_58 => ?_)
                            refine r_row1 (k := 2) rfl (fun o_59 => ?_)
                            refine r_val .none rfl (p_field Try.underlying70 rfl sz68 rfl) ?_
                            refine r_st (k := 3) .none sz68 rfl rfl o_59 rfl (by first | exact of_decide_eq_true rfl | omega) ?_
                            refine r_nil ?_
                            refine e_next ?_
                            refine c_exit ?_
                            refine e_exit_past rfl ?_
                            refine e_exit_then ?_
                            refine e_exit_then ?_
                            refine e_exit_block ?_
                            refine e_norm_block ?_
                            refine e_next ?_
                            refine c_region ?_
                            refine r_val .none rfl (p_move rfl) ?_
                            refine r_val .none rfl (p_add rfl rfl (by omega)) ?_
                            refine r_val .none rfl (p_assign rfl) ?_
                            refine r_nil ?_
                            refine e_round ((2, _)) ⟨Nat.le_of_ble_eq_true rfl, Nat.le_of_ble_eq_true rfl⟩ rfl ⟨rfl, rfl, rfl, rfl, rfl, trivial⟩ (.drop (.drop (.keep (fun _ _ h => rowA_snoc (x := (((1 : Nat) : Int), -1, 0)) (by show testsTo l c.h (1 + 1) = _; rw [testsTo_succ, T3 (by assumption) (by assumption) (dup1_yes (by assumption))]) rfl rfl rfl _ _ h) (.keep (fun _ _ h => box_congr (fun i hi => by match i, hi with | 0, _ => rfl | 1, _ => exact congrArg (Value.int .i64) (key_else (h := c.h) (f := 1) (i := 0) (by decide)).symm | 2, _ => exact (by first | exact congrArg (Value.int .i64) (key_set (h := c.h) (f := 1) (by assumption)).symm | exact congrArg (Value.int .i64) ((show keyTo c.h 1 1 = 0 by simp [keyTo]).trans (key_not (h := c.h) (f := 1) (by assumption)).symm)) | 3, _ => exact congrArg (Value.int .i64) (key_else (h := c.h) (f := 1) (i := 2) (by decide)).symm | 4, _ => rfl | 5, _ => rfl) _ _ h) (.keep (fun _ _ h => h) (.keep (fun _ _ h => h) (.nil)))))))
                            )
                      · skip
                        first | have s0 : sameF c.h 0 1 = false := (same_cs c.h 0 1).symm.trans h_57 | have s1 : sameF c.h 1 1 = false := (same_cs c.h 1 1).symm.trans h_57
                        first
                          | (exfalso; omega)
                          | (
                            refine c_cond_f rfl ?_
                            refine c_skip ?_
                            refine e_norm_block ?_
                            refine e_next ?_
                            refine c_region ?_
                            refine r_val .none rfl (p_move rfl) ?_
                            refine r_val .none rfl (p_add rfl rfl (by omega)) ?_
                            refine r_val .none rfl (p_assign rfl) ?_
                            refine r_nil ?_
                            refine e_again ?_
                            refine l_round (n := 1) ?_
                            refine c_seq ?_
                            refine c_seq ?_
                            refine c_region ?_
                            refine r_val .none rfl (p_move rfl) ?_
                            refine r_val .none rfl (p_move rfl) ?_
                            refine r_val .none rfl (p_lt rfl rfl) ?_
                            refine r_say (d := 88) (v := Value.bool false) rfl ?_
                            refine r_nil ?_
                            refine e_next ?_
                            refine c_cond_f rfl ?_
                            refine c_exit ?_
                            refine e_exit_then ?_
                            refine e_exit_then ?_
                            refine e_exit_block ?_
                            refine e_norm_block ?_
                            refine e_next ?_
                            refine c_region ?_
                            refine r_val .none rfl (p_move rfl) ?_
                            refine r_val .none rfl (p_add rfl rfl (by omega)) ?_
                            refine r_val .none rfl (p_assign rfl) ?_
                            refine r_nil ?_
                            refine e_round ((2, _)) ⟨Nat.le_of_ble_eq_true rfl, Nat.le_of_ble_eq_true rfl⟩ rfl ⟨rfl, rfl, rfl, rfl, rfl, trivial⟩ (.drop (.keep (fun _ _ h => rowA_same (by show testsTo l c.h (1 + 1) = _; rw [testsTo_succ, (by first | exact T1 (by assumption) | exact T4 (by assumption) (by assumption) (dup1_no (by assumption)) : testF l c.h 1 = []), List.append_nil]) _ _ h) (.keep (fun _ _ h => box_congr (fun i hi => by match i, hi with | 0, _ => rfl | 1, _ => exact congrArg (Value.int .i64) (key_else (h := c.h) (f := 1) (i := 0) (by decide)).symm | 2, _ => exact (by first | exact congrArg (Value.int .i64) (key_set (h := c.h) (f := 1) (by assumption)).symm | exact congrArg (Value.int .i64) ((show keyTo c.h 1 1 = 0 by simp [keyTo]).trans (key_not (h := c.h) (f := 1) (by assumption)).symm)) | 3, _ => exact congrArg (Value.int .i64) (key_else (h := c.h) (f := 1) (i := 2) (by decide)).symm | 4, _ => rfl | 5, _ => rfl) _ _ h) (.keep (fun _ _ h => h) (.keep (fun _ _ h => h) (.nil))))))
                            )
                      )
                )
        · skip
          refine c_seq ?_
          refine c_seq ?_
          refine c_region ?_
          refine r_val .none rfl (p_move rfl) ?_
          refine r_val .none rfl (p_lt rfl rfl) ?_
          refine r_say (d := 47) (v := Value.bool true) rfl ?_
          refine r_nil ?_
          refine e_next ?_
          refine c_cond_t rfl ?_
          refine c_skip ?_
          refine e_next ?_
          refine c_seq ?_
          refine c_block ?_
          refine c_seq ?_
          refine c_seq ?_
          refine c_region ?_
          refine r_val .none rfl (p_move rfl) ?_
          refine r_val .none rfl (p_field Try.underlying44 rfl sz42 rfl) ?_
          refine r_val .none rfl (p_iaddr (k := 2) Try.underlying42 sz41 rfl rfl (by first | exact of_decide_eq_true rfl | omega)) ?_
          refine r_val .none rfl (p_field Try.underlying41 rfl sz3 rfl) ?_
          refine r_val .none rfl (p_ld (k := 3) Try.underlying3 rfl rfl rfl (by first | exact of_decide_eq_true rfl | omega) (rfl : _ = Value.int _ _)) ?_
          refine r_val .none rfl (p_eq rfl rfl) ?_
          refine r_nil ?_
          refine e_next ?_
          refine c_splitd (d := 55) rfl (fun h_60 => ?_) (fun h_60 => ?_)
          · skip
            have hv : vF c.h 2 = false := vF_no h_60
            first
              | (exfalso; omega)
              | (
                refine c_cond_t rfl ?_
                refine c_seq ?_
                refine c_region ?_
                refine r_val .none rfl (p_move rfl) ?_
                refine r_val .none rfl (p_move rfl) ?_
                refine r_val .none rfl (p_field Try.underlying44 rfl sz42 rfl) ?_
                refine r_val .none rfl (p_iaddr (k := 2) Try.underlying42 sz41 rfl rfl (by first | exact of_decide_eq_true rfl | omega)) ?_
                refine r_val .none rfl (p_field Try.underlying41 rfl sz3 rfl) ?_
                refine r_val .none rfl (p_ld (k := 3) Try.underlying3 rfl rfl rfl (by first | exact of_decide_eq_true rfl | omega) (rfl : _ = Value.int _ _)) ?_
                refine r_val .none rfl (p_field Try.underlying70 rfl sz60 rfl) ?_
                refine r_val .none rfl (p_iaddr (k := 2) Try.underlying60 sz3 rfl rfl (by first | exact of_decide_eq_true rfl | omega)) ?_
                refine r_st (k := 1) .none sz3 rfl rfl rfl rfl (by first | exact of_decide_eq_true rfl | omega) ?_
                refine r_nil ?_
                refine e_next ?_
                refine c_exit ?_
                refine e_exit_then ?_
                refine e_exit_block ?_
                refine e_next ?_
                refine c_region ?_
                refine r_val .none rfl (p_move rfl) ?_
                refine r_val .none rfl (p_add rfl rfl (by omega)) ?_
                refine r_val .none rfl (p_assign rfl) ?_
                refine r_nil ?_
                refine e_round ((3, _)) ⟨Nat.le_of_ble_eq_true rfl, Nat.le_of_ble_eq_true rfl⟩ rfl ⟨rfl, rfl, rfl, rfl, rfl, trivial⟩ (.keep (fun _ _ h => rowA_same (by show testsTo l c.h (2 + 1) = _; rw [testsTo_succ, (by first | exact T1 (by assumption) | exact T4 (by assumption) (by assumption) (dup2_no (by assumption) (by assumption)) : testF l c.h 2 = []), List.append_nil]) _ _ h) (.keep (fun _ _ h => box_congr (fun i hi => by match i, hi with | 0, _ => rfl | 1, _ => exact congrArg (Value.int .i64) (key_else (h := c.h) (f := 2) (i := 0) (by decide)).symm | 2, _ => exact congrArg (Value.int .i64) (key_else (h := c.h) (f := 2) (i := 1) (by decide)).symm | 3, _ => exact (by first | exact congrArg (Value.int .i64) (key_set (h := c.h) (f := 2) (by assumption)).symm | exact congrArg (Value.int .i64) ((show keyTo c.h 2 2 = 0 by simp [keyTo]).trans (key_not (h := c.h) (f := 2) (by assumption)).symm)) | 4, _ => rfl | 5, _ => rfl) _ _ h) (.keep (fun _ _ h => h) (.keep (fun _ _ h => h) (.nil)))))
                )
          · skip
            have hv : vF c.h 2 = true := vF_yes h_60
            first
              | (exfalso; omega)
              | (
                refine c_cond_f rfl ?_
                refine c_skip ?_
                refine e_next ?_
                refine c_seq ?_
                refine c_region ?_
                refine r_val .none rfl (p_move rfl) ?_
                refine r_val .none rfl (p_move rfl) ?_
                refine r_val .none rfl (p_field Try.underlying44 rfl sz42 rfl) ?_
                refine r_val .none rfl (p_iaddr (k := 2) Try.underlying42 sz41 rfl rfl (by first | exact of_decide_eq_true rfl | omega)) ?_
                refine r_val .none rfl (p_field Try.underlying41 rfl sz3 rfl) ?_
                refine r_val .none rfl (p_ld (k := 3) Try.underlying3 rfl rfl rfl (by first | exact of_decide_eq_true rfl | omega) (rfl : _ = Value.int _ _)) ?_
                refine r_call (vs := [_, _]) .none rfl cl55 rfl (fun w hw => c_bound _ _ _ hs2 w hw) ?_
                refine r_val .none rfl (p_move rfl) ?_
                refine r_val .none rfl (p_extract rfl rfl) ?_
                refine r_val .none rfl (p_extract rfl rfl) ?_
                refine r_alloc .none rfl zr101 (IsRow.lit _) (fun b_11 => ?_)
                refine r_stw (k := 0) .none sz101 rfl rfl (IsRow.lit _) (one_lit rfl rfl) rfl ?_
                refine r_val .none rfl (p_assign rfl) ?_
                refine r_nil ?_
                refine e_next ?_
                refine c_seq ?_
                refine c_seq ?_
                refine c_region ?_
                refine r_val .none rfl (p_move rfl) ?_
                refine r_nil ?_
                refine e_next ?_
                refine c_split (d := 74) rfl (fun h_61 => ?_) (fun h_61 => ?_)
                · skip
                  have hb : (bound (nF c.h 2) l 0).isSome = true := h_61
                  first
                    | (exfalso; omega)
                    | (
                      refine c_cond_t rfl ?_
                      refine c_seq ?_
                      refine c_region ?_
                      refine r_val .none rfl (p_field Try.underlying70 rfl sz68 rfl) ?_
                      refine r_val .none rfl (p_ld (k := 2) Try.underlying68 rfl rfl rfl (by first | exact of_decide_eq_true rfl | omega) rfl) ?_
                      refine r_val .none rfl (p_move rfl) ?_
                      refine r_val .none rfl (p_field Try.underlying101 rfl sz3 rfl) ?_
                      refine r_val .none rfl (p_ld (k := 0) Try.underlying3 rfl rfl rfl (by first | exact of_decide_eq_true rfl | omega) (rfl : _ = Value.int _ _)) ?_
                      refine r_val .none rfl (p_field Try.underlying101 rfl sz3 rfl) ?_
                      refine r_val .none rfl (p_ld (k := 0) Try.underlying3 rfl rfl rfl (by first | exact of_decide_eq_true rfl | omega) (rfl : _ = Value.int _ _)) ?_
                      refine r_val .none rfl (p_build (vs := [(0, Value.int _ _), (1, Value.int _ _), (2, Value.int _ _)]) rfl (bl96_0i1_1i1_2i1 _ _ _)) ?_
                      refine r_bslice (vs := [(0, Value.agg #[_, _, _])]) (c := #[_, _, _]) .none rfl Try.underlying68 el96 rfl rfl rfl (bs96_10a3 _ _ _) (IsRow.lit _) (fun b_12 => ?_)
                      refine r_append (k := 2) (k2 := 0) .none rfl Try.underlying68 el96 rfl (by decide) rfl rfl rfl rfl rfl (one_lit rfl rfl) (by have q0 := testsTo_len l c.h 0; have q1 := testsTo_len l c.h 1; have q2 := testsTo_len l c.h 2; simp only [maxLen]; omega) (by have q0 := testsTo_len l c.h 0; have q1 := testsTo_len l c.h 1; have q2 := testsTo_len l c.h 2; omega) (fun v_62 => ?_)
                      refine r_row1 (k := 2) rfl (fun o_63 => ?_)
                      refine r_val .none rfl (p_field Try.underlying70 rfl sz68 rfl) ?_
                      refine r_st (k := 3) .none sz68 rfl rfl o_63 rfl (by first | exact of_decide_eq_true rfl | omega) ?_
                      refine r_nil ?_
                      refine e_next ?_
                      refine c_exit ?_
                      refine e_exit_then ?_
                      refine e_exit_block ?_
                      refine e_next ?_
                      refine c_region ?_
                      refine r_val .none rfl (p_move rfl) ?_
                      refine r_val .none rfl (p_add rfl rfl (by omega)) ?_
                      refine r_val .none rfl (p_assign rfl) ?_
                      refine r_nil ?_
                      refine e_round ((3, _)) ⟨Nat.le_of_ble_eq_true rfl, Nat.le_of_ble_eq_true rfl⟩ rfl ⟨rfl, rfl, rfl, rfl, rfl, trivial⟩ (.drop (.drop (.keep (fun _ _ h => rowA_snoc (x := (((2 : Nat) : Int), ((bound (nF c.h 2) l 0).getD (0, 0)).1, ((bound (nF c.h 2) l 0).getD (0, 0)).2)) (by show testsTo l c.h (2 + 1) = _; rw [testsTo_succ, T2 (by assumption) (by assumption)]) rfl rfl rfl _ _ h) (.keep (fun _ _ h => box_congr (fun i hi => by match i, hi with | 0, _ => rfl | 1, _ => exact congrArg (Value.int .i64) (key_else (h := c.h) (f := 2) (i := 0) (by decide)).symm | 2, _ => exact congrArg (Value.int .i64) (key_else (h := c.h) (f := 2) (i := 1) (by decide)).symm | 3, _ => exact (by first | exact congrArg (Value.int .i64) (key_set (h := c.h) (f := 2) (by assumption)).symm | exact congrArg (Value.int .i64) ((show keyTo c.h 2 2 = 0 by simp [keyTo]).trans (key_not (h := c.h) (f := 2) (by assumption)).symm)) | 4, _ => rfl | 5, _ => rfl) _ _ h) (.keep (fun _ _ h => h) (.keep (fun _ _ h => h) (.nil)))))))
                      )
                · skip
                  have hb : (bound (nF c.h 2) l 0).isSome = false := h_61
                  first
                    | (exfalso; omega)
                    | (
                      refine c_cond_f rfl ?_
                      refine c_skip ?_
                      refine e_next ?_
                      refine c_seq ?_
                      refine c_region ?_
                      refine r_val .none rfl (p_assign rfl) ?_
                      refine r_nil ?_
                      refine e_next ?_
                      refine c_block ?_
                      refine c_unroll 3 ?_
                      refine l_round (n := 2) ?_
                      refine c_seq ?_
                      refine c_seq ?_
                      refine c_region ?_
                      refine r_val .none rfl (p_move rfl) ?_
                      refine r_val .none rfl (p_move rfl) ?_
                      refine r_val .none rfl (p_lt rfl rfl) ?_
                      refine r_say (d := 88) (v := Value.bool true) rfl ?_
                      refine r_nil ?_
                      refine e_next ?_
                      refine c_cond_t rfl ?_
                      refine c_skip ?_
                      refine e_next ?_
                      refine c_seq ?_
                      refine c_block ?_
                      refine c_seq ?_
                      refine c_region_q mixed (by kernel_rfl) ?_
                      refine q_val .none rfl (p_move rfl) ?_
                      refine q_val .none rfl (p_field Try.underlying44 rfl sz42 rfl) ?_
                      refine q_val .none rfl (p_iaddr (k := 0) Try.underlying42 sz41 rfl rfl (by first | exact of_decide_eq_true rfl | omega)) ?_
                      refine q_val .none rfl (p_lda (k := 4) Try.underlying41 rfl sz41 rfl rfl (by first | exact of_decide_eq_true rfl | omega) (rfl : _ = Value.agg #[_, _])) ?_
                      refine q_val .none rfl (p_move rfl) ?_
                      refine q_val .none rfl (p_field Try.underlying44 rfl sz42 rfl) ?_
                      refine q_val .none rfl (p_iaddr (k := 2) Try.underlying42 sz41 rfl rfl (by first | exact of_decide_eq_true rfl | omega)) ?_
                      refine q_val .none rfl (p_lda (k := 4) Try.underlying41 rfl sz41 rfl rfl (by first | exact of_decide_eq_true rfl | omega) (rfl : _ = Value.agg #[_, _])) ?_
                      refine q_val .none rfl (p_eqa rfl rfl (eq_flat Try.underlying41 rfl lf41 ef41 eg41 (.cons (.int Try.underlying3) (.cons (.int Try.underlying3) (.nil))) (.cons (.int Try.underlying3) (.cons (.int Try.underlying3) (.nil))))) ?_
                      refine q_nil ?_
                      refine e_next ?_
                      refine c_split (d := 99) rfl (fun h_64 => ?_) (fun h_64 => ?_)
                      · skip
                        first | have s0 : sameF c.h 0 2 = true := (same_cs c.h 0 2).symm.trans h_64 | have s1 : sameF c.h 1 2 = true := (same_cs c.h 1 2).symm.trans h_64
                        first
                          | (exfalso; omega)
                          | (
                            refine c_cond_t rfl ?_
                            refine c_seq ?_
                            refine c_region ?_
                            refine r_val .none rfl (p_field Try.underlying70 rfl sz68 rfl) ?_
                            refine r_val .none rfl (p_ld (k := 2) Try.underlying68 rfl rfl rfl (by first | exact of_decide_eq_true rfl | omega) rfl) ?_
                            refine r_val .none rfl (p_move rfl) ?_
                            refine r_val .none rfl (p_move rfl) ?_
                            refine r_val .none rfl (p_build (vs := [(0, Value.int _ _), (1, Value.int _ _), (2, Value.int _ _)]) rfl (bl96_0i1_1i1_2i1 _ _ _)) ?_
                            refine r_bslice (vs := [(0, Value.agg #[_, _, _])]) (c := #[_, _, _]) .none rfl Try.underlying68 el96 rfl rfl rfl (bs96_10a3 _ _ _) (IsRow.lit _) (fun b_13 => ?_)
                            refine r_append (k := 2) (k2 := 0) .none rfl Try.underlying68 el96 rfl (by decide) rfl rfl rfl rfl rfl (one_lit rfl rfl) (by have q0 := testsTo_len l c.h 0; have q1 := testsTo_len l c.h 1; have q2 := testsTo_len l c.h 2; simp only [maxLen]; omega) (by have q0 := testsTo_len l c.h 0; have q1 := testsTo_len l c.h 1; have q2 := testsTo_len l c.h 2; omega) (fun v_65 => ?_)
                            refine r_row1 (k := 2) rfl (fun o_66 => ?_)
                            refine r_val .none rfl (p_field Try.underlying70 rfl sz68 rfl) ?_
                            refine r_st (k := 3) .none sz68 rfl rfl o_66 rfl (by first | exact of_decide_eq_true rfl | omega) ?_
                            refine r_nil ?_
                            refine e_next ?_
                            refine c_exit ?_
                            refine e_exit_past rfl ?_
                            refine e_exit_then ?_
                            refine e_exit_then ?_
                            refine e_exit_block ?_
                            refine e_norm_block ?_
                            refine e_next ?_
                            refine c_region ?_
                            refine r_val .none rfl (p_move rfl) ?_
                            refine r_val .none rfl (p_add rfl rfl (by omega)) ?_
                            refine r_val .none rfl (p_assign rfl) ?_
                            refine r_nil ?_
                            refine e_round ((3, _)) ⟨Nat.le_of_ble_eq_true rfl, Nat.le_of_ble_eq_true rfl⟩ rfl ⟨rfl, rfl, rfl, rfl, rfl, trivial⟩ (.drop (.drop (.keep (fun _ _ h => rowA_snoc (x := (((2 : Nat) : Int), -1, 0)) (by show testsTo l c.h (2 + 1) = _; rw [testsTo_succ, T3 (by assumption) (by assumption) (dup2_0 (by assumption))]) rfl rfl rfl _ _ h) (.keep (fun _ _ h => box_congr (fun i hi => by match i, hi with | 0, _ => rfl | 1, _ => exact congrArg (Value.int .i64) (key_else (h := c.h) (f := 2) (i := 0) (by decide)).symm | 2, _ => exact congrArg (Value.int .i64) (key_else (h := c.h) (f := 2) (i := 1) (by decide)).symm | 3, _ => exact (by first | exact congrArg (Value.int .i64) (key_set (h := c.h) (f := 2) (by assumption)).symm | exact congrArg (Value.int .i64) ((show keyTo c.h 2 2 = 0 by simp [keyTo]).trans (key_not (h := c.h) (f := 2) (by assumption)).symm)) | 4, _ => rfl | 5, _ => rfl) _ _ h) (.keep (fun _ _ h => h) (.keep (fun _ _ h => h) (.nil)))))))
                            )
                      · skip
                        first | have s0 : sameF c.h 0 2 = false := (same_cs c.h 0 2).symm.trans h_64 | have s1 : sameF c.h 1 2 = false := (same_cs c.h 1 2).symm.trans h_64
                        first
                          | (exfalso; omega)
                          | (
                            refine c_cond_f rfl ?_
                            refine c_skip ?_
                            refine e_norm_block ?_
                            refine e_next ?_
                            refine c_region ?_
                            refine r_val .none rfl (p_move rfl) ?_
                            refine r_val .none rfl (p_add rfl rfl (by omega)) ?_
                            refine r_val .none rfl (p_assign rfl) ?_
                            refine r_nil ?_
                            refine e_again ?_
                            refine l_round (n := 1) ?_
                            refine c_seq ?_
                            refine c_seq ?_
                            refine c_region ?_
                            refine r_val .none rfl (p_move rfl) ?_
                            refine r_val .none rfl (p_move rfl) ?_
                            refine r_val .none rfl (p_lt rfl rfl) ?_
                            refine r_say (d := 88) (v := Value.bool true) rfl ?_
                            refine r_nil ?_
                            refine e_next ?_
                            refine c_cond_t rfl ?_
                            refine c_skip ?_
                            refine e_next ?_
                            refine c_seq ?_
                            refine c_block ?_
                            refine c_seq ?_
                            refine c_region_q mixed (by kernel_rfl) ?_
                            refine q_val .none rfl (p_move rfl) ?_
                            refine q_val .none rfl (p_field Try.underlying44 rfl sz42 rfl) ?_
                            refine q_val .none rfl (p_iaddr (k := 1) Try.underlying42 sz41 rfl rfl (by first | exact of_decide_eq_true rfl | omega)) ?_
                            refine q_val .none rfl (p_lda (k := 4) Try.underlying41 rfl sz41 rfl rfl (by first | exact of_decide_eq_true rfl | omega) (rfl : _ = Value.agg #[_, _])) ?_
                            refine q_val .none rfl (p_move rfl) ?_
                            refine q_val .none rfl (p_field Try.underlying44 rfl sz42 rfl) ?_
                            refine q_val .none rfl (p_iaddr (k := 2) Try.underlying42 sz41 rfl rfl (by first | exact of_decide_eq_true rfl | omega)) ?_
                            refine q_val .none rfl (p_lda (k := 4) Try.underlying41 rfl sz41 rfl rfl (by first | exact of_decide_eq_true rfl | omega) (rfl : _ = Value.agg #[_, _])) ?_
                            refine q_val .none rfl (p_eqa rfl rfl (eq_flat Try.underlying41 rfl lf41 ef41 eg41 (.cons (.int Try.underlying3) (.cons (.int Try.underlying3) (.nil))) (.cons (.int Try.underlying3) (.cons (.int Try.underlying3) (.nil))))) ?_
                            refine q_nil ?_
                            refine e_next ?_
                            refine c_split (d := 99) rfl (fun h_67 => ?_) (fun h_67 => ?_)
                            · skip
                              first | have s0 : sameF c.h 0 2 = true := (same_cs c.h 0 2).symm.trans h_67 | have s1 : sameF c.h 1 2 = true := (same_cs c.h 1 2).symm.trans h_67
                              first
                                | (exfalso; omega)
                                | (
                                  refine c_cond_t rfl ?_
                                  refine c_seq ?_
                                  refine c_region ?_
                                  refine r_val .none rfl (p_field Try.underlying70 rfl sz68 rfl) ?_
                                  refine r_val .none rfl (p_ld (k := 2) Try.underlying68 rfl rfl rfl (by first | exact of_decide_eq_true rfl | omega) rfl) ?_
                                  refine r_val .none rfl (p_move rfl) ?_
                                  refine r_val .none rfl (p_move rfl) ?_
                                  refine r_val .none rfl (p_build (vs := [(0, Value.int _ _), (1, Value.int _ _), (2, Value.int _ _)]) rfl (bl96_0i1_1i1_2i1 _ _ _)) ?_
                                  refine r_bslice (vs := [(0, Value.agg #[_, _, _])]) (c := #[_, _, _]) .none rfl Try.underlying68 el96 rfl rfl rfl (bs96_10a3 _ _ _) (IsRow.lit _) (fun b_14 => ?_)
                                  refine r_append (k := 2) (k2 := 0) .none rfl Try.underlying68 el96 rfl (by decide) rfl rfl rfl rfl rfl (one_lit rfl rfl) (by have q0 := testsTo_len l c.h 0; have q1 := testsTo_len l c.h 1; have q2 := testsTo_len l c.h 2; simp only [maxLen]; omega) (by have q0 := testsTo_len l c.h 0; have q1 := testsTo_len l c.h 1; have q2 := testsTo_len l c.h 2; omega) (fun v_68 => ?_)
                                  refine r_row1 (k := 2) rfl (fun o_69 => ?_)
                                  refine r_val .none rfl (p_field Try.underlying70 rfl sz68 rfl) ?_
                                  refine r_st (k := 3) .none sz68 rfl rfl o_69 rfl (by first | exact of_decide_eq_true rfl | omega) ?_
                                  refine r_nil ?_
                                  refine e_next ?_
                                  refine c_exit ?_
                                  refine e_exit_past rfl ?_
                                  refine e_exit_then ?_
                                  refine e_exit_then ?_
                                  refine e_exit_block ?_
                                  refine e_norm_block ?_
                                  refine e_next ?_
                                  refine c_region ?_
                                  refine r_val .none rfl (p_move rfl) ?_
                                  refine r_val .none rfl (p_add rfl rfl (by omega)) ?_
                                  refine r_val .none rfl (p_assign rfl) ?_
                                  refine r_nil ?_
                                  refine e_round ((3, _)) ⟨Nat.le_of_ble_eq_true rfl, Nat.le_of_ble_eq_true rfl⟩ rfl ⟨rfl, rfl, rfl, rfl, rfl, trivial⟩ (.drop (.drop (.keep (fun _ _ h => rowA_snoc (x := (((2 : Nat) : Int), -1, 1)) (by show testsTo l c.h (2 + 1) = _; rw [testsTo_succ, T3 (by assumption) (by assumption) (dup2_1 (by assumption) (by assumption))]) rfl rfl rfl _ _ h) (.keep (fun _ _ h => box_congr (fun i hi => by match i, hi with | 0, _ => rfl | 1, _ => exact congrArg (Value.int .i64) (key_else (h := c.h) (f := 2) (i := 0) (by decide)).symm | 2, _ => exact congrArg (Value.int .i64) (key_else (h := c.h) (f := 2) (i := 1) (by decide)).symm | 3, _ => exact (by first | exact congrArg (Value.int .i64) (key_set (h := c.h) (f := 2) (by assumption)).symm | exact congrArg (Value.int .i64) ((show keyTo c.h 2 2 = 0 by simp [keyTo]).trans (key_not (h := c.h) (f := 2) (by assumption)).symm)) | 4, _ => rfl | 5, _ => rfl) _ _ h) (.keep (fun _ _ h => h) (.keep (fun _ _ h => h) (.nil)))))))
                                  )
                            · skip
                              first | have s0 : sameF c.h 0 2 = false := (same_cs c.h 0 2).symm.trans h_67 | have s1 : sameF c.h 1 2 = false := (same_cs c.h 1 2).symm.trans h_67
                              first
                                | (exfalso; omega)
                                | (
                                  refine c_cond_f rfl ?_
                                  refine c_skip ?_
                                  refine e_norm_block ?_
                                  refine e_next ?_
                                  refine c_region ?_
                                  refine r_val .none rfl (p_move rfl) ?_
                                  refine r_val .none rfl (p_add rfl rfl (by omega)) ?_
                                  refine r_val .none rfl (p_assign rfl) ?_
                                  refine r_nil ?_
                                  refine e_again ?_
                                  refine l_round (n := 0) ?_
                                  refine c_seq ?_
                                  refine c_seq ?_
                                  refine c_region ?_
                                  refine r_val .none rfl (p_move rfl) ?_
                                  refine r_val .none rfl (p_move rfl) ?_
                                  refine r_val .none rfl (p_lt rfl rfl) ?_
                                  refine r_say (d := 88) (v := Value.bool false) rfl ?_
                                  refine r_nil ?_
                                  refine e_next ?_
                                  refine c_cond_f rfl ?_
                                  refine c_exit ?_
                                  refine e_exit_then ?_
                                  refine e_exit_then ?_
                                  refine e_exit_block ?_
                                  refine e_norm_block ?_
                                  refine e_next ?_
                                  refine c_region ?_
                                  refine r_val .none rfl (p_move rfl) ?_
                                  refine r_val .none rfl (p_add rfl rfl (by omega)) ?_
                                  refine r_val .none rfl (p_assign rfl) ?_
                                  refine r_nil ?_
                                  refine e_round ((3, _)) ⟨Nat.le_of_ble_eq_true rfl, Nat.le_of_ble_eq_true rfl⟩ rfl ⟨rfl, rfl, rfl, rfl, rfl, trivial⟩ (.drop (.keep (fun _ _ h => rowA_same (by show testsTo l c.h (2 + 1) = _; rw [testsTo_succ, (by first | exact T1 (by assumption) | exact T4 (by assumption) (by assumption) (dup2_no (by assumption) (by assumption)) : testF l c.h 2 = []), List.append_nil]) _ _ h) (.keep (fun _ _ h => box_congr (fun i hi => by match i, hi with | 0, _ => rfl | 1, _ => exact congrArg (Value.int .i64) (key_else (h := c.h) (f := 2) (i := 0) (by decide)).symm | 2, _ => exact congrArg (Value.int .i64) (key_else (h := c.h) (f := 2) (i := 1) (by decide)).symm | 3, _ => exact (by first | exact congrArg (Value.int .i64) (key_set (h := c.h) (f := 2) (by assumption)).symm | exact congrArg (Value.int .i64) ((show keyTo c.h 2 2 = 0 by simp [keyTo]).trans (key_not (h := c.h) (f := 2) (by assumption)).symm)) | 4, _ => rfl | 5, _ => rfl) _ _ h) (.keep (fun _ _ h => h) (.keep (fun _ _ h => h) (.nil))))))
                                  )
                            )
                      )
                )
        · skip
          refine c_seq ?_
          refine c_seq ?_
          refine c_region ?_
          refine r_val .none rfl (p_move rfl) ?_
          refine r_val .none rfl (p_lt rfl rfl) ?_
          refine r_say (d := 47) (v := Value.bool false) rfl ?_
          refine r_nil ?_
          refine e_next ?_
          refine c_cond_f rfl ?_
          refine c_exit ?_
          refine e_exit_then ?_
          refine e_exit_then ?_
          refine e_exit_block ?_
          refine e_next ?_
          refine c_seq ?_
          refine c_region ?_
          refine r_val .none rfl (p_ldw (k := 1) Try.underlying70 rfl sz70 rfl rfl (rfl : _ = Value.agg #[_, _, _, _, _, _])) ?_
          refine r_stw (k := 2) .none sz70 rfl rfl (IsRow.lit _) (one_lit rfl (all_cons rfl (all_cons rfl (all_cons rfl (all_cons rfl (all_cons ov (all_cons rfl rfl))))))) rfl ?_
          refine r_nil ?_
          refine e_next ?_
          refine c_ret ?_
          refine e_freeze (k := 0) rfl (fun G_70 hn_71 hs_72 => ?_)
          replace hrc := hrc.mono hn_71.le
          replace hp := fun p hm0 => (hp p hm0).mono hn_71.le
          replace hr := hr.mono hn_71.le
          replace hpc := fun p hm0 => (hpc p hm0).mono hn_71.le
          replace hs2 := hs2.mono hn_71.le
          refine e_ret1 Try.results34 (.cell (k := 1) rfl Try.underlying70 rfl sz70 rfl (rfl : _ = Value.agg #[_, _, _, _, _, _]) .nil) (fun w hm => ⟨_, hn_71, hm.has, ?_, hm.since⟩)
          rw [stepOf_other (by omega)]
          exact ⟨_, _, rfl, SlL.of t0 (fun _ => rfl) rfl hs_72, Ss.nil⟩
        )
theorem c_of_n : ∀ n, OfIs n
  | 0 => fun c sv va l G w hz hch hs hs2 hG => absurd hz (by have := size_subs c; omega)
  | n + 1 => fun c sv va l G w hz hch hs hs2 hG => c_of_s n (c_of_n n) c sv va l hz hch hs hs2 w hG
theorem c_of (c : CT) (sv va : Value) (l : List CT) {G : Ghost} (hch : l.length + size c ≤ 1000) (hs : Rs G sv c.subs) (hs2 : Rs G va l) (w : World) (hG : Has G w) : Calls Try.prog 34 #[va, Value.agg #[Value.int .i64 c.h.k, Value.int .i64 (vi c.h.v0), Value.int .i64 c.h.n0, Value.int .i64 (vi c.h.v1), Value.int .i64 c.h.n1, Value.int .i64 (vi c.h.v2), Value.int .i64 c.h.n2, sv]] w (Ret fun r w' => ∃ G', GNew w nX G G' ∧ Has G' w' ∧ (∃ tv uv, r = Value.agg #[Value.int .i64 (stepOf l c).h.k, Value.int .i64 (stepOf l c).h.k0, Value.int .i64 (stepOf l c).h.k1, Value.int .i64 (stepOf l c).h.k2, tv, uv] ∧ SlL G' tv 3 tC t0 (stepOf l c).h.ts ∧ Ss G' uv (stepOf l c).subs) ∧ Since nX w w') := c_of_n _ c sv va l G w (Nat.le_refl _) hch hs hs2 hG
end Go.Proofs.Ytoflaphnlfggkaa
