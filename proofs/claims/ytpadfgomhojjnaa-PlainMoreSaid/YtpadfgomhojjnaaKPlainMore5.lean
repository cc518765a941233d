/- Texts of this work, laid together: a logic of steps, plain laws, and walks of Go functions, each without a condition but those that its theorems name. -/
import Derived.Test.YtpadfgomhojjnaaKPlainMore4
import Derived.Test.YtpadfgomhojjnaaRows
/- Walks: what Go functions of this chapter come to, each as a function on plain data; no condition but those that each theorem names. Printed by a program of this work (gen.py). -/
namespace Go.Proofs.Ytpadfgomhojjnaa
open Go.Gx Go.Gx.T3 Go.Gx.T4 Go.Gx.T3 Go.Gx.T8 Go.Gx.T4 Go.Gx.T3
theorem sz83 : SzIs Try.prog 83 1 := by
  unfold SzIs
  kernel_rfl
theorem sz105 : SzIs Try.prog 105 3 := by
  unfold SzIs
  kernel_rfl
theorem sz114 : SzIs Try.prog 114 1 := by
  unfold SzIs
  kernel_rfl
theorem sz116 : SzIs Try.prog 116 6 := by
  unfold SzIs
  kernel_rfl
theorem zr116 : ZeroIs Try.prog 116 (Value.agg #[Value.int .i64 0, Value.int .i64 0, Value.int .i64 0, Value.int .i64 0, Value.slice none 0 0, Value.slice none 0 0]) := by
  unfold ZeroIs
  kernel_rfl
theorem lf99 : leafT Try.prog 9 99 = some [3, 3] := by
  kernel_rfl
theorem ef99 : eqT Try.prog 9 99 = true := by
  kernel_rfl
theorem eg99 : Try.prog.eqGuardType Try.prog.depth 99 = false := by
  kernel_rfl
theorem cl57 : Callable Try.prog 57 := callable Try.func57 (by kernel_rfl) rfl
theorem cl74 : Callable Try.prog 74 := callable Try.func74 (by kernel_rfl) rfl
theorem bl116_0i1 (x0 : Int) : Program.built Try.prog 116 [(0, Value.int .i64 x0)] = some #[Value.int .i64 x0, Value.int .i64 0, Value.int .i64 0, Value.int .i64 0, Value.slice none 0 0, Value.slice none 0 0] := by
  kernel_rfl
theorem bl140_0i1_1i1_2i1 (x0 : Int) (x1 : Int) (x2 : Int) : Program.built Try.prog 140 [(0, Value.int .i64 x0), (1, Value.int .i64 x1), (2, Value.int .i64 x2)] = some #[Value.int .i64 x0, Value.int .i64 x1, Value.int .i64 x2] := by
  kernel_rfl
theorem bs116_10a6 (a0 a1 a2 a3 a4 a5 : Value) : Instr.fill (fun i => some (i * 6, 6)) ((Array.range (1 * 6)).map ((Value.agg #[Value.int .i64 0, Value.int .i64 0, Value.int .i64 0, Value.int .i64 0, Value.slice none 0 0, Value.slice none 0 0]).cells[· % (Value.agg #[Value.int .i64 0, Value.int .i64 0, Value.int .i64 0, Value.int .i64 0, Value.slice none 0 0, Value.slice none 0 0]).cells.size]!)) [(0, Value.agg #[a0, a1, a2, a3, a4, a5])] = some #[a0, a1, a2, a3, a4, a5] := by
  kernel_rfl
theorem bs140_10a3 (a0 a1 a2 : Value) : Instr.fill (fun i => some (i * 3, 3)) ((Array.range (1 * 3)).map ((Value.agg #[Value.int .i64 0, Value.int .i64 0, Value.int .i64 0]).cells[· % (Value.agg #[Value.int .i64 0, Value.int .i64 0, Value.int .i64 0]).cells.size]!)) [(0, Value.agg #[a0, a1, a2])] = some #[a0, a1, a2] := by
  kernel_rfl
theorem el116 : ElemIs Try.prog 116 6 80 (Value.agg #[Value.int .i64 0, Value.int .i64 0, Value.int .i64 0, Value.int .i64 0, Value.slice none 0 0, Value.slice none 0 0]) := by
  unfold ElemIs
  kernel_rfl
theorem el140 : ElemIs Try.prog 140 3 24 (Value.agg #[Value.int .i64 0, Value.int .i64 0, Value.int .i64 0]) := by
  unfold ElemIs
  kernel_rfl
def OfIs (n : Nat) : Prop := ∀ (c : CT) (sv va : Value) (l : List CT) (G : Ghost) (w : World), SizeOf.sizeOf c ≤ n → l.length + size c ≤ 1000 → Rs G sv c.subs → Rs G va l → Has G w → Calls Try.prog 57 #[va, Value.agg #[Value.int .i64 c.h.k, Value.int .i64 (vi c.h.v0), Value.int .i64 c.h.n0, Value.int .i64 (vi c.h.v1), Value.int .i64 c.h.n1, Value.int .i64 (vi c.h.v2), Value.int .i64 c.h.n2, sv]] w (Ret fun r w' => ∃ G', GNew w nX G G' ∧ Has G' w' ∧ (∃ tv uv, r = Value.agg #[Value.int .i64 (stepOf l c).h.k, Value.int .i64 (stepOf l c).h.k0, Value.int .i64 (stepOf l c).h.k1, Value.int .i64 (stepOf l c).h.k2, tv, uv] ∧ SlL G' tv 3 tC t0 (stepOf l c).h.ts ∧ Ss G' uv (stepOf l c).subs) ∧ Since nX w w')
theorem c_of_s (n : Nat) (ih : OfIs n) (c : CT) (sv : Value) (va : Value) (l : List CT) {G : Ghost} (hz : SizeOf.sizeOf c ≤ n + 1) (hch : l.length + size c ≤ 1000) (hs : Rs G sv c.subs) (hs2 : Rs G va l) (w : World) (hG : Has G w) :
    Calls Try.prog 57 #[va, Value.agg #[Value.int .i64 c.h.k, Value.int .i64 (vi c.h.v0), Value.int .i64 c.h.n0, Value.int .i64 (vi c.h.v1), Value.int .i64 c.h.n1, Value.int .i64 (vi c.h.v2), Value.int .i64 c.h.n2, sv]] w (Ret fun r w' => ∃ G', GNew w nX G G' ∧ Has G' w' ∧ (∃ tv uv, r = Value.agg #[Value.int .i64 (stepOf l c).h.k, Value.int .i64 (stepOf l c).h.k0, Value.int .i64 (stepOf l c).h.k1, Value.int .i64 (stepOf l c).h.k2, tv, uv] ∧ SlL G' tv 3 tC t0 (stepOf l c).h.ts ∧ Ss G' uv (stepOf l c).subs) ∧ Since nX w w') := by
  refine enter (args := [_, _]) (X := nX) (G := G) (l := [(0, va), (1, Value.agg #[Value.int .i64 c.h.k, Value.int .i64 (vi c.h.v0), Value.int .i64 c.h.n0, Value.int .i64 (vi c.h.v1), Value.int .i64 c.h.n1, Value.int .i64 (vi c.h.v2), Value.int .i64 c.h.n2, sv])]) Try.func57 rfl Try.ntmps57 hG ⟨rfl, rfl, trivial⟩ (Nat.le_of_ble_eq_true rfl) ?_
  obtain ⟨rs, hr, hp, hl⟩ := hs.inv
  have hlen : c.subs.length = rs.length := by rw [hl]; simp
  have hbd := hr.bound
  have hrl := size_len hl (Nat.le_refl (size c))
  obtain ⟨rc, hrc, hpc, hlc⟩ := hs2.inv
  have hcl : l.length = rc.length := by rw [hlc]; simp
  refine c_seq ?_
  refine c_region ?_
  refine r_box .none rfl rfl (IsRow.lit _) (fun b_1 => ?_)
  refine r_alloc .none rfl zr116 (IsRow.lit _) (fun b_2 => ?_)
  refine r_nil ?_
  refine e_next ?_
  refine c_seq ?_
  refine c_region ?_
  refine r_val .none rfl (p_field Try.underlying102 rfl sz3 rfl) ?_
  refine r_val .none rfl (p_ld (k := 1) Try.underlying3 rfl rfl rfl (by first | exact of_decide_eq_true rfl | omega) (rfl : _ = Value.int _ _)) ?_
  refine r_val .none rfl (p_build (vs := [(0, Value.int _ _)]) rfl (bl116_0i1 _)) ?_
  refine r_alloc .none rfl zr116 (IsRow.lit _) (fun b_3 => ?_)
  refine r_stw (k := 0) .none sz116 rfl rfl (IsRow.lit _) (one_lit rfl rfl) rfl ?_
  refine r_nil ?_
  refine e_next ?_
  refine c_seq ?_
  refine c_seq ?_
  refine c_region ?_
  refine r_val .none rfl (p_field Try.underlying102 rfl sz3 rfl) ?_
  refine r_val .none rfl (p_ld (k := 2) Try.underlying3 rfl rfl rfl (by first | exact of_decide_eq_true rfl | omega) (rfl : _ = Value.int _ _)) ?_
  refine r_val .none rfl (p_eq rfl rfl) ?_
  refine r_nil ?_
  refine e_next ?_
  refine c_splitd (d := 18) rfl (fun h_1 => ?_) (fun h_1 => ?_)
  · skip
    first
      | (exfalso; omega)
      | (
        refine c_cond_t rfl ?_
        refine c_seq ?_
        refine c_seq ?_
        refine c_region ?_
        refine r_val .none rfl (p_field Try.underlying102 rfl sz75 rfl) ?_
        refine r_val .none rfl (p_ld (k := 2) Try.underlying75 rfl rfl rfl (by first | exact of_decide_eq_true rfl | omega) rfl) ?_
        refine r_val .none rfl (p_leng Try.underlying75 rfl hr) ?_
        have bd_2 := (hr).bound
        refine r_val .none rfl (p_move rfl) ?_
        refine r_nil ?_
        refine e_next ?_
        refine c_block ?_
        refine c_nilrow 116 6 ?_
        refine c_name (d := 0) rfl (fun u_3 hu_3 => ?_)
        refine c_name (d := 3) rfl (fun u_4 hu_4 => ?_)
        refine c_name (d := 4) rfl (fun u_5 hu_5 => ?_)
        refine c_name (d := 5) rfl (fun u_6 hu_6 => ?_)
        refine c_name (d := 20) rfl (fun u_7 hu_7 => ?_)
        refine c_name (d := 21) rfl (fun u_8 hu_8 => ?_)
        refine c_nameL (k := 2) rfl (fun A_9 hA_9 => ?_)
        refine c_nameL (k := 3) rfl (fun A_10 hA_10 => ?_)
        refine c_loop (σ := Nat × Value × List SVal × Ghost) (fun s => [(22, Value.int .i64 (s.1 : Nat)), (0, u_3), (3, u_4), (4, u_5), (5, u_6), (20, u_7), (21, u_8)]) (fun s => [rowA (s.2.1) 116 6 (s.2.2.1).length ((s.2.2.1).flatMap sC), box b_3 6 116 (at_ [.int .i64 c.h.k, .int .i64 0, .int .i64 0, .int .i64 0, .slice none 0 0, s.2.1]), A_9, A_10]) (fun s => s.2.2.2) (fun s => s.1 ≤ rs.length ∧ s.2.2.1.map Prod.fst = stepsOf l ((rs.map Prod.fst).take s.1) ∧ (∀ p ∈ s.2.2.1, SlL s.2.2.2 p.2.1 3 tC t0 p.1.h.ts) ∧ (∀ p ∈ s.2.2.1, Ss s.2.2.2 p.2.2 p.1.subs) ∧ GNew w nX G s.2.2.2) (fun s => rs.length - s.1) ((0, _, [], _)) ⟨Nat.zero_le _, rfl, by simp, by simp, GNew.refl _ _ _⟩ rfl ⟨rfl, rfl, rfl, rfl, rfl, rfl, rfl, trivial⟩ (.keep (fun _ _ h => rowA_nil rfl _ _ h) (.keep (fun _ _ h => box_congr (fun i hi => by match i, hi with | 0, _ => rfl | 1, _ => rfl | 2, _ => rfl | 3, _ => rfl | 4, _ => rfl | 5, _ => rfl) _ _ h) (.keep (fun _ _ h => h) (.keep (fun _ _ h => h) (.nil))))) (fun s hphi => ?_)
        subst hu_3
        subst hu_4
        subst hu_5
        subst hu_6
        subst hu_7
        subst hu_8
        subst hA_9
        subst hA_10
        obtain ⟨k, v, qs, H⟩ := s
        obtain ⟨hk, hq, hqt, hqs, hgn⟩ := hphi
        dsimp only at hk hq hqt hqs hgn ⊢
        have hql : qs.length ≤ k := (by have := congrArg List.length hq; rw [stepsOf_len] at this; simp at this; omega)
        refine c_row1 (k := 0) rfl (fun ov => ?_)
        refine c_rowlen (k := 0) rfl (fun l63 => ?_)
        replace hrc := hrc.mono hgn.le
        replace hp := fun p hm0 => (hp p hm0).mono hgn.le
        replace hr := hr.mono hgn.le
        replace hpc := fun p hm0 => (hpc p hm0).mono hgn.le
        replace hs2 := hs2.mono hgn.le
        refine c_seq ?_
        refine c_region ?_
        refine r_val .none rfl (p_lt rfl rfl) ?_
        refine r_nil ?_
        refine e_next ?_
        refine c_seq ?_
        refine c_splitd (d := 23) rfl (fun h_11 => ?_) (fun h_11 => ?_)
        · skip
          first
            | (exfalso; omega)
            | (
              refine c_cond_t rfl ?_
              refine c_skip ?_
              refine e_next ?_
              refine c_seq ?_
              refine c_block ?_
              refine c_seq ?_
              refine c_region ?_
              refine r_val .none rfl (p_move rfl) ?_
              refine r_iaddr_g .none rfl Try.underlying75 sz102 rfl hr rfl (by first | exact of_decide_eq_true rfl | omega) (fun p_13 o_14 R_12 => ?_)
              have hc_15 := hp _ (getD_mem (i := k) (d := d0) (by omega))
              have hz5 : (l ++ ((rs.map Prod.fst).take k)).length + size (rs.getD k d0).1 ≤ 1000 := by have h1 := sizeL_take (rs := rs) (k := k) (by omega); have h2 := sizeL_take_le (rs.map Prod.fst) (k + 1); have h3 := sizeL_len ((rs.map Prod.fst).take k); have h4 := size_eq c; rw [hl] at h4; rw [List.length_take, List.length_map] at h3; rw [List.length_append, List.length_take, List.length_map]; omega
              refine r_val .none rfl (p_ldga0 Try.underlying102 rfl sz102 rfl R_12 (by first | exact of_decide_eq_true rfl | omega) (rfl : _ = Value.agg #[_, _, _, _, _, _, _, _])) ?_
              refine r_alloc .none rfl zr102 (IsRow.lit _) (fun b_4 => ?_)
              refine r_val .none rfl (p_assign rfl) ?_
              refine r_stw (k := 0) .none sz102 rfl rfl (IsRow.lit _) (one_lit rfl (all_cons rfl (all_cons rfl (all_cons rfl (all_cons rfl (all_cons rfl (all_cons rfl (all_cons rfl (all_cons (hc_15).one rfl))))))))) rfl ?_
              refine r_nil ?_
              refine e_next ?_
              refine c_seq ?_
              refine c_region ?_
              refine r_val .none rfl (p_assign rfl) ?_
              refine r_nil ?_
              refine e_next ?_
              refine c_seq ?_
              refine c_region ?_
              refine r_val .none rfl (p_move rfl) ?_
              refine r_val .none rfl (p_move rfl) ?_
              refine r_nilrow 102 8 ?_
              refine r_append_g (k := 0) .none rfl Try.underlying75 el102 rfl (by decide) rfl rfl rfl hrc (rv_ones hpc) (by simp only [maxLen]; omega) (by omega) (fun v_16 => ?_)
              refine r_row1 (k := 0) rfl (fun o_17 => ?_)
              refine r_val .none rfl (p_assign rfl) ?_
              refine r_nil ?_
              refine e_next ?_
              refine c_seq ?_
              refine c_region ?_
              refine r_val .none rfl (p_move rfl) ?_
              refine r_val .none rfl (p_field Try.underlying102 rfl sz75 rfl) ?_
              refine r_val .none rfl (p_ld (k := 5) Try.underlying75 rfl rfl rfl (by first | exact of_decide_eq_true rfl | omega) rfl) ?_
              refine r_val .none rfl (p_move rfl) ?_
              refine r_slice0 (k) .none rfl Try.underlying75 sz102 rfl hr rfl (by first | exact of_decide_eq_true rfl | omega) (fun v_18 hs_19 => ?_)
              have hpt_21 := (Tr.take (by omega) hs_19 hp).1
              refine r_append_g (k := 0) .none rfl Try.underlying75 el102 rfl (by decide) rfl rfl rfl hpt_21 (rv_ones (fun p hm0 => hp p (List.mem_of_mem_take hm0))) (by rw [List.length_take]; simp only [maxLen]; omega) (by rw [List.length_take]; omega) (fun v_22 => ?_)
              refine r_row1 (k := 0) rfl (fun o_23 => ?_)
              refine r_freeze (k := 0) rfl (fun G_24 hn_25 hs_26 => ?_)
              replace hrc := hrc.mono hn_25.le
              replace hp := fun p hm0 => (hp p hm0).mono hn_25.le
              replace hr := hr.mono hn_25.le
              replace hpc := fun p hm0 => (hpc p hm0).mono hn_25.le
              replace hs2 := hs2.mono hn_25.le
              replace hqt := fun p hm0 => (hqt p hm0).mono hn_25.le
              replace hqs := fun p hm0 => (hqs p hm0).mono hn_25.le
              replace R_12 := R_12.mono hn_25.le
              replace hc_15 := hc_15.mono hn_25.le
              replace hs_19 := hs_19.mono hn_25.le
              replace hpt_21 := hpt_21.mono hn_25.le
              have hf_27 : SlL G_24 v_22 8 rvC d0 (rc ++ rs.take k) := SlL.of2 d0 (fun _ => rfl) (by simp) (by rw [List.nil_append, flat_all (cells := rvC) (fun _ => rfl), flat_all (cells := rvC) (fun _ => rfl), List.flatMap_append]) hs_26
              have hT_28 : Rs G_24 v_22 (l ++ ((rs.map Prod.fst).take k)) := by rw [hlc, ← List.map_take, ← List.map_append]; exact Tr.mk _ hf_27 (fun p hm0 => by rcases List.mem_append.1 hm0 with h | h; exact hpc p h; exact hp p (List.mem_of_mem_take h))
              refine r_val .none rfl (p_assign rfl) ?_
              refine r_nil ?_
              refine e_next ?_
              refine c_region_d (fun j => [6, 7, 8].contains j) _ mixed (.keep (fun _ _ h => h) (.keep (fun _ _ h => h) (.keep (fun _ _ h => h) (.keep (fun _ _ h => h) (.keep (fun _ _ h => h) (.nil)))))) ?_
              refine d_val1 0 rfl rfl (by kernel_rfl) (fun j hj => by have h : 8 < j := (Nat.lt_of_lt_of_le (by decide : 8 < 9) hj); simp; omega) .none rfl (p_field Try.underlying116 rfl sz83 rfl) ?_
              refine d_val1 1 rfl rfl (by kernel_rfl) (fun j hj => by have h : 8 < j := (Nat.lt_of_lt_of_le (by decide : 8 < 9) hj); simp; omega) .none rfl (p_ld (k := 2) Try.underlying83 rfl rfl rfl (by first | exact of_decide_eq_true rfl | omega) rfl) ?_
              refine d_val1 2 rfl rfl (by kernel_rfl) (fun j hj => by have h : 8 < j := (Nat.lt_of_lt_of_le (by decide : 8 < 9) hj); simp; omega) .none rfl (p_move rfl) ?_
              refine d_val1 3 rfl rfl (by kernel_rfl) (fun j hj => by have h : 8 < j := (Nat.lt_of_lt_of_le (by decide : 8 < 9) hj); simp; omega) .none rfl (p_ldw (k := 0) Try.underlying102 rfl sz102 rfl rfl (rfl : _ = Value.agg #[_, _, _, _, _, _, _, _])) ?_
              refine d_eff 4 rfl (by kernel_rfl) (fun K_29 hKK_29 hcK_29 => ?_)
              refine r_callm (vs := [_, _]) .none rfl cl57 rfl (fun w hw => ih (rs.getD k d0).1 _ _ _ _ w (size_at hl (by omega) hz) hz5 hc_15 hT_28 hw) (fun G_30 v_33 hn_31 hr_32 => ?_)
              replace hrc := hrc.mono hn_31.le
              replace hp := fun p hm0 => (hp p hm0).mono hn_31.le
              replace hr := hr.mono hn_31.le
              replace hpc := fun p hm0 => (hpc p hm0).mono hn_31.le
              replace hs2 := hs2.mono hn_31.le
              replace hqt := fun p hm0 => (hqt p hm0).mono hn_31.le
              replace hqs := fun p hm0 => (hqs p hm0).mono hn_31.le
              replace R_12 := R_12.mono hn_31.le
              replace hc_15 := hc_15.mono hn_31.le
              replace hs_19 := hs_19.mono hn_31.le
              replace hpt_21 := hpt_21.mono hn_31.le
              replace hT_28 := hT_28.mono hn_31.le
              obtain ⟨u_34a, u_34b, rfl, u_34s, u_34t⟩ := hr_32
              refine r_nil (e_d (i := 4) (brk := (fun j => [6, 7, 8].contains j)) (ph' := true) hKK_29 hcK_29 rfl (fun _ => hn_31.le) (fun _ => .keep (fun _ _ h => h) (.keep (fun _ _ h => h) (.keep (fun _ _ h => h) (.keep (fun _ _ h => h) (.keep (fun _ _ h => h) (.nil)))))) ?_)
              clear hKK_29 hcK_29 K_29
              refine d_eff 5 rfl (by kernel_rfl) (fun K_35 hKK_35 hcK_35 => ?_)
              refine r_bslice (vs := [(0, Value.agg #[_, _, _, _, _, _])]) (c := #[_, _, _, _, _, _]) .none rfl Try.underlying83 el116 rfl rfl rfl (bs116_10a6 _ _ _ _ _ _) (IsRow.lit _) (fun b_5 => ?_)
              refine r_nil (e_d (i := 5) (brk := (fun j => [6, 7, 8].contains j)) (ph' := true) hKK_35 hcK_35 rfl (fun _ => hn_31.le) (fun _ => .drop (.keep (fun _ _ h => h) (.keep (fun _ _ h => h) (.keep (fun _ _ h => h) (.keep (fun _ _ h => h) (.keep (fun _ _ h => h) (.nil))))))) ?_)
              clear hKK_35 hcK_35 K_35
              refine d_eff 6 rfl (by kernel_rfl) (fun K_36 hKK_36 hcK_36 => ?_)
              refine r_append (k := 2) (k2 := 0) .none rfl Try.underlying83 el116 rfl (by decide) rfl rfl rfl rfl rfl (one_lit rfl (all_cons rfl (all_cons rfl (all_cons rfl (all_cons rfl (all_cons (u_34s).one (all_cons (u_34t).one rfl))))))) (by simp only [maxLen]; omega) (by omega) (fun v_37 => ?_)
              refine r_row1 (k := 2) rfl (fun o_38 => ?_)
              refine r_nil (e_d (i := 6) (brk := (fun j => [6, 7, 8].contains j)) (ph' := false) hKK_36 hcK_36 rfl (fun h => by cases h) (fun h => by cases h) ?_)
              clear hKK_36 hcK_36 K_36
              refine d_val2 7 rfl rfl (by kernel_rfl) .none rfl (fun _ => p_field Try.underlying116 rfl sz83 rfl) ?_
              refine d_eff 8 rfl (by kernel_rfl) (fun K_39 hKK_39 hcK_39 => ?_)
              refine r_st (k := 3) .none sz83 rfl rfl o_38 rfl (by first | exact of_decide_eq_true rfl | omega) ?_
              refine r_nil (e_d (i := 8) (brk := (fun j => [6, 7, 8].contains j)) (ph' := false) hKK_39 hcK_39 rfl (fun h => by cases h) (fun h => by cases h) ?_)
              clear hKK_39 hcK_39 K_39
              refine d_nil (by kernel_rfl) ?_
              refine e_norm_block ?_
              refine e_next ?_
              refine c_region ?_
              refine r_val .none rfl (p_add rfl rfl (by omega)) ?_
              refine r_val .none rfl (p_move rfl) ?_
              refine r_nil ?_
              refine e_round ((k + 1, _, qs ++ [(stepOf (l ++ ((rs.map Prod.fst).take k)) (rs.getD k d0).1, u_34a, u_34b)], _)) ⟨⟨by dsimp only; omega, by rw [stepsOf_take (by omega), List.map_append, hq]; rfl, (fun p hp' => by rcases List.mem_append.1 hp' with h | h; exact hqt p h; rw [List.mem_singleton.1 h]; exact u_34s), (fun p hp' => by rcases List.mem_append.1 hp' with h | h; exact hqs p h; rw [List.mem_singleton.1 h]; exact u_34t), ((hgn.trans hn_25).trans hn_31)⟩, by dsimp only; omega⟩ rfl ⟨rfl, rfl, rfl, rfl, rfl, rfl, rfl, trivial⟩ (.drop (.drop (.keep (fun _ _ h => rowA_snoc (l := qs) (x := (stepOf (l ++ ((rs.map Prod.fst).take k)) (rs.getD k d0).1, u_34a, u_34b)) rfl rfl rfl rfl _ _ h) (.keep (fun _ _ h => box_congr (fun i hi => by match i, hi with | 0, _ => rfl | 1, _ => rfl | 2, _ => rfl | 3, _ => rfl | 4, _ => rfl | 5, _ => rfl) _ _ h) (.keep (fun _ _ h => h) (.keep (fun _ _ h => h) (.nil)))))))
              )
        · skip
          first
            | (exfalso; omega)
            | (
              refine c_cond_f rfl ?_
              refine c_exit ?_
              refine e_exit_then ?_
              refine e_exit_then ?_
              refine e_exit_block ?_
              refine e_next ?_
              refine c_seq ?_
              refine c_region ?_
              refine r_val .none rfl (p_ldw (k := 1) Try.underlying116 rfl sz116 rfl rfl (rfl : _ = Value.agg #[_, _, _, _, _, _])) ?_
              refine r_stw (k := 2) .none sz116 rfl rfl (IsRow.lit _) (one_lit rfl (all_cons rfl (all_cons rfl (all_cons rfl (all_cons rfl (all_cons rfl (all_cons ov rfl))))))) rfl ?_
              refine r_nil ?_
              refine e_next ?_
              refine c_ret ?_
              refine e_ret_then ?_
              refine e_freeze (k := 0) rfl (fun G_40 hn_41 hs_42 => ?_)
              replace hrc := hrc.mono hn_41.le
              replace hp := fun p hm0 => (hp p hm0).mono hn_41.le
              replace hr := hr.mono hn_41.le
              replace hpc := fun p hm0 => (hpc p hm0).mono hn_41.le
              replace hs2 := hs2.mono hn_41.le
              replace hqt := fun p hm0 => (hqt p hm0).mono hn_41.le
              replace hqs := fun p hm0 => (hqs p hm0).mono hn_41.le
              refine e_ret1 Try.results57 (.cell (k := 1) rfl Try.underlying116 rfl sz116 rfl (rfl : _ = Value.agg #[_, _, _, _, _, _]) .nil) (fun w hm => ⟨_, (hgn.trans hn_41), hm.has, ?_, hm.since⟩)
              have hk2 : k = rs.length := by omega
              rw [stepOf_ncc (by omega)]
              refine ⟨_, _, rfl, SlG.nil _ _ _, ?_⟩
              show Ss _ _ (stepsOf l c.subs)
              rw [show stepsOf l c.subs = qs.map Prod.fst by rw [hq, hl, List.take_of_length_le (by simp; omega)]]
              exact Ss.mk qs (SlL.of s0 (fun _ => rfl) rfl hs_42) hqt hqs
              )
        )
  · skip
    first
      | (exfalso; omega)
      | (
        refine c_cond_f rfl ?_
        refine c_skip ?_
        refine e_next ?_
        refine c_seq ?_
        refine c_seq ?_
        refine c_region ?_
        refine r_val .none rfl (p_assign rfl) ?_
        refine r_nil ?_
        refine e_next ?_
        refine c_block ?_
        refine c_nilrow 140 3 ?_
        refine c_name (d := 0) rfl (fun u_43 hu_43 => ?_)
        refine c_name (d := 3) rfl (fun u_44 hu_44 => ?_)
        refine c_name (d := 4) rfl (fun u_45 hu_45 => ?_)
        refine c_name (d := 5) rfl (fun u_46 hu_46 => ?_)
        refine c_nameL (k := 2) rfl (fun A_47 hA_47 => ?_)
        refine c_nameL (k := 3) rfl (fun A_48 hA_48 => ?_)
        refine c_loop (σ := Nat × Value) (fun s => [(9, Value.int .i64 (s.1 : Nat)), (0, u_43), (3, u_44), (4, u_45), (5, u_46)]) (fun s => [rowA (s.2) 140 3 ((testsTo l c.h s.1)).length (((testsTo l c.h s.1)).flatMap tC), box b_3 6 116 (at_ [.int .i64 c.h.k, .int .i64 (keyTo c.h s.1 0), .int .i64 (keyTo c.h s.1 1), .int .i64 (keyTo c.h s.1 2), s.2, .slice none 0 0]), A_47, A_48]) (fun _ => _) (fun s => s.1 ≤ 3) (fun s => 3 - s.1) ((0, _)) (by omega) rfl ⟨rfl, rfl, rfl, rfl, rfl, trivial⟩ (.keep (fun _ _ h => rowA_nil rfl _ _ h) (.keep (fun _ _ h => box_congr (fun i hi => by match i, hi with | 0, _ => rfl | 1, _ => rfl | 2, _ => rfl | 3, _ => rfl | 4, _ => rfl | 5, _ => rfl) _ _ h) (.keep (fun _ _ h => h) (.keep (fun _ _ h => h) (.nil))))) (fun s hphi => ?_)
        subst hu_43
        subst hu_44
        subst hu_45
        subst hu_46
        subst hA_47
        subst hA_48
        obtain ⟨f, v⟩ := s
        dsimp only at hphi ⊢
        refine c_row1 (k := 0) rfl (fun ov => ?_)
        refine c_rowlen (k := 0) rfl (fun l63 => ?_)
        obtain rfl | rfl | rfl | rfl : f = 0 ∨ f = 1 ∨ f = 2 ∨ f = 3 := by omega
        · skip
          refine c_seq ?_
          refine c_seq ?_
          refine c_region ?_
          refine r_val .none rfl (p_move rfl) ?_
          refine r_val .none rfl (p_lt rfl rfl) ?_
          refine r_say (d := 47) (v := Value.bool true) rfl ?_
          refine r_nil ?_
          refine e_next ?_
          refine c_cond_t rfl ?_
          refine c_skip ?_
          refine e_next ?_
          refine c_seq ?_
          refine c_block ?_
          refine c_seq ?_
          refine c_seq ?_
          refine c_region ?_
          refine r_val .none rfl (p_move rfl) ?_
          refine r_val .none rfl (p_field Try.underlying102 rfl sz100 rfl) ?_
          refine r_val .none rfl (p_iaddr (k := 0) Try.underlying100 sz99 rfl rfl (by first | exact of_decide_eq_true rfl | omega)) ?_
          refine r_val .none rfl (p_field Try.underlying99 rfl sz3 rfl) ?_
          refine r_val .none rfl (p_ld (k := 3) Try.underlying3 rfl rfl rfl (by first | exact of_decide_eq_true rfl | omega) (rfl : _ = Value.int _ _)) ?_
          refine r_val .none rfl (p_eq rfl rfl) ?_
          refine r_nil ?_
          refine e_next ?_
          refine c_splitd (d := 55) rfl (fun h_49 => ?_) (fun h_49 => ?_)
          · skip
            have hv : vF c.h 0 = false := vF_no h_49
            first
              | (exfalso; omega)
              | (
                refine c_cond_t rfl ?_
                refine c_seq ?_
                refine c_region ?_
                refine r_val .none rfl (p_move rfl) ?_
                refine r_val .none rfl (p_move rfl) ?_
                refine r_val .none rfl (p_field Try.underlying102 rfl sz100 rfl) ?_
                refine r_val .none rfl (p_iaddr (k := 0) Try.underlying100 sz99 rfl rfl (by first | exact of_decide_eq_true rfl | omega)) ?_
                refine r_val .none rfl (p_field Try.underlying99 rfl sz3 rfl) ?_
                refine r_val .none rfl (p_ld (k := 3) Try.underlying3 rfl rfl rfl (by first | exact of_decide_eq_true rfl | omega) (rfl : _ = Value.int _ _)) ?_
                refine r_val .none rfl (p_field Try.underlying116 rfl sz105 rfl) ?_
                refine r_val .none rfl (p_iaddr (k := 0) Try.underlying105 sz3 rfl rfl (by first | exact of_decide_eq_true rfl | omega)) ?_
                refine r_st (k := 1) .none sz3 rfl rfl rfl rfl (by first | exact of_decide_eq_true rfl | omega) ?_
                refine r_nil ?_
                refine e_next ?_
                refine c_exit ?_
                refine e_exit_then ?_
                refine e_exit_block ?_
                refine e_next ?_
                refine c_region ?_
                refine r_val .none rfl (p_move rfl) ?_
                refine r_val .none rfl (p_add rfl rfl (by omega)) ?_
                refine r_val .none rfl (p_assign rfl) ?_
                refine r_nil ?_
                refine e_round ((1, _)) ⟨Nat.le_of_ble_eq_true rfl, Nat.le_of_ble_eq_true rfl⟩ rfl ⟨rfl, rfl, rfl, rfl, rfl, trivial⟩ (.keep (fun _ _ h => rowA_same (by show testsTo l c.h (0 + 1) = _; rw [testsTo_succ, (by first | exact T1 (by assumption) | exact T4 (by assumption) (by assumption) (dup0 _) : testF l c.h 0 = []), List.append_nil]) _ _ h) (.keep (fun _ _ h => box_congr (fun i hi => by match i, hi with | 0, _ => rfl | 1, _ => exact (by first | exact congrArg (Value.int .i64) (key_set (h := c.h) (f := 0) (by assumption)).symm | exact congrArg (Value.int .i64) ((show keyTo c.h 0 0 = 0 by simp [keyTo]).trans (key_not (h := c.h) (f := 0) (by assumption)).symm)) | 2, _ => exact congrArg (Value.int .i64) (key_else (h := c.h) (f := 0) (i := 1) (by decide)).symm | 3, _ => exact congrArg (Value.int .i64) (key_else (h := c.h) (f := 0) (i := 2) (by decide)).symm | 4, _ => rfl | 5, _ => rfl) _ _ h) (.keep (fun _ _ h => h) (.keep (fun _ _ h => h) (.nil)))))
                )
          · skip
            have hv : vF c.h 0 = true := vF_yes h_49
            first
              | (exfalso; omega)
              | (
                refine c_cond_f rfl ?_
                refine c_skip ?_
                refine e_next ?_
                refine c_seq ?_
                refine c_region ?_
                refine r_val .none rfl (p_move rfl) ?_
                refine r_val .none rfl (p_move rfl) ?_
                refine r_val .none rfl (p_field Try.underlying102 rfl sz100 rfl) ?_
                refine r_val .none rfl (p_iaddr (k := 0) Try.underlying100 sz99 rfl rfl (by first | exact of_decide_eq_true rfl | omega)) ?_
                refine r_val .none rfl (p_field Try.underlying99 rfl sz3 rfl) ?_
                refine r_val .none rfl (p_ld (k := 3) Try.underlying3 rfl rfl rfl (by first | exact of_decide_eq_true rfl | omega) (rfl : _ = Value.int _ _)) ?_
                refine r_call (vs := [_, _]) .none rfl cl74 rfl (fun w hw => c_bound _ _ _ hs2 w hw) ?_
                refine r_val .none rfl (p_move rfl) ?_
                refine r_val .none rfl (p_extract rfl rfl) ?_
                refine r_val .none rfl (p_extract rfl rfl) ?_
                refine r_alloc .none rfl zr163 (IsRow.lit _) (fun b_6 => ?_)
                refine r_stw (k := 0) .none sz163 rfl rfl (IsRow.lit _) (one_lit rfl rfl) rfl ?_
                refine r_val .none rfl (p_assign rfl) ?_
                refine r_nil ?_
                refine e_next ?_
                refine c_seq ?_
                refine c_seq ?_
                refine c_region ?_
                refine r_val .none rfl (p_move rfl) ?_
                refine r_nil ?_
                refine e_next ?_
                refine c_split (d := 74) rfl (fun h_50 => ?_) (fun h_50 => ?_)
                · skip
                  have hb : (bound (nF c.h 0) l 0).isSome = true := h_50
                  first
                    | (exfalso; omega)
                    | (
                      refine c_cond_t rfl ?_
                      refine c_seq ?_
                      refine c_region ?_
                      refine r_val .none rfl (p_field Try.underlying116 rfl sz114 rfl) ?_
                      refine r_val .none rfl (p_ld (k := 2) Try.underlying114 rfl rfl rfl (by first | exact of_decide_eq_true rfl | omega) rfl) ?_
                      refine r_val .none rfl (p_move rfl) ?_
                      refine r_val .none rfl (p_field Try.underlying163 rfl sz3 rfl) ?_
                      refine r_val .none rfl (p_ld (k := 0) Try.underlying3 rfl rfl rfl (by first | exact of_decide_eq_true rfl | omega) (rfl : _ = Value.int _ _)) ?_
                      refine r_val .none rfl (p_field Try.underlying163 rfl sz3 rfl) ?_
                      refine r_val .none rfl (p_ld (k := 0) Try.underlying3 rfl rfl rfl (by first | exact of_decide_eq_true rfl | omega) (rfl : _ = Value.int _ _)) ?_
                      refine r_val .none rfl (p_build (vs := [(0, Value.int _ _), (1, Value.int _ _), (2, Value.int _ _)]) rfl (bl140_0i1_1i1_2i1 _ _ _)) ?_
                      refine r_bslice (vs := [(0, Value.agg #[_, _, _])]) (c := #[_, _, _]) .none rfl Try.underlying114 el140 rfl rfl rfl (bs140_10a3 _ _ _) (IsRow.lit _) (fun b_7 => ?_)
                      refine r_append (k := 2) (k2 := 0) .none rfl Try.underlying114 el140 rfl (by decide) rfl rfl rfl rfl rfl (one_lit rfl rfl) (by have q0 := testsTo_len l c.h 0; have q1 := testsTo_len l c.h 1; have q2 := testsTo_len l c.h 2; simp only [maxLen]; omega) (by have q0 := testsTo_len l c.h 0; have q1 := testsTo_len l c.h 1; have q2 := testsTo_len l c.h 2; omega) (fun v_51 => ?_)
                      refine r_row1 (k := 2) rfl (fun o_52 => ?_)
                      refine r_val .none rfl (p_field Try.underlying116 rfl sz114 rfl) ?_
                      refine r_st (k := 3) .none sz114 rfl rfl o_52 rfl (by first | exact of_decide_eq_true rfl | omega) ?_
                      refine r_nil ?_
                      refine e_next ?_
                      refine c_exit ?_
                      refine e_exit_then ?_
                      refine e_exit_block ?_
                      refine e_next ?_
                      refine c_region ?_
                      refine r_val .none rfl (p_move rfl) ?_
                      refine r_val .none rfl (p_add rfl rfl (by omega)) ?_
                      refine r_val .none rfl (p_assign rfl) ?_
                      refine r_nil ?_
                      refine e_round ((1, _)) ⟨Nat.le_of_ble_eq_true rfl, Nat.le_of_ble_eq_true rfl⟩ rfl ⟨rfl, rfl, rfl, rfl, rfl, trivial⟩ (.drop (.drop (.keep (fun _ _ h => rowA_snoc (x := (((0 : Nat) : Int), ((bound (nF c.h 0) l 0).getD (0, 0)).1, ((bound (nF c.h 0) l 0).getD (0, 0)).2)) (by show testsTo l c.h (0 + 1) = _; rw [testsTo_succ, T2 (by assumption) (by assumption)]) rfl rfl rfl _ _ h) (.keep (fun _ _ h => box_congr (fun i hi => by match i, hi with | 0, _ => rfl | 1, _ => exact (by first | exact congrArg (Value.int .i64) (key_set (h := c.h) (f := 0) (by assumption)).symm | exact congrArg (Value.int .i64) ((show keyTo c.h 0 0 = 0 by simp [keyTo]).trans (key_not (h := c.h) (f := 0) (by assumption)).symm)) | 2, _ => exact congrArg (Value.int .i64) (key_else (h := c.h) (f := 0) (i := 1) (by decide)).symm | 3, _ => exact congrArg (Value.int .i64) (key_else (h := c.h) (f := 0) (i := 2) (by decide)).symm | 4, _ => rfl | 5, _ => rfl) _ _ h) (.keep (fun _ _ h => h) (.keep (fun _ _ h => h) (.nil)))))))
                      )
                · skip
                  have hb : (bound (nF c.h 0) l 0).isSome = false := h_50
                  first
                    | (exfalso; omega)
                    | (
                      refine c_cond_f rfl ?_
                      refine c_skip ?_
                      refine e_next ?_
                      refine c_seq ?_
                      refine c_region ?_
                      refine r_val .none rfl (p_assign rfl) ?_
                      refine r_nil ?_
                      refine e_next ?_
                      refine c_block ?_
                      refine c_unroll 3 ?_
                      refine l_round (n := 2) ?_
                      refine c_seq ?_
                      refine c_seq ?_
                      refine c_region ?_
                      refine r_val .none rfl (p_move rfl) ?_
                      refine r_val .none rfl (p_move rfl) ?_
                      refine r_val .none rfl (p_lt rfl rfl) ?_
                      refine r_say (d := 88) (v := Value.bool false) rfl ?_
                      refine r_nil ?_
                      refine e_next ?_
                      refine c_cond_f rfl ?_
                      refine c_exit ?_
                      refine e_exit_then ?_
                      refine e_exit_then ?_
                      refine e_exit_block ?_
                      refine e_norm_block ?_
                      refine e_next ?_
                      refine c_region ?_
                      refine r_val .none rfl (p_move rfl) ?_
                      refine r_val .none rfl (p_add rfl rfl (by omega)) ?_
                      refine r_val .none rfl (p_assign rfl) ?_
                      refine r_nil ?_
                      refine e_round ((1, _)) ⟨Nat.le_of_ble_eq_true rfl, Nat.le_of_ble_eq_true rfl⟩ rfl ⟨rfl, rfl, rfl, rfl, rfl, trivial⟩ (.drop (.keep (fun _ _ h => rowA_same (by show testsTo l c.h (0 + 1) = _; rw [testsTo_succ, (by first | exact T1 (by assumption) | exact T4 (by assumption) (by assumption) (dup0 _) : testF l c.h 0 = []), List.append_nil]) _ _ h) (.keep (fun _ _ h => box_congr (fun i hi => by match i, hi with | 0, _ => rfl | 1, _ => exact (by first | exact congrArg (Value.int .i64) (key_set (h := c.h) (f := 0) (by assumption)).symm | exact congrArg (Value.int .i64) ((show keyTo c.h 0 0 = 0 by simp [keyTo]).trans (key_not (h := c.h) (f := 0) (by assumption)).symm)) | 2, _ => exact congrArg (Value.int .i64) (key_else (h := c.h) (f := 0) (i := 1) (by decide)).symm | 3, _ => exact congrArg (Value.int .i64) (key_else (h := c.h) (f := 0) (i := 2) (by decide)).symm | 4, _ => rfl | 5, _ => rfl) _ _ h) (.keep (fun _ _ h => h) (.keep (fun _ _ h => h) (.nil))))))
                      )
                )
        · skip
          refine c_seq ?_
          refine c_seq ?_
          refine c_region ?_
          refine r_val .none rfl (p_move rfl) ?_
          refine r_val .none rfl (p_lt rfl rfl) ?_
          refine r_say (d := 47) (v := Value.bool true) rfl ?_
          refine r_nil ?_
          refine e_next ?_
          refine c_cond_t rfl ?_
          refine c_skip ?_
          refine e_next ?_
          refine c_seq ?_
          refine c_block ?_
          refine c_seq ?_
          refine c_seq ?_
          refine c_region ?_
          refine r_val .none rfl (p_move rfl) ?_
          refine r_val .none rfl (p_field Try.underlying102 rfl sz100 rfl) ?_
          refine r_val .none rfl (p_iaddr (k := 1) Try.underlying100 sz99 rfl rfl (by first | exact of_decide_eq_true rfl | omega)) ?_
          refine r_val .none rfl (p_field Try.underlying99 rfl sz3 rfl) ?_
          refine r_val .none rfl (p_ld (k := 3) Try.underlying3 rfl rfl rfl (by first | exact of_decide_eq_true rfl | omega) (rfl : _ = Value.int _ _)) ?_
          refine r_val .none rfl (p_eq rfl rfl) ?_
          refine r_nil ?_
          refine e_next ?_
          refine c_splitd (d := 55) rfl (fun h_53 => ?_) (fun h_53 => ?_)
          · skip
            have hv : vF c.h 1 = false := vF_no h_53
            first
              | (exfalso; omega)
              | (
                refine c_cond_t rfl ?_
                refine c_seq ?_
                refine c_region ?_
                refine r_val .none rfl (p_move rfl) ?_
                refine r_val .none rfl (p_move rfl) ?_
                refine r_val .none rfl (p_field Try.underlying102 rfl sz100 rfl) ?_
                refine r_val .none rfl (p_iaddr (k := 1) Try.underlying100 sz99 rfl rfl (by first | exact of_decide_eq_true rfl | omega)) ?_
                refine r_val .none rfl (p_field Try.underlying99 rfl sz3 rfl) ?_
                refine r_val .none rfl (p_ld (k := 3) Try.underlying3 rfl rfl rfl (by first | exact of_decide_eq_true rfl | omega) (rfl : _ = Value.int _ _)) ?_
                refine r_val .none rfl (p_field Try.underlying116 rfl sz105 rfl) ?_
                refine r_val .none rfl (p_iaddr (k := 1) Try.underlying105 sz3 rfl rfl (by first | exact of_decide_eq_true rfl | omega)) ?_
                refine r_st (k := 1) .none sz3 rfl rfl rfl rfl (by first | exact of_decide_eq_true rfl | omega) ?_
                refine r_nil ?_
                refine e_next ?_
                refine c_exit ?_
                refine e_exit_then ?_
                refine e_exit_block ?_
                refine e_next ?_
                refine c_region ?_
                refine r_val .none rfl (p_move rfl) ?_
                refine r_val .none rfl (p_add rfl rfl (by omega)) ?_
                refine r_val .none rfl (p_assign rfl) ?_
                refine r_nil ?_
                refine e_round ((2, _)) ⟨Nat.le_of_ble_eq_true rfl, Nat.le_of_ble_eq_true rfl⟩ rfl ⟨rfl, rfl, rfl, rfl, rfl, trivial⟩ (.keep (fun _ _ h => rowA_same (by show testsTo l c.h (1 + 1) = _; rw [testsTo_succ, (by first | exact T1 (by assumption) | exact T4 (by assumption) (by assumption) (dup1_no (by assumption)) : testF l c.h 1 = []), List.append_nil]) _ _ h) (.keep (fun _ _ h => box_congr (fun i hi => by match i, hi with | 0, _ => rfl | 1, _ => exact congrArg (Value.int .i64) (key_else (h := c.h) (f := 1) (i := 0) (by decide)).symm | 2, _ => exact (by first | exact congrArg (Value.int .i64) (key_set (h := c.h) (f := 1) (by assumption)).symm | exact congrArg (Value.int .i64) ((show keyTo c.h 1 1 = 0 by simp [keyTo]).trans (key_not (h := c.h) (f := 1) (by assumption)).symm)) | 3, _ => exact congrArg (Value.int .i64) (key_else (h := c.h) (f := 1) (i := 2) (by decide)).symm | 4, _ => rfl | 5, _ => rfl) _ _ h) (.keep (fun _ _ h => h) (.keep (fun _ _ h => h) (.nil)))))
                )
          · skip
            have hv : vF c.h 1 = true := vF_yes h_53
            first
              | (exfalso; omega)
              | (
                refine c_cond_f rfl ?_
                refine c_skip ?_
                refine e_next ?_
                refine c_seq ?_
                refine c_region ?_
                refine r_val .none rfl (p_move rfl) ?_
                refine r_val .none rfl (p_move rfl) ?_
                refine r_val .none rfl (p_field Try.underlying102 rfl sz100 rfl) ?_
                refine r_val .none rfl (p_iaddr (k := 1) Try.underlying100 sz99 rfl rfl (by first | exact of_decide_eq_true rfl | omega)) ?_
                refine r_val .none rfl (p_field Try.underlying99 rfl sz3 rfl) ?_
                refine r_val .none rfl (p_ld (k := 3) Try.underlying3 rfl rfl rfl (by first | exact of_decide_eq_true rfl | omega) (rfl : _ = Value.int _ _)) ?_
                refine r_call (vs := [_, _]) .none rfl cl74 rfl (fun w hw => c_bound _ _ _ hs2 w hw) ?_
                refine r_val .none rfl (p_move rfl) ?_
                refine r_val .none rfl (p_extract rfl rfl) ?_
                refine r_val .none rfl (p_extract rfl rfl) ?_
                refine r_alloc .none rfl zr163 (IsRow.lit _) (fun b_8 => ?_)
                refine r_stw (k := 0) .none sz163 rfl rfl (IsRow.lit _) (one_lit rfl rfl) rfl ?_
                refine r_val .none rfl (p_assign rfl) ?_
                refine r_nil ?_
                refine e_next ?_
                refine c_seq ?_
                refine c_seq ?_
                refine c_region ?_
                refine r_val .none rfl (p_move rfl) ?_
                refine r_nil ?_
                refine e_next ?_
                refine c_split (d := 74) rfl (fun h_54 => ?_) (fun h_54 => ?_)
                · skip
                  have hb : (bound (nF c.h 1) l 0).isSome = true := h_54
                  first
                    | (exfalso; omega)
                    | (
                      refine c_cond_t rfl ?_
                      refine c_seq ?_
                      refine c_region ?_
                      refine r_val .none rfl (p_field Try.underlying116 rfl sz114 rfl) ?_
                      refine r_val .none rfl (p_ld (k := 2) Try.underlying114 rfl rfl rfl (by first | exact of_decide_eq_true rfl | omega) rfl) ?_
                      refine r_val .none rfl (p_move rfl) ?_
                      refine r_val .none rfl (p_field Try.underlying163 rfl sz3 rfl) ?_
                      refine r_val .none rfl (p_ld (k := 0) Try.underlying3 rfl rfl rfl (by first | exact of_decide_eq_true rfl | omega) (rfl : _ = Value.int _ _)) ?_
                      refine r_val .none rfl (p_field Try.underlying163 rfl sz3 rfl) ?_
                      refine r_val .none rfl (p_ld (k := 0) Try.underlying3 rfl rfl rfl (by first | exact of_decide_eq_true rfl | omega) (rfl : _ = Value.int _ _)) ?_
                      refine r_val .none rfl (p_build (vs := [(0, Value.int _ _), (1, Value.int _ _), (2, Value.int _ _)]) rfl (bl140_0i1_1i1_2i1 _ _ _)) ?_
                      refine r_bslice (vs := [(0, Value.agg #[_, _, _])]) (c := #[_, _, _]) .none rfl Try.underlying114 el140 rfl rfl rfl (bs140_10a3 _ _ _) (IsRow.lit _) (fun b_9 => ?_)
                      refine r_append (k := 2) (k2 := 0) .none rfl Try.underlying114 el140 rfl (by decide) rfl rfl rfl rfl rfl (one_lit rfl rfl) (by have q0 := testsTo_len l c.h 0; have q1 := testsTo_len l c.h 1; have q2 := testsTo_len l c.h 2; simp only [maxLen]; omega) (by have q0 := testsTo_len l c.h 0; have q1 := testsTo_len l c.h 1; have q2 := testsTo_len l c.h 2; omega) (fun v_55 => ?_)
                      refine r_row1 (k := 2) rfl (fun o_56 => ?_)
                      refine r_val .none rfl (p_field Try.underlying116 rfl sz114 rfl) ?_
                      refine r_st (k := 3) .none sz114 rfl rfl o_56 rfl (by first | exact of_decide_eq_true rfl | omega) ?_
                      refine r_nil ?_
                      refine e_next ?_
                      refine c_exit ?_
                      refine e_exit_then ?_
                      refine e_exit_block ?_
                      refine e_next ?_
                      refine c_region ?_
                      refine r_val .none rfl (p_move rfl) ?_
                      refine r_val .none rfl (p_add rfl rfl (by omega)) ?_
                      refine r_val .none rfl (p_assign rfl) ?_
                      refine r_nil ?_
                      refine e_round ((2, _)) ⟨Nat.le_of_ble_eq_true rfl, Nat.le_of_ble_eq_true rfl⟩ rfl ⟨rfl, rfl, rfl, rfl, rfl, trivial⟩ (.drop (.drop (.keep (fun _ _ h => rowA_snoc (x := (((1 : Nat) : Int), ((bound (nF c.h 1) l 0).getD (0, 0)).1, ((bound (nF c.h 1) l 0).getD (0, 0)).2)) (by show testsTo l c.h (1 + 1) = _; rw [testsTo_succ, T2 (by assumption) (by assumption)]) rfl rfl rfl _ _ h) (.keep (fun _ _ h => box_congr (fun i hi => by match i, hi with | 0, _ => rfl | 1, _ => exact congrArg (Value.int .i64) (key_else (h := c.h) (f := 1) (i := 0) (by decide)).symm | 2, _ => exact (by first | exact congrArg (Value.int .i64) (key_set (h := c.h) (f := 1) (by assumption)).symm | exact congrArg (Value.int .i64) ((show keyTo c.h 1 1 = 0 by simp [keyTo]).trans (key_not (h := c.h) (f := 1) (by assumption)).symm)) | 3, _ => exact congrArg (Value.int .i64) (key_else (h := c.h) (f := 1) (i := 2) (by decide)).symm | 4, _ => rfl | 5, _ => rfl) _ _ h) (.keep (fun _ _ h => h) (.keep (fun _ _ h => h) (.nil)))))))
                      )
                · skip
                  have hb : (bound (nF c.h 1) l 0).isSome = false := h_54
                  first
                    | (exfalso; omega)
                    | (
                      refine c_cond_f rfl ?_
                      refine c_skip ?_
                      refine e_next ?_
                      refine c_seq ?_
                      refine c_region ?_
                      refine r_val .none rfl (p_assign rfl) ?_
                      refine r_nil ?_
                      refine e_next ?_
                      refine c_block ?_
                      refine c_unroll 3 ?_
                      refine l_round (n := 2) ?_
                      refine c_seq ?_
                      refine c_seq ?_
                      refine c_region ?_
                      refine r_val .none rfl (p_move rfl) ?_
                      refine r_val .none rfl (p_move rfl) ?_
                      refine r_val .none rfl (p_lt rfl rfl) ?_
                      refine r_say (d := 88) (v := Value.bool true) rfl ?_
                      refine r_nil ?_
                      refine e_next ?_
                      refine c_cond_t rfl ?_
                      refine c_skip ?_
                      refine e_next ?_
                      refine c_seq ?_
                      refine c_block ?_
                      refine c_seq ?_
                      refine c_region_q mixed (by kernel_rfl) ?_
                      refine q_val .none rfl (p_move rfl) ?_
                      refine q_val .none rfl (p_field Try.underlying102 rfl sz100 rfl) ?_
                      refine q_val .none rfl (p_iaddr (k := 0) Try.underlying100 sz99 rfl rfl (by first | exact of_decide_eq_true rfl | omega)) ?_
                      refine q_val .none rfl (p_lda (k := 4) Try.underlying99 rfl sz99 rfl rfl (by first | exact of_decide_eq_true rfl | omega) (rfl : _ = Value.agg #[_, _])) ?_
                      refine q_val .none rfl (p_move rfl) ?_
                      refine q_val .none rfl (p_field Try.underlying102 rfl sz100 rfl) ?_
                      refine q_val .none rfl (p_iaddr (k := 1) Try.underlying100 sz99 rfl rfl (by first | exact of_decide_eq_true rfl | omega)) ?_
                      refine q_val .none rfl (p_lda (k := 4) Try.underlying99 rfl sz99 rfl rfl (by first | exact of_decide_eq_true rfl | omega) (rfl : _ = Value.agg #[_, _])) ?_
                      refine q_val .none rfl (p_eqa rfl rfl (eq_flat Try.underlying99 rfl lf99 ef99 eg99 (.cons (.int Try.underlying3) (.cons (.int Try.underlying3) (.nil))) (.cons (.int Try.underlying3) (.cons (.int Try.underlying3) (.nil))))) ?_
                      refine q_nil ?_
                      refine e_next ?_
                      refine c_split (d := 99) rfl (fun h_57 => ?_) (fun h_57 => ?_)
                      · skip
                        first | have s0 : sameF c.h 0 1 = true := (same_cs c.h 0 1).symm.trans h_57 | have s1 : sameF c.h 1 1 = true := (same_cs c.h 1 1).symm.trans h_57
                        first
                          | (exfalso; omega)
                          | (
                            refine c_cond_t rfl ?_
                            refine c_seq ?_
                            refine c_region ?_
                            refine r_val .none rfl (p_field Try.underlying116 rfl sz114 rfl) ?_
                            refine r_val .none rfl (p_ld (k := 2) Try.underlying114 rfl rfl rfl (by first | exact of_decide_eq_true rfl | omega) rfl) ?_
                            refine r_val .none rfl (p_move rfl) ?_
                            refine r_val .none rfl (p_move rfl) ?_
                            refine r_val .none rfl (p_build (vs := [(0, Value.int _ _), (1, Value.int _ _), (2, Value.int _ _)]) rfl (bl140_0i1_1i1_2i1 _ _ _)) ?_
                            refine r_bslice (vs := [(0, Value.agg #[_, _, _])]) (c := #[_, _, _]) .none rfl Try.underlying114 el140 rfl rfl rfl (bs140_10a3 _ _ _) (IsRow.lit _) (fun b_10 => ?_)
                            refine r_append (k := 2) (k2 := 0) .none rfl Try.underlying114 el140 rfl (by decide) rfl rfl rfl rfl rfl (one_lit rfl rfl) (by have q0 := testsTo_len l c.h 0; have q1 := testsTo_len l c.h 1; have q2 := testsTo_len l c.h 2; simp only [maxLen]; omega) (by have q0 := testsTo_len l c.h 0; have q1 := testsTo_len l c.h 1; have q2 := testsTo_len l c.h 2; omega) (fun v_58 => ?_)
                            refine r_row1 (k := 2) rfl (fun o_59 => ?_)
                            refine r_val .none rfl (p_field Try.underlying116 rfl sz114 rfl) ?_
                            refine r_st (k := 3) .none sz114 rfl rfl o_59 rfl (by first | exact of_decide_eq_true rfl | omega) ?_
                            refine r_nil ?_
                            refine e_next ?_
                            refine c_exit ?_
                            refine e_exit_past rfl ?_
                            refine e_exit_then ?_
                            refine e_exit_then ?_
                            refine e_exit_block ?_
                            refine e_norm_block ?_
                            refine e_next ?_
                            refine c_region ?_
                            refine r_val .none rfl (p_move rfl) ?_
                            refine r_val .none rfl (p_add rfl rfl (by omega)) ?_
                            refine r_val .none rfl (p_assign rfl) ?_
                            refine r_nil ?_
                            refine e_round ((2, _)) ⟨Nat.le_of_ble_eq_true rfl, Nat.le_of_ble_eq_true rfl⟩ rfl ⟨rfl, rfl, rfl, rfl, rfl, trivial⟩ (.drop (.drop (.keep (fun _ _ h => rowA_snoc (x := (((1 : Nat) : Int), -1, 0)) (by show testsTo l c.h (1 + 1) = _; rw [testsTo_succ, T3 (by assumption) (by assumption) (dup1_yes (by assumption))]) rfl rfl rfl _ _ h) (.keep (fun _ _ h => box_congr (fun i hi => by match i, hi with | 0, _ => rfl | 1, _ => exact congrArg (Value.int .i64) (key_else (h := c.h) (f := 1) (i := 0) (by decide)).symm | 2, _ => exact (by first | exact congrArg (Value.int .i64) (key_set (h := c.h) (f := 1) (by assumption)).symm | exact congrArg (Value.int .i64) ((show keyTo c.h 1 1 = 0 by simp [keyTo]).trans (key_not (h := c.h) (f := 1) (by assumption)).symm)) | 3, _ => exact congrArg (Value.int .i64) (key_else (h := c.h) (f := 1) (i := 2) (by decide)).symm | 4, _ => rfl | 5, _ => rfl) _ _ h) (.keep (fun _ _ h => h) (.keep (fun _ _ h => h) (.nil)))))))
                            )
                      · skip
                        first | have s0 : sameF c.h 0 1 = false := (same_cs c.h 0 1).symm.trans h_57 | have s1 : sameF c.h 1 1 = false := (same_cs c.h 1 1).symm.trans h_57
                        first
                          | (exfalso; omega)
                          | (
                            refine c_cond_f rfl ?_
                            refine c_skip ?_
                            refine e_norm_block ?_
                            refine e_next ?_
                            refine c_region ?_
                            refine r_val .none rfl (p_move rfl) ?_
                            refine r_val .none rfl (p_add rfl rfl (by omega)) ?_
                            refine r_val .none rfl (p_assign rfl) ?_
                            refine r_nil ?_
                            refine e_again ?_
                            refine l_round (n := 1) ?_
                            refine c_seq ?_
                            refine c_seq ?_
                            refine c_region ?_
                            refine r_val .none rfl (p_move rfl) ?_
                            refine r_val .none rfl (p_move rfl) ?_
                            refine r_val .none rfl (p_lt rfl rfl) ?_
                            refine r_say (d := 88) (v := Value.bool false) rfl ?_
                            refine r_nil ?_
                            refine e_next ?_
                            refine c_cond_f rfl ?_
                            refine c_exit ?_
                            refine e_exit_then ?_
                            refine e_exit_then ?_
                            refine e_exit_block ?_
                            refine e_norm_block ?_
                            refine e_next ?_
                            refine c_region ?_
                            refine r_val .none rfl (p_move rfl) ?_
                            refine r_val .none rfl (p_add rfl rfl (by omega)) ?_
                            refine r_val .none rfl (p_assign rfl) ?_
                            refine r_nil ?_
                            refine e_round ((2, _)) ⟨Nat.le_of_ble_eq_true rfl, Nat.le_of_ble_eq_true rfl⟩ rfl ⟨rfl, rfl, rfl, rfl, rfl, trivial⟩ (.drop (.keep (fun _ _ h => rowA_same (by show testsTo l c.h (1 + 1) = _; rw [testsTo_succ, (by first | exact T1 (by assumption) | exact T4 (by assumption) (by assumption) (dup1_no (by assumption)) : testF l c.h 1 = []), List.append_nil]) _ _ h) (.keep (fun _ _ h => box_congr (fun i hi => by match i, hi with | 0, _ => rfl | 1, _ => exact congrArg (Value.int .i64) (key_else (h := c.h) (f := 1) (i := 0) (by decide)).symm | 2, _ => exact (by first | exact congrArg (Value.int .i64) (key_set (h := c.h) (f := 1) (by assumption)).symm | exact congrArg (Value.int .i64) ((show keyTo c.h 1 1 = 0 by simp [keyTo]).trans (key_not (h := c.h) (f := 1) (by assumption)).symm)) | 3, _ => exact congrArg (Value.int .i64) (key_else (h := c.h) (f := 1) (i := 2) (by decide)).symm | 4, _ => rfl | 5, _ => rfl) _ _ h) (.keep (fun _ _ h => h) (.keep (fun _ _ h => h) (.nil))))))
                            )
                      )
                )
        · skip
          refine c_seq ?_
          refine c_seq ?_
          refine c_region ?_
          refine r_val .none rfl (p_move rfl) ?_
          refine r_val .none rfl (p_lt rfl rfl) ?_
          refine r_say (d := 47) (v := Value.bool true) rfl ?_
          refine r_nil ?_
          refine e_next ?_
          refine c_cond_t rfl ?_
          refine c_skip ?_
          refine e_next ?_
          refine c_seq ?_
          refine c_block ?_
          refine c_seq ?_
          refine c_seq ?_
          refine c_region ?_
          refine r_val .none rfl (p_move rfl) ?_
          refine r_val .none rfl (p_field Try.underlying102 rfl sz100 rfl) ?_
          refine r_val .none rfl (p_iaddr (k := 2) Try.underlying100 sz99 rfl rfl (by first | exact of_decide_eq_true rfl | omega)) ?_
          refine r_val .none rfl (p_field Try.underlying99 rfl sz3 rfl) ?_
          refine r_val .none rfl (p_ld (k := 3) Try.underlying3 rfl rfl rfl (by first | exact of_decide_eq_true rfl | omega) (rfl : _ = Value.int _ _)) ?_
          refine r_val .none rfl (p_eq rfl rfl) ?_
          refine r_nil ?_
          refine e_next ?_
          refine c_splitd (d := 55) rfl (fun h_60 => ?_) (fun h_60 => ?_)
          · skip
            have hv : vF c.h 2 = false := vF_no h_60
            first
              | (exfalso; omega)
              | (
                refine c_cond_t rfl ?_
                refine c_seq ?_
                refine c_region ?_
                refine r_val .none rfl (p_move rfl) ?_
                refine r_val .none rfl (p_move rfl) ?_
                refine r_val .none rfl (p_field Try.underlying102 rfl sz100 rfl) ?_
                refine r_val .none rfl (p_iaddr (k := 2) Try.underlying100 sz99 rfl rfl (by first | exact of_decide_eq_true rfl | omega)) ?_
                refine r_val .none rfl (p_field Try.underlying99 rfl sz3 rfl) ?_
                refine r_val .none rfl (p_ld (k := 3) Try.underlying3 rfl rfl rfl (by first | exact of_decide_eq_true rfl | omega) (rfl : _ = Value.int _ _)) ?_
                refine r_val .none rfl (p_field Try.underlying116 rfl sz105 rfl) ?_
                refine r_val .none rfl (p_iaddr (k := 2) Try.underlying105 sz3 rfl rfl (by first | exact of_decide_eq_true rfl | omega)) ?_
                refine r_st (k := 1) .none sz3 rfl rfl rfl rfl (by first | exact of_decide_eq_true rfl | omega) ?_
                refine r_nil ?_
                refine e_next ?_
                refine c_exit ?_
                refine e_exit_then ?_
                refine e_exit_block ?_
                refine e_next ?_
                refine c_region ?_
                refine r_val .none rfl (p_move rfl) ?_
                refine r_val .none rfl (p_add rfl rfl (by omega)) ?_
                refine r_val .none rfl (p_assign rfl) ?_
                refine r_nil ?_
                refine e_round ((3, _)) ⟨Nat.le_of_ble_eq_true rfl, Nat.le_of_ble_eq_true rfl⟩ rfl ⟨rfl, rfl, rfl, rfl, rfl, trivial⟩ (.keep (fun _ _ h => rowA_same (by show testsTo l c.h (2 + 1) = _; rw [testsTo_succ, (by first | exact T1 (by assumption) | exact T4 (by assumption) (by assumption) (dup2_no (by assumption) (by assumption)) : testF l c.h 2 = []), List.append_nil]) _ _ h) (.keep (fun _ _ h => box_congr (fun i hi => by match i, hi with | 0, _ => rfl | 1, _ => exact congrArg (Value.int .i64) (key_else (h := c.h) (f := 2) (i := 0) (by decide)).symm | 2, _ => exact congrArg (Value.int .i64) (key_else (h := c.h) (f := 2) (i := 1) (by decide)).symm | 3, _ => exact (by first | exact congrArg (Value.int .i64) (key_set (h := c.h) (f := 2) (by assumption)).symm | exact congrArg (Value.int .i64) ((show keyTo c.h 2 2 = 0 by simp [keyTo]).trans (key_not (h := c.h) (f := 2) (by assumption)).symm)) | 4, _ => rfl | 5, _ => rfl) _ _ h) (.keep (fun _ _ h => h) (.keep (fun _ _ h => h) (.nil)))))
                )
          · skip
            have hv : vF c.h 2 = true := vF_yes h_60
            first
              | (exfalso; omega)
              | (
                refine c_cond_f rfl ?_
                refine c_skip ?_
                refine e_next ?_
                refine c_seq ?_
                refine c_region ?_
                refine r_val .none rfl (p_move rfl) ?_
                refine r_val .none rfl (p_move rfl) ?_
                refine r_val .none rfl (p_field Try.underlying102 rfl sz100 rfl) ?_
                refine r_val .none rfl (p_iaddr (k := 2) Try.underlying100 sz99 rfl rfl (by first | exact of_decide_eq_true rfl | omega)) ?_
                refine r_val .none rfl (p_field Try.underlying99 rfl sz3 rfl) ?_
                refine r_val .none rfl (p_ld (k := 3) Try.underlying3 rfl rfl rfl (by first | exact of_decide_eq_true rfl | omega) (rfl : _ = Value.int _ _)) ?_
                refine r_call (vs := [_, _]) .none rfl cl74 rfl (fun w hw => c_bound _ _ _ hs2 w hw) ?_
                refine r_val .none rfl (p_move rfl) ?_
                refine r_val .none rfl (p_extract rfl rfl) ?_
                refine r_val .none rfl (p_extract rfl rfl) ?_
                refine r_alloc .none rfl zr163 (IsRow.lit _) (fun b_11 => ?_)
                refine r_stw (k := 0) .none sz163 rfl rfl (IsRow.lit _) (one_lit rfl rfl) rfl ?_
                refine r_val .none rfl (p_assign rfl) ?_
                refine r_nil ?_
                refine e_next ?_
                refine c_seq ?_
                refine c_seq ?_
                refine c_region ?_
                refine r_val .none rfl (p_move rfl) ?_
                refine r_nil ?_
                refine e_next ?_
                refine c_split (d := 74) rfl (fun h_61 => ?_) (fun h_61 => ?_)
                · skip
                  have hb : (bound (nF c.h 2) l 0).isSome = true := h_61
                  first
                    | (exfalso; omega)
                    | (
                      refine c_cond_t rfl ?_
                      refine c_seq ?_
                      refine c_region ?_
                      refine r_val .none rfl (p_field Try.underlying116 rfl sz114 rfl) ?_
                      refine r_val .none rfl (p_ld (k := 2) Try.underlying114 rfl rfl rfl (by first | exact of_decide_eq_true rfl | omega) rfl) ?_
                      refine r_val .none rfl (p_move rfl) ?_
                      refine r_val .none rfl (p_field Try.underlying163 rfl sz3 rfl) ?_
                      refine r_val .none rfl (p_ld (k := 0) Try.underlying3 rfl rfl rfl (by first | exact of_decide_eq_true rfl | omega) (rfl : _ = Value.int _ _)) ?_
                      refine r_val .none rfl (p_field Try.underlying163 rfl sz3 rfl) ?_
                      refine r_val .none rfl (p_ld (k := 0) Try.underlying3 rfl rfl rfl (by first | exact of_decide_eq_true rfl | omega) (rfl : _ = Value.int _ _)) ?_
                      refine r_val .none rfl (p_build (vs := [(0, Value.int _ _), (1, Value.int _ _), (2, Value.int _ _)]) rfl (bl140_0i1_1i1_2i1 _ _ _)) ?_
                      refine r_bslice (vs := [(0, Value.agg #[_, _, _])]) (c := #[_, _, _]) .none rfl Try.underlying114 el140 rfl rfl rfl (bs140_10a3 _ _ _) (IsRow.lit _) (fun b_12 => ?_)
                      refine r_append (k := 2) (k2 := 0) .none rfl Try.underlying114 el140 rfl (by decide) rfl rfl rfl rfl rfl (one_lit rfl rfl) (by have q0 := testsTo_len l c.h 0; have q1 := testsTo_len l c.h 1; have q2 := testsTo_len l c.h 2; simp only [maxLen]; omega) (by have q0 := testsTo_len l c.h 0; have q1 := testsTo_len l c.h 1; have q2 := testsTo_len l c.h 2; omega) (fun v_62 => ?_)
                      refine r_row1 (k := 2) rfl (fun o_63 => ?_)
                      refine r_val .none rfl (p_field Try.underlying116 rfl sz114 rfl) ?_
                      refine r_st (k := 3) .none sz114 rfl rfl o_63 rfl (by first | exact of_decide_eq_true rfl | omega) ?_
                      refine r_nil ?_
                      refine e_next ?_
                      refine c_exit ?_
                      refine e_exit_then ?_
                      refine e_exit_block ?_
                      refine e_next ?_
                      refine c_region ?_
                      refine r_val .none rfl (p_move rfl) ?_
                      refine r_val .none rfl (p_add rfl rfl (by omega)) ?_
                      refine r_val .none rfl (p_assign rfl) ?_
                      refine r_nil ?_
                      refine e_round ((3, _)) ⟨Nat.le_of_ble_eq_true rfl, Nat.le_of_ble_eq_true rfl⟩ rfl ⟨rfl, rfl, rfl, rfl, rfl, trivial⟩ (.drop (.drop (.keep (fun _ _ h => rowA_snoc (x := (((2 : Nat) : Int), ((bound (nF c.h 2) l 0).getD (0, 0)).1, ((bound (nF c.h 2) l 0).getD (0, 0)).2)) (by show testsTo l c.h (2 + 1) = _; rw [testsTo_succ, T2 (by assumption) (by assumption)]) rfl rfl rfl _ _ h) (.keep (fun _ _ h => box_congr (fun i hi => by match i, hi with | 0, _ => rfl | 1, _ => exact congrArg (Value.int .i64) (key_else (h := c.h) (f := 2) (i := 0) (by decide)).symm | 2, _ => exact congrArg (Value.int .i64) (key_else (h := c.h) (f := 2) (i := 1) (by decide)).symm | 3, _ => exact (by first | exact congrArg (Value.int .i64) (key_set (h := c.h) (f := 2) (by assumption)).symm | exact congrArg (Value.int .i64) ((show keyTo c.h 2 2 = 0 by simp [keyTo]).trans (key_not (h := c.h) (f := 2) (by assumption)).symm)) | 4, _ => rfl | 5, _ => rfl) _ _ h) (.keep (fun _ _ h => h) (.keep (fun _ _ h => h) (.nil)))))))
                      )
                · skip
                  have hb : (bound (nF c.h 2) l 0).isSome = false := h_61
                  first
                    | (exfalso; omega)
                    | (
                      refine c_cond_f rfl ?_
                      refine c_skip ?_
                      refine e_next ?_
                      refine c_seq ?_
                      refine c_region ?_
                      refine r_val .none rfl (p_assign rfl) ?_
                      refine r_nil ?_
                      refine e_next ?_
                      refine c_block ?_
                      refine c_unroll 3 ?_
                      refine l_round (n := 2) ?_
                      refine c_seq ?_
                      refine c_seq ?_
                      refine c_region ?_
                      refine r_val .none rfl (p_move rfl) ?_
                      refine r_val .none rfl (p_move rfl) ?_
                      refine r_val .none rfl (p_lt rfl rfl) ?_
                      refine r_say (d := 88) (v := Value.bool true) rfl ?_
                      refine r_nil ?_
                      refine e_next ?_
                      refine c_cond_t rfl ?_
                      refine c_skip ?_
                      refine e_next ?_
                      refine c_seq ?_
                      refine c_block ?_
                      refine c_seq ?_
                      refine c_region_q mixed (by kernel_rfl) ?_
                      refine q_val .none rfl (p_move rfl) ?_
                      refine q_val .none rfl (p_field Try.underlying102 rfl sz100 rfl) ?_
                      refine q_val .none rfl (p_iaddr (k := 0) Try.underlying100 sz99 rfl rfl (by first | exact of_decide_eq_true rfl | omega)) ?_
                      refine q_val .none rfl (p_lda (k := 4) Try.underlying99 rfl sz99 rfl rfl (by first | exact of_decide_eq_true rfl | omega) (rfl : _ = Value.agg #[_, _])) ?_
                      refine q_val .none rfl (p_move rfl) ?_
                      refine q_val .none rfl (p_field Try.underlying102 rfl sz100 rfl) ?_
                      refine q_val .none rfl (p_iaddr (k := 2) Try.underlying100 sz99 rfl rfl (by first | exact of_decide_eq_true rfl | omega)) ?_
                      refine q_val .none rfl (p_lda (k := 4) Try.underlying99 rfl sz99 rfl rfl (by first | exact of_decide_eq_true rfl | omega) (rfl : _ = Value.agg #[_, _])) ?_
                      refine q_val .none rfl (p_eqa rfl rfl (eq_flat Try.underlying99 rfl lf99 ef99 eg99 (.cons (.int Try.underlying3) (.cons (.int Try.underlying3) (.nil))) (.cons (.int Try.underlying3) (.cons (.int Try.underlying3) (.nil))))) ?_
                      refine q_nil ?_
                      refine e_next ?_
                      refine c_split (d := 99) rfl (fun h_64 => ?_) (fun h_64 => ?_)
                      · skip
                        first | have s0 : sameF c.h 0 2 = true := (same_cs c.h 0 2).symm.trans h_64 | have s1 : sameF c.h 1 2 = true := (same_cs c.h 1 2).symm.trans h_64
                        first
                          | (exfalso; omega)
                          | (
                            refine c_cond_t rfl ?_
                            refine c_seq ?_
                            refine c_region ?_
                            refine r_val .none rfl (p_field Try.underlying116 rfl sz114 rfl) ?_
                            refine r_val .none rfl (p_ld (k := 2) Try.underlying114 rfl rfl rfl (by first | exact of_decide_eq_true rfl | omega) rfl) ?_
                            refine r_val .none rfl (p_move rfl) ?_
                            refine r_val .none rfl (p_move rfl) ?_
                            refine r_val .none rfl (p_build (vs := [(0, Value.int _ _), (1, Value.int _ _), (2, Value.int _ _)]) rfl (bl140_0i1_1i1_2i1 _ _ _)) ?_
                            refine r_bslice (vs := [(0, Value.agg #[_, _, _])]) (c := #[_, _, _]) .none rfl Try.underlying114 el140 rfl rfl rfl (bs140_10a3 _ _ _) (IsRow.lit _) (fun b_13 => ?_)
                            refine r_append (k := 2) (k2 := 0) .none rfl Try.underlying114 el140 rfl (by decide) rfl rfl rfl rfl rfl (one_lit rfl rfl) (by have q0 := testsTo_len l c.h 0; have q1 := testsTo_len l c.h 1; have q2 := testsTo_len l c.h 2; simp only [maxLen]; omega) (by have q0 := testsTo_len l c.h 0; have q1 := testsTo_len l c.h 1; have q2 := testsTo_len l c.h 2; omega) (fun v_65 => ?_)
                            refine r_row1 (k := 2) rfl (fun o_66 => ?_)
                            refine r_val .none rfl (p_field Try.underlying116 rfl sz114 rfl) ?_
                            refine r_st (k := 3) .none sz114 rfl rfl o_66 rfl (by first | exact of_decide_eq_true rfl | omega) ?_
                            refine r_nil ?_
                            refine e_next ?_
                            refine c_exit ?_
                            refine e_exit_past rfl ?_
                            refine e_exit_then ?_
                            refine e_exit_then ?_
                            refine e_exit_block ?_
                            refine e_norm_block ?_
                            refine e_next ?_
                            refine c_region ?_
                            refine r_val .none rfl (p_move rfl) ?_
                            refine r_val .none rfl (p_add rfl rfl (by omega)) ?_
                            refine r_val .none rfl (p_assign rfl) ?_
                            refine r_nil ?_
                            refine e_round ((3, _)) ⟨Nat.le_of_ble_eq_true rfl, Nat.le_of_ble_eq_true rfl⟩ rfl ⟨rfl, rfl, rfl, rfl, rfl, trivial⟩ (.drop (.drop (.keep (fun _ _ h => rowA_snoc (x := (((2 : Nat) : Int), -1, 0)) (by show testsTo l c.h (2 + 1) = _; rw [testsTo_succ, T3 (by assumption) (by assumption) (dup2_0 (by assumption))]) rfl rfl rfl _ _ h) (.keep (fun _ _ h => box_congr (fun i hi => by match i, hi with | 0, _ => rfl | 1, _ => exact congrArg (Value.int .i64) (key_else (h := c.h) (f := 2) (i := 0) (by decide)).symm | 2, _ => exact congrArg (Value.int .i64) (key_else (h := c.h) (f := 2) (i := 1) (by decide)).symm | 3, _ => exact (by first | exact congrArg (Value.int .i64) (key_set (h := c.h) (f := 2) (by assumption)).symm | exact congrArg (Value.int .i64) ((show keyTo c.h 2 2 = 0 by simp [keyTo]).trans (key_not (h := c.h) (f := 2) (by assumption)).symm)) | 4, _ => rfl | 5, _ => rfl) _ _ h) (.keep (fun _ _ h => h) (.keep (fun _ _ h => h) (.nil)))))))
                            )
                      · skip
                        first | have s0 : sameF c.h 0 2 = false := (same_cs c.h 0 2).symm.trans h_64 | have s1 : sameF c.h 1 2 = false := (same_cs c.h 1 2).symm.trans h_64
                        first
                          | (exfalso; omega)
                          | (
                            refine c_cond_f rfl ?_
                            refine c_skip ?_
                            refine e_norm_block ?_
                            refine e_next ?_
                            refine c_region ?_
                            refine r_val .none rfl (p_move rfl) ?_
                            refine r_val .none rfl (p_add rfl rfl (by omega)) ?_
                            refine r_val .none rfl (p_assign rfl) ?_
                            refine r_nil ?_
                            refine e_again ?_
                            refine l_round (n := 1) ?_
                            refine c_seq ?_
                            refine c_seq ?_
                            refine c_region ?_
                            refine r_val .none rfl (p_move rfl) ?_
                            refine r_val .none rfl (p_move rfl) ?_
                            refine r_val .none rfl (p_lt rfl rfl) ?_
                            refine r_say (d := 88) (v := Value.bool true) rfl ?_
                            refine r_nil ?_
                            refine e_next ?_
                            refine c_cond_t rfl ?_
                            refine c_skip ?_
                            refine e_next ?_
                            refine c_seq ?_
                            refine c_block ?_
                            refine c_seq ?_
                            refine c_region_q mixed (by kernel_rfl) ?_
                            refine q_val .none rfl (p_move rfl) ?_
                            refine q_val .none rfl (p_field Try.underlying102 rfl sz100 rfl) ?_
                            refine q_val .none rfl (p_iaddr (k := 1) Try.underlying100 sz99 rfl rfl (by first | exact of_decide_eq_true rfl | omega)) ?_
                            refine q_val .none rfl (p_lda (k := 4) Try.underlying99 rfl sz99 rfl rfl (by first | exact of_decide_eq_true rfl | omega) (rfl : _ = Value.agg #[_, _])) ?_
                            refine q_val .none rfl (p_move rfl) ?_
                            refine q_val .none rfl (p_field Try.underlying102 rfl sz100 rfl) ?_
                            refine q_val .none rfl (p_iaddr (k := 2) Try.underlying100 sz99 rfl rfl (by first | exact of_decide_eq_true rfl | omega)) ?_
                            refine q_val .none rfl (p_lda (k := 4) Try.underlying99 rfl sz99 rfl rfl (by first | exact of_decide_eq_true rfl | omega) (rfl : _ = Value.agg #[_, _])) ?_
                            refine q_val .none rfl (p_eqa rfl rfl (eq_flat Try.underlying99 rfl lf99 ef99 eg99 (.cons (.int Try.underlying3) (.cons (.int Try.underlying3) (.nil))) (.cons (.int Try.underlying3) (.cons (.int Try.underlying3) (.nil))))) ?_
                            refine q_nil ?_
                            refine e_next ?_
                            refine c_split (d := 99) rfl (fun h_67 => ?_) (fun h_67 => ?_)
                            · skip
                              first | have s0 : sameF c.h 0 2 = true := (same_cs c.h 0 2).symm.trans h_67 | have s1 : sameF c.h 1 2 = true := (same_cs c.h 1 2).symm.trans h_67
                              first
                                | (exfalso; omega)
                                | (
                                  refine c_cond_t rfl ?_
                                  refine c_seq ?_
                                  refine c_region ?_
                                  refine r_val .none rfl (p_field Try.underlying116 rfl sz114 rfl) ?_
                                  refine r_val .none rfl (p_ld (k := 2) Try.underlying114 rfl rfl rfl (by first | exact of_decide_eq_true rfl | omega) rfl) ?_
                                  refine r_val .none rfl (p_move rfl) ?_
                                  refine r_val .none rfl (p_move rfl) ?_
                                  refine r_val .none rfl (p_build (vs := [(0, Value.int _ _), (1, Value.int _ _), (2, Value.int _ _)]) rfl (bl140_0i1_1i1_2i1 _ _ _)) ?_
                                  refine r_bslice (vs := [(0, Value.agg #[_, _, _])]) (c := #[_, _, _]) .none rfl Try.underlying114 el140 rfl rfl rfl (bs140_10a3 _ _ _) (IsRow.lit _) (fun b_14 => ?_)
                                  refine r_append (k := 2) (k2 := 0) .none rfl Try.underlying114 el140 rfl (by decide) rfl rfl rfl rfl rfl (one_lit rfl rfl) (by have q0 := testsTo_len l c.h 0; have q1 := testsTo_len l c.h 1; have q2 := testsTo_len l c.h 2; simp only [maxLen]; omega) (by have q0 := testsTo_len l c.h 0; have q1 := testsTo_len l c.h 1; have q2 := testsTo_len l c.h 2; omega) (fun v_68 => ?_)
                                  refine r_row1 (k := 2) rfl (fun o_69 => ?_)
                                  refine r_val .none rfl (p_field Try.underlying116 rfl sz114 rfl) ?_
                                  refine r_st (k := 3) .none sz114 rfl rfl o_69 rfl (by first | exact of_decide_eq_true rfl | omega) ?_
                                  refine r_nil ?_
                                  refine e_next ?_
                                  refine c_exit ?_
                                  refine e_exit_past rfl ?_
                                  refine e_exit_then ?_
                                  refine e_exit_then ?_
                                  refine e_exit_block ?_
                                  refine e_norm_block ?_
                                  refine e_next ?_
                                  refine c_region ?_
                                  refine r_val .none rfl (p_move rfl) ?_
                                  refine r_val .none rfl (p_add rfl rfl (by omega)) ?_
                                  refine r_val .none rfl (p_assign rfl) ?_
                                  refine r_nil ?_
                                  refine e_round ((3, _)) ⟨Nat.le_of_ble_eq_true rfl, Nat.le_of_ble_eq_true rfl⟩ rfl ⟨rfl, rfl, rfl, rfl, rfl, trivial⟩ (.drop (.drop (.keep (fun _ _ h => rowA_snoc (x := (((2 : Nat) : Int), -1, 1)) (by show testsTo l c.h (2 + 1) = _; rw [testsTo_succ, T3 (by assumption) (by assumption) (dup2_1 (by assumption) (by assumption))]) rfl rfl rfl _ _ h) (.keep (fun _ _ h => box_congr (fun i hi => by match i, hi with | 0, _ => rfl | 1, _ => exact congrArg (Value.int .i64) (key_else (h := c.h) (f := 2) (i := 0) (by decide)).symm | 2, _ => exact congrArg (Value.int .i64) (key_else (h := c.h) (f := 2) (i := 1) (by decide)).symm | 3, _ => exact (by first | exact congrArg (Value.int .i64) (key_set (h := c.h) (f := 2) (by assumption)).symm | exact congrArg (Value.int .i64) ((show keyTo c.h 2 2 = 0 by simp [keyTo]).trans (key_not (h := c.h) (f := 2) (by assumption)).symm)) | 4, _ => rfl | 5, _ => rfl) _ _ h) (.keep (fun _ _ h => h) (.keep (fun _ _ h => h) (.nil)))))))
                                  )
                            · skip
                              first | have s0 : sameF c.h 0 2 = false := (same_cs c.h 0 2).symm.trans h_67 | have s1 : sameF c.h 1 2 = false := (same_cs c.h 1 2).symm.trans h_67
                              first
                                | (exfalso; omega)
                                | (
                                  refine c_cond_f rfl ?_
                                  refine c_skip ?_
                                  refine e_norm_block ?_
                                  refine e_next ?_
                                  refine c_region ?_
                                  refine r_val .none rfl (p_move rfl) ?_
                                  refine r_val .none rfl (p_add rfl rfl (by omega)) ?_
                                  refine r_val .none rfl (p_assign rfl) ?_
                                  refine r_nil ?_
                                  refine e_again ?_
                                  refine l_round (n := 0) ?_
                                  refine c_seq ?_
                                  refine c_seq ?_
                                  refine c_region ?_
                                  refine r_val .none rfl (p_move rfl) ?_
                                  refine r_val .none rfl (p_move rfl) ?_
                                  refine r_val .none rfl (p_lt rfl rfl) ?_
                                  refine r_say (d := 88) (v := Value.bool false) rfl ?_
                                  refine r_nil ?_
                                  refine e_next ?_
                                  refine c_cond_f rfl ?_
                                  refine c_exit ?_
                                  refine e_exit_then ?_
                                  refine e_exit_then ?_
                                  refine e_exit_block ?_
                                  refine e_norm_block ?_
                                  refine e_next ?_
                                  refine c_region ?_
                                  refine r_val .none rfl (p_move rfl) ?_
                                  refine r_val .none rfl (p_add rfl rfl (by omega)) ?_
                                  refine r_val .none rfl (p_assign rfl) ?_
                                  refine r_nil ?_
                                  refine e_round ((3, _)) ⟨Nat.le_of_ble_eq_true rfl, Nat.le_of_ble_eq_true rfl⟩ rfl ⟨rfl, rfl, rfl, rfl, rfl, trivial⟩ (.drop (.keep (fun _ _ h => rowA_same (by show testsTo l c.h (2 + 1) = _; rw [testsTo_succ, (by first | exact T1 (by assumption) | exact T4 (by assumption) (by assumption) (dup2_no (by assumption) (by assumption)) : testF l c.h 2 = []), List.append_nil]) _ _ h) (.keep (fun _ _ h => box_congr (fun i hi => by match i, hi with | 0, _ => rfl | 1, _ => exact congrArg (Value.int .i64) (key_else (h := c.h) (f := 2) (i := 0) (by decide)).symm | 2, _ => exact congrArg (Value.int .i64) (key_else (h := c.h) (f := 2) (i := 1) (by decide)).symm | 3, _ => exact (by first | exact congrArg (Value.int .i64) (key_set (h := c.h) (f := 2) (by assumption)).symm | exact congrArg (Value.int .i64) ((show keyTo c.h 2 2 = 0 by simp [keyTo]).trans (key_not (h := c.h) (f := 2) (by assumption)).symm)) | 4, _ => rfl | 5, _ => rfl) _ _ h) (.keep (fun _ _ h => h) (.keep (fun _ _ h => h) (.nil))))))
                                  )
                            )
                      )
                )
        · skip
          refine c_seq ?_
          refine c_seq ?_
          refine c_region ?_
          refine r_val .none rfl (p_move rfl) ?_
          refine r_val .none rfl (p_lt rfl rfl) ?_
          refine r_say (d := 47) (v := Value.bool false) rfl ?_
          refine r_nil ?_
          refine e_next ?_
          refine c_cond_f rfl ?_
          refine c_exit ?_
          refine e_exit_then ?_
          refine e_exit_then ?_
          refine e_exit_block ?_
          refine e_next ?_
          refine c_seq ?_
          refine c_region ?_
          refine r_val .none rfl (p_ldw (k := 1) Try.underlying116 rfl sz116 rfl rfl (rfl : _ = Value.agg #[_, _, _, _, _, _])) ?_
          refine r_stw (k := 2) .none sz116 rfl rfl (IsRow.lit _) (one_lit rfl (all_cons rfl (all_cons rfl (all_cons rfl (all_cons rfl (all_cons ov (all_cons rfl rfl))))))) rfl ?_
          refine r_nil ?_
          refine e_next ?_
          refine c_ret ?_
          refine e_freeze (k := 0) rfl (fun G_70 hn_71 hs_72 => ?_)
          replace hrc := hrc.mono hn_71.le
          replace hp := fun p hm0 => (hp p hm0).mono hn_71.le
          replace hr := hr.mono hn_71.le
          replace hpc := fun p hm0 => (hpc p hm0).mono hn_71.le
          replace hs2 := hs2.mono hn_71.le
          refine e_ret1 Try.results57 (.cell (k := 1) rfl Try.underlying116 rfl sz116 rfl (rfl : _ = Value.agg #[_, _, _, _, _, _]) .nil) (fun w hm => ⟨_, hn_71, hm.has, ?_, hm.since⟩)
          rw [stepOf_other (by omega)]
          exact ⟨_, _, rfl, SlL.of t0 (fun _ => rfl) rfl hs_72, Ss.nil⟩
        )
theorem c_of_n : ∀ n, OfIs n
  | 0 => fun c sv va l G w hz hch hs hs2 hG => absurd hz (by have := size_subs c; omega)
  | n + 1 => fun c sv va l G w hz hch hs hs2 hG => c_of_s n (c_of_n n) c sv va l hz hch hs hs2 w hG
theorem c_of (c : CT) (sv va : Value) (l : List CT) {G : Ghost} (hch : l.length + size c ≤ 1000) (hs : Rs G sv c.subs) (hs2 : Rs G va l) (w : World) (hG : Has G w) : Calls Try.prog 57 #[va, Value.agg #[Value.int .i64 c.h.k, Value.int .i64 (vi c.h.v0), Value.int .i64 c.h.n0, Value.int .i64 (vi c.h.v1), Value.int .i64 c.h.n1, Value.int .i64 (vi c.h.v2), Value.int .i64 c.h.n2, sv]] w (Ret fun r w' => ∃ G', GNew w nX G G' ∧ Has G' w' ∧ (∃ tv uv, r = Value.agg #[Value.int .i64 (stepOf l c).h.k, Value.int .i64 (stepOf l c).h.k0, Value.int .i64 (stepOf l c).h.k1, Value.int .i64 (stepOf l c).h.k2, tv, uv] ∧ SlL G' tv 3 tC t0 (stepOf l c).h.ts ∧ Ss G' uv (stepOf l c).subs) ∧ Since nX w w') := c_of_n _ c sv va l G w (Nat.le_refl _) hch hs hs2 hG
end Go.Proofs.Ytpadfgomhojjnaa

/- Walks: what Go functions of this chapter come to, each as a function on plain data; no condition but those that each theorem names. Printed by a program of this work (gen.py). -/
namespace Go.Proofs.Ytpadfgomhojjnaa
open Go.Gx Go.Gx.T3 Go.Gx.T4 Go.Gx.T3 Go.Gx.T8 Go.Gx.T4 Go.Gx.T3
theorem sz140 : SzIs Try.prog 140 3 := by
  unfold SzIs
  kernel_rfl
theorem zr140 : ZeroIs Try.prog 140 (Value.agg #[Value.int .i64 0, Value.int .i64 0, Value.int .i64 0]) := by
  unfold ZeroIs
  kernel_rfl
theorem cl35 : Callable Try.prog 35 := callable Try.func35 (by kernel_rfl) rfl
theorem bl109_0i1_1a3_3s3 (x0 : Int) (x1 : Value) (x2 : Value) (x3 : Value) (x4 : Option Addr) (x5 : Nat) (x6 : Nat) : Program.built Try.prog 109 [(0, Value.int .i64 x0), (1, Value.agg #[x1, x2, x3]), (3, Value.slice x4 x5 x6)] = some #[Value.int .i64 x0, x1, x2, x3, Value.slice none 0 0, Value.slice x4 x5 x6] := by
  kernel_rfl
theorem bl141_0i1_1i1_2i1 (x0 : Int) (x1 : Int) (x2 : Int) : Program.built Try.prog 141 [(0, Value.int .i64 x0), (1, Value.int .i64 x1), (2, Value.int .i64 x2)] = some #[Value.int .i64 x0, Value.int .i64 x1, Value.int .i64 x2] := by
  kernel_rfl
theorem bs109_10a6 (a0 a1 a2 a3 a4 a5 : Value) : Instr.fill (fun i => some (i * 6, 6)) ((Array.range (1 * 6)).map ((Value.agg #[Value.int .i64 0, Value.int .i64 0, Value.int .i64 0, Value.int .i64 0, Value.slice none 0 0, Value.slice none 0 0]).cells[· % (Value.agg #[Value.int .i64 0, Value.int .i64 0, Value.int .i64 0, Value.int .i64 0, Value.slice none 0 0, Value.slice none 0 0]).cells.size]!)) [(0, Value.agg #[a0, a1, a2, a3, a4, a5])] = some #[a0, a1, a2, a3, a4, a5] := by
  kernel_rfl
theorem bs141_10a3 (a0 a1 a2 : Value) : Instr.fill (fun i => some (i * 3, 3)) ((Array.range (1 * 3)).map ((Value.agg #[Value.int .i64 0, Value.int .i64 0, Value.int .i64 0]).cells[· % (Value.agg #[Value.int .i64 0, Value.int .i64 0, Value.int .i64 0]).cells.size]!)) [(0, Value.agg #[a0, a1, a2])] = some #[a0, a1, a2] := by
  kernel_rfl
theorem el109 : ElemIs Try.prog 109 6 80 (Value.agg #[Value.int .i64 0, Value.int .i64 0, Value.int .i64 0, Value.int .i64 0, Value.slice none 0 0, Value.slice none 0 0]) := by
  unfold ElemIs
  kernel_rfl
theorem el141 : ElemIs Try.prog 141 3 24 (Value.agg #[Value.int .i64 0, Value.int .i64 0, Value.int .i64 0]) := by
  unfold ElemIs
  kernel_rfl
def StepsIs (n : Nat) : Prop := ∀ (v : Value) (l : List ST) (G : Ghost) (w : World), SizeOf.sizeOf l ≤ n → sszL l ≤ 5000 → Ss G v l → Has G w → Calls Try.prog 35 #[v] w (Ret fun r w' => ∃ G', GNew w nX G G' ∧ Has G' w' ∧ Ss G' r l ∧ Since nX w w')
theorem c_compile (v : Value) (l : List CT) {G : Ghost} (hsz : sizeL l ≤ 1000) (hs : Rs G v l) (w : World) (hG : Has G w) :
    Calls Try.prog 36 #[v] w (Ret fun r w' => ∃ G', GNew w nX G G' ∧ Has G' w' ∧ Ss G' r (stepsOf [] l) ∧ Since nX w w') := by
  refine enter (args := [_]) (X := nX) (G := G) (l := [(0, v)]) Try.func36 rfl Try.ntmps36 hG ⟨rfl, trivial⟩ (Nat.le_of_ble_eq_true rfl) ?_
  obtain ⟨rs, hr, hp, rfl⟩ := hs.inv
  have hbd := hr.bound
  have hll := sizeL_len (rs.map Prod.fst)
  rw [List.length_map] at hll
  refine c_seq ?_
  refine c_region ?_
  refine r_val .none rfl (p_assign rfl) ?_
  refine r_nil ?_
  refine e_next ?_
  refine c_seq ?_
  refine c_region ?_
  refine r_val .none rfl (p_assign rfl) ?_
  refine r_nil ?_
  refine e_next ?_
  refine c_seq ?_
  refine c_seq ?_
  refine c_region ?_
  refine r_val .none rfl (p_move rfl) ?_
  refine r_val .none rfl (p_leng Try.underlying75 rfl hr) ?_
  have bd_1 := (hr).bound
  refine r_val .none rfl (p_move rfl) ?_
  refine r_nil ?_
  refine e_next ?_
  refine c_block ?_
  refine c_nilrow 116 6 ?_
  refine c_name (d := 0) rfl (fun u_2 hu_2 => ?_)
  refine c_name (d := 2) rfl (fun u_3 hu_3 => ?_)
  refine c_name (d := 6) rfl (fun u_4 hu_4 => ?_)
  refine c_name (d := 7) rfl (fun u_5 hu_5 => ?_)
  refine c_loop (σ := Nat × Value × List SVal × Ghost) (fun s => [(8, Value.int .i64 (s.1 : Nat)), (3, s.2.1), (0, u_2), (2, u_3), (6, u_4), (7, u_5)]) (fun s => [rowA (s.2.1) 116 6 (s.2.2.1).length ((s.2.2.1).flatMap sC)]) (fun s => s.2.2.2) (fun s => s.1 ≤ rs.length ∧ s.2.2.1.map Prod.fst = stepsOf [] ((rs.map Prod.fst).take s.1) ∧ (∀ p ∈ s.2.2.1, SlL s.2.2.2 p.2.1 3 tC t0 p.1.h.ts) ∧ (∀ p ∈ s.2.2.1, Ss s.2.2.2 p.2.2 p.1.subs) ∧ GNew w nX G s.2.2.2) (fun s => rs.length - s.1) ((0, _, [], _)) ⟨Nat.zero_le _, rfl, by simp, by simp, GNew.refl _ _ _⟩ rfl ⟨rfl, rfl, rfl, rfl, rfl, rfl, trivial⟩ (.keep (fun _ _ h => rowA_nil rfl _ _ h) (.nil)) (fun s hphi => ?_)
  subst hu_2
  subst hu_3
  subst hu_4
  subst hu_5
  obtain ⟨k, v, qs, H⟩ := s
  obtain ⟨hk, hq, hqt, hqs, hgn⟩ := hphi
  dsimp only at hk hq hqt hqs hgn ⊢
  have hql : qs.length ≤ k := (by have := congrArg List.length hq; rw [stepsOf_len] at this; simp at this; omega)
  replace hr := hr.mono hgn.le
  replace hp := fun p hm0 => (hp p hm0).mono hgn.le
  refine c_seq ?_
  refine c_region ?_
  refine r_val .none rfl (p_lt rfl rfl) ?_
  refine r_nil ?_
  refine e_next ?_
  refine c_seq ?_
  refine c_splitd (d := 9) rfl (fun h_6 => ?_) (fun h_6 => ?_)
  · skip
    first
      | (exfalso; omega)
      | (
        refine c_cond_t rfl ?_
        refine c_skip ?_
        refine e_next ?_
        refine c_seq ?_
        refine c_block ?_
        refine c_seq ?_
        refine c_region ?_
        refine r_val .none rfl (p_move rfl) ?_
        refine r_iaddr_g .none rfl Try.underlying75 sz102 rfl hr rfl (by first | exact of_decide_eq_true rfl | omega) (fun p_8 o_9 R_7 => ?_)
        have hc_10 := hp _ (getD_mem (i := k) (d := d0) (by omega))
        have hz6 : ((rs.map Prod.fst).take k).length + size (rs.getD k d0).1 ≤ 1000 := by have h1 := sizeL_take (rs := rs) (k := k) (by omega); have h2 := sizeL_take_le (rs.map Prod.fst) (k + 1); have h3 := sizeL_len ((rs.map Prod.fst).take k); omega
        refine r_val .none rfl (p_ldga0 Try.underlying102 rfl sz102 rfl R_7 (by first | exact of_decide_eq_true rfl | omega) (rfl : _ = Value.agg #[_, _, _, _, _, _, _, _])) ?_
        refine r_alloc .none rfl zr102 (IsRow.lit _) (fun b_1 => ?_)
        refine r_val .none rfl (p_assign rfl) ?_
        refine r_stw (k := 0) .none sz102 rfl rfl (IsRow.lit _) (one_lit rfl (all_cons rfl (all_cons rfl (all_cons rfl (all_cons rfl (all_cons rfl (all_cons rfl (all_cons rfl (all_cons (hc_10).one rfl))))))))) rfl ?_
        refine r_nil ?_
        refine e_next ?_
        refine c_region_d (fun _ => false) _ mixed (.keep (fun _ _ h => h) (.drop (.nil))) ?_
        refine d_val1 0 rfl rfl (by kernel_rfl) (fun _ _ => rfl) .none rfl (p_move rfl) ?_
        refine d_val1 1 rfl rfl (by kernel_rfl) (fun _ _ => rfl) .none rfl (p_move rfl) ?_
        refine d_val1 2 rfl rfl (by kernel_rfl) (fun _ _ => rfl) .none rfl (p_move rfl) ?_
        refine d_slice0 3 k rfl rfl (by kernel_rfl) (fun _ _ => rfl) .none rfl Try.underlying75 sz102 rfl hr rfl (by first | exact of_decide_eq_true rfl | omega) (fun v_11 hs_12 => ?_)
        have hT_14 := Tr.take2 (by omega) hs_12 hp
        refine d_val1 4 rfl rfl (by kernel_rfl) (fun _ _ => rfl) .none rfl (p_ldw (k := 0) Try.underlying102 rfl sz102 rfl rfl (rfl : _ = Value.agg #[_, _, _, _, _, _, _, _])) ?_
        refine d_eff 5 rfl (by kernel_rfl) (fun K_15 hKK_15 hcK_15 => ?_)
        refine r_callm (vs := [_, _]) .none rfl cl57 rfl (fun w hw => c_of (rs.getD k d0).1 _ _ _ hz6 hc_10 hT_14 w hw) (fun G_16 v_19 hn_17 hr_18 => ?_)
        replace hr := hr.mono hn_17.le
        replace hp := fun p hm0 => (hp p hm0).mono hn_17.le
        replace hqt := fun p hm0 => (hqt p hm0).mono hn_17.le
        replace hqs := fun p hm0 => (hqs p hm0).mono hn_17.le
        replace R_7 := R_7.mono hn_17.le
        replace hc_10 := hc_10.mono hn_17.le
        replace hs_12 := hs_12.mono hn_17.le
        replace hT_14 := hT_14.mono hn_17.le
        obtain ⟨u_20a, u_20b, rfl, u_20s, u_20t⟩ := hr_18
        refine r_nil (e_d (i := 5) (brk := (fun _ => false)) (ph' := true) hKK_15 hcK_15 rfl (fun _ => hn_17.le) (fun _ => .keep (fun _ _ h => h) (.drop (.nil))) ?_)
        clear hKK_15 hcK_15 K_15
        refine d_eff 6 rfl (by kernel_rfl) (fun K_21 hKK_21 hcK_21 => ?_)
        refine r_bslice (vs := [(0, Value.agg #[_, _, _, _, _, _])]) (c := #[_, _, _, _, _, _]) .none rfl Try.underlying83 el116 rfl rfl rfl (bs116_10a6 _ _ _ _ _ _) (IsRow.lit _) (fun b_2 => ?_)
        refine r_nil (e_d (i := 6) (brk := (fun _ => false)) (ph' := true) hKK_21 hcK_21 rfl (fun _ => hn_17.le) (fun _ => .drop (.keep (fun _ _ h => h) (.drop (.nil)))) ?_)
        clear hKK_21 hcK_21 K_21
        refine d_eff 7 rfl (by kernel_rfl) (fun K_22 hKK_22 hcK_22 => ?_)
        refine r_append (k := 2) (k2 := 0) .none rfl Try.underlying83 el116 rfl (by decide) rfl rfl rfl rfl rfl (one_lit rfl (all_cons rfl (all_cons rfl (all_cons rfl (all_cons rfl (all_cons (u_20s).one (all_cons (u_20t).one rfl))))))) (by simp only [maxLen]; omega) (by omega) (fun v_23 => ?_)
        refine r_row1 (k := 2) rfl (fun o_24 => ?_)
        refine r_nil (e_d (i := 7) (brk := (fun _ => false)) (ph' := true) hKK_22 hcK_22 rfl (fun _ => hn_17.le) (fun _ => .drop (.keep (fun _ _ h => h) (.drop (.nil)))) ?_)
        clear hKK_22 hcK_22 K_22
        refine d_val1 8 rfl rfl (by kernel_rfl) (fun _ _ => rfl) .none rfl (p_assign rfl) ?_
        refine d_nil (by kernel_rfl) ?_
        refine e_norm_block ?_
        refine e_next ?_
        refine c_region ?_
        refine r_val .none rfl (p_add rfl rfl (by omega)) ?_
        refine r_val .none rfl (p_move rfl) ?_
        refine r_nil ?_
        refine e_round ((k + 1, _, qs ++ [(stepOf ((rs.map Prod.fst).take k) (rs.getD k d0).1, u_20a, u_20b)], _)) ⟨⟨by dsimp only; omega, by rw [stepsOf_take (by omega), List.map_append, hq, List.nil_append]; rfl, (fun p hp' => by rcases List.mem_append.1 hp' with h | h; exact hqt p h; rw [List.mem_singleton.1 h]; exact u_20s), (fun p hp' => by rcases List.mem_append.1 hp' with h | h; exact hqs p h; rw [List.mem_singleton.1 h]; exact u_20t), (hgn.trans hn_17)⟩, by dsimp only; omega⟩ rfl ⟨rfl, rfl, rfl, rfl, rfl, rfl, trivial⟩ (.drop (.drop (.keep (fun _ _ h => rowA_snoc (l := qs) (x := (stepOf ((rs.map Prod.fst).take k) (rs.getD k d0).1, u_20a, u_20b)) rfl rfl rfl rfl _ _ h) (.nil))))
        )
  · skip
    first
      | (exfalso; omega)
      | (
        refine c_cond_f rfl ?_
        refine c_exit ?_
        refine e_exit_then ?_
        refine e_exit_then ?_
        refine e_exit_block ?_
        refine e_next ?_
        refine c_seq ?_
        refine c_region ?_
        refine r_val .none rfl (p_move rfl) ?_
        refine r_val .none rfl (p_assign rfl) ?_
        refine r_nil ?_
        refine e_next ?_
        refine c_ret ?_
        refine e_freeze (k := 0) rfl (fun G_25 hn_26 hs_27 => ?_)
        replace hr := hr.mono hn_26.le
        replace hp := fun p hm0 => (hp p hm0).mono hn_26.le
        replace hqt := fun p hm0 => (hqt p hm0).mono hn_26.le
        replace hqs := fun p hm0 => (hqs p hm0).mono hn_26.le
        refine e_ret1 Try.results36 (.tmp rfl .nil) (fun w hm => ⟨_, (hgn.trans hn_26), hm.has, ?_, hm.since⟩)
        rw [show stepsOf [] (rs.map Prod.fst) = qs.map Prod.fst by rw [hq, List.take_of_length_le (by simp; omega)]]
        exact Ss.mk qs (SlL.of s0 (fun _ => rfl) rfl hs_27) hqt hqs
        )
theorem c_steps_s (n : Nat) (ih : StepsIs n) (v : Value) (l : List ST) {G : Ghost} (hz : SizeOf.sizeOf l ≤ n + 1) (hsz : sszL l ≤ 5000) (hs : Ss G v l) (w : World) (hG : Has G w) :
    Calls Try.prog 35 #[v] w (Ret fun r w' => ∃ G', GNew w nX G G' ∧ Has G' w' ∧ Ss G' r l ∧ Since nX w w') := by
  refine enter (args := [_]) (X := nX) (G := G) (l := [(0, v)]) Try.func35 rfl Try.ntmps35 hG ⟨rfl, trivial⟩ (Nat.le_of_ble_eq_true rfl) ?_
  obtain ⟨rs, hr, hrt, hp, hl⟩ := hs.inv
  have hbd := hr.bound
  have hll := sszL_len l
  have hlr : l.length = rs.length := by rw [hl]; simp
  refine c_seq ?_
  refine c_region ?_
  refine r_val .none rfl (p_assign rfl) ?_
  refine r_nil ?_
  refine e_next ?_
  refine c_seq ?_
  refine c_region ?_
  refine r_val .none rfl (p_assign rfl) ?_
  refine r_nil ?_
  refine e_next ?_
  refine c_seq ?_
  refine c_seq ?_
  refine c_region ?_
  refine r_val .none rfl (p_move rfl) ?_
  refine r_val .none rfl (p_leng Try.underlying83 rfl hr) ?_
  have bd_1 := (hr).bound
  refine r_val .none rfl (p_move rfl) ?_
  refine r_nil ?_
  refine e_next ?_
  refine c_block ?_
  refine c_nilrow 109 6 ?_
  refine c_name (d := 2) rfl (fun u_2 hu_2 => ?_)
  refine c_name (d := 9) rfl (fun u_3 hu_3 => ?_)
  refine c_name (d := 10) rfl (fun u_4 hu_4 => ?_)
  refine c_loop (σ := Nat × Value × List SVal × Ghost) (fun s => [(11, Value.int .i64 (s.1 : Nat)), (3, s.2.1), (2, u_2), (9, u_3), (10, u_4)]) (fun s => [rowA (s.2.1) 109 6 (s.2.2.1).length ((s.2.2.1).flatMap sC)]) (fun s => s.2.2.2) (fun s => s.1 ≤ rs.length ∧ s.2.2.1.map Prod.fst = (rs.map Prod.fst).take s.1 ∧ (∀ p ∈ s.2.2.1, SlL s.2.2.2 p.2.1 3 tC t0 p.1.h.ts) ∧ (∀ p ∈ s.2.2.1, Ss s.2.2.2 p.2.2 p.1.subs) ∧ GNew w nX G s.2.2.2) (fun s => rs.length - s.1) ((0, _, [], _)) ⟨Nat.zero_le _, rfl, by simp, by simp, GNew.refl _ _ _⟩ rfl ⟨rfl, rfl, rfl, rfl, rfl, trivial⟩ (.keep (fun _ _ h => rowA_nil rfl _ _ h) (.nil)) (fun s hphi => ?_)
  subst hu_2
  subst hu_3
  subst hu_4
  obtain ⟨k, v, qs, H⟩ := s
  obtain ⟨hk, hq, hqt, hqs, hgn⟩ := hphi
  dsimp only at hk hq hqt hqs hgn ⊢
  have hql : qs.length ≤ k := (by have := congrArg List.length hq; simp at this; omega)
  replace hr := hr.mono hgn.le
  replace hrt := fun p hm0 => (hrt p hm0).mono hgn.le
  replace hp := fun p hm0 => (hp p hm0).mono hgn.le
  refine c_seq ?_
  refine c_region ?_
  refine r_val .none rfl (p_lt rfl rfl) ?_
  refine r_nil ?_
  refine e_next ?_
  refine c_seq ?_
  refine c_splitd (d := 12) rfl (fun h_5 => ?_) (fun h_5 => ?_)
  · skip
    first
      | (exfalso; omega)
      | (
        refine c_cond_t rfl ?_
        refine c_skip ?_
        refine e_next ?_
        refine c_seq ?_
        refine c_block ?_
        refine c_seq ?_
        refine c_region ?_
        refine r_iaddr_g .none rfl Try.underlying83 sz116 rfl hr rfl (by first | exact of_decide_eq_true rfl | omega) (fun p_7 o_8 R_6 => ?_)
        have ht_9 := hrt _ (getD_mem (i := k) (d := s0) (by omega))
        have hc_10 := hp _ (getD_mem (i := k) (d := s0) (by omega))
        have hz7 := Nat.le_trans (sszL_mem (by rw [hl]; exact sv_mem (k := k) (by omega))) hsz
        rw [ssz_eq] at hz7
        refine r_val .none rfl (p_ldga0 Try.underlying116 rfl sz116 rfl R_6 (by first | exact of_decide_eq_true rfl | omega) (rfl : _ = Value.agg #[_, _, _, _, _, _])) ?_
        refine r_alloc .none rfl zr116 (IsRow.lit _) (fun b_1 => ?_)
        refine r_stw (k := 0) .none sz116 rfl rfl (IsRow.lit _) (one_lit rfl (all_cons rfl (all_cons rfl (all_cons rfl (all_cons rfl (all_cons (ht_9).one (all_cons (hc_10).one rfl))))))) rfl ?_
        refine r_nil ?_
        refine e_next ?_
        refine c_seq ?_
        refine c_region_d (fun _ => false) _ mixed (.keep (fun _ _ h => h) (.keep (fun _ _ h => h) (.nil))) ?_
        refine d_val1 0 rfl rfl (by kernel_rfl) (fun _ _ => rfl) .none rfl (p_field Try.underlying116 rfl sz3 rfl) ?_
        refine d_val1 1 rfl rfl (by kernel_rfl) (fun _ _ => rfl) .none rfl (p_ld (k := 0) Try.underlying3 rfl rfl rfl (by first | exact of_decide_eq_true rfl | omega) (rfl : _ = Value.int _ _)) ?_
        refine d_val1 2 rfl rfl (by kernel_rfl) (fun _ _ => rfl) .none rfl (p_field Try.underlying116 rfl sz105 rfl) ?_
        refine d_val1 3 rfl rfl (by kernel_rfl) (fun _ _ => rfl) .none rfl (p_lda (k := 0) Try.underlying105 rfl sz105 rfl rfl (by first | exact of_decide_eq_true rfl | omega) (rfl : _ = Value.agg #[_, _, _])) ?_
        refine d_val1 4 rfl rfl (by kernel_rfl) (fun _ _ => rfl) .none rfl (p_field Try.underlying116 rfl sz83 rfl) ?_
        refine d_val1 5 rfl rfl (by kernel_rfl) (fun _ _ => rfl) .none rfl (p_ld (k := 0) Try.underlying83 rfl rfl rfl (by first | exact of_decide_eq_true rfl | omega) rfl) ?_
        refine d_eff2 6 8 rfl rfl (by kernel_rfl) (fun K_11 hKK_11 hcK_11 => ?_) (fun K_11 hKK_11 hcK_11 => ?_)
        · skip
          refine r_callm (vs := [_]) .none rfl cl35 rfl (fun w hw => ih _ _ _ w (sv_at hl (by omega) hz) (by omega) hc_10 hw) (fun G_12 v_15 hn_13 hr_14 => ?_)
          replace hr := hr.mono hn_13.le
          replace hrt := fun p hm0 => (hrt p hm0).mono hn_13.le
          replace hp := fun p hm0 => (hp p hm0).mono hn_13.le
          replace hqt := fun p hm0 => (hqt p hm0).mono hn_13.le
          replace hqs := fun p hm0 => (hqs p hm0).mono hn_13.le
          replace R_6 := R_6.mono hn_13.le
          replace ht_9 := ht_9.mono hn_13.le
          replace hc_10 := hc_10.mono hn_13.le
          have u_16 := hr_14
          refine r_nil (e_d (i := 6) (brk := (fun _ => false)) (ph' := true) hKK_11 hcK_11 rfl (fun _ => hn_13.le) (fun _ => .keep (fun _ _ h => h) (.keep (fun _ _ h => h) (.nil))) ?_)
          clear hKK_11 hcK_11 K_11
          obtain ⟨a_17, c_18, rfl⟩ := Ss.len u_16
          refine d_val1 7 rfl rfl (by kernel_rfl) (fun _ _ => rfl) .none rfl (p_build (vs := [(0, Value.int _ _), (1, Value.agg #[_, _, _]), (3, Value.slice _ _ _)]) rfl (bl109_0i1_1a3_3s3 _ _ _ _ _ _ _)) ?_
          refine d_eff 8 rfl (by kernel_rfl) (fun K_19 hKK_19 hcK_19 => ?_)
          refine r_alloc .none rfl zr109 (IsRow.lit _) (fun b_2 => ?_)
          refine r_nil (e_d (i := 8) (brk := (fun _ => false)) (ph' := true) hKK_19 hcK_19 rfl (fun _ => hn_13.le) (fun _ => .drop (.keep (fun _ _ h => h) (.keep (fun _ _ h => h) (.nil)))) ?_)
          clear hKK_19 hcK_19 K_19
          refine d_eff 9 rfl (by kernel_rfl) (fun K_20 hKK_20 hcK_20 => ?_)
          refine r_stw (k := 0) .none sz109 rfl rfl (IsRow.lit _) (one_lit rfl (all_cons rfl (all_cons rfl (all_cons rfl (all_cons rfl (all_cons rfl (all_cons (u_16).one rfl))))))) rfl ?_
          refine r_nil (e_d (i := 9) (brk := (fun _ => false)) (ph' := true) hKK_20 hcK_20 rfl (fun _ => hn_13.le) (fun _ => .drop (.keep (fun _ _ h => h) (.keep (fun _ _ h => h) (.nil)))) ?_)
          clear hKK_20 hcK_20 K_20
          refine d_nil (by kernel_rfl) ?_
          refine e_next ?_
          refine c_seq ?_
          refine c_seq ?_
          refine c_region ?_
          refine r_val .none rfl (p_field Try.underlying116 rfl sz114 rfl) ?_
          refine r_val .none rfl (p_ld (k := 1) Try.underlying114 rfl rfl rfl (by first | exact of_decide_eq_true rfl | omega) rfl) ?_
          refine r_val .none rfl (p_leng Try.underlying114 rfl ht_9) ?_
          have bd_21 := (ht_9).bound
          refine r_val .none rfl (p_move rfl) ?_
          refine r_nil ?_
          refine e_next ?_
          refine c_block ?_
          refine c_nilrow 141 3 ?_
          refine c_name (d := 2) rfl (fun u_22 hu_22 => ?_)
          refine c_name (d := 3) rfl (fun u_23 hu_23 => ?_)
          refine c_name (d := 5) rfl (fun u_24 hu_24 => ?_)
          refine c_name (d := 6) rfl (fun u_25 hu_25 => ?_)
          refine c_name (d := 9) rfl (fun u_26 hu_26 => ?_)
          refine c_name (d := 10) rfl (fun u_27 hu_27 => ?_)
          refine c_name (d := 11) rfl (fun u_28 hu_28 => ?_)
          refine c_name (d := 12) rfl (fun u_29 hu_29 => ?_)
          refine c_name (d := 13) rfl (fun u_30 hu_30 => ?_)
          refine c_name (d := 14) rfl (fun u_31 hu_31 => ?_)
          refine c_name (d := 15) rfl (fun u_32 hu_32 => ?_)
          refine c_name (d := 16) rfl (fun u_33 hu_33 => ?_)
          refine c_name (d := 17) rfl (fun u_34 hu_34 => ?_)
          refine c_name (d := 18) rfl (fun u_35 hu_35 => ?_)
          refine c_name (d := 19) rfl (fun u_36 hu_36 => ?_)
          refine c_name (d := 20) rfl (fun u_37 hu_37 => ?_)
          refine c_name (d := 21) rfl (fun u_38 hu_38 => ?_)
          refine c_name (d := 22) rfl (fun u_39 hu_39 => ?_)
          refine c_name (d := 23) rfl (fun u_40 hu_40 => ?_)
          refine c_name (d := 24) rfl (fun u_41 hu_41 => ?_)
          refine c_name (d := 25) rfl (fun u_42 hu_42 => ?_)
          refine c_nameL (k := 2) rfl (fun A_43 hA_43 => ?_)
          refine c_nameL (k := 3) rfl (fun A_44 hA_44 => ?_)
          refine c_loop (σ := Nat × Value) (fun s => [(26, Value.int .i64 (s.1 : Nat)), (2, u_22), (3, u_23), (5, u_24), (6, u_25), (9, u_26), (10, u_27), (11, u_28), (12, u_29), (13, u_30), (14, u_31), (15, u_32), (16, u_33), (17, u_34), (18, u_35), (19, u_36), (20, u_37), (21, u_38), (22, u_39), (23, u_40), (24, u_41), (25, u_42)]) (fun s => [rowA (s.2) 141 3 (((rs.getD k s0).1.h.ts.take s.1)).length ((((rs.getD k s0).1.h.ts.take s.1)).flatMap tC), box b_2 6 109 (at_ [.int .i64 (rs.getD k s0).1.h.k, .int .i64 (rs.getD k s0).1.h.k0, .int .i64 (rs.getD k s0).1.h.k1, .int .i64 (rs.getD k s0).1.h.k2, s.2, (.slice a_17 (rs.getD k s0).1.subs.length c_18)]), A_43, A_44]) (fun _ => _) (fun s => s.1 ≤ (rs.getD k s0).1.h.ts.length) (fun s => (rs.getD k s0).1.h.ts.length - s.1) ((0, _)) (Nat.zero_le _) rfl ⟨rfl, rfl, rfl, rfl, rfl, rfl, rfl, rfl, rfl, rfl, rfl, rfl, rfl, rfl, rfl, rfl, rfl, rfl, rfl, rfl, rfl, rfl, trivial⟩ (.keep (fun _ _ h => rowA_nil rfl _ _ h) (.keep (fun _ _ h => box_congr (fun i hi => by match i, hi with | 0, _ => rfl | 1, _ => rfl | 2, _ => rfl | 3, _ => rfl | 4, _ => rfl | 5, _ => rfl) _ _ h) (.keep (fun _ _ h => h) (.keep (fun _ _ h => h) (.nil))))) (fun s hphi => ?_)
          subst hu_22
          subst hu_23
          subst hu_24
          subst hu_25
          subst hu_26
          subst hu_27
          subst hu_28
          subst hu_29
          subst hu_30
          subst hu_31
          subst hu_32
          subst hu_33
          subst hu_34
          subst hu_35
          subst hu_36
          subst hu_37
          subst hu_38
          subst hu_39
          subst hu_40
          subst hu_41
          subst hu_42
          subst hA_43
          subst hA_44
          obtain ⟨j, u⟩ := s
          dsimp only at hphi ⊢
          refine c_row1 (k := 0) rfl (fun ov => ?_)
          refine c_rowlen (k := 0) rfl (fun l63 => ?_)
          refine c_seq ?_
          refine c_region ?_
          refine r_val .none rfl (p_lt rfl rfl) ?_
          refine r_nil ?_
          refine e_next ?_
          refine c_seq ?_
          refine c_splitd (d := 27) rfl (fun h_45 => ?_) (fun h_45 => ?_)
          · skip
            first
              | (exfalso; omega)
              | (
                refine c_cond_t rfl ?_
                refine c_skip ?_
                refine e_next ?_
                refine c_seq ?_
                refine c_block ?_
                refine c_seq ?_
                refine c_region ?_
                refine r_iaddr_g .none rfl Try.underlying114 sz140 rfl ht_9 rfl (by first | exact of_decide_eq_true rfl | omega) (fun p_47 o_48 R_46 => ?_)
                refine r_val .none rfl (p_ldga0 Try.underlying140 rfl sz140 rfl R_46 (by first | exact of_decide_eq_true rfl | omega) (rfl : _ = Value.agg #[_, _, _])) ?_
                refine r_alloc .none rfl zr140 (IsRow.lit _) (fun b_3 => ?_)
                refine r_stw (k := 0) .none sz140 rfl rfl (IsRow.lit _) (one_lit rfl rfl) rfl ?_
                refine r_nil ?_
                refine e_next ?_
                refine c_region ?_
                refine r_val .none rfl (p_field Try.underlying109 rfl sz107 rfl) ?_
                refine r_val .none rfl (p_ld (k := 2) Try.underlying107 rfl rfl rfl (by first | exact of_decide_eq_true rfl | omega) rfl) ?_
                refine r_val .none rfl (p_field Try.underlying140 rfl sz3 rfl) ?_
                refine r_val .none rfl (p_ld (k := 0) Try.underlying3 rfl rfl rfl (by first | exact of_decide_eq_true rfl | omega) (rfl : _ = Value.int _ _)) ?_
                refine r_val .none rfl (p_field Try.underlying140 rfl sz3 rfl) ?_
                refine r_val .none rfl (p_ld (k := 0) Try.underlying3 rfl rfl rfl (by first | exact of_decide_eq_true rfl | omega) (rfl : _ = Value.int _ _)) ?_
                refine r_val .none rfl (p_field Try.underlying140 rfl sz3 rfl) ?_
                refine r_val .none rfl (p_ld (k := 0) Try.underlying3 rfl rfl rfl (by first | exact of_decide_eq_true rfl | omega) (rfl : _ = Value.int _ _)) ?_
                refine r_val .none rfl (p_build (vs := [(0, Value.int _ _), (1, Value.int _ _), (2, Value.int _ _)]) rfl (bl141_0i1_1i1_2i1 _ _ _)) ?_
                refine r_bslice (vs := [(0, Value.agg #[_, _, _])]) (c := #[_, _, _]) .none rfl Try.underlying107 el141 rfl rfl rfl (bs141_10a3 _ _ _) (IsRow.lit _) (fun b_4 => ?_)
                refine r_append (k := 2) (k2 := 0) .none rfl Try.underlying107 el141 rfl (by decide) rfl rfl rfl rfl rfl (one_lit rfl rfl) (by rw [List.length_take]; simp only [maxLen]; omega) (by rw [List.length_take]; omega) (fun v_49 => ?_)
                refine r_row1 (k := 2) rfl (fun o_50 => ?_)
                refine r_val .none rfl (p_field Try.underlying109 rfl sz107 rfl) ?_
                refine r_st (k := 3) .none sz107 rfl rfl o_50 rfl (by first | exact of_decide_eq_true rfl | omega) ?_
                refine r_nil ?_
                refine e_norm_block ?_
                refine e_next ?_
                refine c_region ?_
                refine r_val .none rfl (p_add rfl rfl (by omega)) ?_
                refine r_val .none rfl (p_move rfl) ?_
                refine r_nil ?_
                refine e_round ((j + 1, _)) ⟨by dsimp only; omega, by dsimp only; omega⟩ rfl ⟨rfl, rfl, rfl, rfl, rfl, rfl, rfl, rfl, rfl, rfl, rfl, rfl, rfl, rfl, rfl, rfl, rfl, rfl, rfl, rfl, rfl, rfl, trivial⟩ (.drop (.drop (.keep (fun _ _ h => rowA_snoc (ts_next (by omega)) rfl rfl rfl _ _ h) (.keep (fun _ _ h => box_congr (fun i hi => by match i, hi with | 0, _ => rfl | 1, _ => rfl | 2, _ => rfl | 3, _ => rfl | 4, _ => rfl | 5, _ => rfl) _ _ h) (.keep (fun _ _ h => h) (.keep (fun _ _ h => h) (.nil)))))))
                )
          · skip
            first
              | (exfalso; omega)
              | (
                refine c_cond_f rfl ?_
                refine c_exit ?_
                refine e_exit_then ?_
                refine e_exit_then ?_
                refine e_exit_block ?_
                refine e_next ?_
                refine c_region ?_
                have hj2 : (rs.getD k s0).1.h.ts.take j = (rs.getD k s0).1.h.ts := List.take_of_length_le (by omega)
                refine r_freeze (k := 0) rfl (fun G_51 hn_52 hs_53 => ?_)
                replace hr := hr.mono hn_52.le
                replace hrt := fun p hm0 => (hrt p hm0).mono hn_52.le
                replace hp := fun p hm0 => (hp p hm0).mono hn_52.le
                replace hqt := fun p hm0 => (hqt p hm0).mono hn_52.le
                replace hqs := fun p hm0 => (hqs p hm0).mono hn_52.le
                replace R_6 := R_6.mono hn_52.le
                replace ht_9 := ht_9.mono hn_52.le
                replace hc_10 := hc_10.mono hn_52.le
                replace u_16 := u_16.mono hn_52.le
                have hts_54 : SlL G_51 u 3 tC t0 (rs.getD k s0).1.h.ts := SlL.of2 t0 (fun _ => rfl) (by rw [hj2]) (by rw [hj2]) hs_53
                refine r_val .none rfl (p_move rfl) ?_
                refine r_val .none rfl (p_ldw (k := 0) Try.underlying109 rfl sz109 rfl rfl (rfl : _ = Value.agg #[_, _, _, _, _, _])) ?_
                refine r_bslice (vs := [(0, Value.agg #[_, _, _, _, _, _])]) (c := #[_, _, _, _, _, _]) .none rfl Try.underlying81 el109 rfl rfl rfl (bs109_10a6 _ _ _ _ _ _) (IsRow.lit _) (fun b_5 => ?_)
                refine r_append (k := 3) (k2 := 0) .none rfl Try.underlying81 el109 rfl (by decide) rfl rfl rfl rfl rfl (one_lit rfl (all_cons rfl (all_cons rfl (all_cons rfl (all_cons rfl (all_cons (hts_54).one (all_cons (u_16).one rfl))))))) (by simp only [maxLen]; omega) (by omega) (fun v_55 => ?_)
                refine r_row1 (k := 3) rfl (fun o_56 => ?_)
                refine r_val .none rfl (p_assign rfl) ?_
                refine r_nil ?_
                refine e_norm_block ?_
                refine e_next ?_
                refine c_region ?_
                refine r_val .none rfl (p_add rfl rfl (by omega)) ?_
                refine r_val .none rfl (p_move rfl) ?_
                refine r_nil ?_
                refine e_round ((k + 1, _, qs ++ [((rs.getD k s0).1, u, (.slice a_17 (rs.getD k s0).1.subs.length c_18))], _)) ⟨⟨by dsimp only; omega, by rw [sv_take (by omega), List.map_append, hq]; rfl, (fun p hp' => by rcases List.mem_append.1 hp' with h | h; exact hqt p h; rw [List.mem_singleton.1 h]; exact hts_54), (fun p hp' => by rcases List.mem_append.1 hp' with h | h; exact hqs p h; rw [List.mem_singleton.1 h]; exact u_16), ((hgn.trans hn_13).trans hn_52)⟩, by dsimp only; omega⟩ rfl ⟨rfl, rfl, rfl, rfl, rfl, trivial⟩ (.drop (.drop (.drop (.keep (fun _ _ h => rowA_snoc (l := qs) (x := ((rs.getD k s0).1, u, (.slice a_17 (rs.getD k s0).1.subs.length c_18))) rfl rfl rfl rfl _ _ h) (.nil)))))
                )
        · skip
          refine r_alloc .none rfl zr109 (IsRow.lit _) (fun b_6 => ?_)
          refine r_nil (e_d (i := 8) (brk := (fun _ => false)) (ph' := true) hKK_11 hcK_11 rfl (fun _ => GLe.refl _) (fun _ => .drop (.keep (fun _ _ h => h) (.keep (fun _ _ h => h) (.nil)))) ?_)
          clear hKK_11 hcK_11 K_11
          refine d_eff 6 rfl (by kernel_rfl) (fun K_57 hKK_57 hcK_57 => ?_)
          refine r_callm (vs := [_]) .none rfl cl35 rfl (fun w hw => ih _ _ _ w (sv_at hl (by omega) hz) (by omega) hc_10 hw) (fun G_58 v_61 hn_59 hr_60 => ?_)
          replace hr := hr.mono hn_59.le
          replace hrt := fun p hm0 => (hrt p hm0).mono hn_59.le
          replace hp := fun p hm0 => (hp p hm0).mono hn_59.le
          replace hqt := fun p hm0 => (hqt p hm0).mono hn_59.le
          replace hqs := fun p hm0 => (hqs p hm0).mono hn_59.le
          replace R_6 := R_6.mono hn_59.le
          replace ht_9 := ht_9.mono hn_59.le
          replace hc_10 := hc_10.mono hn_59.le
          have u_62 := hr_60
          refine r_nil (e_d (i := 6) (brk := (fun _ => false)) (ph' := true) hKK_57 hcK_57 rfl (fun _ => hn_59.le) (fun _ => .drop (.keep (fun _ _ h => h) (.keep (fun _ _ h => h) (.nil)))) ?_)
          clear hKK_57 hcK_57 K_57
          obtain ⟨a_63, c_64, rfl⟩ := Ss.len u_62
          refine d_val1 7 rfl rfl (by kernel_rfl) (fun _ _ => rfl) .none rfl (p_build (vs := [(0, Value.int _ _), (1, Value.agg #[_, _, _]), (3, Value.slice _ _ _)]) rfl (bl109_0i1_1a3_3s3 _ _ _ _ _ _ _)) ?_
          refine d_eff 9 rfl (by kernel_rfl) (fun K_65 hKK_65 hcK_65 => ?_)
          refine r_stw (k := 0) .none sz109 rfl rfl (IsRow.lit _) (one_lit rfl (all_cons rfl (all_cons rfl (all_cons rfl (all_cons rfl (all_cons rfl (all_cons (u_62).one rfl))))))) rfl ?_
          refine r_nil (e_d (i := 9) (brk := (fun _ => false)) (ph' := true) hKK_65 hcK_65 rfl (fun _ => hn_59.le) (fun _ => .drop (.keep (fun _ _ h => h) (.keep (fun _ _ h => h) (.nil)))) ?_)
          clear hKK_65 hcK_65 K_65
          refine d_nil (by kernel_rfl) ?_
          refine e_next ?_
          refine c_seq ?_
          refine c_seq ?_
          refine c_region ?_
          refine r_val .none rfl (p_field Try.underlying116 rfl sz114 rfl) ?_
          refine r_val .none rfl (p_ld (k := 1) Try.underlying114 rfl rfl rfl (by first | exact of_decide_eq_true rfl | omega) rfl) ?_
          refine r_val .none rfl (p_leng Try.underlying114 rfl ht_9) ?_
          have bd_66 := (ht_9).bound
          refine r_val .none rfl (p_move rfl) ?_
          refine r_nil ?_
          refine e_next ?_
          refine c_block ?_
          refine c_nilrow 141 3 ?_
          refine c_name (d := 2) rfl (fun u_67 hu_67 => ?_)
          refine c_name (d := 3) rfl (fun u_68 hu_68 => ?_)
          refine c_name (d := 5) rfl (fun u_69 hu_69 => ?_)
          refine c_name (d := 6) rfl (fun u_70 hu_70 => ?_)
          refine c_name (d := 9) rfl (fun u_71 hu_71 => ?_)
          refine c_name (d := 10) rfl (fun u_72 hu_72 => ?_)
          refine c_name (d := 11) rfl (fun u_73 hu_73 => ?_)
          refine c_name (d := 12) rfl (fun u_74 hu_74 => ?_)
          refine c_name (d := 13) rfl (fun u_75 hu_75 => ?_)
          refine c_name (d := 14) rfl (fun u_76 hu_76 => ?_)
          refine c_name (d := 15) rfl (fun u_77 hu_77 => ?_)
          refine c_name (d := 16) rfl (fun u_78 hu_78 => ?_)
          refine c_name (d := 17) rfl (fun u_79 hu_79 => ?_)
          refine c_name (d := 18) rfl (fun u_80 hu_80 => ?_)
          refine c_name (d := 19) rfl (fun u_81 hu_81 => ?_)
          refine c_name (d := 20) rfl (fun u_82 hu_82 => ?_)
          refine c_name (d := 21) rfl (fun u_83 hu_83 => ?_)
          refine c_name (d := 22) rfl (fun u_84 hu_84 => ?_)
          refine c_name (d := 23) rfl (fun u_85 hu_85 => ?_)
          refine c_name (d := 24) rfl (fun u_86 hu_86 => ?_)
          refine c_name (d := 25) rfl (fun u_87 hu_87 => ?_)
          refine c_nameL (k := 2) rfl (fun A_88 hA_88 => ?_)
          refine c_nameL (k := 3) rfl (fun A_89 hA_89 => ?_)
          refine c_loop (σ := Nat × Value) (fun s => [(26, Value.int .i64 (s.1 : Nat)), (2, u_67), (3, u_68), (5, u_69), (6, u_70), (9, u_71), (10, u_72), (11, u_73), (12, u_74), (13, u_75), (14, u_76), (15, u_77), (16, u_78), (17, u_79), (18, u_80), (19, u_81), (20, u_82), (21, u_83), (22, u_84), (23, u_85), (24, u_86), (25, u_87)]) (fun s => [rowA (s.2) 141 3 (((rs.getD k s0).1.h.ts.take s.1)).length ((((rs.getD k s0).1.h.ts.take s.1)).flatMap tC), box b_6 6 109 (at_ [.int .i64 (rs.getD k s0).1.h.k, .int .i64 (rs.getD k s0).1.h.k0, .int .i64 (rs.getD k s0).1.h.k1, .int .i64 (rs.getD k s0).1.h.k2, s.2, (.slice a_63 (rs.getD k s0).1.subs.length c_64)]), A_88, A_89]) (fun _ => _) (fun s => s.1 ≤ (rs.getD k s0).1.h.ts.length) (fun s => (rs.getD k s0).1.h.ts.length - s.1) ((0, _)) (Nat.zero_le _) rfl ⟨rfl, rfl, rfl, rfl, rfl, rfl, rfl, rfl, rfl, rfl, rfl, rfl, rfl, rfl, rfl, rfl, rfl, rfl, rfl, rfl, rfl, rfl, trivial⟩ (.keep (fun _ _ h => rowA_nil rfl _ _ h) (.keep (fun _ _ h => box_congr (fun i hi => by match i, hi with | 0, _ => rfl | 1, _ => rfl | 2, _ => rfl | 3, _ => rfl | 4, _ => rfl | 5, _ => rfl) _ _ h) (.keep (fun _ _ h => h) (.keep (fun _ _ h => h) (.nil))))) (fun s hphi => ?_)
          subst hu_67
          subst hu_68
          subst hu_69
          subst hu_70
          subst hu_71
          subst hu_72
          subst hu_73
          subst hu_74
          subst hu_75
          subst hu_76
          subst hu_77
          subst hu_78
          subst hu_79
          subst hu_80
          subst hu_81
          subst hu_82
          subst hu_83
          subst hu_84
          subst hu_85
          subst hu_86
          subst hu_87
          subst hA_88
          subst hA_89
          obtain ⟨j, u⟩ := s
          dsimp only at hphi ⊢
          refine c_row1 (k := 0) rfl (fun ov => ?_)
          refine c_rowlen (k := 0) rfl (fun l63 => ?_)
          refine c_seq ?_
          refine c_region ?_
          refine r_val .none rfl (p_lt rfl rfl) ?_
          refine r_nil ?_
          refine e_next ?_
          refine c_seq ?_
          refine c_splitd (d := 27) rfl (fun h_90 => ?_) (fun h_90 => ?_)
          · skip
            first
              | (exfalso; omega)
              | (
                refine c_cond_t rfl ?_
                refine c_skip ?_
                refine e_next ?_
                refine c_seq ?_
                refine c_block ?_
                refine c_seq ?_
                refine c_region ?_
                refine r_iaddr_g .none rfl Try.underlying114 sz140 rfl ht_9 rfl (by first | exact of_decide_eq_true rfl | omega) (fun p_92 o_93 R_91 => ?_)
                refine r_val .none rfl (p_ldga0 Try.underlying140 rfl sz140 rfl R_91 (by first | exact of_decide_eq_true rfl | omega) (rfl : _ = Value.agg #[_, _, _])) ?_
                refine r_alloc .none rfl zr140 (IsRow.lit _) (fun b_7 => ?_)
                refine r_stw (k := 0) .none sz140 rfl rfl (IsRow.lit _) (one_lit rfl rfl) rfl ?_
                refine r_nil ?_
                refine e_next ?_
                refine c_region ?_
                refine r_val .none rfl (p_field Try.underlying109 rfl sz107 rfl) ?_
                refine r_val .none rfl (p_ld (k := 2) Try.underlying107 rfl rfl rfl (by first | exact of_decide_eq_true rfl | omega) rfl) ?_
                refine r_val .none rfl (p_field Try.underlying140 rfl sz3 rfl) ?_
                refine r_val .none rfl (p_ld (k := 0) Try.underlying3 rfl rfl rfl (by first | exact of_decide_eq_true rfl | omega) (rfl : _ = Value.int _ _)) ?_
                refine r_val .none rfl (p_field Try.underlying140 rfl sz3 rfl) ?_
                refine r_val .none rfl (p_ld (k := 0) Try.underlying3 rfl rfl rfl (by first | exact of_decide_eq_true rfl | omega) (rfl : _ = Value.int _ _)) ?_
                refine r_val .none rfl (p_field Try.underlying140 rfl sz3 rfl) ?_
                refine r_val .none rfl (p_ld (k := 0) Try.underlying3 rfl rfl rfl (by first | exact of_decide_eq_true rfl | omega) (rfl : _ = Value.int _ _)) ?_
                refine r_val .none rfl (p_build (vs := [(0, Value.int _ _), (1, Value.int _ _), (2, Value.int _ _)]) rfl (bl141_0i1_1i1_2i1 _ _ _)) ?_
                refine r_bslice (vs := [(0, Value.agg #[_, _, _])]) (c := #[_, _, _]) .none rfl Try.underlying107 el141 rfl rfl rfl (bs141_10a3 _ _ _) (IsRow.lit _) (fun b_8 => ?_)
                refine r_append (k := 2) (k2 := 0) .none rfl Try.underlying107 el141 rfl (by decide) rfl rfl rfl rfl rfl (one_lit rfl rfl) (by rw [List.length_take]; simp only [maxLen]; omega) (by rw [List.length_take]; omega) (fun v_94 => ?_)
                refine r_row1 (k := 2) rfl (fun o_95 => ?_)
                refine r_val .none rfl (p_field Try.underlying109 rfl sz107 rfl) ?_
                refine r_st (k := 3) .none sz107 rfl rfl o_95 rfl (by first | exact of_decide_eq_true rfl | omega) ?_
                refine r_nil ?_
                refine e_norm_block ?_
                refine e_next ?_
                refine c_region ?_
                refine r_val .none rfl (p_add rfl rfl (by omega)) ?_
                refine r_val .none rfl (p_move rfl) ?_
                refine r_nil ?_
                refine e_round ((j + 1, _)) ⟨by dsimp only; omega, by dsimp only; omega⟩ rfl ⟨rfl, rfl, rfl, rfl, rfl, rfl, rfl, rfl, rfl, rfl, rfl, rfl, rfl, rfl, rfl, rfl, rfl, rfl, rfl, rfl, rfl, rfl, trivial⟩ (.drop (.drop (.keep (fun _ _ h => rowA_snoc (ts_next (by omega)) rfl rfl rfl _ _ h) (.keep (fun _ _ h => box_congr (fun i hi => by match i, hi with | 0, _ => rfl | 1, _ => rfl | 2, _ => rfl | 3, _ => rfl | 4, _ => rfl | 5, _ => rfl) _ _ h) (.keep (fun _ _ h => h) (.keep (fun _ _ h => h) (.nil)))))))
                )
          · skip
            first
              | (exfalso; omega)
              | (
                refine c_cond_f rfl ?_
                refine c_exit ?_
                refine e_exit_then ?_
                refine e_exit_then ?_
                refine e_exit_block ?_
                refine e_next ?_
                refine c_region ?_
                have hj2 : (rs.getD k s0).1.h.ts.take j = (rs.getD k s0).1.h.ts := List.take_of_length_le (by omega)
                refine r_freeze (k := 0) rfl (fun G_96 hn_97 hs_98 => ?_)
                replace hr := hr.mono hn_97.le
                replace hrt := fun p hm0 => (hrt p hm0).mono hn_97.le
                replace hp := fun p hm0 => (hp p hm0).mono hn_97.le
                replace hqt := fun p hm0 => (hqt p hm0).mono hn_97.le
                replace hqs := fun p hm0 => (hqs p hm0).mono hn_97.le
                replace R_6 := R_6.mono hn_97.le
                replace ht_9 := ht_9.mono hn_97.le
                replace hc_10 := hc_10.mono hn_97.le
                replace u_62 := u_62.mono hn_97.le
                have hts_99 : SlL G_96 u 3 tC t0 (rs.getD k s0).1.h.ts := SlL.of2 t0 (fun _ => rfl) (by rw [hj2]) (by rw [hj2]) hs_98
                refine r_val .none rfl (p_move rfl) ?_
                refine r_val .none rfl (p_ldw (k := 0) Try.underlying109 rfl sz109 rfl rfl (rfl : _ = Value.agg #[_, _, _, _, _, _])) ?_
                refine r_bslice (vs := [(0, Value.agg #[_, _, _, _, _, _])]) (c := #[_, _, _, _, _, _]) .none rfl Try.underlying81 el109 rfl rfl rfl (bs109_10a6 _ _ _ _ _ _) (IsRow.lit _) (fun b_9 => ?_)
                refine r_append (k := 3) (k2 := 0) .none rfl Try.underlying81 el109 rfl (by decide) rfl rfl rfl rfl rfl (one_lit rfl (all_cons rfl (all_cons rfl (all_cons rfl (all_cons rfl (all_cons (hts_99).one (all_cons (u_62).one rfl))))))) (by simp only [maxLen]; omega) (by omega) (fun v_100 => ?_)
                refine r_row1 (k := 3) rfl (fun o_101 => ?_)
                refine r_val .none rfl (p_assign rfl) ?_
                refine r_nil ?_
                refine e_norm_block ?_
                refine e_next ?_
                refine c_region ?_
                refine r_val .none rfl (p_add rfl rfl (by omega)) ?_
                refine r_val .none rfl (p_move rfl) ?_
                refine r_nil ?_
                refine e_round ((k + 1, _, qs ++ [((rs.getD k s0).1, u, (.slice a_63 (rs.getD k s0).1.subs.length c_64))], _)) ⟨⟨by dsimp only; omega, by rw [sv_take (by omega), List.map_append, hq]; rfl, (fun p hp' => by rcases List.mem_append.1 hp' with h | h; exact hqt p h; rw [List.mem_singleton.1 h]; exact hts_99), (fun p hp' => by rcases List.mem_append.1 hp' with h | h; exact hqs p h; rw [List.mem_singleton.1 h]; exact u_62), ((hgn.trans hn_59).trans hn_97)⟩, by dsimp only; omega⟩ rfl ⟨rfl, rfl, rfl, rfl, rfl, trivial⟩ (.drop (.drop (.drop (.keep (fun _ _ h => rowA_snoc (l := qs) (x := ((rs.getD k s0).1, u, (.slice a_63 (rs.getD k s0).1.subs.length c_64))) rfl rfl rfl rfl _ _ h) (.nil)))))
                )
        )
  · skip
    first
      | (exfalso; omega)
      | (
        refine c_cond_f rfl ?_
        refine c_exit ?_
        refine e_exit_then ?_
        refine e_exit_then ?_
        refine e_exit_block ?_
        refine e_next ?_
        refine c_seq ?_
        refine c_region ?_
        refine r_val .none rfl (p_move rfl) ?_
        refine r_val .none rfl (p_assign rfl) ?_
        refine r_nil ?_
        refine e_next ?_
        refine c_ret ?_
        refine e_freeze (k := 0) rfl (fun G_102 hn_103 hs_104 => ?_)
        replace hr := hr.mono hn_103.le
        replace hrt := fun p hm0 => (hrt p hm0).mono hn_103.le
        replace hp := fun p hm0 => (hp p hm0).mono hn_103.le
        replace hqt := fun p hm0 => (hqt p hm0).mono hn_103.le
        replace hqs := fun p hm0 => (hqs p hm0).mono hn_103.le
        refine e_ret1 Try.results35 (.tmp rfl .nil) (fun w hm => ⟨_, (hgn.trans hn_103), hm.has, ?_, hm.since⟩)
        rw [show l = qs.map Prod.fst by rw [hq, hl, List.take_of_length_le (by simp; omega)]]
        exact Ss.mk qs (SlL.of s0 (fun _ => rfl) rfl hs_104) hqt hqs
        )
theorem c_steps_n : ∀ n, StepsIs n
  | 0 => fun v l G w hz hsz hs hG => absurd hz (by cases l <;> simp)
  | n + 1 => fun v l G w hz hsz hs hG => c_steps_s n (c_steps_n n) v l hz hsz hs w hG
theorem c_steps (v : Value) (l : List ST) {G : Ghost} (hsz : sszL l ≤ 5000) (hs : Ss G v l) (w : World) (hG : Has G w) : Calls Try.prog 35 #[v] w (Ret fun r w' => ∃ G', GNew w nX G G' ∧ Has G' w' ∧ Ss G' r l ∧ Since nX w w') := c_steps_n _ v l G w (Nat.le_refl _) hsz hs hG
end Go.Proofs.Ytpadfgomhojjnaa

/- Plain laws of the example of matching: a slice of conditions of the call's own. -/
namespace Go.Gx.T14
open Go.Gx Go.Gx.T3 Go.Gx.T4 Go.Gx.T6 Go.Gx.T8 Go.Gx.T13
abbrev L14 (k : Int) : List CT := [A14, B14 k]
theorem rs_nil {G G' : Ghost} {v : Value} (h : Rs G v []) : Rs G' v [] := by
  obtain ⟨rs, h1, _, h3⟩ := h.inv
  have h0 : rs = [] := by cases rs with
    | nil => rfl
    | cons a t => simp at h3
  subst h0
  obtain ⟨a, cap, rfl, hc, _⟩ := h1
  exact Tr.mk [] ⟨a, cap, rfl, hc, fun hn => absurd hn (by simp)⟩ (by simp)
theorem cs_box {b : Nat} {T : TypeId} {c : Array Value} {k : Int} {f : Nat → Value} (hr : IsRow c 16 f) (hf : ∀ j, j < 16 → f j = at_ (cvC (A14, nilV) ++ cvC (B14 k, nilV)) j) : Cs (oneG b (.cells c T (0, 0))) (.slice (some ⟨b, 0, none⟩) 2 2) (L14 k) := by
  refine Tr.mk [(A14, nilV), (B14 k, nilV)] ⟨some ⟨b, 0, none⟩, 2, rfl, ⟨Nat.le_refl _, by simp [maxLen]⟩, fun _ => ⟨b, 0, rfl, fun i hi => ⟨c, T, (0, 0), by simp [oneG], fun j hj => ?_⟩⟩⟩ ?_
  · have hi2 : i = 0 ∨ i = 1 := by simp at hi; omega
    rw [hr.get (0 + i * 8 + j) (by rcases hi2 with rfl | rfl <;> omega), hf _ (by rcases hi2 with rfl | rfl <;> omega)]
    rcases hi2 with rfl | rfl
    · match j, hj with
      | 0, _ => rfl | 1, _ => rfl | 2, _ => rfl | 3, _ => rfl | 4, _ => rfl | 5, _ => rfl | 6, _ => rfl | 7, _ => rfl
    · match j, hj with
      | 0, _ => rfl | 1, _ => rfl | 2, _ => rfl | 3, _ => rfl | 4, _ => rfl | 5, _ => rfl | 6, _ => rfl | 7, _ => rfl
  · intro p hp
    simp only [List.mem_cons, List.not_mem_nil, or_false] at hp
    rcases hp with rfl | rfl
    · exact Tr.nil
    · exact Tr.nil
theorem rs_fr {w : World} {G : Ghost} {b : Nat} {T : TypeId} {c : Array Value} {k : Int} {f : Nat → Value} {r : Value} (hr : IsRow c 16 f) (hf : ∀ j, j < 16 → f j = at_ (cvC (A14, nilV) ++ cvC (B14 k, nilV)) j)
    (hn : GNew w nX (oneG b (.cells c T (0, 0))) G) (h : Rs G r (L14 k)) : Rs (fr w G) r (L14 k) := by
  obtain ⟨rs, h1, h2, h3⟩ := h.inv
  rw [h3]
  have hl : rs.length = 2 := by have := congrArg List.length h3; simpa using this.symm
  refine Tr.mk rs ?_ (fun p hp => ?_)
  · have h1' := h1
    obtain ⟨a, cap, e, hc, hrow⟩ := h1'
    refine ⟨a, cap, e, hc, fun h0 => ?_⟩
    obtain ⟨p, o, rfl, hrw⟩ := hrow h0
    refine ⟨p, o, rfl, fun i hi => (hrw i hi).other hn ?_⟩
    rintro rfl
    obtain ⟨c2, T2, fr2, e2, hcell⟩ := hrw 0 h0
    have e3 : G p = some (.cells c T (0, 0)) := hn.le _ _ (by simp [oneG])
    rw [e3] at e2
    cases e2
    have hx : rs.getD 0 d0 = (rs.getD 0 d0) := rfl
    have c1 := hcell 1 (by decide)
    have c3 := hcell 2 (by decide)
    have hcc : c = (row (at_ (cvC (A14, nilV) ++ cvC (B14 k, nilV))) 0 16).toArray := (hr.congr hf).eq
    rw [hcc] at c1 c3
    exact no_ints (o := o + 0 * 8 + 1) c1 c3
  · have hs := h2 p hp
    have hm : p.1 ∈ L14 k := by rw [h3]; exact List.mem_map_of_mem hp
    have hsub : p.1.subs = [] := by
      simp only [List.mem_cons, List.not_mem_nil, or_false] at hm
      rcases hm with h | h <;> rw [h] <;> rfl
    rw [hsub] at hs ⊢
    exact rs_nil hs
end Go.Gx.T14

/- Walks: what Go functions of this chapter come to, each as a function on plain data; no condition but those that each theorem names. Printed by a program of this work (gen.py). -/
namespace Go.Proofs.Ytpadfgomhojjnaa
open Go.Gx Go.Gx.T13 Go.Gx.T8 Go.Gx.T4 Go.Gx.T3 Go.Gx.T14 Go.Gx.T13 Go.Gx.T8 Go.Gx.T6 Go.Gx.T4 Go.Gx.T3 Go.Gx.T3 Go.Gx.T4 Go.Gx.T3 Go.Gx.T6 Go.Gx.T8 Go.Gx.T4 Go.Gx.T3 Go.Gx.T8 Go.Gx.T4 Go.Gx.T3 Go.Gx.T8 Go.Gx.T6 Go.Gx.T4 Go.Gx.T3
theorem cl34 : Callable Try.prog 34 := callable Try.func34 (by kernel_rfl) rfl
theorem cl36 : Callable Try.prog 36 := callable Try.func36 (by kernel_rfl) rfl
theorem cl37 : Callable Try.prog 37 := callable Try.func37 (by kernel_rfl) rfl
theorem bl94_0b1_1i1 (x0 : Bool) (x1 : Int) : Program.built Try.prog 94 [(0, Value.bool x0), (1, Value.int .i64 x1)] = some #[Value.bool x0, Value.int .i64 x1] := by
  kernel_rfl
theorem bl94_1i1 (x0 : Int) : Program.built Try.prog 94 [(1, Value.int .i64 x0)] = some #[Value.bool false, Value.int .i64 x0] := by
  kernel_rfl
theorem bl106_0i1_1i1_2i1 (x0 : Int) (x1 : Int) (x2 : Int) : Program.built Try.prog 106 [(0, Value.int .i64 x0), (1, Value.int .i64 x1), (2, Value.int .i64 x2)] = some #[Value.int .i64 x0, Value.int .i64 x1, Value.int .i64 x2] := by
  kernel_rfl
theorem bl120_0i1_1a3 (x0 : Int) (x1 : Value) (x2 : Value) (x3 : Value) : Program.built Try.prog 120 [(0, Value.int .i64 x0), (1, Value.agg #[x1, x2, x3])] = some #[Value.int .i64 x0, x1, x2, x3] := by
  kernel_rfl
theorem bl95_0a2_1a2_2a2 (x0 : Value) (x1 : Value) (x2 : Value) (x3 : Value) (x4 : Value) (x5 : Value) : Program.built Try.prog 95 [(0, Value.agg #[x0, x1]), (1, Value.agg #[x2, x3]), (2, Value.agg #[x4, x5])] = some #[x0, x1, x2, x3, x4, x5] := by
  kernel_rfl
theorem bl97_0i1_1a6 (x0 : Int) (x1 : Value) (x2 : Value) (x3 : Value) (x4 : Value) (x5 : Value) (x6 : Value) : Program.built Try.prog 97 [(0, Value.int .i64 x0), (1, Value.agg #[x1, x2, x3, x4, x5, x6])] = some #[Value.int .i64 x0, x1, x2, x3, x4, x5, x6, Value.slice none 0 0] := by
  kernel_rfl
theorem bs120_20a4_1a4 (a0 a1 a2 a3 : Value) (a4 a5 a6 a7 : Value) : Instr.fill (fun i => some (i * 4, 4)) ((Array.range (2 * 4)).map ((Value.agg #[Value.int .i64 0, Value.int .i64 0, Value.int .i64 0, Value.int .i64 0]).cells[· % (Value.agg #[Value.int .i64 0, Value.int .i64 0, Value.int .i64 0, Value.int .i64 0]).cells.size]!)) [(0, Value.agg #[a0, a1, a2, a3]), (1, Value.agg #[a4, a5, a6, a7])] = some #[a0, a1, a2, a3, a4, a5, a6, a7] := by
  kernel_rfl
theorem bs3_20i2_1i2 (a0 : IntKind) (a1 : Int) (a2 : IntKind) (a3 : Int) : Instr.fill (fun i => some (i * 1, 1)) ((Array.range (2 * 1)).map ((Value.int .i64 0).cells[· % (Value.int .i64 0).cells.size]!)) [(0, Value.int a0 a1), (1, Value.int a2 a3)] = some #[Value.int a0 a1, Value.int a2 a3] := by
  kernel_rfl
theorem bs97_20a8_1a8 (a0 a1 a2 a3 a4 a5 a6 a7 : Value) (a8 a9 a10 a11 a12 a13 a14 a15 : Value) : Instr.fill (fun i => some (i * 8, 8)) ((Array.range (2 * 8)).map ((Value.agg #[Value.int .i64 0, Value.bool false, Value.int .i64 0, Value.bool false, Value.int .i64 0, Value.bool false, Value.int .i64 0, Value.slice none 0 0]).cells[· % (Value.agg #[Value.int .i64 0, Value.bool false, Value.int .i64 0, Value.bool false, Value.int .i64 0, Value.bool false, Value.int .i64 0, Value.slice none 0 0]).cells.size]!)) [(0, Value.agg #[a0, a1, a2, a3, a4, a5, a6, a7]), (1, Value.agg #[a8, a9, a10, a11, a12, a13, a14, a15])] = some #[a0, a1, a2, a3, a4, a5, a6, a7, a8, a9, a10, a11, a12, a13, a14, a15] := by
  kernel_rfl
theorem el97 : ElemIs Try.prog 97 8 80 (Value.agg #[Value.int .i64 0, Value.bool false, Value.int .i64 0, Value.bool false, Value.int .i64 0, Value.bool false, Value.int .i64 0, Value.slice none 0 0]) := by
  unfold ElemIs
  kernel_rfl
theorem el120 : ElemIs Try.prog 120 4 32 (Value.agg #[Value.int .i64 0, Value.int .i64 0, Value.int .i64 0, Value.int .i64 0]) := by
  unfold ElemIs
  kernel_rfl
theorem c_lref2 (k : Int) {b : Nat} {T : TypeId} {f : Nat → Value} (hf : ∀ j, j < 16 → f j = at_ (cvC (A14, nilV) ++ cvC (B14 k, nilV)) j) (w : World) (hB : BoxAt w b 16 T f) :
    Calls Try.prog 42 #[.slice (some ⟨b, 0, none⟩) 2 2] w (Ret fun r w' => ∃ H : Ghost, (∀ b, H b ≠ none → w.heap.size ≤ b) ∧ Has H w' ∧ Rs H r (L14 k) ∧ Since nX w w') := by
  obtain ⟨c, hc, hr⟩ := hB
  refine (c_lref _ (L14 k) (by simp [sizeL, size]) (cs_box hr hf) w (oneG_has (b := b) (o := .cells c T (0, 0)) hc)).mono (fun e w' hR => ?_)
  cases e with
  | returned r =>
    obtain ⟨G', hn, hh, hrs, hs⟩ := hR
    exact ⟨fr w G', fr_new w G', fun b o e => hh b o (fr_le w G' b o e), rs_fr hr hf hn hrs, hs⟩
  | panicked c => exact hR.elim
  | outgrown => exact hR.elim
theorem c_awake14   (w : World)  :
    Calls Try.prog 31 #[] w (Ret fun r w' => r = Value.bool true ∧ Since nX w w') := by
  refine enter (args := []) (X := nX) (G := (fun _ => none)) (l := []) Try.func31 rfl Try.ntmps31 (fun _ _ h => by cases h) trivial (Nat.le_of_ble_eq_true rfl) ?_
  refine c_seq ?_
  refine c_region ?_
  refine r_val .none rfl (p_assign rfl) ?_
  refine r_nil ?_
  refine e_next ?_
  refine c_seq ?_
  refine c_region ?_
  refine r_val .none rfl (p_build (vs := [(0, Value.bool _), (1, Value.int _ _)]) rfl (bl94_0b1_1i1 _ _)) ?_
  refine r_val .none rfl (p_build (vs := [(0, Value.bool _), (1, Value.int _ _)]) rfl (bl94_0b1_1i1 _ _)) ?_
  refine r_val .none rfl (p_build (vs := [(0, Value.bool _), (1, Value.int _ _)]) rfl (bl94_0b1_1i1 _ _)) ?_
  refine r_val .none rfl (p_build (vs := [(1, Value.int _ _)]) rfl (bl94_1i1 _)) ?_
  refine r_alloc .none rfl zr94 (IsRow.lit _) (fun b_1 => ?_)
  refine r_alloc .none rfl zr94 (IsRow.lit _) (fun b_2 => ?_)
  refine r_alloc .none rfl zr94 (IsRow.lit _) (fun b_3 => ?_)
  refine r_alloc .none rfl zr94 (IsRow.lit _) (fun b_4 => ?_)
  refine r_stw (k := 3) .none sz94 rfl rfl (IsRow.lit _) (one_lit rfl rfl) rfl ?_
  refine r_stw (k := 2) .none sz94 rfl rfl (IsRow.lit _) (one_lit rfl rfl) rfl ?_
  refine r_stw (k := 1) .none sz94 rfl rfl (IsRow.lit _) (one_lit rfl rfl) rfl ?_
  refine r_stw (k := 0) .none sz94 rfl rfl (IsRow.lit _) (one_lit rfl rfl) rfl ?_
  refine r_nil ?_
  refine e_next ?_
  refine c_seq ?_
  refine c_region ?_
  refine r_val .none rfl (p_build (vs := [(0, Value.int _ _), (1, Value.int _ _), (2, Value.int _ _)]) rfl (bl106_0i1_1i1_2i1 _ _ _)) ?_
  refine r_val .none rfl (p_build (vs := [(0, Value.int _ _), (1, Value.agg #[_, _, _])]) rfl (bl120_0i1_1a3 _ _ _ _)) ?_
  refine r_val .none rfl (p_build (vs := [(0, Value.int _ _), (1, Value.int _ _), (2, Value.int _ _)]) rfl (bl106_0i1_1i1_2i1 _ _ _)) ?_
  refine r_val .none rfl (p_build (vs := [(0, Value.int _ _), (1, Value.agg #[_, _, _])]) rfl (bl120_0i1_1a3 _ _ _ _)) ?_
  refine r_bslice (vs := [(0, Value.agg #[_, _, _, _]), (1, Value.agg #[_, _, _, _])]) (c := #[_, _, _, _, _, _, _, _]) .none rfl Try.underlying72 el120 rfl rfl rfl (bs120_20a4_1a4 _ _ _ _ _ _ _ _) (IsRow.lit _) (fun b_5 => ?_)
  refine r_freezeB (k := 0) 2 4 rfl rfl (by decide) (fun G_1 hn_2 hs_3 => ?_)
  have h17 : SlL G_1 (Value.slice (some ⟨b_5, 0, none⟩) 2 2) 4 fC f0 F14 := SlG.congr hs_3 (fun i hi j hj => by match i, hi with | 0, _ => (match j, hj with | 0, _ => rfl | 1, _ => rfl | 2, _ => rfl | 3, _ => rfl) | 1, _ => (match j, hj with | 0, _ => rfl | 1, _ => rfl | 2, _ => rfl | 3, _ => rfl))
  refine r_val .none rfl (p_assign rfl) ?_
  refine r_nil ?_
  refine e_next ?_
  refine c_seq ?_
  refine c_region ?_
  refine r_val .none rfl (p_ldw (k := 3) Try.underlying94 rfl sz94 rfl rfl (rfl : _ = Value.agg #[_, _])) ?_
  refine r_val .none rfl (p_ldw (k := 0) Try.underlying94 rfl sz94 rfl rfl (rfl : _ = Value.agg #[_, _])) ?_
  refine r_val .none rfl (p_ldw (k := 2) Try.underlying94 rfl sz94 rfl rfl (rfl : _ = Value.agg #[_, _])) ?_
  refine r_val .none rfl (p_build (vs := [(0, Value.agg #[_, _]), (1, Value.agg #[_, _]), (2, Value.agg #[_, _])]) rfl (bl95_0a2_1a2_2a2 _ _ _ _ _ _)) ?_
  refine r_val .none rfl (p_build (vs := [(0, Value.int _ _), (1, Value.agg #[_, _, _, _, _, _])]) rfl (bl97_0i1_1a6 _ _ _ _ _ _ _)) ?_
  refine r_val .none rfl (p_ldw (k := 2) Try.underlying94 rfl sz94 rfl rfl (rfl : _ = Value.agg #[_, _])) ?_
  refine r_val .none rfl (p_ldw (k := 0) Try.underlying94 rfl sz94 rfl rfl (rfl : _ = Value.agg #[_, _])) ?_
  refine r_val .none rfl (p_ldw (k := 1) Try.underlying94 rfl sz94 rfl rfl (rfl : _ = Value.agg #[_, _])) ?_
  refine r_val .none rfl (p_build (vs := [(0, Value.agg #[_, _]), (1, Value.agg #[_, _]), (2, Value.agg #[_, _])]) rfl (bl95_0a2_1a2_2a2 _ _ _ _ _ _)) ?_
  refine r_val .none rfl (p_build (vs := [(0, Value.int _ _), (1, Value.agg #[_, _, _, _, _, _])]) rfl (bl97_0i1_1a6 _ _ _ _ _ _ _)) ?_
  refine r_bslice (vs := [(0, Value.agg #[_, _, _, _, _, _, _, _]), (1, Value.agg #[_, _, _, _, _, _, _, _])]) (c := #[_, _, _, _, _, _, _, _, _, _, _, _, _, _, _, _]) .none rfl Try.underlying67 el97 rfl rfl rfl (bs97_20a8_1a8 _ _ _ _ _ _ _ _ _ _ _ _ _ _ _ _) (IsRow.lit _) (fun b_6 => ?_)
  refine r_val .none rfl (p_assign rfl) ?_
  refine r_nil ?_
  refine e_next ?_
  refine c_seq ?_
  refine c_region ?_
  refine r_val .none rfl (p_move rfl) ?_
  refine r_val .none rfl (p_move rfl) ?_
  refine r_callbm (k := 0) (S := fun H r => Rs H r (L14 1)) (vs := [_]) .none rfl cl42 rfl rfl (fun w hB => c_lref2 1 (fun j hj => by match j, hj with | 0, _ => rfl | 1, _ => rfl | 2, _ => rfl | 3, _ => rfl | 4, _ => rfl | 5, _ => rfl | 6, _ => rfl | 7, _ => rfl | 8, _ => rfl | 9, _ => rfl | 10, _ => rfl | 11, _ => rfl | 12, _ => rfl | 13, _ => rfl | 14, _ => rfl | 15, _ => rfl | j + 16, h => exact absurd h (by omega)) w hB) (fun G_4 v_7 hn_5 hr_6 => ?_)
  replace h17 := h17.mono hn_5.le
  obtain ⟨Hu_8, hHu_8, hru_8⟩ := hr_6
  have u_8 := hru_8.mono hHu_8
  refine r_callm (vs := [_]) .none rfl cl36 rfl (fun w hw => c_compile _ (L14 1) (by simp [sizeL, size]) u_8 w hw) (fun G_9 v_12 hn_10 hr_11 => ?_)
  replace h17 := h17.mono hn_10.le
  replace u_8 := u_8.mono hn_10.le
  have u_13 := hr_11
  refine r_callm (vs := [_]) .none rfl cl35 rfl (fun w hw => c_steps _ _ (by decide +kernel) u_13 w hw) (fun G_14 v_17 hn_15 hr_16 => ?_)
  replace h17 := h17.mono hn_15.le
  replace u_8 := u_8.mono hn_15.le
  replace u_13 := u_13.mono hn_15.le
  have u_18 := hr_16
  refine r_callm (vs := [_, _]) .none rfl cl34 rfl (fun w hw => c_partial _ _ F14 (stepsOf [] (L14 1)) ⟨by decide, by decide +kernel⟩ (okSL_of _ [] (by decide +kernel)) (by decide +kernel) h17 u_18 w hw) (fun G_19 v_22 hn_20 hr_21 => ?_)
  replace h17 := h17.mono hn_20.le
  replace u_8 := u_8.mono hn_20.le
  replace u_13 := u_13.mono hn_20.le
  replace u_18 := u_18.mono hn_20.le
  rw [gm14a] at hr_21
  have u_23 := hr_21
  refine r_val .none rfl (p_assign rfl) ?_
  refine r_nil ?_
  refine e_next ?_
  refine c_seq ?_
  refine c_region ?_
  refine r_val .none rfl (p_move rfl) ?_
  refine r_val .none rfl (iaddr_o (i := 1) Try.underlying67 sz97 rfl rfl rfl (by first | exact of_decide_eq_true rfl | omega)) ?_
  refine r_val .none rfl (p_field Try.underlying97 rfl sz3 rfl) ?_
  refine r_st (k := 0) .none sz3 rfl rfl rfl rfl (by first | exact of_decide_eq_true rfl | omega) ?_
  refine r_nil ?_
  refine e_next ?_
  refine c_seq ?_
  refine c_region ?_
  refine r_val .none rfl (p_move rfl) ?_
  refine r_val .none rfl (p_move rfl) ?_
  refine r_callbm (k := 0) (S := fun H r => Rs H r (L14 2)) (vs := [_]) .none rfl cl42 rfl rfl (fun w hB => c_lref2 2 (fun j hj => by match j, hj with | 0, _ => rfl | 1, _ => rfl | 2, _ => rfl | 3, _ => rfl | 4, _ => rfl | 5, _ => rfl | 6, _ => rfl | 7, _ => rfl | 8, _ => rfl | 9, _ => rfl | 10, _ => rfl | 11, _ => rfl | 12, _ => rfl | 13, _ => rfl | 14, _ => rfl | 15, _ => rfl | j + 16, h => exact absurd h (by omega)) w hB) (fun G_24 v_27 hn_25 hr_26 => ?_)
  replace h17 := h17.mono hn_25.le
  replace u_8 := u_8.mono hn_25.le
  replace u_13 := u_13.mono hn_25.le
  replace u_18 := u_18.mono hn_25.le
  replace u_23 := LI.mono u_23 hn_25.le
  obtain ⟨Hu_28, hHu_28, hru_28⟩ := hr_26
  have u_28 := hru_28.mono hHu_28
  refine r_callm (vs := [_]) .none rfl cl36 rfl (fun w hw => c_compile _ (L14 2) (by simp [sizeL, size]) u_28 w hw) (fun G_29 v_32 hn_30 hr_31 => ?_)
  replace h17 := h17.mono hn_30.le
  replace u_8 := u_8.mono hn_30.le
  replace u_13 := u_13.mono hn_30.le
  replace u_18 := u_18.mono hn_30.le
  replace u_23 := LI.mono u_23 hn_30.le
  replace u_28 := u_28.mono hn_30.le
  have u_33 := hr_31
  refine r_callm (vs := [_]) .none rfl cl35 rfl (fun w hw => c_steps _ _ (by decide +kernel) u_33 w hw) (fun G_34 v_37 hn_35 hr_36 => ?_)
  replace h17 := h17.mono hn_35.le
  replace u_8 := u_8.mono hn_35.le
  replace u_13 := u_13.mono hn_35.le
  replace u_18 := u_18.mono hn_35.le
  replace u_23 := LI.mono u_23 hn_35.le
  replace u_28 := u_28.mono hn_35.le
  replace u_33 := u_33.mono hn_35.le
  have u_38 := hr_36
  refine r_callm (vs := [_, _]) .none rfl cl34 rfl (fun w hw => c_partial _ _ F14 (stepsOf [] (L14 2)) ⟨by decide, by decide +kernel⟩ (okSL_of _ [] (by decide +kernel)) (by decide +kernel) h17 u_38 w hw) (fun G_39 v_42 hn_40 hr_41 => ?_)
  replace h17 := h17.mono hn_40.le
  replace u_8 := u_8.mono hn_40.le
  replace u_13 := u_13.mono hn_40.le
  replace u_18 := u_18.mono hn_40.le
  replace u_23 := LI.mono u_23 hn_40.le
  replace u_28 := u_28.mono hn_40.le
  replace u_33 := u_33.mono hn_40.le
  replace u_38 := u_38.mono hn_40.le
  rw [gm14b] at hr_41
  have u_43 := hr_41
  refine r_val .none rfl (p_assign rfl) ?_
  refine r_nil ?_
  refine e_next ?_
  refine c_seq ?_
  refine c_region ?_
  refine r_val .none rfl (p_move rfl) ?_
  refine r_bslice (vs := [(0, Value.int _ _), (1, Value.int _ _)]) (c := #[_, _]) .none rfl Try.underlying22 el3 rfl rfl rfl (bs3_20i2_1i2 _ _ _ _) (IsRow.lit _) (fun b_7 => ?_)
  refine r_freezeB (k := 0) 2 1 rfl rfl (by decide) (fun G_44 hn_45 hs_46 => ?_)
  replace h17 := h17.mono hn_45.le
  replace u_8 := u_8.mono hn_45.le
  replace u_13 := u_13.mono hn_45.le
  replace u_18 := u_18.mono hn_45.le
  replace u_23 := LI.mono u_23 hn_45.le
  replace u_28 := u_28.mono hn_45.le
  replace u_33 := u_33.mono hn_45.le
  replace u_38 := u_38.mono hn_45.le
  replace u_43 := LI.mono u_43 hn_45.le
  have h45 : SlL G_44 (Value.slice (some ⟨b_7, 0, none⟩) 2 2) 1 cI 0 [1, 2] := SlG.congr hs_46 (fun i hi j hj => by match i, hi with | 0, _ => (match j, hj with | 0, _ => rfl) | 1, _ => (match j, hj with | 0, _ => rfl))
  refine r_bslice (vs := [(0, Value.slice _ _ _)]) (c := #[_]) .none rfl Try.underlying79 el22 rfl rfl rfl (bs22_10s3 _ _ _) (IsRow.lit _) (fun b_8 => ?_)
  refine r_freezeB (k := 0) 1 1 rfl rfl (by decide) (fun G_47 hn_48 hs_49 => ?_)
  replace h17 := h17.mono hn_48.le
  replace u_8 := u_8.mono hn_48.le
  replace u_13 := u_13.mono hn_48.le
  replace u_18 := u_18.mono hn_48.le
  replace u_23 := LI.mono u_23 hn_48.le
  replace u_28 := u_28.mono hn_48.le
  replace u_33 := u_33.mono hn_48.le
  replace u_38 := u_38.mono hn_48.le
  replace u_43 := LI.mono u_43 hn_48.le
  replace h45 := h45.mono hn_48.le
  have h46 : SlL G_47 (Value.slice (some ⟨b_8, 0, none⟩) 1 1) 1 lC (([] : List Int), Value.slice none 0 0) [([1, 2], Value.slice (some ⟨b_7, 0, none⟩) 2 2)] := SlG.congr hs_49 (fun i hi j hj => by match i, hi with | 0, _ => (match j, hj with | 0, _ => rfl))
  have Lh46 : LI G_47 (Value.slice (some ⟨b_8, 0, none⟩) 1 1) [[1, 2]] := Ls.mk _ h46 (by intro p hm0; simp only [List.mem_cons, List.not_mem_nil, or_false] at hm0; subst hm0; exact h45)
  refine r_call (vs := [_, _]) .none rfl cl37 rfl (fun w hw => (show Calls Try.prog _ _ w (Ret fun r w' => r = Value.bool true ∧ Since nX w w') from c_same14 _ _ [[1, 2]] [[1, 2]] u_23 Lh46 w hw)) ?_
  refine r_val .none rfl (p_move rfl) ?_
  refine r_val (.some rfl rfl) rfl (p_move rfl) ?_
  refine r_bslice (vs := [(0, Value.int _ _)]) (c := #[_]) (.some rfl rfl) rfl Try.underlying22 el3 rfl rfl rfl (bs3_10i2 _ _) (IsRow.lit _) (fun b_9 => ?_)
  refine r_freezeB (k := 0) 1 1 rfl rfl (by decide) (fun G_50 hn_51 hs_52 => ?_)
  replace h17 := h17.mono hn_51.le
  replace u_8 := u_8.mono hn_51.le
  replace u_13 := u_13.mono hn_51.le
  replace u_18 := u_18.mono hn_51.le
  replace u_23 := LI.mono u_23 hn_51.le
  replace u_28 := u_28.mono hn_51.le
  replace u_33 := u_33.mono hn_51.le
  replace u_38 := u_38.mono hn_51.le
  replace u_43 := LI.mono u_43 hn_51.le
  replace h45 := h45.mono hn_51.le
  replace h46 := h46.mono hn_51.le
  replace Lh46 := LI.mono Lh46 hn_51.le
  have h50 : SlL G_50 (Value.slice (some ⟨b_9, 0, none⟩) 1 1) 1 cI 0 [2] := SlG.congr hs_52 (fun i hi j hj => by match i, hi with | 0, _ => (match j, hj with | 0, _ => rfl))
  refine r_bslice (vs := [(0, Value.slice _ _ _)]) (c := #[_]) (.some rfl rfl) rfl Try.underlying79 el22 rfl rfl rfl (bs22_10s3 _ _ _) (IsRow.lit _) (fun b_10 => ?_)
  refine r_freezeB (k := 0) 1 1 rfl rfl (by decide) (fun G_53 hn_54 hs_55 => ?_)
  replace h17 := h17.mono hn_54.le
  replace u_8 := u_8.mono hn_54.le
  replace u_13 := u_13.mono hn_54.le
  replace u_18 := u_18.mono hn_54.le
  replace u_23 := LI.mono u_23 hn_54.le
  replace u_28 := u_28.mono hn_54.le
  replace u_33 := u_33.mono hn_54.le
  replace u_38 := u_38.mono hn_54.le
  replace u_43 := LI.mono u_43 hn_54.le
  replace h45 := h45.mono hn_54.le
  replace h46 := h46.mono hn_54.le
  replace Lh46 := LI.mono Lh46 hn_54.le
  replace h50 := h50.mono hn_54.le
  have h51 : SlL G_53 (Value.slice (some ⟨b_10, 0, none⟩) 1 1) 1 lC (([] : List Int), Value.slice none 0 0) [([2], Value.slice (some ⟨b_9, 0, none⟩) 1 1)] := SlG.congr hs_55 (fun i hi j hj => by match i, hi with | 0, _ => (match j, hj with | 0, _ => rfl))
  have Lh51 : LI G_53 (Value.slice (some ⟨b_10, 0, none⟩) 1 1) [[2]] := Ls.mk _ h51 (by intro p hm0; simp only [List.mem_cons, List.not_mem_nil, or_false] at hm0; subst hm0; exact h50)
  refine r_call (vs := [_, _]) (.some rfl rfl) rfl cl37 rfl (fun w hw => (show Calls Try.prog _ _ w (Ret fun r w' => r = Value.bool true ∧ Since nX w w') from c_same14 _ _ [[2]] [[2]] u_43 Lh51 w hw)) ?_
  refine r_val .none rfl (p_pick_t rfl rfl) ?_
  refine r_val .none rfl (p_assign rfl) ?_
  refine r_nil ?_
  refine e_next ?_
  refine c_ret ?_
  refine e_ret1 Try.results31 (.tmp rfl .nil) (fun w hm => ⟨?_, hm.since⟩)
  exact congrArg Value.bool (by rfl)
end Go.Proofs.Ytpadfgomhojjnaa

/- Plain laws of the statements of matching; no program in sight. -/
namespace Go.Gx.T14
open Go.Gx Go.Gx.T3 Go.Gx.T4 Go.Gx.T6 Go.Gx.T8 Go.Gx.T13
def posTo (l : List CT) (k : Nat) : Bool := (l.take k).any fun c => decide (c.h.k = 1)
def negTo (l : List CT) (k : Nat) : Bool := (l.take k).all fun c => decide (c.h.k = 2)
theorem posTo_succ {rs : List (CT × Value)} {k : Nat} (hk : k < rs.length) : posTo (rs.map Prod.fst) (k + 1) = (posTo (rs.map Prod.fst) k || decide ((rs.getD k d0).1.h.k = 1)) := by
  unfold posTo
  rw [map_take (d := d0) hk, List.any_append]
  simp
theorem negTo_succ {rs : List (CT × Value)} {k : Nat} (hk : k < rs.length) : negTo (rs.map Prod.fst) (k + 1) = (negTo (rs.map Prod.fst) k && decide ((rs.getD k d0).1.h.k = 2)) := by
  unfold negTo
  rw [map_take (d := d0) hk, List.all_append]
  simp
theorem kinds_of {l : List CT} {s : ST} (h : s ∈ stepsOf [] l) : ∃ c ∈ l, s.h.k = c.h.k := by
  have h1 : s.h.k ∈ (stepsOf [] l).map (fun s => s.h.k) := List.mem_map_of_mem h
  rw [steps_kinds] at h1
  obtain ⟨c, hc, e⟩ := List.mem_map.1 h1
  exact ⟨c, hc, e.symm⟩
theorem kinds_to {l : List CT} {c : CT} (h : c ∈ l) : ∃ s ∈ stepsOf [] l, s.h.k = c.h.k := by
  have h1 : c.h.k ∈ l.map (fun c => c.h.k) := List.mem_map_of_mem h
  rw [← steps_kinds l []] at h1
  obtain ⟨s, hs, e⟩ := List.mem_map.1 h1
  exact ⟨s, hs, e⟩
theorem none_len (l : List ST) (m : MT) : (gm [] l m).length ≤ 1 := by
  rcases gm_none l m with h | h <;> rw [h] <;> simp
theorem none_pos {l : List CT} {k : Nat} {qs : List (List Int × Value)} (hq : (gm [] (stepsOf [] l) ([], [])).map Prod.fst = qs.map Prod.fst) (hp : posTo l k = true) : qs.length = 0 := by
  unfold posTo at hp
  obtain ⟨c, hc, hk⟩ := List.any_eq_true.1 hp
  obtain ⟨s, hs, e⟩ := kinds_to (List.mem_of_mem_take hc)
  rw [gm_none_pos _ _ ⟨s, hs, by rw [e]; simpa using hk⟩] at hq
  have := congrArg List.length hq
  simpa using this.symm
theorem none_neg {l : List CT} {k : Nat} {qs : List (List Int × Value)} (hq : (gm [] (stepsOf [] l) ([], [])).map Prod.fst = qs.map Prod.fst) (hk : l.length ≤ k) (hp : negTo l k = true) : qs.length = 1 ∧ (qs.getD 0 es14).1.length = 0 := by
  unfold negTo at hp
  rw [List.take_of_length_le hk] at hp
  rw [gm_none_neg _ _ (fun s hs => by
    obtain ⟨c, hc, e⟩ := kinds_of hs
    rw [e]; simpa using List.all_eq_true.1 hp c hc)] at hq
  cases qs with
  | nil => simp at hq
  | cons q t =>
    cases t with
    | cons a t => simp at hq
    | nil =>
      simp only [List.map_cons, List.map_nil, List.cons.injEq, and_true] at hq
      refine ⟨rfl, ?_⟩
      show q.1.length = 0
      rw [← hq]; rfl
theorem none_one {l : List CT} {qs : List (List Int × Value)} (hq : (gm [] (stepsOf [] l) ([], [])).map Prod.fst = qs.map Prod.fst) : qs.length ≤ 1 := by
  have := congrArg List.length hq
  rw [List.length_map, List.length_map] at this
  have := none_len (stepsOf [] l) ([], [])
  omega
end Go.Gx.T14

/- Walks: what Go functions of this chapter come to, each as a function on plain data; no condition but those that each theorem names. Printed by a program of this work (gen.py). -/
namespace Go.Proofs.Ytpadfgomhojjnaa
open Go.Gx Go.Gx.T13 Go.Gx.T8 Go.Gx.T4 Go.Gx.T3 Go.Gx.T14 Go.Gx.T13 Go.Gx.T8 Go.Gx.T6 Go.Gx.T4 Go.Gx.T3 Go.Gx.T3 Go.Gx.T4 Go.Gx.T3 Go.Gx.T6 Go.Gx.T8 Go.Gx.T4 Go.Gx.T3 Go.Gx.T8 Go.Gx.T4 Go.Gx.T3 Go.Gx.T8 Go.Gx.T6 Go.Gx.T4 Go.Gx.T3
theorem cl31 : Callable Try.prog 31 := callable Try.func31 (by kernel_rfl) rfl
theorem cl40 : Callable Try.prog 40 := callable Try.func40 (by kernel_rfl) rfl
theorem c_PlainNone (v : Value) (l : List CT) {G : Ghost} (hs : Cs G v l) (w : World) (hG : Has G w) :
    Calls Try.prog 9 #[v] w (Ret fun r w' => r = Value.bool true ∧ Since nX w w') := by
  refine enter (args := [_]) (X := nX) (G := G) (l := [(0, v)]) Try.func9 rfl Try.ntmps9 hG ⟨rfl, trivial⟩ (Nat.le_of_ble_eq_true rfl) ?_
  obtain ⟨rs, hr, hp, hl⟩ := hs.inv
  have hlr : l.length = rs.length := by rw [hl]; simp
  refine c_seq ?_
  refine c_region ?_
  refine r_val .none rfl (p_assign rfl) ?_
  refine r_nil ?_
  refine e_next ?_
  refine c_seq ?_
  refine c_seq ?_
  refine c_region ?_
  refine r_val .none rfl (p_move rfl) ?_
  refine r_call (vs := [_]) .none rfl cl40 rfl (fun w hw => c_fine6 _ l hs w hw) ?_
  refine r_val .none rfl (p_not rfl) ?_
  refine r_nil ?_
  refine e_next ?_
  refine c_splitn (d := 10) rfl (fun h_1 => ?_) (fun h_1 => ?_)
  · skip
    first
      | (exfalso; first | omega | assumption)
      | (
        refine c_cond_t rfl ?_
        refine c_seq ?_
        refine c_region ?_
        refine r_call (vs := []) .none rfl cl31 rfl (fun w hw => c_awake14 w) ?_
        refine r_val .none rfl (p_assign rfl) ?_
        refine r_nil ?_
        refine e_next ?_
        refine c_ret ?_
        refine e_ret_then ?_
        refine e_ret1 Try.results9 (.tmp rfl .nil) (fun w hm => ⟨?_, hm.since⟩)
        rfl
        )
  · skip
    have hf : fineL l = true := h_1
    have hfy := fineL_yes hf
    have hsz : sizeL l ≤ 1000 := by omega
    have hll := sizeL_len l
    have hflat := flat_all_of hfy.1
    have hss : sszL (stepsOf [] l) ≤ 1000 := Nat.le_trans (sszL_of l []) (by omega)
    have hoks : okSL (stepsOf [] l) := okSL_of l [] (by simp; omega)
    first
      | (exfalso; first | omega | assumption)
      | (
        refine c_cond_f rfl ?_
        refine c_skip ?_
        refine e_next ?_
        refine c_seq ?_
        refine c_region ?_
        refine r_val .none rfl (p_assign rfl) ?_
        refine r_val .none rfl (p_assign rfl) ?_
        refine r_nil ?_
        refine e_next ?_
        refine c_seq ?_
        refine c_seq ?_
        refine c_region ?_
        refine r_val .none rfl (p_move rfl) ?_
        refine r_val .none rfl (p_leng Try.underlying67 rfl hr) ?_
        have bd_2 := (hr).bound
        refine r_val .none rfl (p_move rfl) ?_
        refine r_nil ?_
        refine e_next ?_
        refine c_block ?_
        refine c_name (d := 0) rfl (fun u_3 hu_3 => ?_)
        refine c_name (d := 2) rfl (fun u_4 hu_4 => ?_)
        refine c_name (d := 12) rfl (fun u_5 hu_5 => ?_)
        refine c_name (d := 13) rfl (fun u_6 hu_6 => ?_)
        refine c_loop (σ := Nat) (fun k => [(14, Value.int .i64 (k : Nat)), (3, Value.bool (posTo l k)), (4, Value.bool (negTo l k)), (0, u_3), (2, u_4), (12, u_5), (13, u_6)]) (fun k => []) (fun _ => _) (fun k => k ≤ rs.length) (fun k => rs.length - k) (0) (Nat.zero_le _) rfl ⟨rfl, rfl, rfl, rfl, rfl, rfl, rfl, trivial⟩ (.nil) (fun k hphi => ?_)
        subst hu_3
        subst hu_4
        subst hu_5
        subst hu_6
        refine c_seq ?_
        refine c_region ?_
        refine r_val .none rfl (p_lt rfl rfl) ?_
        refine r_nil ?_
        refine e_next ?_
        refine c_seq ?_
        refine c_splitd (d := 15) rfl (fun h_7 => ?_) (fun h_7 => ?_)
        · skip
          first
            | (exfalso; first | omega | assumption)
            | (
              refine c_cond_t rfl ?_
              refine c_skip ?_
              refine e_next ?_
              refine c_seq ?_
              refine c_block ?_
              refine c_seq ?_
              refine c_region ?_
              refine r_iaddr_g .none rfl Try.underlying67 sz97 rfl hr rfl (by first | exact of_decide_eq_true rfl | omega) (fun p_9 o_10 R_8 => ?_)
              have hc_11 := hp _ (getD_mem (i := k) (d := d0) (by omega))
              refine r_val .none rfl (p_ldga0 Try.underlying97 rfl sz97 rfl R_8 (by first | exact of_decide_eq_true rfl | omega) (rfl : _ = Value.agg #[_, _, _, _, _, _, _, _])) ?_
              refine r_alloc .none rfl zr97 (IsRow.lit _) (fun b_1 => ?_)
              refine r_stw (k := 0) .none sz97 rfl rfl (IsRow.lit _) (one_lit rfl (all_cons rfl (all_cons rfl (all_cons rfl (all_cons rfl (all_cons rfl (all_cons rfl (all_cons rfl (all_cons (hc_11).one rfl))))))))) rfl ?_
              refine r_nil ?_
              refine e_next ?_
              refine c_seq ?_
              refine c_region ?_
              refine r_val .none rfl (p_move rfl) ?_
              refine r_val .none rfl (p_move rfl) ?_
              refine' r_or (c := 19) (d := 23) [_, _, _, _] rfl (fun h_12 Q_13 hQ_14 => ?_) (fun h_12 Q_13 hQ_14 => ?_) ?_
              rotate_left 1
              · skip
                refine r_val (.some rfl rfl) rfl (p_field Try.underlying97 rfl sz3 rfl) ?_
                refine r_val (.some rfl rfl) rfl (p_ld (k := 0) Try.underlying3 rfl rfl rfl (by first | exact of_decide_eq_true rfl | omega) (rfl : _ = Value.int _ _)) ?_
                refine r_val (.some rfl rfl) rfl (p_eq rfl rfl) ?_
                refine r_val .none rfl (p_pick_f rfl rfl) ?_
                refine r_nil (e_fin (d := 23) hQ_14 rfl (by repeat (first | exact .refl | refine .put rfl ?_ | refine .say rfl ?_ | refine .say2 rfl (by first | assumption | simp_all) ?_)))
              · skip
                repeat (first | refine r_skip rfl (.no rfl rfl) ?_ | refine r_skip rfl (.un rfl rfl) ?_)
                refine r_val (by first | exact .none | exact .some rfl rfl) rfl (p_pick_t rfl rfl) ?_
                refine r_nil (e_fin (d := 23) hQ_14 rfl (by repeat (first | exact .refl | refine .put rfl ?_ | refine .say rfl ?_ | refine .say2 rfl (by first | assumption | simp_all) ?_)))
              refine r_val .none rfl (p_assign rfl) ?_
              refine r_nil ?_
              refine e_next ?_
              refine c_region ?_
              refine r_val .none rfl (p_move rfl) ?_
              refine r_val .none rfl (p_move rfl) ?_
              refine' r_and (c := 25) (d := 29) [_, _, _, _] rfl (fun h_16 Q_17 hQ_18 => ?_) (fun h_16 Q_17 hQ_18 => ?_) ?_
              rotate_left 1
              · skip
                refine r_val (.some rfl rfl) rfl (p_field Try.underlying97 rfl sz3 rfl) ?_
                refine r_val (.some rfl rfl) rfl (p_ld (k := 0) Try.underlying3 rfl rfl rfl (by first | exact of_decide_eq_true rfl | omega) (rfl : _ = Value.int _ _)) ?_
                refine r_val (.some rfl rfl) rfl (p_eq rfl rfl) ?_
                refine r_val .none rfl (p_pick_t rfl rfl) ?_
                refine r_nil (e_fin (d := 29) hQ_18 rfl (by repeat (first | exact .refl | refine .put rfl ?_ | refine .say rfl ?_ | refine .say2 rfl (by first | assumption | simp_all) ?_)))
              · skip
                repeat (first | refine r_skip rfl (.no rfl rfl) ?_ | refine r_skip rfl (.un rfl rfl) ?_)
                refine r_val (by first | exact .none | exact .some rfl rfl) rfl (p_pick_f rfl rfl) ?_
                refine r_nil (e_fin (d := 29) hQ_18 rfl (by repeat (first | exact .refl | refine .put rfl ?_ | refine .say rfl ?_ | refine .say2 rfl (by first | assumption | simp_all) ?_)))
              refine r_val .none rfl (p_assign rfl) ?_
              refine r_nil ?_
              refine e_norm_block ?_
              refine e_next ?_
              refine c_region ?_
              refine r_val .none rfl (p_add rfl rfl (by omega)) ?_
              refine r_val .none rfl (p_move rfl) ?_
              refine r_nil ?_
              refine e_round (k + 1) ⟨by omega, by omega⟩ rfl ⟨rfl, (congrArg (fun b => some (Value.bool b)) (by rw [hl, posTo_succ (by omega)] <;> simp [*])), (congrArg (fun b => some (Value.bool b)) (by rw [hl, negTo_succ (by omega)] <;> simp [*])), rfl, rfl, rfl, rfl, trivial⟩ (.drop (.nil))
              )
        · skip
          first
            | (exfalso; first | omega | assumption)
            | (
              refine c_cond_f rfl ?_
              refine c_exit ?_
              refine e_exit_then ?_
              refine e_exit_then ?_
              refine e_exit_block ?_
              refine e_next ?_
              refine c_seq ?_
              refine c_region ?_
              refine r_val .none rfl (p_move rfl) ?_
              refine r_callm (vs := [_]) .none rfl cl42 rfl (fun w hw => c_lref _ _ hsz hs w hw) (fun G_20 v_23 hn_21 hr_22 => ?_)
              replace hr := hr.mono hn_21.le
              replace hs := hs.mono hn_21.le
              replace hp := fun p hm0 => (hp p hm0).mono hn_21.le
              have hR := hr_22
              refine r_callm (vs := [_]) .none rfl cl36 rfl (fun w hw => c_compile _ _ hsz hR w hw) (fun G_25 v_28 hn_26 hr_27 => ?_)
              replace hr := hr.mono hn_26.le
              replace hs := hs.mono hn_26.le
              replace hp := fun p hm0 => (hp p hm0).mono hn_26.le
              replace hR := hR.mono hn_26.le
              have hS := hr_27
              refine r_callm (vs := [_]) .none rfl cl35 rfl (fun w hw => c_steps _ _ (by omega) hS w hw) (fun G_30 v_33 hn_31 hr_32 => ?_)
              replace hr := hr.mono hn_31.le
              replace hs := hs.mono hn_31.le
              replace hp := fun p hm0 => (hp p hm0).mono hn_31.le
              replace hR := hR.mono hn_31.le
              replace hS := hS.mono hn_31.le
              have u_34 := hr_32
              refine r_callm (vs := [_, _]) .none rfl cl34 rfl (fun w hw => c_partial _ _ [] (stepsOf [] l) ⟨by simp, by omega⟩ hoks (Nat.le_trans (none_len _ _) (by decide)) (SlG.nil _ _ _) u_34 w hw) (fun G_35 v_38 hn_36 hr_37 => ?_)
              replace hr := hr.mono hn_36.le
              replace hs := hs.mono hn_36.le
              replace hp := fun p hm0 => (hp p hm0).mono hn_36.le
              replace hR := hR.mono hn_36.le
              replace hS := hS.mono hn_36.le
              replace u_34 := u_34.mono hn_36.le
              obtain ⟨qs, hq, hqp, hql⟩ := hr_37
              have hA : posTo l k = true → qs.length = 0 := none_pos hql
              have hB : negTo l k = true → qs.length = 1 ∧ (qs.getD 0 es14).1.length = 0 := none_neg hql (by omega)
              have hC := none_one hql
              refine r_val .none rfl (p_assign rfl) ?_
              refine r_nil ?_
              refine e_next ?_
              refine c_seq ?_
              refine c_seq ?_
              refine c_region ?_
              refine r_val .none rfl (p_move rfl) ?_
              refine r_val .none rfl (p_move rfl) ?_
              refine' r_and (c := 37) (d := 41) [_, _, _, _] rfl (fun h_40 Q_41 hQ_42 => ?_) (fun h_40 Q_41 hQ_42 => ?_) ?_
              rotate_left 1
              · skip
                refine r_val (.some rfl rfl) rfl (p_move rfl) ?_
                refine r_val (.some rfl rfl) rfl (p_leng Try.underlying79 rfl hq) ?_
                have bd_44 := (hq).bound
                refine r_val (.some rfl rfl) rfl (p_ne rfl rfl) ?_
                refine r_val .none rfl (p_pick_t rfl rfl) ?_
                refine r_nil (e_fin (d := 41) hQ_42 rfl (by repeat (first | exact .refl | refine .put rfl ?_ | refine .say rfl ?_ | refine .say2 rfl (by first | assumption | simp_all) ?_)))
              · skip
                repeat (first | refine r_skip rfl (.no rfl rfl) ?_ | refine r_skip rfl (.un rfl rfl) ?_)
                refine r_val (by first | exact .none | exact .some rfl rfl) rfl (p_pick_f rfl rfl) ?_
                refine r_nil (e_fin (d := 41) hQ_42 rfl (by repeat (first | exact .refl | refine .put rfl ?_ | refine .say rfl ?_ | refine .say2 rfl (by first | assumption | simp_all) ?_)))
              refine r_val .none rfl (p_move rfl) ?_
              refine' r_or (c := 42) (d := 56) [_, _, _, _, _, _, _, _, _, _, _, _, _, _] rfl (fun h_45 Q_46 hQ_47 => ?_) (fun h_45 Q_46 hQ_47 => ?_) ?_
              rotate_left 1
              · skip
                try simp only [norms] at h_45
                refine r_val (.some rfl rfl) rfl (p_move rfl) ?_
                refine r_val (.some rfl rfl) rfl (p_move rfl) ?_
                refine' r_and (c := 44) (d := 55) [_, _, _, _, _, _, _, _, _, _, _] rfl (fun h_49 Q_50 hQ_51 => ?_) (fun h_49 Q_50 hQ_51 => ?_) ?_
                rotate_left 1
                · skip
                  refine r_val (.some rfl rfl) rfl (p_move rfl) ?_
                  refine r_val (.some rfl rfl) rfl (p_leng Try.underlying79 rfl hq) ?_
                  have bd_53 := (hq).bound
                  refine r_val (.some rfl rfl) rfl (p_ne rfl rfl) ?_
                  refine r_val (.some rfl rfl) rfl (p_move rfl) ?_
                  refine' r_or (c := 48) (d := 54) [_, _, _, _, _, _] rfl (fun h_54 Q_55 hQ_56 => ?_) (fun h_54 Q_55 hQ_56 => ?_) ?_
                  rotate_left 1
                  · skip
                    replace h_54 := of_decide_eq_false h_54
                    refine r_val (.some rfl rfl) rfl (p_move rfl) ?_
                    refine r_iaddr_g (i := 0) (.some rfl rfl) rfl Try.underlying79 sz22 rfl hq rfl (by first | exact of_decide_eq_true rfl | omega) (fun p_59 o_60 R_58 => ?_)
                    have hq_61 := hqp _ (getD_mem (i := 0) (d := es14) (by omega))
                    refine r_val (.some rfl rfl) rfl (p_ldg0 Try.underlying22 rfl rfl R_58 (by first | exact of_decide_eq_true rfl | omega) rfl) ?_
                    refine r_val (.some rfl rfl) rfl (p_leng Try.underlying22 rfl hq_61) ?_
                    have bd_62 := (hq_61).bound
                    refine r_val (.some rfl rfl) rfl (p_ne rfl rfl) ?_
                    refine r_val (.some rfl rfl) rfl (p_pick_f rfl rfl) ?_
                    refine r_nil (e_fin (d := 54) hQ_56 rfl (by repeat (first | exact .refl | refine .put rfl ?_ | refine .say rfl ?_ | refine .say2 rfl (by first | assumption | simp_all) ?_)))
                  · skip
                    repeat (first | refine r_skip rfl (.no rfl rfl) ?_ | refine r_skip rfl (.un rfl rfl) ?_)
                    refine r_val (by first | exact .none | exact .some rfl rfl) rfl (p_pick_t rfl rfl) ?_
                    refine r_nil (e_fin (d := 54) hQ_56 rfl (by repeat (first | exact .refl | refine .put rfl ?_ | refine .say rfl ?_ | refine .say2 rfl (by first | assumption | simp_all) ?_)))
                  refine r_val (.some rfl rfl) rfl (p_pick_t rfl rfl) ?_
                  refine r_nil (e_fin (d := 55) hQ_51 rfl (by repeat (first | exact .refl | refine .put rfl ?_ | refine .say rfl ?_ | refine .say2 rfl (by first | assumption | simp_all) ?_)))
                · skip
                  repeat (first | refine r_skip rfl (.no rfl rfl) ?_ | refine r_skip rfl (.un rfl rfl) ?_)
                  refine r_val (by first | exact .none | exact .some rfl rfl) rfl (p_pick_f rfl rfl) ?_
                  refine r_nil (e_fin (d := 55) hQ_51 rfl (by repeat (first | exact .refl | refine .put rfl ?_ | refine .say rfl ?_ | refine .say2 rfl (by first | assumption | simp_all) ?_)))
                refine r_val .none rfl (p_pick_f rfl rfl) ?_
                refine r_nil (e_fin (d := 56) hQ_47 rfl (by repeat (first | exact .refl | refine .put rfl ?_ | refine .say rfl ?_ | refine .say2 rfl (by first | assumption | simp_all) ?_)))
              · skip
                repeat (first | refine r_skip rfl (.no rfl rfl) ?_ | refine r_skip rfl (.un rfl rfl) ?_)
                refine r_val (by first | exact .none | exact .some rfl rfl) rfl (p_pick_t rfl rfl) ?_
                refine r_nil (e_fin (d := 56) hQ_47 rfl (by repeat (first | exact .refl | refine .put rfl ?_ | refine .say rfl ?_ | refine .say2 rfl (by first | assumption | simp_all) ?_)))
              refine r_val .none rfl (p_move rfl) ?_
              refine' r_or (c := 57) (d := 61) [_, _, _, _] rfl (fun h_63 Q_64 hQ_65 => ?_) (fun h_63 Q_64 hQ_65 => ?_) ?_
              rotate_left 1
              · skip
                try simp only [norms] at h_63
                refine r_val (.some rfl rfl) rfl (p_move rfl) ?_
                refine r_val (.some rfl rfl) rfl (p_leng Try.underlying79 rfl hq) ?_
                have bd_67 := (hq).bound
                refine r_val (.some rfl rfl) rfl (p_gt rfl rfl) ?_
                refine r_val .none rfl (p_pick_f rfl rfl) ?_
                refine r_nil (e_fin (d := 61) hQ_65 rfl (by repeat (first | exact .refl | refine .put rfl ?_ | refine .say rfl ?_ | refine .say2 rfl (by first | assumption | simp_all) ?_)))
              · skip
                repeat (first | refine r_skip rfl (.no rfl rfl) ?_ | refine r_skip rfl (.un rfl rfl) ?_)
                refine r_val (by first | exact .none | exact .some rfl rfl) rfl (p_pick_t rfl rfl) ?_
                refine r_nil (e_fin (d := 61) hQ_65 rfl (by repeat (first | exact .refl | refine .put rfl ?_ | refine .say rfl ?_ | refine .say2 rfl (by first | assumption | simp_all) ?_)))
              refine r_nil ?_
              refine e_next ?_
              refine c_split (d := 61) rfl (fun h_68 => ?_) (fun h_68 => ?_)
              · skip
                try simp only [norms] at h_68
                have hx : False := by have h0 := h_68; clear h_68; cases hp0 : posTo l k <;> cases hn0 : negTo l k <;> simp only [hp0, hn0, Bool.false_eq_true, true_and, false_and, false_or, or_false] at h0 <;> (try have q1 := hA hp0) <;> (try have q2 := hB hn0) <;> omega
                first
                  | (exfalso; first | omega | assumption)
                  | (
                    refine c_cond_t rfl ?_
                    refine c_seq ?_
                    refine c_region ?_
                    refine r_val .none rfl (p_assign rfl) ?_
                    refine r_nil ?_
                    refine e_next ?_
                    refine c_ret ?_
                    refine e_ret_then ?_
                    refine e_ret1 Try.results9 (.tmp rfl .nil) (fun w hm => ⟨?_, hm.since⟩)
                    rfl
                    )
              · skip
                try simp only [norms] at h_68
                first
                  | (exfalso; first | omega | assumption)
                  | (
                    refine c_cond_f rfl ?_
                    refine c_skip ?_
                    refine e_next ?_
                    refine c_seq ?_
                    refine c_region ?_
                    refine r_call (vs := []) .none rfl cl31 rfl (fun w hw => c_awake14 w) ?_
                    refine r_val .none rfl (p_assign rfl) ?_
                    refine r_nil ?_
                    refine e_next ?_
                    refine c_ret ?_
                    refine e_ret1 Try.results9 (.tmp rfl .nil) (fun w hm => ⟨?_, hm.since⟩)
                    rfl
                    )
              )
        )
end Go.Proofs.Ytpadfgomhojjnaa

/- Plain laws of the guards of matching: how many Pos there are, how many choices, and facts of triples; no program in sight. -/
namespace Go.Gx.T14
open Go.Gx Go.Gx.T3 Go.Gx.T4 Go.Gx.T6 Go.Gx.T8 Go.Gx.T13
mutual
def posC : CT → Nat
  | .mk _ s => posL s
def posL : List CT → Nat
  | [] => 0
  | c :: t => (if c.h.k = 1 then 1 else 0) + posC c + posL t
end
theorem posC_eq (c : CT) : posC c = posL c.subs := by cases c; rw [posC]; rfl
theorem posL_snoc : ∀ (a : List CT) (c : CT), posL (a ++ [c]) = posL a + (if c.h.k = 1 then 1 else 0) + posL c.subs
  | [], c => by simp [posL, posC_eq]
  | x :: a, c => by rw [List.cons_append, posL, posL, posL_snoc a c]; omega
theorem posL_take {rs : List (CT × Value)} {k : Nat} (hk : k < rs.length) : posL ((rs.map Prod.fst).take (k + 1)) = posL ((rs.map Prod.fst).take k) + (if (rs.getD k d0).1.h.k = 1 then 1 else 0) + posL (rs.getD k d0).1.subs := by
  rw [map_take (d := d0) hk, posL_snoc]
mutual
theorem posC_le : ∀ c : CT, posC c + 1 ≤ size c
  | .mk h l => by
    have := posL_le l
    rw [posC, size]; omega
theorem posL_le : ∀ l : List CT, posL l ≤ sizeL l
  | [] => by rw [posL]; omega
  | c :: t => by
    have h1 := posC_le c
    have h2 := posL_le t
    rw [posL, sizeL]
    split <;> omega
end
theorem posL_take_le {rs : List (CT × Value)} {k : Nat} (hk : k < rs.length) : posL ((rs.map Prod.fst).take k) + (if (rs.getD k d0).1.h.k = 1 then 1 else 0) + posL (rs.getD k d0).1.subs ≤ sizeL (rs.map Prod.fst) := by
  rw [← posL_take hk]
  exact Nat.le_trans (posL_le _) (sizeL_take_le _ _)
theorem pos_yes {c : CT} (h : c.h.k = 1) : (if c.h.k = 1 then 1 else 0 : Nat) = 1 := if_pos h
theorem pos_no {c : CT} (h : ¬ c.h.k = 1) : (if c.h.k = 1 then 1 else 0 : Nat) = 0 := if_neg h
/-! ### choices -/
theorem cost_mul {n f : Nat} (hn : n ≤ 3000) (hf : f ≤ 12) : -9223372036854775808 ≤ (n : Int) * ((f : Int) + 1) ∧ (n : Int) * ((f : Int) + 1) ≤ 9223372036854775807 := by
  have h1 : n * (f + 1) ≤ 3000 * 13 := Nat.mul_le_mul hn (by omega)
  have h2 : (n : Int) * ((f : Int) + 1) = ((n * (f + 1) : Nat) : Int) := by rw [Int.natCast_mul]; rfl
  rw [h2]; omega
theorem cost_next (f j : Nat) : (((f + 1) ^ j : Nat) : Int) * ((f : Int) + 1) = (((f + 1) ^ (j + 1) : Nat) : Int) := by
  rw [Nat.pow_succ, Int.natCast_mul]; rfl
def costB (f : Nat) (l : List CT) : Bool := decide ((f + 1) ^ posL l ≤ 3000)
theorem cost_end {f j p : Nat} {l : List CT} (hp : posL l = p) (hj : j ≤ p) (h : j = p ∨ 3000 < (f + 1) ^ j) : decide ((((f + 1) ^ j : Nat) : Int) ≤ 3000) = costB f l := by
  unfold costB
  rw [hp]
  rcases h with rfl | h
  · congr 1
    exact propext (by omega)
  · have h2 : (f + 1) ^ j ≤ (f + 1) ^ p := Nat.pow_le_pow_right (by omega) hj
    rw [decide_eq_false (by omega), decide_eq_false (by omega)]
/-! ### facts of triples -/
def fTo (l : List Tri) (d : Int) (k : Nat) : List FD := (List.range k).map fun (i : Nat) => ((1 + (i : Int) * d, l.getD i z3) : FD)
theorem fTo_len (l : List Tri) (d : Int) (k : Nat) : (fTo l d k).length = k := by simp [fTo]
theorem fTo_succ (l : List Tri) (d : Int) (k : Nat) : fTo l d (k + 1) = fTo l d k ++ [(1 + (k : Int) * d, l.getD k z3)] := by simp [fTo, List.range_succ]
theorem fTo_take (l : List Tri) (d : Int) {j k : Nat} (h : j ≤ k) : (fTo l d k).take j = fTo l d j := by
  unfold fTo
  rw [← List.map_take, List.take_range, Nat.min_eq_left h]
def tOk (t : Tri) : Bool := tripleRight t.1 t.2.1 t.2.2
def okTo (l : List Tri) (k : Nat) : Bool := (l.take k).all tOk
def allOk (l : List Tri) : Bool := l.all tOk
def fcts (l : List Tri) (d : Int) : List FD := if allOk l = true then fTo l d l.length else []
theorem allOk_no {l : List Tri} {k : Nat} (hk : k < l.length) (h : tOk (l.getD k z3) = false) : allOk l = false := by
  have e : l.getD k z3 = l[k] := by simp [List.getD, hk]
  rw [e] at h
  cases h2 : allOk l with
  | false => rfl
  | true => exact absurd (List.all_eq_true.1 h2 _ (List.getElem_mem hk)) (by rw [h]; decide)
theorem okTo_succ {l : List Tri} {k : Nat} (hk : k < l.length) : okTo l (k + 1) = (okTo l k && tOk (l.getD k z3)) := by
  unfold okTo
  have e : l.getD k z3 = l[k] := by simp [List.getD, hk]
  rw [List.take_succ_eq_append_getElem hk, e, List.all_append, List.all_cons, List.all_nil, Bool.and_true]
theorem okTo_all {l : List Tri} {k : Nat} (hk : l.length ≤ k) : okTo l k = allOk l := by
  unfold okTo allOk
  rw [List.take_of_length_le hk]
theorem fcts_yes {l : List Tri} {d : Int} (h : allOk l = true) : fcts l d = fTo l d l.length := if_pos h
theorem fcts_no {l : List Tri} {d : Int} (h : allOk l = false) : fcts l d = [] := if_neg (by rw [h]; decide)
theorem fcts_len {l : List Tri} {d : Int} (h : allOk l = true) : (fcts l d).length = l.length := by rw [fcts_yes h, fTo_len]
/-! ### how many matches there are -/
theorem fm_len {α β : Type} {n : Nat} {f : α → List β} : ∀ (l : List α), (∀ x ∈ l, (f x).length ≤ n) → (l.flatMap f).length ≤ l.length * n
  | [], _ => by simp
  | a :: t, h => by
    have h1 := h a (by simp)
    have h2 := fm_len t (fun x hx => h x (by simp [hx]))
    rw [List.flatMap_cons, List.length_append, List.length_cons, Nat.add_mul, Nat.one_mul]
    omega
def sPos : List ST → Nat
  | [] => 0
  | c :: t => (if c.h.k = 1 then 1 else 0) + sPos t
theorem gm_len (fs : List FD) : ∀ (l : List ST) (m : MT), (gm fs l m).length ≤ (fs.length + 1) ^ sPos l
  | [], m => by rw [gm, sPos]; simp
  | c :: t, m => by
    rw [gm, sPos]
    have ih := fun m => gm_len fs t m
    have hp : 0 < (fs.length + 1) ^ sPos t := Nat.pow_pos (by omega)
    split
    · rw [Nat.add_comm 1 (sPos t), Nat.pow_succ]
      refine Nat.le_trans (fm_len _ (fun f _ => ih (mw m f))) ?_
      rw [Nat.mul_comm]
      refine Nat.mul_le_mul_left _ ?_
      have := List.length_filter_le (fun f : FD => meets c.h.k (sKey c.h) c.h.ts m.2 f.2) fs
      omega
    · rw [Nat.zero_add]
      split
      · split
        · exact ih m
        · simp
      · split
        · exact ih m
        · simp
theorem sPos_le : ∀ (l ch : List CT), sPos (stepsOf ch l) ≤ posL l
  | [], ch => by rw [stepsOf, sPos, posL]; omega
  | c :: t, ch => by
    have h2 := sPos_le t (ch ++ [c])
    have hk : (stepOf ch c).h.k = c.h.k := by
      by_cases h : c.h.k = 3
      · rw [stepOf_ncc h]; rfl
      · rw [stepOf_other h]; rfl
    rw [stepsOf, sPos, posL, hk]
    omega
theorem gm_small {fs : List FD} {l : List CT} {f : Nat} (hc : costB f l = true) (hf : fs.length ≤ f) (m : MT) {k : Nat} : (gm fs ((stepsOf [] l).take k) m).length ≤ 3000 := by
  unfold costB at hc
  have h1 : (f + 1) ^ posL l ≤ 3000 := of_decide_eq_true hc
  have h0 : ∀ (l : List ST) (k : Nat), sPos (l.take k) ≤ sPos l := by
    intro l
    induction l with
    | nil => intro k; simp
    | cons c t ih =>
      intro k
      cases k with
      | zero => rw [List.take_zero, sPos]; omega
      | succ k => rw [List.take_succ_cons, sPos, sPos]; have := ih k; omega
  refine Nat.le_trans (gm_len fs _ m) (Nat.le_trans (Nat.pow_le_pow_left (show fs.length + 1 ≤ f + 1 by omega) _) (Nat.le_trans (Nat.pow_le_pow_right (by omega) ?_) h1))
  exact Nat.le_trans (h0 _ _) (sPos_le l [])
theorem gm_small0 {fs : List FD} {l : List CT} {f : Nat} (hc : costB f l = true) (hf : fs.length ≤ f) (m : MT) : (gm fs (stepsOf [] l) m).length ≤ 3000 := by
  have h := gm_small (k := (stepsOf [] l).length) hc hf m
  rwa [List.take_length] at h
end Go.Gx.T14

/- Walks: what Go functions of this chapter come to, each as a function on plain data; no condition but those that each theorem names. Printed by a program of this work (gen.py). -/
namespace Go.Proofs.Ytpadfgomhojjnaa
open Go.Gx Go.Gx.T13 Go.Gx.T8 Go.Gx.T4 Go.Gx.T3 Go.Gx.T14 Go.Gx.T13 Go.Gx.T8 Go.Gx.T6 Go.Gx.T4 Go.Gx.T3 Go.Gx.T3 Go.Gx.T4 Go.Gx.T3 Go.Gx.T6 Go.Gx.T8 Go.Gx.T4 Go.Gx.T3 Go.Gx.T8 Go.Gx.T4 Go.Gx.T3 Go.Gx.T8 Go.Gx.T6 Go.Gx.T4 Go.Gx.T3
theorem cl54 : Callable Try.prog 54 := callable Try.func54 (by kernel_rfl) rfl
theorem cl62 : Callable Try.prog 62 := callable Try.func62 (by kernel_rfl) rfl
theorem bs120_10a4 (a0 a1 a2 a3 : Value) : Instr.fill (fun i => some (i * 4, 4)) ((Array.range (1 * 4)).map ((Value.agg #[Value.int .i64 0, Value.int .i64 0, Value.int .i64 0, Value.int .i64 0]).cells[· % (Value.agg #[Value.int .i64 0, Value.int .i64 0, Value.int .i64 0, Value.int .i64 0]).cells.size]!)) [(0, Value.agg #[a0, a1, a2, a3])] = some #[a0, a1, a2, a3] := by
  kernel_rfl
def PosIs (n : Nat) : Prop := ∀ (v : Value) (l : List CT) (G : Ghost) (w : World), SizeOf.sizeOf l ≤ n → sizeL l ≤ 1000 → Rs G v l → Has G w → Calls Try.prog 62 #[v] w (Ret fun r w' => r = Value.int .i64 (posL l : Nat) ∧ Since nX w w')
theorem c_rtri13 (t : Tri)  (w : World)  :
    Calls Try.prog 54 #[kT t] w (Ret fun r w' => r = Value.bool (tripleRight t.1 t.2.1 t.2.2) ∧ Since nX w w') := by
  refine enter (args := [_]) (X := nX) (G := (fun _ => none)) (l := [(0, kT t)]) Try.func54 rfl Try.ntmps54 (fun _ _ h => by cases h) ⟨rfl, trivial⟩ (Nat.le_of_ble_eq_true rfl) ?_
  refine c_seq ?_
  refine c_region ?_
  refine r_box .none rfl rfl (IsRow.lit _) (fun b_1 => ?_)
  refine r_val .none rfl (p_assign rfl) ?_
  refine r_nil ?_
  refine e_next ?_
  refine c_seq ?_
  refine c_seq ?_
  refine c_region ?_
  refine r_val .none rfl (p_assign rfl) ?_
  refine r_nil ?_
  refine e_next ?_
  refine c_block ?_
  refine c_unroll 4 ?_
  refine l_round (n := 3) ?_
  refine c_seq ?_
  refine c_seq ?_
  refine c_region ?_
  refine r_val .none rfl (p_move rfl) ?_
  refine r_val .none rfl (p_lt rfl rfl) ?_
  refine r_say (d := 5) (v := Value.bool true) rfl ?_
  refine r_nil ?_
  refine e_next ?_
  refine c_cond_t rfl ?_
  refine c_skip ?_
  refine e_next ?_
  refine c_seq ?_
  refine c_block ?_
  refine c_seq ?_
  refine c_region ?_
  refine r_val .none rfl (p_move rfl) ?_
  refine r_val .none rfl (p_iaddr (k := 0) Try.underlying105 sz3 rfl rfl (by first | exact of_decide_eq_true rfl | omega)) ?_
  refine r_val .none rfl (p_ld (k := 0) Try.underlying3 rfl rfl rfl (by first | exact of_decide_eq_true rfl | omega) (rfl : _ = Value.int _ _)) ?_
  refine r_val .none rfl (p_lt rfl rfl) ?_
  refine r_val .none rfl (p_move rfl) ?_
  refine r_splitd (d := 12) rfl (fun h_1 => ?_) (fun h_1 => ?_)
  · skip
    first
      | (exfalso; omega)
      | (
        refine r_skip rfl (.no rfl rfl) ?_
        refine r_skip rfl (.no rfl rfl) ?_
        refine r_skip rfl (.no rfl rfl) ?_
        refine r_skip rfl (.no rfl rfl) ?_
        refine r_val .none rfl (p_pick_t rfl rfl) ?_
        refine r_nil ?_
        refine e_next ?_
        refine c_cond_t rfl ?_
        refine c_seq ?_
        refine c_region ?_
        refine r_val .none rfl (p_assign rfl) ?_
        refine r_nil ?_
        refine e_next ?_
        refine c_ret ?_
        refine e_ret_block ?_
        refine e_ret_then ?_
        refine e_ret_then ?_
        refine e_ret_block ?_
        refine e_ret_then ?_
        refine e_ret1 Try.results54 (.tmp rfl .nil) (fun w hm => ⟨?_, hm.since⟩)
        (simp [tripleRight, triL, at_] at *; try omega)
        )
  · skip
    first
      | (exfalso; omega)
      | (
        refine r_val (.some rfl rfl) rfl (p_move rfl) ?_
        refine r_val (.some rfl rfl) rfl (p_iaddr (k := 0) Try.underlying105 sz3 rfl rfl (by first | exact of_decide_eq_true rfl | omega)) ?_
        refine r_val (.some rfl rfl) rfl (p_ld (k := 0) Try.underlying3 rfl rfl rfl (by first | exact of_decide_eq_true rfl | omega) (rfl : _ = Value.int _ _)) ?_
        refine r_val (.some rfl rfl) rfl (p_gt rfl rfl) ?_
        refine r_val .none rfl (p_pick_f rfl rfl) ?_
        refine r_nil ?_
        refine e_next ?_
        refine c_splitd (d := 17) rfl (fun h_2 => ?_) (fun h_2 => ?_)
        · skip
          first
            | (exfalso; omega)
            | (
              refine c_cond_t rfl ?_
              refine c_seq ?_
              refine c_region ?_
              refine r_val .none rfl (p_assign rfl) ?_
              refine r_nil ?_
              refine e_next ?_
              refine c_ret ?_
              refine e_ret_block ?_
              refine e_ret_then ?_
              refine e_ret_then ?_
              refine e_ret_block ?_
              refine e_ret_then ?_
              refine e_ret1 Try.results54 (.tmp rfl .nil) (fun w hm => ⟨?_, hm.since⟩)
              (simp [tripleRight, triL, at_] at *; try omega)
              )
        · skip
          first
            | (exfalso; omega)
            | (
              refine c_cond_f rfl ?_
              refine c_skip ?_
              refine e_norm_block ?_
              refine e_next ?_
              refine c_region ?_
              refine r_val .none rfl (p_move rfl) ?_
              refine r_val .none rfl (p_add rfl rfl (by omega)) ?_
              refine r_val .none rfl (p_assign rfl) ?_
              refine r_nil ?_
              refine e_again ?_
              refine l_round (n := 2) ?_
              refine c_seq ?_
              refine c_seq ?_
              refine c_region ?_
              refine r_val .none rfl (p_move rfl) ?_
              refine r_val .none rfl (p_lt rfl rfl) ?_
              refine r_say (d := 5) (v := Value.bool true) rfl ?_
              refine r_nil ?_
              refine e_next ?_
              refine c_cond_t rfl ?_
              refine c_skip ?_
              refine e_next ?_
              refine c_seq ?_
              refine c_block ?_
              refine c_seq ?_
              refine c_region ?_
              refine r_val .none rfl (p_move rfl) ?_
              refine r_val .none rfl (p_iaddr (k := 1) Try.underlying105 sz3 rfl rfl (by first | exact of_decide_eq_true rfl | omega)) ?_
              refine r_val .none rfl (p_ld (k := 0) Try.underlying3 rfl rfl rfl (by first | exact of_decide_eq_true rfl | omega) (rfl : _ = Value.int _ _)) ?_
              refine r_val .none rfl (p_lt rfl rfl) ?_
              refine r_val .none rfl (p_move rfl) ?_
              refine r_splitd (d := 12) rfl (fun h_3 => ?_) (fun h_3 => ?_)
              · skip
                first
                  | (exfalso; omega)
                  | (
                    refine r_skip rfl (.no rfl rfl) ?_
                    refine r_skip rfl (.no rfl rfl) ?_
                    refine r_skip rfl (.no rfl rfl) ?_
                    refine r_skip rfl (.no rfl rfl) ?_
                    refine r_val .none rfl (p_pick_t rfl rfl) ?_
                    refine r_nil ?_
                    refine e_next ?_
                    refine c_cond_t rfl ?_
                    refine c_seq ?_
                    refine c_region ?_
                    refine r_val .none rfl (p_assign rfl) ?_
                    refine r_nil ?_
                    refine e_next ?_
                    refine c_ret ?_
                    refine e_ret_block ?_
                    refine e_ret_then ?_
                    refine e_ret_then ?_
                    refine e_ret_block ?_
                    refine e_ret_then ?_
                    refine e_ret1 Try.results54 (.tmp rfl .nil) (fun w hm => ⟨?_, hm.since⟩)
                    (simp [tripleRight, triL, at_] at *; try omega)
                    )
              · skip
                first
                  | (exfalso; omega)
                  | (
                    refine r_val (.some rfl rfl) rfl (p_move rfl) ?_
                    refine r_val (.some rfl rfl) rfl (p_iaddr (k := 1) Try.underlying105 sz3 rfl rfl (by first | exact of_decide_eq_true rfl | omega)) ?_
                    refine r_val (.some rfl rfl) rfl (p_ld (k := 0) Try.underlying3 rfl rfl rfl (by first | exact of_decide_eq_true rfl | omega) (rfl : _ = Value.int _ _)) ?_
                    refine r_val (.some rfl rfl) rfl (p_gt rfl rfl) ?_
                    refine r_val .none rfl (p_pick_f rfl rfl) ?_
                    refine r_nil ?_
                    refine e_next ?_
                    refine c_splitd (d := 17) rfl (fun h_4 => ?_) (fun h_4 => ?_)
                    · skip
                      first
                        | (exfalso; omega)
                        | (
                          refine c_cond_t rfl ?_
                          refine c_seq ?_
                          refine c_region ?_
                          refine r_val .none rfl (p_assign rfl) ?_
                          refine r_nil ?_
                          refine e_next ?_
                          refine c_ret ?_
                          refine e_ret_block ?_
                          refine e_ret_then ?_
                          refine e_ret_then ?_
                          refine e_ret_block ?_
                          refine e_ret_then ?_
                          refine e_ret1 Try.results54 (.tmp rfl .nil) (fun w hm => ⟨?_, hm.since⟩)
                          (simp [tripleRight, triL, at_] at *; try omega)
                          )
                    · skip
                      first
                        | (exfalso; omega)
                        | (
                          refine c_cond_f rfl ?_
                          refine c_skip ?_
                          refine e_norm_block ?_
                          refine e_next ?_
                          refine c_region ?_
                          refine r_val .none rfl (p_move rfl) ?_
                          refine r_val .none rfl (p_add rfl rfl (by omega)) ?_
                          refine r_val .none rfl (p_assign rfl) ?_
                          refine r_nil ?_
                          refine e_again ?_
                          refine l_round (n := 1) ?_
                          refine c_seq ?_
                          refine c_seq ?_
                          refine c_region ?_
                          refine r_val .none rfl (p_move rfl) ?_
                          refine r_val .none rfl (p_lt rfl rfl) ?_
                          refine r_say (d := 5) (v := Value.bool true) rfl ?_
                          refine r_nil ?_
                          refine e_next ?_
                          refine c_cond_t rfl ?_
                          refine c_skip ?_
                          refine e_next ?_
                          refine c_seq ?_
                          refine c_block ?_
                          refine c_seq ?_
                          refine c_region ?_
                          refine r_val .none rfl (p_move rfl) ?_
                          refine r_val .none rfl (p_iaddr (k := 2) Try.underlying105 sz3 rfl rfl (by first | exact of_decide_eq_true rfl | omega)) ?_
                          refine r_val .none rfl (p_ld (k := 0) Try.underlying3 rfl rfl rfl (by first | exact of_decide_eq_true rfl | omega) (rfl : _ = Value.int _ _)) ?_
                          refine r_val .none rfl (p_lt rfl rfl) ?_
                          refine r_val .none rfl (p_move rfl) ?_
                          refine r_splitd (d := 12) rfl (fun h_5 => ?_) (fun h_5 => ?_)
                          · skip
                            first
                              | (exfalso; omega)
                              | (
                                refine r_skip rfl (.no rfl rfl) ?_
                                refine r_skip rfl (.no rfl rfl) ?_
                                refine r_skip rfl (.no rfl rfl) ?_
                                refine r_skip rfl (.no rfl rfl) ?_
                                refine r_val .none rfl (p_pick_t rfl rfl) ?_
                                refine r_nil ?_
                                refine e_next ?_
                                refine c_cond_t rfl ?_
                                refine c_seq ?_
                                refine c_region ?_
                                refine r_val .none rfl (p_assign rfl) ?_
                                refine r_nil ?_
                                refine e_next ?_
                                refine c_ret ?_
                                refine e_ret_block ?_
                                refine e_ret_then ?_
                                refine e_ret_then ?_
                                refine e_ret_block ?_
                                refine e_ret_then ?_
                                refine e_ret1 Try.results54 (.tmp rfl .nil) (fun w hm => ⟨?_, hm.since⟩)
                                (simp [tripleRight, triL, at_] at *; try omega)
                                )
                          · skip
                            first
                              | (exfalso; omega)
                              | (
                                refine r_val (.some rfl rfl) rfl (p_move rfl) ?_
                                refine r_val (.some rfl rfl) rfl (p_iaddr (k := 2) Try.underlying105 sz3 rfl rfl (by first | exact of_decide_eq_true rfl | omega)) ?_
                                refine r_val (.some rfl rfl) rfl (p_ld (k := 0) Try.underlying3 rfl rfl rfl (by first | exact of_decide_eq_true rfl | omega) (rfl : _ = Value.int _ _)) ?_
                                refine r_val (.some rfl rfl) rfl (p_gt rfl rfl) ?_
                                refine r_val .none rfl (p_pick_f rfl rfl) ?_
                                refine r_nil ?_
                                refine e_next ?_
                                refine c_splitd (d := 17) rfl (fun h_6 => ?_) (fun h_6 => ?_)
                                · skip
                                  first
                                    | (exfalso; omega)
                                    | (
                                      refine c_cond_t rfl ?_
                                      refine c_seq ?_
                                      refine c_region ?_
                                      refine r_val .none rfl (p_assign rfl) ?_
                                      refine r_nil ?_
                                      refine e_next ?_
                                      refine c_ret ?_
                                      refine e_ret_block ?_
                                      refine e_ret_then ?_
                                      refine e_ret_then ?_
                                      refine e_ret_block ?_
                                      refine e_ret_then ?_
                                      refine e_ret1 Try.results54 (.tmp rfl .nil) (fun w hm => ⟨?_, hm.since⟩)
                                      (simp [tripleRight, triL, at_] at *; try omega)
                                      )
                                · skip
                                  first
                                    | (exfalso; omega)
                                    | (
                                      refine c_cond_f rfl ?_
                                      refine c_skip ?_
                                      refine e_norm_block ?_
                                      refine e_next ?_
                                      refine c_region ?_
                                      refine r_val .none rfl (p_move rfl) ?_
                                      refine r_val .none rfl (p_add rfl rfl (by omega)) ?_
                                      refine r_val .none rfl (p_assign rfl) ?_
                                      refine r_nil ?_
                                      refine e_again ?_
                                      refine l_round (n := 0) ?_
                                      refine c_seq ?_
                                      refine c_seq ?_
                                      refine c_region ?_
                                      refine r_val .none rfl (p_move rfl) ?_
                                      refine r_val .none rfl (p_lt rfl rfl) ?_
                                      refine r_say (d := 5) (v := Value.bool false) rfl ?_
                                      refine r_nil ?_
                                      refine e_next ?_
                                      refine c_cond_f rfl ?_
                                      refine c_exit ?_
                                      refine e_exit_then ?_
                                      refine e_exit_then ?_
                                      refine e_exit_block ?_
                                      refine e_next ?_
                                      refine c_seq ?_
                                      refine c_region ?_
                                      refine r_val .none rfl (p_assign rfl) ?_
                                      refine r_nil ?_
                                      refine e_next ?_
                                      refine c_ret ?_
                                      refine e_ret1 Try.results54 (.tmp rfl .nil) (fun w hm => ⟨?_, hm.since⟩)
                                      (simp [tripleRight, triL, at_] at *; try omega)
                                      )
                                )
                          )
                    )
              )
        )
theorem c_pos_s (n : Nat) (ih : PosIs n) (v : Value) (l : List CT) {G : Ghost} (hz : SizeOf.sizeOf l ≤ n + 1) (hsz : sizeL l ≤ 1000) (hs : Rs G v l) (w : World) (hG : Has G w) :
    Calls Try.prog 62 #[v] w (Ret fun r w' => r = Value.int .i64 (posL l : Nat) ∧ Since nX w w') := by
  refine enter (args := [_]) (X := nX) (G := G) (l := [(0, v)]) Try.func62 rfl Try.ntmps62 hG ⟨rfl, trivial⟩ (Nat.le_of_ble_eq_true rfl) ?_
  obtain ⟨rs, hr, hp, hl⟩ := hs.inv
  refine c_seq ?_
  refine c_region ?_
  refine r_val .none rfl (p_assign rfl) ?_
  refine r_nil ?_
  refine e_next ?_
  refine c_seq ?_
  refine c_region ?_
  refine r_val .none rfl (p_assign rfl) ?_
  refine r_nil ?_
  refine e_next ?_
  refine c_seq ?_
  refine c_seq ?_
  refine c_region ?_
  refine r_val .none rfl (p_move rfl) ?_
  refine r_val .none rfl (p_leng Try.underlying75 rfl hr) ?_
  have bd_1 := (hr).bound
  refine r_val .none rfl (p_move rfl) ?_
  refine r_nil ?_
  refine e_next ?_
  refine c_block ?_
  refine c_name (d := 2) rfl (fun u_2 hu_2 => ?_)
  refine c_name (d := 6) rfl (fun u_3 hu_3 => ?_)
  refine c_name (d := 7) rfl (fun u_4 hu_4 => ?_)
  refine c_loop (σ := Nat) (fun k => [(8, Value.int .i64 (k : Nat)), (3, Value.int .i64 (posL ((rs.map Prod.fst).take k) : Nat)), (2, u_2), (6, u_3), (7, u_4)]) (fun k => []) (fun _ => _) (fun k => k ≤ rs.length) (fun k => rs.length - k) (0) (Nat.zero_le _) rfl ⟨rfl, rfl, rfl, rfl, rfl, trivial⟩ (.nil) (fun k hphi => ?_)
  subst hu_2
  subst hu_3
  subst hu_4
  refine c_seq ?_
  refine c_region ?_
  refine r_val .none rfl (p_lt rfl rfl) ?_
  refine r_nil ?_
  refine e_next ?_
  refine c_seq ?_
  refine c_splitd (d := 9) rfl (fun h_5 => ?_) (fun h_5 => ?_)
  · skip
    first
      | (exfalso; omega)
      | (
        refine c_cond_t rfl ?_
        refine c_skip ?_
        refine e_next ?_
        refine c_seq ?_
        refine c_block ?_
        refine c_seq ?_
        refine c_region ?_
        refine r_iaddr_g .none rfl Try.underlying75 sz102 rfl hr rfl (by first | exact of_decide_eq_true rfl | omega) (fun p_7 o_8 R_6 => ?_)
        have hc_9 := hp _ (getD_mem (i := k) (d := d0) (by omega))
        refine r_val .none rfl (p_ldga0 Try.underlying102 rfl sz102 rfl R_6 (by first | exact of_decide_eq_true rfl | omega) (rfl : _ = Value.agg #[_, _, _, _, _, _, _, _])) ?_
        have hle : posL ((rs.map Prod.fst).take k) + (if (rs.getD k d0).1.h.k = 1 then 1 else 0) + posL (rs.getD k d0).1.subs ≤ sizeL l := by rw [hl]; exact posL_take_le (by omega)
        refine r_alloc .none rfl zr102 (IsRow.lit _) (fun b_1 => ?_)
        refine r_stw (k := 0) .none sz102 rfl rfl (IsRow.lit _) (one_lit rfl (all_cons rfl (all_cons rfl (all_cons rfl (all_cons rfl (all_cons rfl (all_cons rfl (all_cons rfl (all_cons (hc_9).one rfl))))))))) rfl ?_
        refine r_nil ?_
        refine e_next ?_
        refine c_seq ?_
        refine c_seq ?_
        refine c_region ?_
        refine r_val .none rfl (p_field Try.underlying102 rfl sz3 rfl) ?_
        refine r_val .none rfl (p_ld (k := 0) Try.underlying3 rfl rfl rfl (by first | exact of_decide_eq_true rfl | omega) (rfl : _ = Value.int _ _)) ?_
        refine r_val .none rfl (p_eq rfl rfl) ?_
        refine r_nil ?_
        refine e_next ?_
        refine c_splitd (d := 14) rfl (fun h_10 => ?_) (fun h_10 => ?_)
        · skip
          first
            | (exfalso; omega)
            | (
              refine c_cond_t rfl ?_
              refine c_region ?_
              refine r_val .none rfl (p_move rfl) ?_
              refine r_val .none rfl (p_add rfl rfl (by rw [pos_yes (by omega)] at hle; omega)) ?_
              refine r_val .none rfl (p_assign rfl) ?_
              refine r_nil ?_
              refine e_next ?_
              refine c_region ?_
              refine r_val .none rfl (p_move rfl) ?_
              refine r_val .none rfl (p_field Try.underlying102 rfl sz75 rfl) ?_
              refine r_val .none rfl (p_ld (k := 0) Try.underlying75 rfl rfl rfl (by first | exact of_decide_eq_true rfl | omega) rfl) ?_
              refine r_call (vs := [_]) .none rfl cl62 rfl (fun w hw => ih _ _ _ w (by have q1 := List.sizeOf_lt_of_mem (show (rs.getD k d0).1 ∈ l by rw [hl]; exact List.mem_map.2 ⟨_, getD_mem (i := k) (d := d0) (by omega), rfl⟩); have q2 := size_subs (rs.getD k d0).1; omega) (by have q1 := sizeL_mem (show (rs.getD k d0).1 ∈ l by rw [hl]; exact List.mem_map.2 ⟨_, getD_mem (i := k) (d := d0) (by omega), rfl⟩); have q2 := size_eq (rs.getD k d0).1; omega) hc_9 hw) ?_
              refine r_val .none rfl (p_add rfl rfl (by first | (rw [pos_yes (by omega)] at hle; omega) | (rw [pos_no (by omega)] at hle; omega))) ?_
              refine r_val .none rfl (p_assign rfl) ?_
              refine r_nil ?_
              refine e_norm_block ?_
              refine e_next ?_
              refine c_region ?_
              refine r_val .none rfl (p_add rfl rfl (by omega)) ?_
              refine r_val .none rfl (p_move rfl) ?_
              refine r_nil ?_
              refine e_round (k + 1) ⟨by omega, by omega⟩ rfl ⟨rfl, (congrArg (fun z => some (Value.int .i64 z)) (by rw [posL_take (by omega)]; (first | rw [pos_yes (by omega)] | rw [pos_no (by omega)]); omega)), rfl, rfl, rfl, trivial⟩ (.drop (.nil))
              )
        · skip
          first
            | (exfalso; omega)
            | (
              refine c_cond_f rfl ?_
              refine c_skip ?_
              refine e_next ?_
              refine c_region ?_
              refine r_val .none rfl (p_move rfl) ?_
              refine r_val .none rfl (p_field Try.underlying102 rfl sz75 rfl) ?_
              refine r_val .none rfl (p_ld (k := 0) Try.underlying75 rfl rfl rfl (by first | exact of_decide_eq_true rfl | omega) rfl) ?_
              refine r_call (vs := [_]) .none rfl cl62 rfl (fun w hw => ih _ _ _ w (by have q1 := List.sizeOf_lt_of_mem (show (rs.getD k d0).1 ∈ l by rw [hl]; exact List.mem_map.2 ⟨_, getD_mem (i := k) (d := d0) (by omega), rfl⟩); have q2 := size_subs (rs.getD k d0).1; omega) (by have q1 := sizeL_mem (show (rs.getD k d0).1 ∈ l by rw [hl]; exact List.mem_map.2 ⟨_, getD_mem (i := k) (d := d0) (by omega), rfl⟩); have q2 := size_eq (rs.getD k d0).1; omega) hc_9 hw) ?_
              refine r_val .none rfl (p_add rfl rfl (by first | (rw [pos_yes (by omega)] at hle; omega) | (rw [pos_no (by omega)] at hle; omega))) ?_
              refine r_val .none rfl (p_assign rfl) ?_
              refine r_nil ?_
              refine e_norm_block ?_
              refine e_next ?_
              refine c_region ?_
              refine r_val .none rfl (p_add rfl rfl (by omega)) ?_
              refine r_val .none rfl (p_move rfl) ?_
              refine r_nil ?_
              refine e_round (k + 1) ⟨by omega, by omega⟩ rfl ⟨rfl, (congrArg (fun z => some (Value.int .i64 z)) (by rw [posL_take (by omega)]; (first | rw [pos_yes (by omega)] | rw [pos_no (by omega)]); omega)), rfl, rfl, rfl, trivial⟩ (.drop (.nil))
              )
        )
  · skip
    first
      | (exfalso; omega)
      | (
        refine c_cond_f rfl ?_
        refine c_exit ?_
        refine e_exit_then ?_
        refine e_exit_then ?_
        refine e_exit_block ?_
        refine e_next ?_
        refine c_seq ?_
        refine c_region ?_
        refine r_val .none rfl (p_move rfl) ?_
        refine r_val .none rfl (p_assign rfl) ?_
        refine r_nil ?_
        refine e_next ?_
        refine c_ret ?_
        refine e_ret1 Try.results62 (.tmp rfl .nil) (fun w hm => ⟨?_, hm.since⟩)
        exact congrArg (fun (z : Nat) => Value.int .i64 (z : Int)) (by rw [hl, List.take_of_length_le (by simp; omega)])
        )
theorem c_pos_n : ∀ n, PosIs n
  | 0 => fun v l G w hz hsz hs hG => absurd hz (by cases l <;> simp)
  | n + 1 => fun v l G w hz hsz hs hG => c_pos_s n (c_pos_n n) v l hz hsz hs w hG
theorem c_pos (v : Value) (l : List CT) {G : Ghost} (hsz : sizeL l ≤ 1000) (hs : Rs G v l) (w : World) (hG : Has G w) : Calls Try.prog 62 #[v] w (Ret fun r w' => r = Value.int .i64 (posL l : Nat) ∧ Since nX w w') := c_pos_n _ v l G w (Nat.le_refl _) hsz hs hG
theorem c_cost (f : Nat) (v : Value) (l : List CT) {G : Ghost} (hf : f ≤ 12) (hsz : sizeL l ≤ 1000) (hs : Rs G v l) (w : World) (hG : Has G w) :
    Calls Try.prog 41 #[Value.int .i64 (f : Nat), v, Value.int .i64 3000] w (Ret fun r w' => r = Value.bool (costB f l) ∧ Since nX w w') := by
  refine enter (args := [_, _, _]) (X := nX) (G := G) (l := [(0, Value.int .i64 (f : Nat)), (1, v), (2, Value.int .i64 3000)]) Try.func41 rfl Try.ntmps41 hG ⟨rfl, rfl, rfl, trivial⟩ (Nat.le_of_ble_eq_true rfl) ?_
  obtain ⟨p, hpp⟩ : ∃ p, posL l = p := ⟨_, rfl⟩
  have hpl := posL_le l
  refine c_seq ?_
  refine c_region ?_
  refine r_val .none rfl (p_assign rfl) ?_
  refine r_nil ?_
  refine e_next ?_
  refine c_seq ?_
  refine c_region ?_
  refine r_val .none rfl (p_assign rfl) ?_
  refine r_nil ?_
  refine e_next ?_
  refine c_seq ?_
  refine c_seq ?_
  refine c_region ?_
  refine r_val .none rfl (p_move rfl) ?_
  refine r_call (vs := [_]) .none rfl cl62 rfl (fun w hw => c_pos _ l hsz hs w hw) ?_
  refine r_val .none rfl (p_assign rfl) ?_
  refine r_nil ?_
  refine e_next ?_
  refine c_block ?_
  refine c_name (d := 0) rfl (fun u_1 hu_1 => ?_)
  refine c_name (d := 2) rfl (fun u_2 hu_2 => ?_)
  refine c_name (d := 6) rfl (fun u_3 hu_3 => ?_)
  refine c_loop (σ := Nat) (fun j => [(7, Value.int .i64 (((f + 1) ^ j : Nat) : Int)), (8, Value.int .i64 (((p - j : Nat) : Nat) : Int)), (0, u_1), (2, u_2), (6, u_3)]) (fun j => []) (fun _ => _) (fun j => j ≤ p) (fun j => p - j) (0) (Nat.zero_le _) rfl ⟨(congrArg (fun z => some (Value.int .i64 z)) (by rw [Nat.pow_zero]; rfl)), (congrArg (fun z => some (Value.int .i64 z)) (by rw [hpp]; rfl)), rfl, rfl, rfl, trivial⟩ (.nil) (fun j hphi => ?_)
  subst hu_1
  subst hu_2
  subst hu_3
  refine c_seq ?_
  refine c_seq ?_
  refine c_region ?_
  refine r_val .none rfl (p_move rfl) ?_
  refine r_val .none rfl (p_gt rfl rfl) ?_
  refine r_val .none rfl (p_move rfl) ?_
  refine' r_and (c := 13) (d := 17) [_, _, _, _] rfl (fun h_4 Q_5 hQ_6 => ?_) (fun h_4 Q_5 hQ_6 => ?_) ?_
  rotate_left 1
  · skip
    replace h_4 := of_decide_eq_true h_4
    refine r_val (.some rfl rfl) rfl (p_move rfl) ?_
    refine r_val (.some rfl rfl) rfl (p_move rfl) ?_
    refine r_val (.some rfl rfl) rfl (p_le rfl rfl) ?_
    refine r_val .none rfl (p_pick_t rfl rfl) ?_
    refine r_nil (e_fin (d := 17) hQ_6 rfl (by repeat (first | exact .refl | refine .put rfl ?_ | refine .say rfl ?_ | refine .say2 rfl (by first | assumption | simp_all) ?_)))
  · skip
    repeat (first | refine r_skip rfl (.no rfl rfl) ?_ | refine r_skip rfl (.un rfl rfl) ?_)
    refine r_val (by first | exact .none | exact .some rfl rfl) rfl (p_pick_f rfl rfl) ?_
    refine r_nil (e_fin (d := 17) hQ_6 rfl (by repeat (first | exact .refl | refine .put rfl ?_ | refine .say rfl ?_ | refine .say2 rfl (by first | assumption | simp_all) ?_)))
  refine r_nil ?_
  refine e_next ?_
  refine c_split (d := 17) rfl (fun h_8 => ?_) (fun h_8 => ?_)
  · skip
    try simp only [norms] at h_8
    first
      | (exfalso; omega)
      | (
        refine c_cond_t rfl ?_
        refine c_skip ?_
        refine e_next ?_
        refine c_seq ?_
        refine c_block ?_
        refine c_region ?_
        refine r_val .none rfl (p_move rfl) ?_
        refine r_val .none rfl (p_move rfl) ?_
        refine r_val .none rfl (p_add rfl rfl (by omega)) ?_
        refine r_val .none rfl (p_mul rfl rfl (cost_mul (by omega) hf)) ?_
        refine r_val .none rfl (p_assign rfl) ?_
        refine r_nil ?_
        refine e_norm_block ?_
        refine e_next ?_
        refine c_region ?_
        refine r_val .none rfl (p_move rfl) ?_
        refine r_val .none rfl (p_sub rfl rfl (by omega)) ?_
        refine r_val .none rfl (p_assign rfl) ?_
        refine r_nil ?_
        refine e_round (j + 1) ⟨by omega, by omega⟩ rfl ⟨(congrArg (fun z => some (Value.int .i64 z)) (cost_next f j)), (congrArg (fun z => some (Value.int .i64 z)) (by omega)), rfl, rfl, rfl, trivial⟩ (.nil)
        )
  · skip
    try simp only [norms] at h_8
    first
      | (exfalso; omega)
      | (
        refine c_cond_f rfl ?_
        refine c_exit ?_
        refine e_exit_then ?_
        refine e_exit_then ?_
        refine e_exit_block ?_
        refine e_next ?_
        refine c_seq ?_
        refine c_region ?_
        refine r_val .none rfl (p_move rfl) ?_
        refine r_val .none rfl (p_move rfl) ?_
        refine r_val .none rfl (p_le rfl rfl) ?_
        refine r_val .none rfl (p_assign rfl) ?_
        refine r_nil ?_
        refine e_next ?_
        refine c_ret ?_
        refine e_ret1 Try.results41 (.tmp rfl .nil) (fun w hm => ⟨?_, hm.since⟩)
        exact congrArg Value.bool (cost_end hpp hphi (by omega))
        )
theorem c_facts (v : Value) (l : List Tri) (d : Int) {G : Ghost} (hln : l.length ≤ 1000) (hd : 1 ≤ d ∧ d ≤ 2) (hs : SlL G v 3 triL z3 l) (w : World) (hG : Has G w) :
    Calls Try.prog 32 #[v, Value.int .i64 d] w (Ret fun r w' => ∃ G', GNew w nX G G' ∧ Has G' w' ∧ (∃ u, r = .tuple #[u, .bool (allOk l)] ∧ SlL G' u 4 fC f0 (fcts l d)) ∧ Since nX w w') := by
  refine enter (args := [_, _]) (X := nX) (G := G) (l := [(0, v), (1, Value.int .i64 d)]) Try.func32 rfl Try.ntmps32 hG ⟨rfl, rfl, trivial⟩ (Nat.le_of_ble_eq_true rfl) ?_
  refine c_seq ?_
  refine c_region ?_
  refine r_val .none rfl (p_assign rfl) ?_
  refine r_val .none rfl (p_assign rfl) ?_
  refine r_nil ?_
  refine e_next ?_
  refine c_seq ?_
  refine c_region ?_
  refine r_val .none rfl (p_assign rfl) ?_
  refine r_nil ?_
  refine e_next ?_
  refine c_seq ?_
  refine c_seq ?_
  refine c_region ?_
  refine r_val .none rfl (p_move rfl) ?_
  refine r_val .none rfl (p_leng Try.underlying70 rfl hs) ?_
  have bd_1 := (hs).bound
  refine r_val .none rfl (p_move rfl) ?_
  refine r_nil ?_
  refine e_next ?_
  refine c_block ?_
  refine c_nilrow 120 4 ?_
  refine c_name (d := 1) rfl (fun u_2 hu_2 => ?_)
  refine c_name (d := 9) rfl (fun u_3 hu_3 => ?_)
  refine c_name (d := 10) rfl (fun u_4 hu_4 => ?_)
  refine c_loop (σ := Nat × Value) (fun s => [(11, Value.int .i64 (s.1 : Nat)), (6, s.2), (1, u_2), (9, u_3), (10, u_4)]) (fun s => [rowA (s.2) 120 4 ((fTo l d s.1)).length (((fTo l d s.1)).flatMap fC)]) (fun _ => _) (fun s => s.1 ≤ l.length ∧ okTo l s.1 = true) (fun s => l.length - s.1) ((0, _)) ⟨Nat.zero_le _, by simp [okTo]⟩ rfl ⟨rfl, rfl, rfl, rfl, rfl, trivial⟩ (.keep (fun _ _ h => rowA_nil rfl _ _ h) (.nil)) (fun s hphi => ?_)
  subst hu_2
  subst hu_3
  subst hu_4
  obtain ⟨k, u⟩ := s
  obtain ⟨hk, hok⟩ := hphi
  dsimp only at hk hok ⊢
  have hfl := fTo_len l d k
  refine c_seq ?_
  refine c_region ?_
  refine r_val .none rfl (p_lt rfl rfl) ?_
  refine r_nil ?_
  refine e_next ?_
  refine c_seq ?_
  refine c_splitd (d := 12) rfl (fun h_5 => ?_) (fun h_5 => ?_)
  · skip
    first
      | (exfalso; omega)
      | (
        refine c_cond_t rfl ?_
        refine c_skip ?_
        refine e_next ?_
        refine c_seq ?_
        refine c_block ?_
        refine c_seq ?_
        refine c_region ?_
        refine r_val .none rfl (p_move rfl) ?_
        refine r_iaddr_g .none rfl Try.underlying70 sz106 rfl hs rfl (by first | exact of_decide_eq_true rfl | omega) (fun p_7 o_8 R_6 => ?_)
        refine r_val .none rfl (p_ldga0 Try.underlying106 rfl sz106 rfl R_6 (by first | exact of_decide_eq_true rfl | omega) (rfl : _ = Value.agg #[_, _, _])) ?_
        refine r_alloc .none rfl zr106 (IsRow.lit _) (fun b_1 => ?_)
        refine r_val .none rfl (p_assign rfl) ?_
        refine r_stw (k := 0) .none sz106 rfl rfl (IsRow.lit _) (one_lit rfl rfl) rfl ?_
        refine r_nil ?_
        refine e_next ?_
        refine c_seq ?_
        refine c_seq ?_
        refine c_region ?_
        refine r_val .none rfl (p_ldw (k := 0) Try.underlying106 rfl sz106 rfl rfl (rfl : _ = Value.agg #[_, _, _])) ?_
        refine r_call (vs := [_]) .none rfl cl54 rfl (fun w hw => c_rtri13 (l.getD k z3) w) ?_
        refine r_val .none rfl (p_not rfl) ?_
        refine r_nil ?_
        refine e_next ?_
        refine c_splitn (d := 18) rfl (fun h_9 => ?_) (fun h_9 => ?_)
        · skip
          have hT : tOk (l.getD k z3) = false := by have h0 := h_9; simpa [tOk] using h0
          first
            | (exfalso; omega)
            | (
              refine c_cond_t rfl ?_
              refine c_seq ?_
              refine c_region ?_
              refine r_val .none rfl (p_assign rfl) ?_
              refine r_val .none rfl (p_assign rfl) ?_
              refine r_nil ?_
              refine e_next ?_
              refine c_ret ?_
              refine e_ret_then ?_
              refine e_ret_block ?_
              refine e_ret_then ?_
              refine e_ret_then ?_
              refine e_ret_block ?_
              refine e_ret_then ?_
              refine e_retn Try.results32 (.tmp rfl (.tmp rfl .nil)) rfl (fun w hm => ⟨_, (GNew.refl _ _ _), hm.has, ?_, hm.since⟩)
              first
              | (rw [allOk_no (k := k) (by omega) hT]; exact ⟨_, rfl, by rw [fcts_no (allOk_no (k := k) (by omega) hT)]; exact SlG.nil _ _ _⟩)
              | (have hall : allOk l = true := by rw [← okTo_all (k := k) (by omega)]; exact hok
                 have hkl : k = l.length := by omega
                 subst hkl
                 rw [hall]; exact ⟨_, rfl, by rw [fcts_yes hall]; exact SlL.of f0 (fun _ => rfl) rfl %s0⟩)
              )
        · skip
          have hT : tOk (l.getD k z3) = true := by have h0 := h_9; simpa [tOk] using h0
          first
            | (exfalso; omega)
            | (
              refine c_cond_f rfl ?_
              refine c_skip ?_
              refine e_next ?_
              refine c_region ?_
              refine r_val .none rfl (p_move rfl) ?_
              refine r_val .none rfl (p_move rfl) ?_
              refine r_val .none rfl (p_move rfl) ?_
              refine r_val .none rfl (p_mul rfl rfl (by have h1 : (k : Int) * d ≤ 1000 * 2 := Int.mul_le_mul (by omega) (by omega) (by omega) (by omega); have h2 : 0 ≤ (k : Int) * d := Int.mul_nonneg (by omega) (by omega); omega)) ?_
              refine r_val .none rfl (p_add rfl rfl (by have h1 : (k : Int) * d ≤ 1000 * 2 := Int.mul_le_mul (by omega) (by omega) (by omega) (by omega); have h2 : 0 ≤ (k : Int) * d := Int.mul_nonneg (by omega) (by omega); omega)) ?_
              refine r_val .none rfl (p_ldw (k := 0) Try.underlying106 rfl sz106 rfl rfl (rfl : _ = Value.agg #[_, _, _])) ?_
              refine r_val .none rfl (p_build (vs := [(0, Value.int _ _), (1, Value.agg #[_, _, _])]) rfl (bl120_0i1_1a3 _ _ _ _)) ?_
              refine r_bslice (vs := [(0, Value.agg #[_, _, _, _])]) (c := #[_, _, _, _]) .none rfl Try.underlying72 el120 rfl rfl rfl (bs120_10a4 _ _ _ _) (IsRow.lit _) (fun b_2 => ?_)
              refine r_append (k := 2) (k2 := 0) .none rfl Try.underlying72 el120 rfl (by decide) rfl rfl rfl rfl rfl (one_lit rfl rfl) (by rw [hfl]; simp only [maxLen]; omega) (by rw [hfl]; omega) (fun v_10 => ?_)
              refine r_row1 (k := 2) rfl (fun o_11 => ?_)
              refine r_val .none rfl (p_assign rfl) ?_
              refine r_nil ?_
              refine e_norm_block ?_
              refine e_next ?_
              refine c_region ?_
              refine r_val .none rfl (p_add rfl rfl (by omega)) ?_
              refine r_val .none rfl (p_move rfl) ?_
              refine r_nil ?_
              refine e_round ((k + 1, _)) ⟨⟨by dsimp only; omega, by dsimp only; rw [okTo_succ (by omega), hok, Bool.true_and]; exact hT⟩, by dsimp only; omega⟩ rfl ⟨rfl, rfl, rfl, rfl, rfl, trivial⟩ (.drop (.drop (.keep (fun _ _ h => rowA_snoc (fTo_succ l d k) rfl rfl rfl _ _ h) (.nil))))
              )
        )
  · skip
    first
      | (exfalso; omega)
      | (
        refine c_cond_f rfl ?_
        refine c_exit ?_
        refine e_exit_then ?_
        refine e_exit_then ?_
        refine e_exit_block ?_
        refine e_next ?_
        refine c_seq ?_
        refine c_region ?_
        refine r_val .none rfl (p_move rfl) ?_
        refine r_val .none rfl (p_assign rfl) ?_
        refine r_val .none rfl (p_assign rfl) ?_
        refine r_nil ?_
        refine e_next ?_
        refine c_ret ?_
        refine e_freeze (k := 0) rfl (fun G_12 hn_13 hs_14 => ?_)
        replace hs := hs.mono hn_13.le
        refine e_retn Try.results32 (.tmp rfl (.tmp rfl .nil)) rfl (fun w hm => ⟨_, hn_13, hm.has, ?_, hm.since⟩)
        first
        | (rw [allOk_no (k := k) (by omega) hT]; exact ⟨_, rfl, by rw [fcts_no (allOk_no (k := k) (by omega) hT)]; exact SlG.nil _ _ _⟩)
        | (have hall : allOk l = true := by rw [← okTo_all (k := k) (by omega)]; exact hok
           have hkl : k = l.length := by omega
           subst hkl
           rw [hall]; exact ⟨_, rfl, by rw [fcts_yes hall]; exact SlL.of f0 (fun _ => rfl) rfl hs_14⟩)
        )
end Go.Proofs.Ytpadfgomhojjnaa

/- Plain laws of matching with one fact more; no program in sight. -/
namespace Go.Gx.T14
open Go.Gx Go.Gx.T3 Go.Gx.T4 Go.Gx.T6 Go.Gx.T8 Go.Gx.T13
def has (n : Int) (m : List Int) : Bool := m.any fun x => decide (x = n)
def hasTo (m : List Int) (n : Int) (i : Nat) : Bool := has n (m.take i)
theorem hasTo_succ {m : List Int} {n : Int} {i : Nat} (h : i < m.length) : hasTo m n (i + 1) = (hasTo m n i || decide (m.getD i 0 = n)) := by
  have e : m.getD i 0 = m[i] := by simp [List.getD, h]
  unfold hasTo has
  rw [List.take_succ_eq_append_getElem h, e, List.any_append, List.any_cons, List.any_nil, Bool.or_false]
theorem hasTo_all {m : List Int} {n : Int} {i : Nat} (h : m.length ≤ i) : hasTo m n i = has n m := by
  unfold hasTo
  rw [List.take_of_length_le h]
theorem hasTo_zero (m : List Int) (n : Int) : hasTo m n 0 = false := rfl
theorem has_app (n : Int) (a b : List Int) : has n (a ++ b) = (has n a || has n b) := by unfold has; rw [List.any_append]
def keep (n : Int) (m : List Int) : Bool := !has n m
def cnt (A : List (List Int)) (n : Int) (j : Nat) : Nat := ((A.take j).filter (keep n)).length
theorem cnt_yes {A : List (List Int)} {n : Int} {j : Nat} (hj : j < A.length) (h : has n (A.getD j []) = true) : cnt A n (j + 1) = cnt A n j := by
  have e : A.getD j [] = A[j] := by simp [List.getD, hj]
  rw [e] at h
  unfold cnt
  rw [List.take_succ_eq_append_getElem hj, List.filter_append]
  simp [keep, h]
theorem cnt_no {A : List (List Int)} {n : Int} {j : Nat} (hj : j < A.length) (h : has n (A.getD j []) = false) : cnt A n (j + 1) = cnt A n j + 1 := by
  have e : A.getD j [] = A[j] := by simp [List.getD, hj]
  rw [e] at h
  unfold cnt
  rw [List.take_succ_eq_append_getElem hj, List.filter_append]
  simp [keep, h]
theorem cnt_end {A B : List (List Int)} {n : Int} {j : Nat} (hAB : A.filter (keep n) = B) (hj : A.length ≤ j) : cnt A n j = B.length := by
  unfold cnt
  rw [List.take_of_length_le hj, hAB]
theorem filt_at {A B : List (List Int)} {n : Int} {j : Nat} (hAB : A.filter (keep n) = B) (hj : j < A.length) (h : has n (A.getD j []) = false) : cnt A n j < B.length ∧ B.getD (cnt A n j) [] = A.getD j [] := by
  have e : A.getD j [] = A[j] := by simp [List.getD, hj]
  rw [e] at h ⊢
  have hk : keep n A[j] = true := by simp [keep, h]
  have hs : A = A.take j ++ A[j] :: A.drop (j + 1) := by rw [← List.drop_eq_getElem_cons hj, List.take_append_drop]
  have hB : B = (A.take j).filter (keep n) ++ A[j] :: (A.drop (j + 1)).filter (keep n) := by
    have h1 : B = (A.take j ++ A[j] :: A.drop (j + 1)).filter (keep n) := by rw [← hs, hAB]
    rw [h1, List.filter_append, List.filter_cons_of_pos hk]
  rw [hB]
  unfold cnt
  refine ⟨by simp, ?_⟩
  simp [List.getD]
theorem fm_filter {p : List Int → Bool} {g g' : FD → List MT} : ∀ (l : List FD), (∀ f ∈ l, ((g f).map Prod.fst).filter p = (g' f).map Prod.fst) → ((l.flatMap g).map Prod.fst).filter p = (l.flatMap g').map Prod.fst
  | [], _ => rfl
  | f :: t, h => by
    rw [List.flatMap_cons, List.flatMap_cons, List.map_append, List.map_append, List.filter_append, h f (by simp), fm_filter t (fun x hx => h x (by simp [hx]))]
theorem gm_has (fs : List FD) (n : Int) : ∀ (l : List ST) (m : MT), has n m.1 = true → ∀ x ∈ gm fs l m, has n x.1 = true
  | [], m, h, x, hx => by rw [gm] at hx; rw [List.mem_singleton.1 hx]; exact h
  | c :: t, m, h, x, hx => by
    rw [gm] at hx
    split at hx
    · obtain ⟨f, _, hf⟩ := List.mem_flatMap.1 hx
      exact gm_has fs n t (mw m f) (by show has n (m.1 ++ [f.1]) = true; rw [has_app, h, Bool.true_or]) x hf
    · split at hx
      · split at hx
        · exact gm_has fs n t m h x hx
        · cases hx
      · split at hx
        · exact gm_has fs n t m h x hx
        · cases hx
theorem more_law {fs : List FD} {last : FD} {n : Int} (hn : ∀ f ∈ fs, f.1 ≠ n) (hl : last.1 = n) : ∀ (l : List ST) (m : MT), (∀ c ∈ l, c.h.k = 1) → has n m.1 = false → ((gm (fs ++ [last]) l m).map Prod.fst).filter (keep n) = (gm fs l m).map Prod.fst
  | [], m, _, h => by
    rw [gm, gm]
    simp [keep, h]
  | c :: t, m, hk, h => by
    have h1 := hk c (by simp)
    have ht : ∀ c ∈ t, c.h.k = 1 := fun x hx => hk x (by simp [hx])
    rw [gm, if_pos h1, gm, if_pos h1, List.filter_append, List.flatMap_append, List.map_append, List.filter_append]
    have e1 : (((fs.filter fun f => meets c.h.k (sKey c.h) c.h.ts m.2 f.2).flatMap fun f => gm (fs ++ [last]) t (mw m f)).map Prod.fst).filter (keep n) = ((fs.filter fun f => meets c.h.k (sKey c.h) c.h.ts m.2 f.2).flatMap fun f => gm fs t (mw m f)).map Prod.fst := by
      refine fm_filter _ (fun f hf => more_law hn hl t (mw m f) ht ?_)
      show has n (m.1 ++ [f.1]) = false
      rw [has_app, h, Bool.false_or]
      have := hn f ((List.mem_filter.1 hf).1)
      simp [has, this]
    have e2 : ((([last].filter fun f => meets c.h.k (sKey c.h) c.h.ts m.2 f.2).flatMap fun f => gm (fs ++ [last]) t (mw m f)).map Prod.fst).filter (keep n) = [] := by
      rw [List.filter_eq_nil_iff]
      intro x hx
      obtain ⟨y, hy, rfl⟩ := List.mem_map.1 hx
      obtain ⟨f, hf, hy⟩ := List.mem_flatMap.1 hy
      have hfl : f = last := by simpa using (List.mem_filter.1 hf).1
      subst hfl
      have := gm_has (fs ++ [f]) n t (mw m f) (by show has n (m.1 ++ [f.1]) = true; rw [has_app]; simp [has, hl]) y hy
      simp [keep, this]
    rw [e1, e2, List.append_nil]
theorem more_facts {t : List Tri} {l : List CT} (ht : 1 ≤ t.length) (hk : ∀ c ∈ l, c.h.k = 1) : ((gm (fTo t 1 t.length) (stepsOf [] l) ([], [])).map Prod.fst).filter (keep (t.length : Nat)) = (gm (fTo t 1 (t.length - 1)) (stepsOf [] l) ([], [])).map Prod.fst := by
  have e : fTo t 1 t.length = fTo t 1 (t.length - 1) ++ [(1 + ((t.length - 1 : Nat) : Int) * 1, t.getD (t.length - 1) z3)] := by
    rw [← fTo_succ, Nat.sub_add_cancel ht]
  rw [e]
  refine more_law (fun f hf => ?_) ?_ _ _ (fun s hs => ?_) rfl
  · obtain ⟨i, hi, rfl⟩ := List.mem_map.1 hf
    have := List.mem_range.1 hi
    show (1 + (i : Int) * 1) ≠ _
    omega
  · show (1 + ((t.length - 1 : Nat) : Int) * 1) = _
    omega
  · obtain ⟨c, hc, e⟩ := kinds_of hs
    rw [e]; exact hk c hc
/-- Of the ids' lists and their values. -/
theorem more_at {A B : List (List Int)} {qs qs2 : List (List Int × Value)} {n : Int} {j : Nat} (ha : A = qs.map Prod.fst) (hb : B = qs2.map Prod.fst) (hAB : A.filter (keep n) = B) (hj : j < qs.length) (h : has n (qs.getD j es14).1 = false) : cnt A n j < qs2.length ∧ (qs2.getD (cnt A n j) es14).1 = (qs.getD j es14).1 := by
  have h1 := filt_at hAB (j := j) (by rw [ha, List.length_map]; exact hj) (by rw [ha, fst_getD]; exact h)
  refine ⟨by have := h1.1; rw [hb, List.length_map] at this; exact this, ?_⟩
  rw [← fst_getD, ← hb, h1.2, ha, fst_getD]
theorem cnt_yes2 {A : List (List Int)} {qs : List (List Int × Value)} {n : Int} {j : Nat} (ha : A = qs.map Prod.fst) (hj : j < qs.length) (h : has n (qs.getD j es14).1 = true) : cnt A n (j + 1) = cnt A n j := cnt_yes (by rw [ha, List.length_map]; exact hj) (by rw [ha, fst_getD]; exact h)
theorem cnt_no2 {A : List (List Int)} {qs : List (List Int × Value)} {n : Int} {j : Nat} (ha : A = qs.map Prod.fst) (hj : j < qs.length) (h : has n (qs.getD j es14).1 = false) : cnt A n (j + 1) = cnt A n j + 1 := cnt_no (by rw [ha, List.length_map]; exact hj) (by rw [ha, fst_getD]; exact h)
theorem cnt_le (A : List (List Int)) (n : Int) (j : Nat) : cnt A n j ≤ j := by
  unfold cnt
  refine Nat.le_trans (List.length_filter_le _ _) ?_
  rw [List.length_take]; omega
end Go.Gx.T14
