/- Texts of this work, laid together: a logic of steps, plain laws, and walks of Go functions, each without a condition but those that its theorems name. -/
import Derived.Test.YtoflaphnlfggkaaKCompChains2
import Derived.Test.YtoflaphnlfggkaaRows
import Derived.Maps.RangeRun
import Derived.Sort.Row
import Derived.Sort.Grow
import Derived.Shelf.Slices.CompactI
import Derived.Shelf.SlIterI.Nil
/- Walks: what Go functions of this chapter come to, each as a function on plain data; no condition but those that each theorem names. Printed by a program of this work (gen.py). -/
namespace Go.Proofs.Ytoflaphnlfggkaa
open Go.Gx Go.Gx.T3 Go.Gx.T4 Go.Gx.T3 Go.Gx.T8 Go.Gx.T4 Go.Gx.T3
theorem sz48 : SzIs Try.prog 48 1 := by
  unfold SzIs
  kernel_rfl
theorem sz60 : SzIs Try.prog 60 3 := by
  unfold SzIs
  kernel_rfl
theorem sz68 : SzIs Try.prog 68 1 := by
  unfold SzIs
  kernel_rfl
theorem sz70 : SzIs Try.prog 70 6 := by
  unfold SzIs
  kernel_rfl
theorem zr70 : ZeroIs Try.prog 70 (Value.agg #[Value.int .i64 0, Value.int .i64 0, Value.int .i64 0, Value.int .i64 0, Value.slice none 0 0, Value.slice none 0 0]) := by
  unfold ZeroIs
  kernel_rfl
theorem lf41 : leafT Try.prog 9 41 = some [3, 3] := by
  kernel_rfl
theorem ef41 : eqT Try.prog 9 41 = true := by
  kernel_rfl
theorem eg41 : Try.prog.eqGuardType Try.prog.depth 41 = false := by
  kernel_rfl
theorem cl34 : Callable Try.prog 34 := callable Try.func34 (by kernel_rfl) rfl
theorem cl55 : Callable Try.prog 55 := callable Try.func55 (by kernel_rfl) rfl
theorem bl70_0i1 (x0 : Int) : Program.built Try.prog 70 [(0, Value.int .i64 x0)] = some #[Value.int .i64 x0, Value.int .i64 0, Value.int .i64 0, Value.int .i64 0, Value.slice none 0 0, Value.slice none 0 0] := by
  kernel_rfl
theorem bl96_0i1_1i1_2i1 (x0 : Int) (x1 : Int) (x2 : Int) : Program.built Try.prog 96 [(0, Value.int .i64 x0), (1, Value.int .i64 x1), (2, Value.int .i64 x2)] = some #[Value.int .i64 x0, Value.int .i64 x1, Value.int .i64 x2] := by
  kernel_rfl
theorem bs70_10a6 (a0 a1 a2 a3 a4 a5 : Value) : Instr.fill (fun i => some (i * 6, 6)) ((Array.range (1 * 6)).map ((Value.agg #[Value.int .i64 0, Value.int .i64 0, Value.int .i64 0, Value.int .i64 0, Value.slice none 0 0, Value.slice none 0 0]).cells[· % (Value.agg #[Value.int .i64 0, Value.int .i64 0, Value.int .i64 0, Value.int .i64 0, Value.slice none 0 0, Value.slice none 0 0]).cells.size]!)) [(0, Value.agg #[a0, a1, a2, a3, a4, a5])] = some #[a0, a1, a2, a3, a4, a5] := by
  kernel_rfl
theorem bs96_10a3 (a0 a1 a2 : Value) : Instr.fill (fun i => some (i * 3, 3)) ((Array.range (1 * 3)).map ((Value.agg #[Value.int .i64 0, Value.int .i64 0, Value.int .i64 0]).cells[· % (Value.agg #[Value.int .i64 0, Value.int .i64 0, Value.int .i64 0]).cells.size]!)) [(0, Value.agg #[a0, a1, a2])] = some #[a0, a1, a2] := by
  kernel_rfl
theorem el70 : ElemIs Try.prog 70 6 80 (Value.agg #[Value.int .i64 0, Value.int .i64 0, Value.int .i64 0, Value.int .i64 0, Value.slice none 0 0, Value.slice none 0 0]) := by
  unfold ElemIs
  kernel_rfl
theorem el96 : ElemIs Try.prog 96 3 24 (Value.agg #[Value.int .i64 0, Value.int .i64 0, Value.int .i64 0]) := by
  unfold ElemIs
  kernel_rfl
def OfIs (n : Nat) : Prop := ∀ (c : CT) (sv va : Value) (l : List CT) (G : Ghost) (w : World), SizeOf.sizeOf c ≤ n → l.length + size c ≤ 1000 → Rs G sv c.subs → Rs G va l → Has G w → Calls Try.prog 34 #[va, Value.agg #[Value.int .i64 c.h.k, Value.int .i64 (vi c.h.v0), Value.int .i64 c.h.n0, Value.int .i64 (vi c.h.v1), Value.int .i64 c.h.n1, Value.int .i64 (vi c.h.v2), Value.int .i64 c.h.n2, sv]] w (Ret fun r w' => ∃ G', GNew w nX G G' ∧ Has G' w' ∧ (∃ tv uv, r = Value.agg #[Value.int .i64 (stepOf l c).h.k, Value.int .i64 (stepOf l c).h.k0, Value.int .i64 (stepOf l c).h.k1, Value.int .i64 (stepOf l c).h.k2, tv, uv] ∧ SlL G' tv 3 tC t0 (stepOf l c).h.ts ∧ Ss G' uv (stepOf l c).subs) ∧ Since nX w w')
theorem c_of_s (n : Nat) (ih : OfIs n) (c : CT) (sv : Value) (va : Value) (l : List CT) {G : Ghost} (hz : SizeOf.sizeOf c ≤ n + 1) (hch : l.length + size c ≤ 1000) (hs : Rs G sv c.subs) (hs2 : Rs G va l) (w : World) (hG : Has G w) :
    Calls Try.prog 34 #[va, Value.agg #[Value.int .i64 c.h.k, Value.int .i64 (vi c.h.v0), Value.int .i64 c.h.n0, Value.int .i64 (vi c.h.v1), Value.int .i64 c.h.n1, Value.int .i64 (vi c.h.v2), Value.int .i64 c.h.n2, sv]] w (Ret fun r w' => ∃ G', GNew w nX G G' ∧ Has G' w' ∧ (∃ tv uv, r = Value.agg #[Value.int .i64 (stepOf l c).h.k, Value.int .i64 (stepOf l c).h.k0, Value.int .i64 (stepOf l c).h.k1, Value.int .i64 (stepOf l c).h.k2, tv, uv] ∧ SlL G' tv 3 tC t0 (stepOf l c).h.ts ∧ Ss G' uv (stepOf l c).subs) ∧ Since nX w w') := by
  refine enter (args := [_, _]) (X := nX) (G := G) (l := [(0, va), (1, Value.agg #[Value.int .i64 c.h.k, Value.int .i64 (vi c.h.v0), Value.int .i64 c.h.n0, Value.int .i64 (vi c.h.v1), Value.int .i64 c.h.n1, Value.int .i64 (vi c.h.v2), Value.int .i64 c.h.n2, sv])]) Try.func34 rfl Try.ntmps34 hG ⟨rfl, rfl, trivial⟩ (Nat.le_of_ble_eq_true rfl) ?_
  obtain ⟨rs, hr, hp, hl⟩ := hs.inv
  have hlen : c.subs.length = rs.length := by rw [hl]; simp
  have hbd := hr.bound
  have hrl := size_len hl (Nat.le_refl (size c))
  obtain ⟨rc, hrc, hpc, hlc⟩ := hs2.inv
  have hcl : l.length = rc.length := by rw [hlc]; simp
  refine c_seq ?_
  refine c_region ?_
  refine r_box .none rfl rfl (IsRow.lit _) (fun b_1 => ?_)
  refine r_alloc .none rfl zr70 (IsRow.lit _) (fun b_2 => ?_)
  refine r_nil ?_
  refine e_next ?_
  refine c_seq ?_
  refine c_region ?_
  refine r_val .none rfl (p_field Try.underlying44 rfl sz3 rfl) ?_
  refine r_val .none rfl (p_ld (k := 1) Try.underlying3 rfl rfl rfl (by first | exact of_decide_eq_true rfl | omega) (rfl : _ = Value.int _ _)) ?_
  refine r_val .none rfl (p_build (vs := [(0, Value.int _ _)]) rfl (bl70_0i1 _)) ?_
  refine r_alloc .none rfl zr70 (IsRow.lit _) (fun b_3 => ?_)
  refine r_stw (k := 0) .none sz70 rfl rfl (IsRow.lit _) (one_lit rfl rfl) rfl ?_
  refine r_nil ?_
  refine e_next ?_
  refine c_seq ?_
  refine c_seq ?_
  refine c_region ?_
  refine r_val .none rfl (p_field Try.underlying44 rfl sz3 rfl) ?_
  refine r_val .none rfl (p_ld (k := 2) Try.underlying3 rfl rfl rfl (by first | exact of_decide_eq_true rfl | omega) (rfl : _ = Value.int _ _)) ?_
  refine r_val .none rfl (p_eq rfl rfl) ?_
  refine r_nil ?_
  refine e_next ?_
  refine c_splitd (d := 18) rfl (fun h_1 => ?_) (fun h_1 => ?_)
  · skip
    first
      | (exfalso; omega)
      | (
        refine c_cond_t rfl ?_
        refine c_seq ?_
        refine c_seq ?_
        refine c_region ?_
        refine r_val .none rfl (p_field Try.underlying44 rfl sz29 rfl) ?_
        refine r_val .none rfl (p_ld (k := 2) Try.underlying29 rfl rfl rfl (by first | exact of_decide_eq_true rfl | omega) rfl) ?_
        refine r_val .none rfl (p_leng Try.underlying29 rfl hr) ?_
        have bd_2 := (hr).bound
        refine r_val .none rfl (p_move rfl) ?_
        refine r_nil ?_
        refine e_next ?_
        refine c_block ?_
        refine c_nilrow 70 6 ?_
        refine c_name (d := 0) rfl (fun u_3 hu_3 => ?_)
        refine c_name (d := 3) rfl (fun u_4 hu_4 => ?_)
        refine c_name (d := 4) rfl (fun u_5 hu_5 => ?_)
        refine c_name (d := 5) rfl (fun u_6 hu_6 => ?_)
        refine c_name (d := 20) rfl (fun u_7 hu_7 => ?_)
        refine c_name (d := 21) rfl (fun u_8 hu_8 => ?_)
        refine c_nameL (k := 2) rfl (fun A_9 hA_9 => ?_)
        refine c_nameL (k := 3) rfl (fun A_10 hA_10 => ?_)
        refine c_loop (σ := Nat × Value × List SVal × Ghost) (fun s => [(22, Value.int .i64 (s.1 : Nat)), (0, u_3), (3, u_4), (4, u_5), (5, u_6), (20, u_7), (21, u_8)]) (fun s => [rowA (s.2.1) 70 6 (s.2.2.1).length ((s.2.2.1).flatMap sC), box b_3 6 70 (at_ [.int .i64 c.h.k, .int .i64 0, .int .i64 0, .int .i64 0, .slice none 0 0, s.2.1]), A_9, A_10]) (fun s => s.2.2.2) (fun s => s.1 ≤ rs.length ∧ s.2.2.1.map Prod.fst = stepsOf l ((rs.map Prod.fst).take s.1) ∧ (∀ p ∈ s.2.2.1, SlL s.2.2.2 p.2.1 3 tC t0 p.1.h.ts) ∧ (∀ p ∈ s.2.2.1, Ss s.2.2.2 p.2.2 p.1.subs) ∧ GNew w nX G s.2.2.2) (fun s => rs.length - s.1) ((0, _, [], _)) ⟨Nat.zero_le _, rfl, by simp, by simp, GNew.refl _ _ _⟩ rfl ⟨rfl, rfl, rfl, rfl, rfl, rfl, rfl, trivial⟩ (.keep (fun _ _ h => rowA_nil rfl _ _ h) (.keep (fun _ _ h => box_congr (fun i hi => by match i, hi with | 0, _ => rfl | 1, _ => rfl | 2, _ => rfl | 3, _ => rfl | 4, _ => rfl | 5, _ => rfl) _ _ h) (.keep (fun _ _ h => h) (.keep (fun _ _ h => h) (.nil))))) (fun s hphi => ?_)
        subst hu_3
        subst hu_4
        subst hu_5
        subst hu_6
        subst hu_7
        subst hu_8
        subst hA_9
        subst hA_10
        obtain ⟨k, v, qs, H⟩ := s
        obtain ⟨hk, hq, hqt, hqs, hgn⟩ := hphi
        dsimp only at hk hq hqt hqs hgn ⊢
        have hql : qs.length ≤ k := (by have := congrArg List.length hq; rw [stepsOf_len] at this; simp at this; omega)
        refine c_row1 (k := 0) rfl (fun ov => ?_)
        refine c_rowlen (k := 0) rfl (fun l63 => ?_)
        replace hrc := hrc.mono hgn.le
        replace hp := fun p hm0 => (hp p hm0).mono hgn.le
        replace hr := hr.mono hgn.le
        replace hpc := fun p hm0 => (hpc p hm0).mono hgn.le
        replace hs2 := hs2.mono hgn.le
        refine c_seq ?_
        refine c_region ?_
        refine r_val .none rfl (p_lt rfl rfl) ?_
        refine r_nil ?_
        refine e_next ?_
        refine c_seq ?_
        refine c_splitd (d := 23) rfl (fun h_11 => ?_) (fun h_11 => ?_)
        · skip
          first
            | (exfalso; omega)
            | (
              refine c_cond_t rfl ?_
              refine c_skip ?_
              refine e_next ?_
              refine c_seq ?_
              refine c_block ?_
              refine c_seq ?_
              refine c_region ?_
              refine r_val .none rfl (p_move rfl) ?_
              refine r_iaddr_g .none rfl Try.underlying29 sz44 rfl hr rfl (by first | exact of_decide_eq_true rfl | omega) (fun p_13 o_14 R_12 => ?_)
              have hc_15 := hp _ (getD_mem (i := k) (d := d0) (by omega))
              have hz5 : (l ++ ((rs.map Prod.fst).take k)).length + size (rs.getD k d0).1 ≤ 1000 := by have h1 := sizeL_take (rs := rs) (k := k) (by omega); have h2 := sizeL_take_le (rs.map Prod.fst) (k + 1); have h3 := sizeL_len ((rs.map Prod.fst).take k); have h4 := size_eq c; rw [hl] at h4; rw [List.length_take, List.length_map] at h3; rw [List.length_append, List.length_take, List.length_map]; omega
              refine r_val .none rfl (p_ldga0 Try.underlying44 rfl sz44 rfl R_12 (by first | exact of_decide_eq_true rfl | omega) (rfl : _ = Value.agg #[_, _, _, _, _, _, _, _])) ?_
              refine r_alloc .none rfl zr44 (IsRow.lit _) (fun b_4 => ?_)
              refine r_val .none rfl (p_assign rfl) ?_
              refine r_stw (k := 0) .none sz44 rfl rfl (IsRow.lit _) (one_lit rfl (all_cons rfl (all_cons rfl (all_cons rfl (all_cons rfl (all_cons rfl (all_cons rfl (all_cons rfl (all_cons (hc_15).one rfl))))))))) rfl ?_
              refine r_nil ?_
              refine e_next ?_
              refine c_seq ?_
              refine c_region ?_
              refine r_val .none rfl (p_assign rfl) ?_
              refine r_nil ?_
              refine e_next ?_
              refine c_seq ?_
              refine c_region ?_
              refine r_val .none rfl (p_move rfl) ?_
              refine r_val .none rfl (p_move rfl) ?_
              refine r_nilrow 44 8 ?_
              refine r_append_g (k := 0) .none rfl Try.underlying29 el44 rfl (by decide) rfl rfl rfl hrc (rv_ones hpc) (by simp only [maxLen]; omega) (by omega) (fun v_16 => ?_)
              refine r_row1 (k := 0) rfl (fun o_17 => ?_)
              refine r_val .none rfl (p_assign rfl) ?_
              refine r_nil ?_
              refine e_next ?_
              refine c_seq ?_
              refine c_region ?_
              refine r_val .none rfl (p_move rfl) ?_
              refine r_val .none rfl (p_field Try.underlying44 rfl sz29 rfl) ?_
              refine r_val .none rfl (p_ld (k := 5) Try.underlying29 rfl rfl rfl (by first | exact of_decide_eq_true rfl | omega) rfl) ?_
              refine r_val .none rfl (p_move rfl) ?_
              refine r_slice0 (k) .none rfl Try.underlying29 sz44 rfl hr rfl (by first | exact of_decide_eq_true rfl | omega) (fun v_18 hs_19 => ?_)
              have hpt_21 := (Tr.take (by omega) hs_19 hp).1
              refine r_append_g (k := 0) .none rfl Try.underlying29 el44 rfl (by decide) rfl rfl rfl hpt_21 (rv_ones (fun p hm0 => hp p (List.mem_of_mem_take hm0))) (by rw [List.length_take]; simp only [maxLen]; omega) (by rw [List.length_take]; omega) (fun v_22 => ?_)
              refine r_row1 (k := 0) rfl (fun o_23 => ?_)
              refine r_freeze (k := 0) rfl (fun G_24 hn_25 hs_26 => ?_)
              replace hrc := hrc.mono hn_25.le
              replace hp := fun p hm0 => (hp p hm0).mono hn_25.le
              replace hr := hr.mono hn_25.le
              replace hpc := fun p hm0 => (hpc p hm0).mono hn_25.le
              replace hs2 := hs2.mono hn_25.le
              replace hqt := fun p hm0 => (hqt p hm0).mono hn_25.le
              replace hqs := fun p hm0 => (hqs p hm0).mono hn_25.le
              replace R_12 := R_12.mono hn_25.le
              replace hc_15 := hc_15.mono hn_25.le
              replace hs_19 := hs_19.mono hn_25.le
              replace hpt_21 := hpt_21.mono hn_25.le
              have hf_27 : SlL G_24 v_22 8 rvC d0 (rc ++ rs.take k) := SlL.of2 d0 (fun _ => rfl) (by simp) (by rw [List.nil_append, flat_all (cells := rvC) (fun _ => rfl), flat_all (cells := rvC) (fun _ => rfl), List.flatMap_append]) hs_26
              have hT_28 : Rs G_24 v_22 (l ++ ((rs.map Prod.fst).take k)) := by rw [hlc, ← List.map_take, ← List.map_append]; exact Tr.mk _ hf_27 (fun p hm0 => by rcases List.mem_append.1 hm0 with h | h; exact hpc p h; exact hp p (List.mem_of_mem_take h))
              refine r_val .none rfl (p_assign rfl) ?_
              refine r_nil ?_
              refine e_next ?_
              refine c_region_d (fun j => [6, 7, 8].contains j) _ mixed (.keep (fun _ _ h => h) (.keep (fun _ _ h => h) (.keep (fun _ _ h => h) (.keep (fun _ _ h => h) (.keep (fun _ _ h => h) (.nil)))))) ?_
              refine d_val1 0 rfl rfl (by kernel_rfl) (fun j hj => by have h : 8 < j := (Nat.lt_of_lt_of_le (by decide : 8 < 9) hj); simp; omega) .none rfl (p_field Try.underlying70 rfl sz48 rfl) ?_
              refine d_val1 1 rfl rfl (by kernel_rfl) (fun j hj => by have h : 8 < j := (Nat.lt_of_lt_of_le (by decide : 8 < 9) hj); simp; omega) .none rfl (p_ld (k := 2) Try.underlying48 rfl rfl rfl (by first | exact of_decide_eq_true rfl | omega) rfl) ?_
              refine d_val1 2 rfl rfl (by kernel_rfl) (fun j hj => by have h : 8 < j := (Nat.lt_of_lt_of_le (by decide : 8 < 9) hj); simp; omega) .none rfl (p_move rfl) ?_
              refine d_val1 3 rfl rfl (by kernel_rfl) (fun j hj => by have h : 8 < j := (Nat.lt_of_lt_of_le (by decide : 8 < 9) hj); simp; omega) .none rfl (p_ldw (k := 0) Try.underlying44 rfl sz44 rfl rfl (rfl : _ = Value.agg #[_, _, _, _, _, _, _, _])) ?_
              refine d_eff 4 rfl (by kernel_rfl) (fun K_29 hKK_29 hcK_29 => ?_)
              refine r_callm (vs := [_, _]) .none rfl cl34 rfl (fun w hw => ih (rs.getD k d0).1 _ _ _ _ w (size_at hl (by omega) hz) hz5 hc_15 hT_28 hw) (fun G_30 v_33 hn_31 hr_32 => ?_)
              replace hrc := hrc.mono hn_31.le
              replace hp := fun p hm0 => (hp p hm0).mono hn_31.le
              replace hr := hr.mono hn_31.le
              replace hpc := fun p hm0 => (hpc p hm0).mono hn_31.le
              replace hs2 := hs2.mono hn_31.le
              replace hqt := fun p hm0 => (hqt p hm0).mono hn_31.le
              replace hqs := fun p hm0 => (hqs p hm0).mono hn_31.le
              replace R_12 := R_12.mono hn_31.le
              replace hc_15 := hc_15.mono hn_31.le
              replace hs_19 := hs_19.mono hn_31.le
              replace hpt_21 := hpt_21.mono hn_31.le
              replace hT_28 := hT_28.mono hn_31.le
              obtain ⟨u_34a, u_34b, rfl, u_34s, u_34t⟩ := hr_32
              refine r_nil (e_d (i := 4) (brk := (fun j => [6, 7, 8].contains j)) (ph' := true) hKK_29 hcK_29 rfl (fun _ => hn_31.le) (fun _ => .keep (fun _ _ h => h) (.keep (fun _ _ h => h) (.keep (fun _ _ h => h) (.keep (fun _ _ h => h) (.keep (fun _ _ h => h) (.nil)))))) ?_)
              clear hKK_29 hcK_29 K_29
              refine d_eff 5 rfl (by kernel_rfl) (fun K_35 hKK_35 hcK_35 => ?_)
              refine r_bslice (vs := [(0, Value.agg #[_, _, _, _, _, _])]) (c := #[_, _, _, _, _, _]) .none rfl Try.underlying48 el70 rfl rfl rfl (bs70_10a6 _ _ _ _ _ _) (IsRow.lit _) (fun b_5 => ?_)
              refine r_nil (e_d (i := 5) (brk := (fun j => [6, 7, 8].contains j)) (ph' := true) hKK_35 hcK_35 rfl (fun _ => hn_31.le) (fun _ => .drop (.keep (fun _ _ h => h) (.keep (fun _ _ h => h) (.keep (fun _ _ h => h) (.keep (fun _ _ h => h) (.keep (fun _ _ h => h) (.nil))))))) ?_)
              clear hKK_35 hcK_35 K_35
              refine d_eff 6 rfl (by kernel_rfl) (fun K_36 hKK_36 hcK_36 => ?_)
              refine r_append (k := 2) (k2 := 0) .none rfl Try.underlying48 el70 rfl (by decide) rfl rfl rfl rfl rfl (one_lit rfl (all_cons rfl (all_cons rfl (all_cons rfl (all_cons rfl (all_cons (u_34s).one (all_cons (u_34t).one rfl))))))) (by simp only [maxLen]; omega) (by omega) (fun v_37 => ?_)
              refine r_row1 (k := 2) rfl (fun o_38 => ?_)
              refine r_nil (e_d (i := 6) (brk := (fun j => [6, 7, 8].contains j)) (ph' := false) hKK_36 hcK_36 rfl (fun h => by cases h) (fun h => by cases h) ?_)
              clear hKK_36 hcK_36 K_36
              refine d_val2 7 rfl rfl (by kernel_rfl) .none rfl (fun _ => p_field Try.underlying70 rfl sz48 rfl) ?_
              refine d_eff 8 rfl (by kernel_rfl) (fun K_39 hKK_39 hcK_39 => ?_)
              refine r_st (k := 3) .none sz48 rfl rfl o_38 rfl (by first | exact of_decide_eq_true rfl | omega) ?_
              refine r_nil (e_d (i := 8) (brk := (fun j => [6, 7, 8].contains j)) (ph' := false) hKK_39 hcK_39 rfl (fun h => by cases h) (fun h => by cases h) ?_)
              clear hKK_39 hcK_39 K_39
              refine d_nil (by kernel_rfl) ?_
              refine e_norm_block ?_
              refine e_next ?_
              refine c_region ?_
              refine r_val .none rfl (p_add rfl rfl (by omega)) ?_
              refine r_val .none rfl (p_move rfl) ?_
              refine r_nil ?_
              refine e_round ((k + 1, _, qs ++ [(stepOf (l ++ ((rs.map Prod.fst).take k)) (rs.getD k d0).1, u_34a, u_34b)], _)) ⟨⟨by dsimp only; omega, by rw [stepsOf_take (by omega), List.map_append, hq]; rfl, (fun p hp' => by rcases List.mem_append.1 hp' with h | h; exact hqt p h; rw [List.mem_singleton.1 h]; exact u_34s), (fun p hp' => by rcases List.mem_append.1 hp' with h | h; exact hqs p h; rw [List.mem_singleton.1 h]; exact u_34t), ((hgn.trans hn_25).trans hn_31)⟩, by dsimp only; omega⟩ rfl ⟨rfl, rfl, rfl, rfl, rfl, rfl, rfl, trivial⟩ (.drop (.drop (.keep (fun _ _ h => rowA_snoc (l := qs) (x := (stepOf (l ++ ((rs.map Prod.fst).take k)) (rs.getD k d0).1, u_34a, u_34b)) rfl rfl rfl rfl _ _ h) (.keep (fun _ _ h => box_congr (fun i hi => by match i, hi with | 0, _ => rfl | 1, _ => rfl | 2, _ => rfl | 3, _ => rfl | 4, _ => rfl | 5, _ => rfl) _ _ h) (.keep (fun _ _ h => h) (.keep (fun _ _ h => h) (.nil)))))))
              )
        · skip
          first
            | (exfalso; omega)
            | (
              refine c_cond_f rfl ?_
              refine c_exit ?_
              refine e_exit_then ?_
              refine e_exit_then ?_
              refine e_exit_block ?_
              refine e_next ?_
              refine c_seq ?_
              refine c_region ?_
              refine r_val .none rfl (p_ldw (k := 1) Try.underlying70 rfl sz70 rfl rfl (rfl : _ = Value.agg #[_, _, _, _, _, _])) ?_
              refine r_stw (k := 2) .none sz70 rfl rfl (IsRow.lit _) (one_lit rfl (all_cons rfl (all_cons rfl (all_cons rfl (all_cons rfl (all_cons rfl (all_cons ov rfl))))))) rfl ?_
              refine r_nil ?_
              refine e_next ?_
              refine c_ret ?_
              refine e_ret_then ?_
              refine e_freeze (k := 0) rfl (fun G_40 hn_41 hs_42 => ?_)
              replace hrc := hrc.mono hn_41.le
              replace hp := fun p hm0 => (hp p hm0).mono hn_41.le
              replace hr := hr.mono hn_41.le
              replace hpc := fun p hm0 => (hpc p hm0).mono hn_41.le
              replace hs2 := hs2.mono hn_41.le
              replace hqt := fun p hm0 => (hqt p hm0).mono hn_41.le
              replace hqs := fun p hm0 => (hqs p hm0).mono hn_41.le
              refine e_ret1 Try.results34 (.cell (k := 1) rfl Try.underlying70 rfl sz70 rfl (rfl : _ = Value.agg #[_, _, _, _, _, _]) .nil) (fun w hm => ⟨_, (hgn.trans hn_41), hm.has, ?_, hm.since⟩)
              have hk2 : k = rs.length := by omega
              rw [stepOf_ncc (by omega)]
              refine ⟨_, _, rfl, SlG.nil _ _ _, ?_⟩
              show Ss _ _ (stepsOf l c.subs)
              rw [show stepsOf l c.subs = qs.map Prod.fst by rw [hq, hl, List.take_of_length_le (by simp; omega)]]
              exact Ss.mk qs (SlL.of s0 (fun _ => rfl) rfl hs_42) hqt hqs
              )
        )
  · skip
    first
      | (exfalso; omega)
      | (
        refine c_cond_f rfl ?_
        refine c_skip ?_
        refine e_next ?_
        refine c_seq ?_
        refine c_seq ?_
        refine c_region ?_
        refine r_val .none rfl (p_assign rfl) ?_
        refine r_nil ?_
        refine e_next ?_
        refine c_block ?_
        refine c_nilrow 96 3 ?_
        refine c_name (d := 0) rfl (fun u_43 hu_43 => ?_)
        refine c_name (d := 3) rfl (fun u_44 hu_44 => ?_)
        refine c_name (d := 4) rfl (fun u_45 hu_45 => ?_)
        refine c_name (d := 5) rfl (fun u_46 hu_46 => ?_)
        refine c_nameL (k := 2) rfl (fun A_47 hA_47 => ?_)
        refine c_nameL (k := 3) rfl (fun A_48 hA_48 => ?_)
        refine c_loop (σ := Nat × Value) (fun s => [(9, Value.int .i64 (s.1 : Nat)), (0, u_43), (3, u_44), (4, u_45), (5, u_46)]) (fun s => [rowA (s.2) 96 3 ((testsTo l c.h s.1)).length (((testsTo l c.h s.1)).flatMap tC), box b_3 6 70 (at_ [.int .i64 c.h.k, .int .i64 (keyTo c.h s.1 0), .int .i64 (keyTo c.h s.1 1), .int .i64 (keyTo c.h s.1 2), s.2, .slice none 0 0]), A_47, A_48]) (fun _ => _) (fun s => s.1 ≤ 3) (fun s => 3 - s.1) ((0, _)) (by omega) rfl ⟨rfl, rfl, rfl, rfl, rfl, trivial⟩ (.keep (fun _ _ h => rowA_nil rfl _ _ h) (.keep (fun _ _ h => box_congr (fun i hi => by match i, hi with | 0, _ => rfl | 1, _ => rfl | 2, _ => rfl | 3, _ => rfl | 4, _ => rfl | 5, _ => rfl) _ _ h) (.keep (fun _ _ h => h) (.keep (fun _ _ h => h) (.nil))))) (fun s hphi => ?_)
        subst hu_43
        subst hu_44
        subst hu_45
        subst hu_46
        subst hA_47
        subst hA_48
        obtain ⟨f, v⟩ := s
        dsimp only at hphi ⊢
        refine c_row1 (k := 0) rfl (fun ov => ?_)
        refine c_rowlen (k := 0) rfl (fun l63 => ?_)
        obtain rfl | rfl | rfl | rfl : f = 0 ∨ f = 1 ∨ f = 2 ∨ f = 3 := by omega
        · skip
          refine c_seq ?_
          refine c_seq ?_
          refine c_region ?_
          refine r_val .none rfl (p_move rfl) ?_
          refine r_val .none rfl (p_lt rfl rfl) ?_
          refine r_say (d := 47) (v := Value.bool true) rfl ?_
          refine r_nil ?_
          refine e_next ?_
          refine c_cond_t rfl ?_
          refine c_skip ?_
          refine e_next ?_
          refine c_seq ?_
          refine c_block ?_
          refine c_seq ?_
          refine c_seq ?_
          refine c_region ?_
          refine r_val .none rfl (p_move rfl) ?_
          refine r_val .none rfl (p_field Try.underlying44 rfl sz42 rfl) ?_
          refine r_val .none rfl (p_iaddr (k := 0) Try.underlying42 sz41 rfl rfl (by first | exact of_decide_eq_true rfl | omega)) ?_
          refine r_val .none rfl (p_field Try.underlying41 rfl sz3 rfl) ?_
          refine r_val .none rfl (p_ld (k := 3) Try.underlying3 rfl rfl rfl (by first | exact of_decide_eq_true rfl | omega) (rfl : _ = Value.int _ _)) ?_
          refine r_val .none rfl (p_eq rfl rfl) ?_
          refine r_nil ?_
          refine e_next ?_
          refine c_splitd (d := 55) rfl (fun h_49 => ?_) (fun h_49 => ?_)
          · skip
            have hv : vF c.h 0 = false := vF_no h_49
            first
              | (exfalso; omega)
              | (
                refine c_cond_t rfl ?_
                refine c_seq ?_
                refine c_region ?_
                refine r_val .none rfl (p_move rfl) ?_
                refine r_val .none rfl (p_move rfl) ?_
                refine r_val .none rfl (p_field Try.underlying44 rfl sz42 rfl) ?_
                refine r_val .none rfl (p_iaddr (k := 0) Try.underlying42 sz41 rfl rfl (by first | exact of_decide_eq_true rfl | omega)) ?_
                refine r_val .none rfl (p_field Try.underlying41 rfl sz3 rfl) ?_
                refine r_val .none rfl (p_ld (k := 3) Try.underlying3 rfl rfl rfl (by first | exact of_decide_eq_true rfl | omega) (rfl : _ = Value.int _ _)) ?_
                refine r_val .none rfl (p_field Try.underlying70 rfl sz60 rfl) ?_
                refine r_val .none rfl (p_iaddr (k := 0) Try.underlying60 sz3 rfl rfl (by first | exact of_decide_eq_true rfl | omega)) ?_
                refine r_st (k := 1) .none sz3 rfl rfl rfl rfl (by first | exact of_decide_eq_true rfl | omega) ?_
                refine r_nil ?_
                refine e_next ?_
                refine c_exit ?_
                refine e_exit_then ?_
                refine e_exit_block ?_
                refine e_next ?_
                refine c_region ?_
                refine r_val .none rfl (p_move rfl) ?_
                refine r_val .none rfl (p_add rfl rfl (by omega)) ?_
                refine r_val .none rfl (p_assign rfl) ?_
                refine r_nil ?_
                refine e_round ((1, _)) ⟨Nat.le_of_ble_eq_true rfl, Nat.le_of_ble_eq_true rfl⟩ rfl ⟨rfl, rfl, rfl, rfl, rfl, trivial⟩ (.keep (fun _ _ h => rowA_same (by show testsTo l c.h (0 + 1) = _; rw [testsTo_succ, (by first | exact T1 (by assumption) | exact T4 (by assumption) (by assumption) (dup0 _) : testF l c.h 0 = []), List.append_nil]) _ _ h) (.keep (fun _ _ h => box_congr (fun i hi => by match i, hi with | 0, _ => rfl | 1, _ => exact (by first | exact congrArg (Value.int .i64) (key_set (h := c.h) (f := 0) (by assumption)).symm | exact congrArg (Value.int .i64) ((show keyTo c.h 0 0 = 0 by simp [keyTo]).trans (key_not (h := c.h) (f := 0) (by assumption)).symm)) | 2, _ => exact congrArg (Value.int .i64) (key_else (h := c.h) (f := 0) (i := 1) (by decide)).symm | 3, _ => exact congrArg (Value.int .i64) (key_else (h := c.h) (f := 0) (i := 2) (by decide)).symm | 4, _ => rfl | 5, _ => rfl) _ _ h) (.keep (fun _ _ h => h) (.keep (fun _ _ h => h) (.nil)))))
                )
          · skip
            have hv : vF c.h 0 = true := vF_yes h_49
            first
              | (exfalso; omega)
              | (
                refine c_cond_f rfl ?_
                refine c_skip ?_
                refine e_next ?_
                refine c_seq ?_
                refine c_region ?_
                refine r_val .none rfl (p_move rfl) ?_
                refine r_val .none rfl (p_move rfl) ?_
                refine r_val .none rfl (p_field Try.underlying44 rfl sz42 rfl) ?_
                refine r_val .none rfl (p_iaddr (k := 0) Try.underlying42 sz41 rfl rfl (by first | exact of_decide_eq_true rfl | omega)) ?_
                refine r_val .none rfl (p_field Try.underlying41 rfl sz3 rfl) ?_
                refine r_val .none rfl (p_ld (k := 3) Try.underlying3 rfl rfl rfl (by first | exact of_decide_eq_true rfl | omega) (rfl : _ = Value.int _ _)) ?_
                refine r_call (vs := [_, _]) .none rfl cl55 rfl (fun w hw => c_bound _ _ _ hs2 w hw) ?_
                refine r_val .none rfl (p_move rfl) ?_
                refine r_val .none rfl (p_extract rfl rfl) ?_
                refine r_val .none rfl (p_extract rfl rfl) ?_
                refine r_alloc .none rfl zr101 (IsRow.lit _) (fun b_6 => ?_)
                refine r_stw (k := 0) .none sz101 rfl rfl (IsRow.lit _) (one_lit rfl rfl) rfl ?_
                refine r_val .none rfl (p_assign rfl) ?_
                refine r_nil ?_
                refine e_next ?_
                refine c_seq ?_
                refine c_seq ?_
                refine c_region ?_
                refine r_val .none rfl (p_move rfl) ?_
                refine r_nil ?_
                refine e_next ?_
                refine c_split (d := 74) rfl (fun h_50 => ?_) (fun h_50 => ?_)
                · skip
                  have hb : (bound (nF c.h 0) l 0).isSome = true := h_50
                  first
                    | (exfalso; omega)
                    | (
                      refine c_cond_t rfl ?_
                      refine c_seq ?_
                      refine c_region ?_
                      refine r_val .none rfl (p_field Try.underlying70 rfl sz68 rfl) ?_
                      refine r_val .none rfl (p_ld (k := 2) Try.underlying68 rfl rfl rfl (by first | exact of_decide_eq_true rfl | omega) rfl) ?_
                      refine r_val .none rfl (p_move rfl) ?_
                      refine r_val .none rfl (p_field Try.underlying101 rfl sz3 rfl) ?_
                      refine r_val .none rfl (p_ld (k := 0) Try.underlying3 rfl rfl rfl (by first | exact of_decide_eq_true rfl | omega) (rfl : _ = Value.int _ _)) ?_
                      refine r_val .none rfl (p_field Try.underlying101 rfl sz3 rfl) ?_
                      refine r_val .none rfl (p_ld (k := 0) Try.underlying3 rfl rfl rfl (by first | exact of_decide_eq_true rfl | omega) (rfl : _ = Value.int _ _)) ?_
                      refine r_val .none rfl (p_build (vs := [(0, Value.int _ _), (1, Value.int _ _), (2, Value.int _ _)]) rfl (bl96_0i1_1i1_2i1 _ _ _)) ?_
                      refine r_bslice (vs := [(0, Value.agg #[_, _, _])]) (c := #[_, _, _]) .none rfl Try.underlying68 el96 rfl rfl rfl (bs96_10a3 _ _ _) (IsRow.lit _) (fun b_7 => ?_)
                      refine r_append (k := 2) (k2 := 0) .none rfl Try.underlying68 el96 rfl (by decide) rfl rfl rfl rfl rfl (one_lit rfl rfl) (by have q0 := testsTo_len l c.h 0; have q1 := testsTo_len l c.h 1; have q2 := testsTo_len l c.h 2; simp only [maxLen]; omega) (by have q0 := testsTo_len l c.h 0; have q1 := testsTo_len l c.h 1; have q2 := testsTo_len l c.h 2; omega) (fun v_51 => ?_)
                      refine r_row1 (k := 2) rfl (fun o_52 => ?_)
                      refine r_val .none rfl (p_field Try.underlying70 rfl sz68 rfl) ?_
                      refine r_st (k := 3) .none sz68 rfl rfl o_52 rfl (by first | exact of_decide_eq_true rfl | omega) ?_
                      refine r_nil ?_
                      refine e_next ?_
                      refine c_exit ?_
                      refine e_exit_then ?_
                      refine e_exit_block ?_
                      refine e_next ?_
                      refine c_region ?_
                      refine r_val .none rfl (p_move rfl) ?_
                      refine r_val .none rfl (p_add rfl rfl (by omega)) ?_
                      refine r_val .none rfl (p_assign rfl) ?_
                      refine r_nil ?_
                      refine e_round ((1, _)) ⟨Nat.le_of_ble_eq_true rfl, Nat.le_of_ble_eq_true rfl⟩ rfl ⟨rfl, rfl, rfl, rfl, rfl, trivial⟩ (.drop (.drop (.keep (fun _ _ h => rowA_snoc (x := (((0 : Nat) : Int), ((bound (nF c.h 0) l 0).getD (0, 0)).1, ((bound (nF c.h 0) l 0).getD (0, 0)).2)) (by show testsTo l c.h (0 + 1) = _; rw [testsTo_succ, T2 (by assumption) (by assumption)]) rfl rfl rfl _ _ h) (.keep (fun _ _ h => box_congr (fun i hi => by match i, hi with | 0, _ => rfl | 1, _ => exact (by first | exact congrArg (Value.int .i64) (key_set (h := c.h) (f := 0) (by assumption)).symm | exact congrArg (Value.int .i64) ((show keyTo c.h 0 0 = 0 by simp [keyTo]).trans (key_not (h := c.h) (f := 0) (by assumption)).symm)) | 2, _ => exact congrArg (Value.int .i64) (key_else (h := c.h) (f := 0) (i := 1) (by decide)).symm | 3, _ => exact congrArg (Value.int .i64) (key_else (h := c.h) (f := 0) (i := 2) (by decide)).symm | 4, _ => rfl | 5, _ => rfl) _ _ h) (.keep (fun _ _ h => h) (.keep (fun _ _ h => h) (.nil)))))))
                      )
                · skip
                  have hb : (bound (nF c.h 0) l 0).isSome = false := h_50
                  first
                    | (exfalso; omega)
                    | (
                      refine c_cond_f rfl ?_
                      refine c_skip ?_
                      refine e_next ?_
                      refine c_seq ?_
                      refine c_region ?_
                      refine r_val .none rfl (p_assign rfl) ?_
                      refine r_nil ?_
                      refine e_next ?_
                      refine c_block ?_
                      refine c_unroll 3 ?_
                      refine l_round (n := 2) ?_
                      refine c_seq ?_
                      refine c_seq ?_
                      refine c_region ?_
                      refine r_val .none rfl (p_move rfl) ?_
                      refine r_val .none rfl (p_move rfl) ?_
                      refine r_val .none rfl (p_lt rfl rfl) ?_
                      refine r_say (d := 88) (v := Value.bool false) rfl ?_
                      refine r_nil ?_
                      refine e_next ?_
                      refine c_cond_f rfl ?_
                      refine c_exit ?_
                      refine e_exit_then ?_
                      refine e_exit_then ?_
                      refine e_exit_block ?_
                      refine e_norm_block ?_
                      refine e_next ?_
                      refine c_region ?_
                      refine r_val .none rfl (p_move rfl) ?_
                      refine r_val .none rfl (p_add rfl rfl (by omega)) ?_
                      refine r_val .none rfl (p_assign rfl) ?_
                      refine r_nil ?_
                      refine e_round ((1, _)) ⟨Nat.le_of_ble_eq_true rfl, Nat.le_of_ble_eq_true rfl⟩ rfl ⟨rfl, rfl, rfl, rfl, rfl, trivial⟩ (.drop (.keep (fun _ _ h => rowA_same (by show testsTo l c.h (0 + 1) = _; rw [testsTo_succ, (by first | exact T1 (by assumption) | exact T4 (by assumption) (by assumption) (dup0 _) : testF l c.h 0 = []), List.append_nil]) _ _ h) (.keep (fun _ _ h => box_congr (fun i hi => by match i, hi with | 0, _ => rfl | 1, _ => exact (by first | exact congrArg (Value.int .i64) (key_set (h := c.h) (f := 0) (by assumption)).symm | exact congrArg (Value.int .i64) ((show keyTo c.h 0 0 = 0 by simp [keyTo]).trans (key_not (h := c.h) (f := 0) (by assumption)).symm)) | 2, _ => exact congrArg (Value.int .i64) (key_else (h := c.h) (f := 0) (i := 1) (by decide)).symm | 3, _ => exact congrArg (Value.int .i64) (key_else (h := c.h) (f := 0) (i := 2) (by decide)).symm | 4, _ => rfl | 5, _ => rfl) _ _ h) (.keep (fun _ _ h => h) (.keep (fun _ _ h => h) (.nil))))))
                      )
                )
        · skip
          refine c_seq ?_
          refine c_seq ?_
          refine c_region ?_
          refine r_val .none rfl (p_move rfl) ?_
          refine r_val .none rfl (p_lt rfl rfl) ?_
          refine r_say (d := 47) (v := Value.bool true) rfl ?_
          refine r_nil ?_
          refine e_next ?_
          refine c_cond_t rfl ?_
          refine c_skip ?_
          refine e_next ?_
          refine c_seq ?_
          refine c_block ?_
          refine c_seq ?_
          refine c_seq ?_
          refine c_region ?_
          refine r_val .none rfl (p_move rfl) ?_
          refine r_val .none rfl (p_field Try.underlying44 rfl sz42 rfl) ?_
          refine r_val .none rfl (p_iaddr (k := 1) Try.underlying42 sz41 rfl rfl (by first | exact of_decide_eq_true rfl | omega)) ?_
          refine r_val .none rfl (p_field Try.underlying41 rfl sz3 rfl) ?_
          refine r_val .none rfl (p_ld (k := 3) Try.underlying3 rfl rfl rfl (by first | exact of_decide_eq_true rfl | omega) (rfl : _ = Value.int _ _)) ?_
          refine r_val .none rfl (p_eq rfl rfl) ?_
          refine r_nil ?_
          refine e_next ?_
          refine c_splitd (d := 55) rfl (fun h_53 => ?_) (fun h_53 => ?_)
          · skip
            have hv : vF c.h 1 = false := vF_no h_53
            first
              | (exfalso; omega)
              | (
                refine c_cond_t rfl ?_
                refine c_seq ?_
                refine c_region ?_
                refine r_val .none rfl (p_move rfl) ?_
                refine r_val .none rfl (p_move rfl) ?_
                refine r_val .none rfl (p_field Try.underlying44 rfl sz42 rfl) ?_
                refine r_val .none rfl (p_iaddr (k := 1) Try.underlying42 sz41 rfl rfl (by first | exact of_decide_eq_true rfl | omega)) ?_
                refine r_val .none rfl (p_field Try.underlying41 rfl sz3 rfl) ?_
                refine r_val .none rfl (p_ld (k := 3) Try.underlying3 rfl rfl rfl (by first | exact of_decide_eq_true rfl | omega) (rfl : _ = Value.int _ _)) ?_
                refine r_val .none rfl (p_field Try.underlying70 rfl sz60 rfl) ?_
                refine r_val .none rfl (p_iaddr (k := 1) Try.underlying60 sz3 rfl rfl (by first | exact of_decide_eq_true rfl | omega)) ?_
                refine r_st (k := 1) .none sz3 rfl rfl rfl rfl (by first | exact of_decide_eq_true rfl | omega) ?_
                refine r_nil ?_
                refine e_next ?_
                refine c_exit ?_
                refine e_exit_then ?_
                refine e_exit_block ?_
                refine e_next ?_
                refine c_region ?_
                refine r_val .none rfl (p_move rfl) ?_
                refine r_val .none rfl (p_add rfl rfl (by omega)) ?_
                refine r_val .none rfl (p_assign rfl) ?_
                refine r_nil ?_
                refine e_round ((2, _)) ⟨Nat.le_of_ble_eq_true rfl, Nat.le_of_ble_eq_true rfl⟩ rfl ⟨rfl, rfl, rfl, rfl, rfl, trivial⟩ (.keep (fun _ _ h => rowA_same (by show testsTo l c.h (1 + 1) = _; rw [testsTo_succ, (by first | exact T1 (by assumption) | exact T4 (by assumption) (by assumption) (dup1_no (by assumption)) : testF l c.h 1 = []), List.append_nil]) _ _ h) (.keep (fun _ _ h => box_congr (fun i hi => by match i, hi with | 0, _ => rfl | 1, _ => exact congrArg (Value.int .i64) (key_else (h := c.h) (f := 1) (i := 0) (by decide)).symm | 2, _ => exact (by first | exact congrArg (Value.int .i64) (key_set (h := c.h) (f := 1) (by assumption)).symm | exact congrArg (Value.int .i64) ((show keyTo c.h 1 1 = 0 by simp [keyTo]).trans (key_not (h := c.h) (f := 1) (by assumption)).symm)) | 3, _ => exact congrArg (Value.int .i64) (key_else (h := c.h) (f := 1) (i := 2) (by decide)).symm | 4, _ => rfl | 5, _ => rfl) _ _ h) (.keep (fun _ _ h => h) (.keep (fun _ _ h => h) (.nil)))))
                )
          · skip
            have hv : vF c.h 1 = true := vF_yes h_53
            first
              | (exfalso; omega)
              | (
                refine c_cond_f rfl ?_
                refine c_skip ?_
                refine e_next ?_
                refine c_seq ?_
                refine c_region ?_
                refine r_val .none rfl (p_move rfl) ?_
                refine r_val .none rfl (p_move rfl) ?_
                refine r_val .none rfl (p_field Try.underlying44 rfl sz42 rfl) ?_
                refine r_val .none rfl (p_iaddr (k := 1) Try.underlying42 sz41 rfl rfl (by first | exact of_decide_eq_true rfl | omega)) ?_
                refine r_val .none rfl (p_field Try.underlying41 rfl sz3 rfl) ?_
                refine r_val .none rfl (p_ld (k := 3) Try.underlying3 rfl rfl rfl (by first | exact of_decide_eq_true rfl | omega) (rfl : _ = Value.int _ _)) ?_
                refine r_call (vs := [_, _]) .none rfl cl55 rfl (fun w hw => c_bound _ _ _ hs2 w hw) ?_
                refine r_val .none rfl (p_move rfl) ?_
                refine r_val .none rfl (p_extract rfl rfl) ?_
                refine r_val .none rfl (p_extract rfl rfl) ?_
                refine r_alloc .none rfl zr101 (IsRow.lit _) (fun b_8 => ?_)
                refine r_stw (k := 0) .none sz101 rfl rfl (IsRow.lit _) (one_lit rfl rfl) rfl ?_
                refine r_val .none rfl (p_assign rfl) ?_
                refine r_nil ?_
                refine e_next ?_
                refine c_seq ?_
                refine c_seq ?_
                refine c_region ?_
                refine r_val .none rfl (p_move rfl) ?_
                refine r_nil ?_
                refine e_next ?_
                refine c_split (d := 74) rfl (fun h_54 => ?_) (fun h_54 => ?_)
                · skip
                  have hb : (bound (nF c.h 1) l 0).isSome = true := h_54
                  first
                    | (exfalso; omega)
                    | (
                      refine c_cond_t rfl ?_
                      refine c_seq ?_
                      refine c_region ?_
                      refine r_val .none rfl (p_field Try.underlying70 rfl sz68 rfl) ?_
                      refine r_val .none rfl (p_ld (k := 2) Try.underlying68 rfl rfl rfl (by first | exact of_decide_eq_true rfl | omega) rfl) ?_
                      refine r_val .none rfl (p_move rfl) ?_
                      refine r_val .none rfl (p_field Try.underlying101 rfl sz3 rfl) ?_
                      refine r_val .none rfl (p_ld (k := 0) Try.underlying3 rfl rfl rfl (by first | exact of_decide_eq_true rfl | omega) (rfl : _ = Value.int _ _)) ?_
                      refine r_val .none rfl (p_field Try.underlying101 rfl sz3 rfl) ?_
                      refine r_val .none rfl (p_ld (k := 0) Try.underlying3 rfl rfl rfl (by first | exact of_decide_eq_true rfl | omega) (rfl : _ = Value.int _ _)) ?_
                      refine r_val .none rfl (p_build (vs := [(0, Value.int _ _), (1, Value.int _ _), (2, Value.int _ _)]) rfl (bl96_0i1_1i1_2i1 _ _ _)) ?_
                      refine r_bslice (vs := [(0, Value.agg #[_, _, _])]) (c := #[_, _, _]) .none rfl Try.underlying68 el96 rfl rfl rfl (bs96_10a3 _ _ _) (IsRow.lit _) (fun b_9 => ?_)
                      refine r_append (k := 2) (k2 := 0) .none rfl Try.underlying68 el96 rfl (by decide) rfl rfl rfl rfl rfl (one_lit rfl rfl) (by have q0 := testsTo_len l c.h 0; have q1 := testsTo_len l c.h 1; have q2 := testsTo_len l c.h 2; simp only [maxLen]; omega) (by have q0 := testsTo_len l c.h 0; have q1 := testsTo_len l c.h 1; have q2 := testsTo_len l c.h 2; omega) (fun v_55 => ?_)
                      refine r_row1 (k := 2) rfl (fun o_56 => ?_)
                      refine r_val .none rfl (p_field Try.underlying70 rfl sz68 rfl) ?_
                      refine r_st (k := 3) .none sz68 rfl rfl o_56 rfl (by first | exact of_decide_eq_true rfl | omega) ?_
                      refine r_nil ?_
                      refine e_next ?_
                      refine c_exit ?_
                      refine e_exit_then ?_
                      refine e_exit_block ?_
                      refine e_next ?_
                      refine c_region ?_
                      refine r_val .none rfl (p_move rfl) ?_
                      refine r_val .none rfl (p_add rfl rfl (by omega)) ?_
                      refine r_val .none rfl (p_assign rfl) ?_
                      refine r_nil ?_
                      refine e_round ((2, _)) ⟨Nat.le_of_ble_eq_true rfl, Nat.le_of_ble_eq_true rfl⟩ rfl ⟨rfl, rfl, rfl, rfl, rfl, trivial⟩ (.drop (.drop (.keep (fun _ _ h => rowA_snoc (x := (((1 : Nat) : Int), ((bound (nF c.h 1) l 0).getD (0, 0)).1, ((bound (nF c.h 1) l 0).getD (0, 0)).2)) (by show testsTo l c.h (1 + 1) = _; rw [testsTo_succ, T2 (by assumption) (by assumption)]) rfl rfl rfl _ _ h) (.keep (fun _ _ h => box_congr (fun i hi => by match i, hi with | 0, _ => rfl | 1, _ => exact congrArg (Value.int .i64) (key_else (h := c.h) (f := 1) (i := 0) (by decide)).symm | 2, _ => exact (by first | exact congrArg (Value.int .i64) (key_set (h := c.h) (f := 1) (by assumption)).symm | exact congrArg (Value.int .i64) ((show keyTo c.h 1 1 = 0 by simp [keyTo]).trans (key_not (h := c.h) (f := 1) (by assumption)).symm)) | 3, _ => exact congrArg (Value.int .i64) (key_else (h := c.h) (f := 1) (i := 2) (by decide)).symm | 4, _ => rfl | 5, _ => rfl) _ _ h) (.keep (fun _ _ h => h) (.keep (fun _ _ h => h) (.nil)))))))
                      )
                · skip
                  have hb : (bound (nF c.h 1) l 0).isSome = false := h_54
                  first
                    | (exfalso; omega)
                    | (
                      refine c_cond_f rfl ?_
                      refine c_skip ?_
                      refine e_next ?_
                      refine c_seq ?_
                      refine c_region ?_
                      refine r_val .none rfl (p_assign rfl) ?_
                      refine r_nil ?_
                      refine e_next ?_
                      refine c_block ?_
                      refine c_unroll 3 ?_
                      refine l_round (n := 2) ?_
                      refine c_seq ?_
                      refine c_seq ?_
                      refine c_region ?_
                      refine r_val .none rfl (p_move rfl) ?_
                      refine r_val .none rfl (p_move rfl) ?_
                      refine r_val .none rfl (p_lt rfl rfl) ?_
                      refine r_say (d := 88) (v := Value.bool true) rfl ?_
                      refine r_nil ?_
                      refine e_next ?_
                      refine c_cond_t rfl ?_
                      refine c_skip ?_
                      refine e_next ?_
                      refine c_seq ?_
                      refine c_block ?_
                      refine c_seq ?_
                      refine c_region_q mixed (by kernel_rfl) ?_
                      refine q_val .none rfl (p_move rfl) ?_
                      refine q_val .none rfl (p_field Try.underlying44 rfl sz42 rfl) ?_
                      refine q_val .none rfl (p_iaddr (k := 0) Try.underlying42 sz41 rfl rfl (by first | exact of_decide_eq_true rfl | omega)) ?_
                      refine q_val .none rfl (p_lda (k := 4) Try.underlying41 rfl sz41 rfl rfl (by first | exact of_decide_eq_true rfl | omega) (rfl : _ = Value.agg #[_, _])) ?_
                      refine q_val .none rfl (p_move rfl) ?_
                      refine q_val .none rfl (p_field Try.underlying44 rfl sz42 rfl) ?_
                      refine q_val .none rfl (p_iaddr (k := 1) Try.underlying42 sz41 rfl rfl (by first | exact of_decide_eq_true rfl | omega)) ?_
                      refine q_val .none rfl (p_lda (k := 4) Try.underlying41 rfl sz41 rfl rfl (by first | exact of_decide_eq_true rfl | omega) (rfl : _ = Value.agg #[_, _])) ?_
                      refine q_val .none rfl (p_eqa rfl rfl (eq_flat Try.underlying41 rfl lf41 ef41 eg41 (.cons (.int Try.underlying3) (.cons (.int Try.underlying3) (.nil))) (.cons (.int Try.underlying3) (.cons (.int Try.underlying3) (.nil))))) ?_
                      refine q_nil ?_
                      refine e_next ?_
                      refine c_split (d := 99) rfl (fun h_57 => ?_) (fun h_57 => ?_)
                      · skip
                        first | have s0 : sameF c.h 0 1 = true := (same_cs c.h 0 1).symm.trans h_57 | have s1 : sameF c.h 1 1 = true := (same_cs c.h 1 1).symm.trans h_57
                        first
                          | (exfalso; omega)
                          | (
                            refine c_cond_t rfl ?_
                            refine c_seq ?_
                            refine c_region ?_
                            refine r_val .none rfl (p_field Try.underlying70 rfl sz68 rfl) ?_
                            refine r_val .none rfl (p_ld (k := 2) Try.underlying68 rfl rfl rfl (by first | exact of_decide_eq_true rfl | omega) rfl) ?_
                            refine r_val .none rfl (p_move rfl) ?_
                            refine r_val .none rfl (p_move rfl) ?_
                            refine r_val .none rfl (p_build (vs := [(0, Value.int _ _), (1, Value.int _ _), (2, Value.int _ _)]) rfl (bl96_0i1_1i1_2i1 _ _ _)) ?_
                            refine r_bslice (vs := [(0, Value.agg #[_, _, _])]) (c := #[_, _, _]) .none rfl Try.underlying68 el96 rfl rfl rfl (bs96_10a3 _ _ _) (IsRow.lit _) (fun b_10 => ?_)
                            refine r_append (k := 2) (k2 := 0) .none rfl Try.underlying68 el96 rfl (by decide) rfl rfl rfl rfl rfl (one_lit rfl rfl) (by have q0 := testsTo_len l c.h 0; have q1 := testsTo_len l c.h 1; have q2 := testsTo_len l c.h 2; simp only [maxLen]; omega) (by have q0 := testsTo_len l c.h 0; have q1 := testsTo_len l c.h 1; have q2 := testsTo_len l c.h 2; omega) (fun v_58 => ?_)
                            refine r_row1 (k := 2) rfl (fun o_59 => ?_)
                            refine r_val .none rfl (p_field Try.underlying70 rfl sz68 rfl) ?_
                            refine r_st (k := 3) .none sz68 rfl rfl o_59 rfl (by first | exact of_decide_eq_true rfl | omega) ?_
                            refine r_nil ?_
                            refine e_next ?_
                            refine c_exit ?_
                            refine e_exit_past rfl ?_
                            refine e_exit_then ?_
                            refine e_exit_then ?_
                            refine e_exit_block ?_
                            refine e_norm_block ?_
                            refine e_next ?_
                            refine c_region ?_
                            refine r_val .none rfl (p_move rfl) ?_
                            refine r_val .none rfl (p_add rfl rfl (by omega)) ?_
                            refine r_val .none rfl (p_assign rfl) ?_
                            refine r_nil ?_
                            refine e_round ((2, _)) ⟨Nat.le_of_ble_eq_true rfl, Nat.le_of_ble_eq_true rfl⟩ rfl ⟨rfl, rfl, rfl, rfl, rfl, trivial⟩ (.drop (.drop (.keep (fun _ _ h => rowA_snoc (x := (((1 : Nat) : Int), -1, 0)) (by show testsTo l c.h (1 + 1) = _; rw [testsTo_succ, T3 (by assumption) (by assumption) (dup1_yes (by assumption))]) rfl rfl rfl _ _ h) (.keep (fun _ _ h => box_congr (fun i hi => by match i, hi with | 0, _ => rfl | 1, _ => exact congrArg (Value.int .i64) (key_else (h := c.h) (f := 1) (i := 0) (by decide)).symm | 2, _ => exact (by first | exact congrArg (Value.int .i64) (key_set (h := c.h) (f := 1) (by assumption)).symm | exact congrArg (Value.int .i64) ((show keyTo c.h 1 1 = 0 by simp [keyTo]).trans (key_not (h := c.h) (f := 1) (by assumption)).symm)) | 3, _ => exact congrArg (Value.int .i64) (key_else (h := c.h) (f := 1) (i := 2) (by decide)).symm | 4, _ => rfl | 5, _ => rfl) _ _ h) (.keep (fun _ _ h => h) (.keep (fun _ _ h => h) (.nil)))))))
                            )
                      · skip
                        first | have s0 : sameF c.h 0 1 = false := (same_cs c.h 0 1).symm.trans h_57 | have s1 : sameF c.h 1 1 = false := (same_cs c.h 1 1).symm.trans h_57
                        first
                          | (exfalso; omega)
                          | (
                            refine c_cond_f rfl ?_
                            refine c_skip ?_
                            refine e_norm_block ?_
                            refine e_next ?_
                            refine c_region ?_
                            refine r_val .none rfl (p_move rfl) ?_
                            refine r_val .none rfl (p_add rfl rfl (by omega)) ?_
                            refine r_val .none rfl (p_assign rfl) ?_
                            refine r_nil ?_
                            refine e_again ?_
                            refine l_round (n := 1) ?_
                            refine c_seq ?_
                            refine c_seq ?_
                            refine c_region ?_
                            refine r_val .none rfl (p_move rfl) ?_
                            refine r_val .none rfl (p_move rfl) ?_
                            refine r_val .none rfl (p_lt rfl rfl) ?_
                            refine r_say (d := 88) (v := Value.bool false) rfl ?_
                            refine r_nil ?_
                            refine e_next ?_
                            refine c_cond_f rfl ?_
                            refine c_exit ?_
                            refine e_exit_then ?_
                            refine e_exit_then ?_
                            refine e_exit_block ?_
                            refine e_norm_block ?_
                            refine e_next ?_
                            refine c_region ?_
                            refine r_val .none rfl (p_move rfl) ?_
                            refine r_val .none rfl (p_add rfl rfl (by omega)) ?_
                            refine r_val .none rfl (p_assign rfl) ?_
                            refine r_nil ?_
                            refine e_round ((2, _)) ⟨Nat.le_of_ble_eq_true rfl, Nat.le_of_ble_eq_true rfl⟩ rfl ⟨rfl, rfl, rfl, rfl, rfl, trivial⟩ (.drop (.keep (fun _ _ h => rowA_same (by show testsTo l c.h (1 + 1) = _; rw [testsTo_succ, (by first | exact T1 (by assumption) | exact T4 (by assumption) (by assumption) (dup1_no (by assumption)) : testF l c.h 1 = []), List.append_nil]) _ _ h) (.keep (fun _ _ h => box_congr (fun i hi => by match i, hi with | 0, _ => rfl | 1, _ => exact congrArg (Value.int .i64) (key_else (h := c.h) (f := 1) (i := 0) (by decide)).symm | 2, _ => exact (by first | exact congrArg (Value.int .i64) (key_set (h := c.h) (f := 1) (by assumption)).symm | exact congrArg (Value.int .i64) ((show keyTo c.h 1 1 = 0 by simp [keyTo]).trans (key_not (h := c.h) (f := 1) (by assumption)).symm)) | 3, _ => exact congrArg (Value.int .i64) (key_else (h := c.h) (f := 1) (i := 2) (by decide)).symm | 4, _ => rfl | 5, _ => rfl) _ _ h) (.keep (fun _ _ h => h) (.keep (fun _ _ h => h) (.nil))))))
                            )
                      )
                )
        · skip
          refine c_seq ?_
          refine c_seq ?_
          refine c_region ?_
          refine r_val .none rfl (p_move rfl) ?_
          refine r_val .none rfl (p_lt rfl rfl) ?_
          refine r_say (d := 47) (v := Value.bool true) rfl ?_
          refine r_nil ?_
          refine e_next ?_
          refine c_cond_t rfl ?_
          refine c_skip ?_
          refine e_next ?_
          refine c_seq ?_
          refine c_block ?_
          refine c_seq ?_
          refine c_seq ?_
          refine c_region ?_
          refine r_val .none rfl (p_move rfl) ?_
          refine r_val .none rfl (p_field Try.underlying44 rfl sz42 rfl) ?_
          refine r_val .none rfl (p_iaddr (k := 2) Try.underlying42 sz41 rfl rfl (by first | exact of_decide_eq_true rfl | omega)) ?_
          refine r_val .none rfl (p_field Try.underlying41 rfl sz3 rfl) ?_
          refine r_val .none rfl (p_ld (k := 3) Try.underlying3 rfl rfl rfl (by first | exact of_decide_eq_true rfl | omega) (rfl : _ = Value.int _ _)) ?_
          refine r_val .none rfl (p_eq rfl rfl) ?_
          refine r_nil ?_
          refine e_next ?_
          refine c_splitd (d := 55) rfl (fun h_60 => ?_) (fun h_60 => ?_)
          · skip
            have hv : vF c.h 2 = false := vF_no h_60
            first
              | (exfalso; omega)
              | (
                refine c_cond_t rfl ?_
                refine c_seq ?_
                refine c_region ?_
                refine r_val .none rfl (p_move rfl) ?_
                refine r_val .none rfl (p_move rfl) ?_
                refine r_val .none rfl (p_field Try.underlying44 rfl sz42 rfl) ?_
                refine r_val .none rfl (p_iaddr (k := 2) Try.underlying42 sz41 rfl rfl (by first | exact of_decide_eq_true rfl | omega)) ?_
                refine r_val .none rfl (p_field Try.underlying41 rfl sz3 rfl) ?_
                refine r_val .none rfl (p_ld (k := 3) Try.underlying3 rfl rfl rfl (by first | exact of_decide_eq_true rfl | omega) (rfl : _ = Value.int _ _)) ?_
                refine r_val .none rfl (p_field Try.underlying70 rfl sz60 rfl) ?_
                refine r_val .none rfl (p_iaddr (k := 2) Try.underlying60 sz3 rfl rfl (by first | exact of_decide_eq_true rfl | omega)) ?_
                refine r_st (k := 1) .none sz3 rfl rfl rfl rfl (by first | exact of_decide_eq_true rfl | omega) ?_
                refine r_nil ?_
                refine e_next ?_
                refine c_exit ?_
                refine e_exit_then ?_
                refine e_exit_block ?_
                refine e_next ?_
                refine c_region ?_
                refine r_val .none rfl (p_move rfl) ?_
                refine r_val .none rfl (p_add rfl rfl (by omega)) ?_
                refine r_val .none rfl (p_assign rfl) ?_
                refine r_nil ?_
                refine e_round ((3, _)) ⟨Nat.le_of_ble_eq_true rfl, Nat.le_of_ble_eq_true rfl⟩ rfl ⟨rfl, rfl, rfl, rfl, rfl, trivial⟩ (.keep (fun _ _ h => rowA_same (by show testsTo l c.h (2 + 1) = _; rw [testsTo_succ, (by first | exact T1 (by assumption) | exact T4 (by assumption) (by assumption) (dup2_no (by assumption) (by assumption)) : testF l c.h 2 = []), List.append_nil]) _ _ h) (.keep (fun _ _ h => box_congr (fun i hi => by match i, hi with | 0, _ => rfl | 1, _ => exact congrArg (Value.int .i64) (key_else (h := c.h) (f := 2) (i := 0) (by decide)).symm | 2, _ => exact congrArg (Value.int .i64) (key_else (h := c.h) (f := 2) (i := 1) (by decide)).symm | 3, _ => exact (by first | exact congrArg (Value.int .i64) (key_set (h := c.h) (f := 2) (by assumption)).symm | exact congrArg (Value.int .i64) ((show keyTo c.h 2 2 = 0 by simp [keyTo]).trans (key_not (h := c.h) (f := 2) (by assumption)).symm)) | 4, _ => rfl | 5, _ => rfl) _ _ h) (.keep (fun _ _ h => h) (.keep (fun _ _ h => h) (.nil)))))
                )
          · skip
            have hv : vF c.h 2 = true := vF_yes h_60
            first
              | (exfalso; omega)
              | (
                refine c_cond_f rfl ?_
                refine c_skip ?_
                refine e_next ?_
                refine c_seq ?_
                refine c_region ?_
                refine r_val .none rfl (p_move rfl) ?_
                refine r_val .none rfl (p_move rfl) ?_
                refine r_val .none rfl (p_field Try.underlying44 rfl sz42 rfl) ?_
                refine r_val .none rfl (p_iaddr (k := 2) Try.underlying42 sz41 rfl rfl (by first | exact of_decide_eq_true rfl | omega)) ?_
                refine r_val .none rfl (p_field Try.underlying41 rfl sz3 rfl) ?_
                refine r_val .none rfl (p_ld (k := 3) Try.underlying3 rfl rfl rfl (by first | exact of_decide_eq_true rfl | omega) (rfl : _ = Value.int _ _)) ?_
                refine r_call (vs := [_, _]) .none rfl cl55 rfl (fun w hw => c_bound _ _ _ hs2 w hw) ?_
                refine r_val .none rfl (p_move rfl) ?_
                refine r_val .none rfl (p_extract rfl rfl) ?_
                refine r_val .none rfl (p_extract rfl rfl) ?_
                refine r_alloc .none rfl zr101 (IsRow.lit _) (fun b_11 => ?_)
                refine r_stw (k := 0) .none sz101 rfl rfl (IsRow.lit _) (one_lit rfl rfl) rfl ?_
                refine r_val .none rfl (p_assign rfl) ?_
                refine r_nil ?_
                refine e_next ?_
                refine c_seq ?_
                refine c_seq ?_
                refine c_region ?_
                refine r_val .none rfl (p_move rfl) ?_
                refine r_nil ?_
                refine e_next ?_
                refine c_split (d := 74) rfl (fun h_61 => ?_) (fun h_61 => ?_)
                · skip
                  have hb : (bound (nF c.h 2) l 0).isSome = true := h_61
                  first
                    | (exfalso; omega)
                    | (
                      refine c_cond_t rfl ?_
                      refine c_seq ?_
                      refine c_region ?_
                      refine r_val .none rfl (p_field Try.underlying70 rfl sz68 rfl) ?_
                      refine r_val .none rfl (p_ld (k := 2) Try.underlying68 rfl rfl rfl (by first | exact of_decide_eq_true rfl | omega) rfl) ?_
                      refine r_val .none rfl (p_move rfl) ?_
                      refine r_val .none rfl (p_field Try.underlying101 rfl sz3 rfl) ?_
                      refine r_val .none rfl (p_ld (k := 0) Try.underlying3 rfl rfl rfl (by first | exact of_decide_eq_true rfl | omega) (rfl : _ = Value.int _ _)) ?_
                      refine r_val .none rfl (p_field Try.underlying101 rfl sz3 rfl) ?_
                      refine r_val .none rfl (p_ld (k := 0) Try.underlying3 rfl rfl rfl (by first | exact of_decide_eq_true rfl | omega) (rfl : _ = Value.int _ _)) ?_
                      refine r_val .none rfl (p_build (vs := [(0, Value.int _ _), (1, Value.int _ _), (2, Value.int _ _)]) rfl (bl96_0i1_1i1_2i1 _ _ _)) ?_
                      refine r_bslice (vs := [(0, Value.agg #[_, _, _])]) (c := #[_, _, _]) .none rfl Try.underlying68 el96 rfl rfl rfl (bs96_10a3 _ _ _) (IsRow.lit _) (fun b_12 => ?_)
                      refine r_append (k := 2) (k2 := 0) .none rfl Try.underlying68 el96 rfl (by decide) rfl rfl rfl rfl rfl (one_lit rfl rfl) (by have q0 := testsTo_len l c.h 0; have q1 := testsTo_len l c.h 1; have q2 := testsTo_len l c.h 2; simp only [maxLen]; omega) (by have q0 := testsTo_len l c.h 0; have q1 := testsTo_len l c.h 1; have q2 := testsTo_len l c.h 2; omega) (fun v_62 => ?_)
                      refine r_row1 (k := 2) rfl (fun o_63 => ?_)
                      refine r_val .none rfl (p_field Try.underlying70 rfl sz68 rfl) ?_
                      refine r_st (k := 3) .none sz68 rfl rfl o_63 rfl (by first | exact of_decide_eq_true rfl | omega) ?_
                      refine r_nil ?_
                      refine e_next ?_
                      refine c_exit ?_
                      refine e_exit_then ?_
                      refine e_exit_block ?_
                      refine e_next ?_
                      refine c_region ?_
                      refine r_val .none rfl (p_move rfl) ?_
                      refine r_val .none rfl (p_add rfl rfl (by omega)) ?_
                      refine r_val .none rfl (p_assign rfl) ?_
                      refine r_nil ?_
                      refine e_round ((3, _)) ⟨Nat.le_of_ble_eq_true rfl, Nat.le_of_ble_eq_true rfl⟩ rfl ⟨rfl, rfl, rfl, rfl, rfl, trivial⟩ (.drop (.drop (.keep (fun _ _ h => rowA_snoc (x := (((2 : Nat) : Int), ((bound (nF c.h 2) l 0).getD (0, 0)).1, ((bound (nF c.h 2) l 0).getD (0, 0)).2)) (by show testsTo l c.h (2 + 1) = _; rw [testsTo_succ, T2 (by assumption) (by assumption)]) rfl rfl rfl _ _ h) (.keep (fun _ _ h => box_congr (fun i hi => by match i, hi with | 0, _ => rfl | 1, _ => exact congrArg (Value.int .i64) (key_else (h := c.h) (f := 2) (i := 0) (by decide)).symm | 2, _ => exact congrArg (Value.int .i64) (key_else (h := c.h) (f := 2) (i := 1) (by decide)).symm | 3, _ => exact (by first | exact congrArg (Value.int .i64) (key_set (h := c.h) (f := 2) (by assumption)).symm | exact congrArg (Value.int .i64) ((show keyTo c.h 2 2 = 0 by simp [keyTo]).trans (key_not (h := c.h) (f := 2) (by assumption)).symm)) | 4, _ => rfl | 5, _ => rfl) _ _ h) (.keep (fun _ _ h => h) (.keep (fun _ _ h => h) (.nil)))))))
                      )
                · skip
                  have hb : (bound (nF c.h 2) l 0).isSome = false := h_61
                  first
                    | (exfalso; omega)
                    | (
                      refine c_cond_f rfl ?_
                      refine c_skip ?_
                      refine e_next ?_
                      refine c_seq ?_
                      refine c_region ?_
                      refine r_val .none rfl (p_assign rfl) ?_
                      refine r_nil ?_
                      refine e_next ?_
                      refine c_block ?_
                      refine c_unroll 3 ?_
                      refine l_round (n := 2) ?_
                      refine c_seq ?_
                      refine c_seq ?_
                      refine c_region ?_
                      refine r_val .none rfl (p_move rfl) ?_
                      refine r_val .none rfl (p_move rfl) ?_
                      refine r_val .none rfl (p_lt rfl rfl) ?_
                      refine r_say (d := 88) (v := Value.bool true) rfl ?_
                      refine r_nil ?_
                      refine e_next ?_
                      refine c_cond_t rfl ?_
                      refine c_skip ?_
                      refine e_next ?_
                      refine c_seq ?_
                      refine c_block ?_
                      refine c_seq ?_
                      refine c_region_q mixed (by kernel_rfl) ?_
                      refine q_val .none rfl (p_move rfl) ?_
                      refine q_val .none rfl (p_field Try.underlying44 rfl sz42 rfl) ?_
                      refine q_val .none rfl (p_iaddr (k := 0) Try.underlying42 sz41 rfl rfl (by first | exact of_decide_eq_true rfl | omega)) ?_
                      refine q_val .none rfl (p_lda (k := 4) Try.underlying41 rfl sz41 rfl rfl (by first | exact of_decide_eq_true rfl | omega) (rfl : _ = Value.agg #[_, _])) ?_
                      refine q_val .none rfl (p_move rfl) ?_
                      refine q_val .none rfl (p_field Try.underlying44 rfl sz42 rfl) ?_
                      refine q_val .none rfl (p_iaddr (k := 2) Try.underlying42 sz41 rfl rfl (by first | exact of_decide_eq_true rfl | omega)) ?_
                      refine q_val .none rfl (p_lda (k := 4) Try.underlying41 rfl sz41 rfl rfl (by first | exact of_decide_eq_true rfl | omega) (rfl : _ = Value.agg #[_, _])) ?_
                      refine q_val .none rfl (p_eqa rfl rfl (eq_flat Try.underlying41 rfl lf41 ef41 eg41 (.cons (.int Try.underlying3) (.cons (.int Try.underlying3) (.nil))) (.cons (.int Try.underlying3) (.cons (.int Try.underlying3) (.nil))))) ?_
                      refine q_nil ?_
                      refine e_next ?_
                      refine c_split (d := 99) rfl (fun h_64 => ?_) (fun h_64 => ?_)
                      · skip
                        first | have s0 : sameF c.h 0 2 = true := (same_cs c.h 0 2).symm.trans h_64 | have s1 : sameF c.h 1 2 = true := (same_cs c.h 1 2).symm.trans h_64
                        first
                          | (exfalso; omega)
                          | (
                            refine c_cond_t rfl ?_
                            refine c_seq ?_
                            refine c_region ?_
                            refine r_val .none rfl (p_field Try.underlying70 rfl sz68 rfl) ?_
                            refine r_val .none rfl (p_ld (k := 2) Try.underlying68 rfl rfl rfl (by first | exact of_decide_eq_true rfl | omega) rfl) ?_
                            refine r_val .none rfl (p_move rfl) ?_
                            refine r_val .none rfl (p_move rfl) ?_
                            refine r_val .none rfl (p_build (vs := [(0, Value.int _ _), (1, Value.int _ _), (2, Value.int _ _)]) rfl (bl96_0i1_1i1_2i1 _ _ _)) ?_
                            refine r_bslice (vs := [(0, Value.agg #[_, _, _])]) (c := #[_, _, _]) .none rfl Try.underlying68 el96 rfl rfl rfl (bs96_10a3 _ _ _) (IsRow.lit _) (fun b_13 => ?_)
                            refine r_append (k := 2) (k2 := 0) .none rfl Try.underlying68 el96 rfl (by decide) rfl rfl rfl rfl rfl (one_lit rfl rfl) (by have q0 := testsTo_len l c.h 0; have q1 := testsTo_len l c.h 1; have q2 := testsTo_len l c.h 2; simp only [maxLen]; omega) (by have q0 := testsTo_len l c.h 0; have q1 := testsTo_len l c.h 1; have q2 := testsTo_len l c.h 2; omega) (fun v_65 => ?_)
                            refine r_row1 (k := 2) rfl (fun o_66 => ?_)
                            refine r_val .none rfl (p_field Try.underlying70 rfl sz68 rfl) ?_
                            refine r_st (k := 3) .none sz68 rfl rfl o_66 rfl (by first | exact of_decide_eq_true rfl | omega) ?_
                            refine r_nil ?_
                            refine e_next ?_
                            refine c_exit ?_
                            refine e_exit_past rfl ?_
                            refine e_exit_then ?_
                            refine e_exit_then ?_
                            refine e_exit_block ?_
                            refine e_norm_block ?_
                            refine e_next ?_
                            refine c_region ?_
                            refine r_val .none rfl (p_move rfl) ?_
                            refine r_val .none rfl (p_add rfl rfl (by omega)) ?_
                            refine r_val .none rfl (p_assign rfl) ?_
                            refine r_nil ?_
                            refine e_round ((3, _)) ⟨Nat.le_of_ble_eq_true rfl, Nat.le_of_ble_eq_true rfl⟩ rfl ⟨rfl, rfl, rfl, rfl, rfl, trivial⟩ (.drop (.drop (.keep (fun _ _ h => rowA_snoc (x := (((2 : Nat) : Int), -1, 0)) (by show testsTo l c.h (2 + 1) = _; rw [testsTo_succ, T3 (by assumption) (by assumption) (dup2_0 (by assumption))]) rfl rfl rfl _ _ h) (.keep (fun _ _ h => box_congr (fun i hi => by match i, hi with | 0, _ => rfl | 1, _ => exact congrArg (Value.int .i64) (key_else (h := c.h) (f := 2) (i := 0) (by decide)).symm | 2, _ => exact congrArg (Value.int .i64) (key_else (h := c.h) (f := 2) (i := 1) (by decide)).symm | 3, _ => exact (by first | exact congrArg (Value.int .i64) (key_set (h := c.h) (f := 2) (by assumption)).symm | exact congrArg (Value.int .i64) ((show keyTo c.h 2 2 = 0 by simp [keyTo]).trans (key_not (h := c.h) (f := 2) (by assumption)).symm)) | 4, _ => rfl | 5, _ => rfl) _ _ h) (.keep (fun _ _ h => h) (.keep (fun _ _ h => h) (.nil)))))))
                            )
                      · skip
                        first | have s0 : sameF c.h 0 2 = false := (same_cs c.h 0 2).symm.trans h_64 | have s1 : sameF c.h 1 2 = false := (same_cs c.h 1 2).symm.trans h_64
                        first
                          | (exfalso; omega)
                          | (
                            refine c_cond_f rfl ?_
                            refine c_skip ?_
                            refine e_norm_block ?_
                            refine e_next ?_
                            refine c_region ?_
                            refine r_val .none rfl (p_move rfl) ?_
                            refine r_val .none rfl (p_add rfl rfl (by omega)) ?_
                            refine r_val .none rfl (p_assign rfl) ?_
                            refine r_nil ?_
                            refine e_again ?_
                            refine l_round (n := 1) ?_
                            refine c_seq ?_
                            refine c_seq ?_
                            refine c_region ?_
                            refine r_val .none rfl (p_move rfl) ?_
                            refine r_val .none rfl (p_move rfl) ?_
                            refine r_val .none rfl (p_lt rfl rfl) ?_
                            refine r_say (d := 88) (v := Value.bool true) rfl ?_
                            refine r_nil ?_
                            refine e_next ?_
                            refine c_cond_t rfl ?_
                            refine c_skip ?_
                            refine e_next ?_
                            refine c_seq ?_
                            refine c_block ?_
                            refine c_seq ?_
                            refine c_region_q mixed (by kernel_rfl) ?_
                            refine q_val .none rfl (p_move rfl) ?_
                            refine q_val .none rfl (p_field Try.underlying44 rfl sz42 rfl) ?_
                            refine q_val .none rfl (p_iaddr (k := 1) Try.underlying42 sz41 rfl rfl (by first | exact of_decide_eq_true rfl | omega)) ?_
                            refine q_val .none rfl (p_lda (k := 4) Try.underlying41 rfl sz41 rfl rfl (by first | exact of_decide_eq_true rfl | omega) (rfl : _ = Value.agg #[_, _])) ?_
                            refine q_val .none rfl (p_move rfl) ?_
                            refine q_val .none rfl (p_field Try.underlying44 rfl sz42 rfl) ?_
                            refine q_val .none rfl (p_iaddr (k := 2) Try.underlying42 sz41 rfl rfl (by first | exact of_decide_eq_true rfl | omega)) ?_
                            refine q_val .none rfl (p_lda (k := 4) Try.underlying41 rfl sz41 rfl rfl (by first | exact of_decide_eq_true rfl | omega) (rfl : _ = Value.agg #[_, _])) ?_
                            refine q_val .none rfl (p_eqa rfl rfl (eq_flat Try.underlying41 rfl lf41 ef41 eg41 (.cons (.int Try.underlying3) (.cons (.int Try.underlying3) (.nil))) (.cons (.int Try.underlying3) (.cons (.int Try.underlying3) (.nil))))) ?_
                            refine q_nil ?_
                            refine e_next ?_
                            refine c_split (d := 99) rfl (fun h_67 => ?_) (fun h_67 => ?_)
                            · skip
                              first | have s0 : sameF c.h 0 2 = true := (same_cs c.h 0 2).symm.trans h_67 | have s1 : sameF c.h 1 2 = true := (same_cs c.h 1 2).symm.trans h_67
                              first
                                | (exfalso; omega)
                                | (
                                  refine c_cond_t rfl ?_
                                  refine c_seq ?_
                                  refine c_region ?_
                                  refine r_val .none rfl (p_field Try.underlying70 rfl sz68 rfl) ?_
                                  refine r_val .none rfl (p_ld (k := 2) Try.underlying68 rfl rfl rfl (by first | exact of_decide_eq_true rfl | omega) rfl) ?_
                                  refine r_val .none rfl (p_move rfl) ?_
                                  refine r_val .none rfl (p_move rfl) ?_
                                  refine r_val .none rfl (p_build (vs := [(0, Value.int _ _), (1, Value.int _ _), (2, Value.int _ _)]) rfl (bl96_0i1_1i1_2i1 _ _ _)) ?_
                                  refine r_bslice (vs := [(0, Value.agg #[_, _, _])]) (c := #[_, _, _]) .none rfl Try.underlying68 el96 rfl rfl rfl (bs96_10a3 _ _ _) (IsRow.lit _) (fun b_14 => ?_)
                                  refine r_append (k := 2) (k2 := 0) .none rfl Try.underlying68 el96 rfl (by decide) rfl rfl rfl rfl rfl (one_lit rfl rfl) (by have q0 := testsTo_len l c.h 0; have q1 := testsTo_len l c.h 1; have q2 := testsTo_len l c.h 2; simp only [maxLen]; omega) (by have q0 := testsTo_len l c.h 0; have q1 := testsTo_len l c.h 1; have q2 := testsTo_len l c.h 2; omega) (fun v_68 => ?_)
                                  refine r_row1 (k := 2) rfl (fun o_69 => ?_)
                                  refine r_val .none rfl (p_field Try.underlying70 rfl sz68 rfl) ?_
                                  refine r_st (k := 3) .none sz68 rfl rfl o_69 rfl (by first | exact of_decide_eq_true rfl | omega) ?_
                                  refine r_nil ?_
                                  refine e_next ?_
                                  refine c_exit ?_
                                  refine e_exit_past rfl ?_
                                  refine e_exit_then ?_
                                  refine e_exit_then ?_
                                  refine e_exit_block ?_
                                  refine e_norm_block ?_
                                  refine e_next ?_
                                  refine c_region ?_
                                  refine r_val .none rfl (p_move rfl) ?_
                                  refine r_val .none rfl (p_add rfl rfl (by omega)) ?_
                                  refine r_val .none rfl (p_assign rfl) ?_
                                  refine r_nil ?_
                                  refine e_round ((3, _)) ⟨Nat.le_of_ble_eq_true rfl, Nat.le_of_ble_eq_true rfl⟩ rfl ⟨rfl, rfl, rfl, rfl, rfl, trivial⟩ (.drop (.drop (.keep (fun _ _ h => rowA_snoc (x := (((2 : Nat) : Int), -1, 1)) (by show testsTo l c.h (2 + 1) = _; rw [testsTo_succ, T3 (by assumption) (by assumption) (dup2_1 (by assumption) (by assumption))]) rfl rfl rfl _ _ h) (.keep (fun _ _ h => box_congr (fun i hi => by match i, hi with | 0, _ => rfl | 1, _ => exact congrArg (Value.int .i64) (key_else (h := c.h) (f := 2) (i := 0) (by decide)).symm | 2, _ => exact congrArg (Value.int .i64) (key_else (h := c.h) (f := 2) (i := 1) (by decide)).symm | 3, _ => exact (by first | exact congrArg (Value.int .i64) (key_set (h := c.h) (f := 2) (by assumption)).symm | exact congrArg (Value.int .i64) ((show keyTo c.h 2 2 = 0 by simp [keyTo]).trans (key_not (h := c.h) (f := 2) (by assumption)).symm)) | 4, _ => rfl | 5, _ => rfl) _ _ h) (.keep (fun _ _ h => h) (.keep (fun _ _ h => h) (.nil)))))))
                                  )
                            · skip
                              first | have s0 : sameF c.h 0 2 = false := (same_cs c.h 0 2).symm.trans h_67 | have s1 : sameF c.h 1 2 = false := (same_cs c.h 1 2).symm.trans h_67
                              first
                                | (exfalso; omega)
                                | (
                                  refine c_cond_f rfl ?_
                                  refine c_skip ?_
                                  refine e_norm_block ?_
                                  refine e_next ?_
                                  refine c_region ?_
                                  refine r_val .none rfl (p_move rfl) ?_
                                  refine r_val .none rfl (p_add rfl rfl (by omega)) ?_
                                  refine r_val .none rfl (p_assign rfl) ?_
                                  refine r_nil ?_
                                  refine e_again ?_
                                  refine l_round (n := 0) ?_
                                  refine c_seq ?_
                                  refine c_seq ?_
                                  refine c_region ?_
                                  refine r_val .none rfl (p_move rfl) ?_
                                  refine r_val .none rfl (p_move rfl) ?_
                                  refine r_val .none rfl (p_lt rfl rfl) ?_
                                  refine r_say (d := 88) (v := Value.bool false) rfl ?_
                                  refine r_nil ?_
                                  refine e_next ?_
                                  refine c_cond_f rfl ?_
                                  refine c_exit ?_
                                  refine e_exit_then ?_
                                  refine e_exit_then ?_
                                  refine e_exit_block ?_
                                  refine e_norm_block ?_
                                  refine e_next ?_
                                  refine c_region ?_
                                  refine r_val .none rfl (p_move rfl) ?_
                                  refine r_val .none rfl (p_add rfl rfl (by omega)) ?_
                                  refine r_val .none rfl (p_assign rfl) ?_
                                  refine r_nil ?_
                                  refine e_round ((3, _)) ⟨Nat.le_of_ble_eq_true rfl, Nat.le_of_ble_eq_true rfl⟩ rfl ⟨rfl, rfl, rfl, rfl, rfl, trivial⟩ (.drop (.keep (fun _ _ h => rowA_same (by show testsTo l c.h (2 + 1) = _; rw [testsTo_succ, (by first | exact T1 (by assumption) | exact T4 (by assumption) (by assumption) (dup2_no (by assumption) (by assumption)) : testF l c.h 2 = []), List.append_nil]) _ _ h) (.keep (fun _ _ h => box_congr (fun i hi => by match i, hi with | 0, _ => rfl | 1, _ => exact congrArg (Value.int .i64) (key_else (h := c.h) (f := 2) (i := 0) (by decide)).symm | 2, _ => exact congrArg (Value.int .i64) (key_else (h := c.h) (f := 2) (i := 1) (by decide)).symm | 3, _ => exact (by first | exact congrArg (Value.int .i64) (key_set (h := c.h) (f := 2) (by assumption)).symm | exact congrArg (Value.int .i64) ((show keyTo c.h 2 2 = 0 by simp [keyTo]).trans (key_not (h := c.h) (f := 2) (by assumption)).symm)) | 4, _ => rfl | 5, _ => rfl) _ _ h) (.keep (fun _ _ h => h) (.keep (fun _ _ h => h) (.nil))))))
                                  )
                            )
                      )
                )
        · skip
          refine c_seq ?_
          refine c_seq ?_
          refine c_region ?_
          refine r_val .none rfl (p_move rfl) ?_
          refine r_val .none rfl (p_lt rfl rfl) ?_
          refine r_say (d := 47) (v := Value.bool false) rfl ?_
          refine r_nil ?_
          refine e_next ?_
          refine c_cond_f rfl ?_
          refine c_exit ?_
          refine e_exit_then ?_
          refine e_exit_then ?_
          refine e_exit_block ?_
          refine e_next ?_
          refine c_seq ?_
          refine c_region ?_
          refine r_val .none rfl (p_ldw (k := 1) Try.underlying70 rfl sz70 rfl rfl (rfl : _ = Value.agg #[_, _, _, _, _, _])) ?_
          refine r_stw (k := 2) .none sz70 rfl rfl (IsRow.lit _) (one_lit rfl (all_cons rfl (all_cons rfl (all_cons rfl (all_cons rfl (all_cons ov (all_cons rfl rfl))))))) rfl ?_
          refine r_nil ?_
          refine e_next ?_
          refine c_ret ?_
          refine e_freeze (k := 0) rfl (fun G_70 hn_71 hs_72 => ?_)
          replace hrc := hrc.mono hn_71.le
          replace hp := fun p hm0 => (hp p hm0).mono hn_71.le
          replace hr := hr.mono hn_71.le
          replace hpc := fun p hm0 => (hpc p hm0).mono hn_71.le
          replace hs2 := hs2.mono hn_71.le
          refine e_ret1 Try.results34 (.cell (k := 1) rfl Try.underlying70 rfl sz70 rfl (rfl : _ = Value.agg #[_, _, _, _, _, _]) .nil) (fun w hm => ⟨_, hn_71, hm.has, ?_, hm.since⟩)
          rw [stepOf_other (by omega)]
          exact ⟨_, _, rfl, SlL.of t0 (fun _ => rfl) rfl hs_72, Ss.nil⟩
        )
theorem c_of_n : ∀ n, OfIs n
  | 0 => fun c sv va l G w hz hch hs hs2 hG => absurd hz (by have := size_subs c; omega)
  | n + 1 => fun c sv va l G w hz hch hs hs2 hG => c_of_s n (c_of_n n) c sv va l hz hch hs hs2 w hG
theorem c_of (c : CT) (sv va : Value) (l : List CT) {G : Ghost} (hch : l.length + size c ≤ 1000) (hs : Rs G sv c.subs) (hs2 : Rs G va l) (w : World) (hG : Has G w) : Calls Try.prog 34 #[va, Value.agg #[Value.int .i64 c.h.k, Value.int .i64 (vi c.h.v0), Value.int .i64 c.h.n0, Value.int .i64 (vi c.h.v1), Value.int .i64 c.h.n1, Value.int .i64 (vi c.h.v2), Value.int .i64 c.h.n2, sv]] w (Ret fun r w' => ∃ G', GNew w nX G G' ∧ Has G' w' ∧ (∃ tv uv, r = Value.agg #[Value.int .i64 (stepOf l c).h.k, Value.int .i64 (stepOf l c).h.k0, Value.int .i64 (stepOf l c).h.k1, Value.int .i64 (stepOf l c).h.k2, tv, uv] ∧ SlL G' tv 3 tC t0 (stepOf l c).h.ts ∧ Ss G' uv (stepOf l c).subs) ∧ Since nX w w') := c_of_n _ c sv va l G w (Nat.le_refl _) hch hs hs2 hG
end Go.Proofs.Ytoflaphnlfggkaa

/- Walks: what Go functions of this chapter come to, each as a function on plain data; no condition but those that each theorem names. Printed by a program of this work (gen.py). -/
namespace Go.Proofs.Ytoflaphnlfggkaa
open Go.Gx Go.Gx.T3 Go.Gx.T4 Go.Gx.T3 Go.Gx.T8 Go.Gx.T4 Go.Gx.T3
theorem sz62 : SzIs Try.prog 62 1 := by
  unfold SzIs
  kernel_rfl
theorem sz64 : SzIs Try.prog 64 6 := by
  unfold SzIs
  kernel_rfl
theorem sz96 : SzIs Try.prog 96 3 := by
  unfold SzIs
  kernel_rfl
theorem zr64 : ZeroIs Try.prog 64 (Value.agg #[Value.int .i64 0, Value.int .i64 0, Value.int .i64 0, Value.int .i64 0, Value.slice none 0 0, Value.slice none 0 0]) := by
  unfold ZeroIs
  kernel_rfl
theorem zr96 : ZeroIs Try.prog 96 (Value.agg #[Value.int .i64 0, Value.int .i64 0, Value.int .i64 0]) := by
  unfold ZeroIs
  kernel_rfl
theorem cl27 : Callable Try.prog 27 := callable Try.func27 (by kernel_rfl) rfl
theorem bl64_0i1_1a3_3s3 (x0 : Int) (x1 : Value) (x2 : Value) (x3 : Value) (x4 : Option Addr) (x5 : Nat) (x6 : Nat) : Program.built Try.prog 64 [(0, Value.int .i64 x0), (1, Value.agg #[x1, x2, x3]), (3, Value.slice x4 x5 x6)] = some #[Value.int .i64 x0, x1, x2, x3, Value.slice none 0 0, Value.slice x4 x5 x6] := by
  kernel_rfl
theorem bl92_0i1_1i1_2i1 (x0 : Int) (x1 : Int) (x2 : Int) : Program.built Try.prog 92 [(0, Value.int .i64 x0), (1, Value.int .i64 x1), (2, Value.int .i64 x2)] = some #[Value.int .i64 x0, Value.int .i64 x1, Value.int .i64 x2] := by
  kernel_rfl
theorem bs64_10a6 (a0 a1 a2 a3 a4 a5 : Value) : Instr.fill (fun i => some (i * 6, 6)) ((Array.range (1 * 6)).map ((Value.agg #[Value.int .i64 0, Value.int .i64 0, Value.int .i64 0, Value.int .i64 0, Value.slice none 0 0, Value.slice none 0 0]).cells[· % (Value.agg #[Value.int .i64 0, Value.int .i64 0, Value.int .i64 0, Value.int .i64 0, Value.slice none 0 0, Value.slice none 0 0]).cells.size]!)) [(0, Value.agg #[a0, a1, a2, a3, a4, a5])] = some #[a0, a1, a2, a3, a4, a5] := by
  kernel_rfl
theorem bs92_10a3 (a0 a1 a2 : Value) : Instr.fill (fun i => some (i * 3, 3)) ((Array.range (1 * 3)).map ((Value.agg #[Value.int .i64 0, Value.int .i64 0, Value.int .i64 0]).cells[· % (Value.agg #[Value.int .i64 0, Value.int .i64 0, Value.int .i64 0]).cells.size]!)) [(0, Value.agg #[a0, a1, a2])] = some #[a0, a1, a2] := by
  kernel_rfl
theorem el64 : ElemIs Try.prog 64 6 80 (Value.agg #[Value.int .i64 0, Value.int .i64 0, Value.int .i64 0, Value.int .i64 0, Value.slice none 0 0, Value.slice none 0 0]) := by
  unfold ElemIs
  kernel_rfl
theorem el92 : ElemIs Try.prog 92 3 24 (Value.agg #[Value.int .i64 0, Value.int .i64 0, Value.int .i64 0]) := by
  unfold ElemIs
  kernel_rfl
def StepsIs (n : Nat) : Prop := ∀ (v : Value) (l : List ST) (G : Ghost) (w : World), SizeOf.sizeOf l ≤ n → sszL l ≤ 5000 → Ss G v l → Has G w → Calls Try.prog 27 #[v] w (Ret fun r w' => ∃ G', GNew w nX G G' ∧ Has G' w' ∧ Ss G' r l ∧ Since nX w w')
theorem c_compile (v : Value) (l : List CT) {G : Ghost} (hsz : sizeL l ≤ 1000) (hs : Rs G v l) (w : World) (hG : Has G w) :
    Calls Try.prog 25 #[v] w (Ret fun r w' => ∃ G', GNew w nX G G' ∧ Has G' w' ∧ Ss G' r (stepsOf [] l) ∧ Since nX w w') := by
  refine enter (args := [_]) (X := nX) (G := G) (l := [(0, v)]) Try.func25 rfl Try.ntmps25 hG ⟨rfl, trivial⟩ (Nat.le_of_ble_eq_true rfl) ?_
  obtain ⟨rs, hr, hp, rfl⟩ := hs.inv
  have hbd := hr.bound
  have hll := sizeL_len (rs.map Prod.fst)
  rw [List.length_map] at hll
  refine c_seq ?_
  refine c_region ?_
  refine r_val .none rfl (p_assign rfl) ?_
  refine r_nil ?_
  refine e_next ?_
  refine c_seq ?_
  refine c_region ?_
  refine r_val .none rfl (p_assign rfl) ?_
  refine r_nil ?_
  refine e_next ?_
  refine c_seq ?_
  refine c_seq ?_
  refine c_region ?_
  refine r_val .none rfl (p_move rfl) ?_
  refine r_val .none rfl (p_leng Try.underlying29 rfl hr) ?_
  have bd_1 := (hr).bound
  refine r_val .none rfl (p_move rfl) ?_
  refine r_nil ?_
  refine e_next ?_
  refine c_block ?_
  refine c_nilrow 70 6 ?_
  refine c_name (d := 0) rfl (fun u_2 hu_2 => ?_)
  refine c_name (d := 2) rfl (fun u_3 hu_3 => ?_)
  refine c_name (d := 6) rfl (fun u_4 hu_4 => ?_)
  refine c_name (d := 7) rfl (fun u_5 hu_5 => ?_)
  refine c_loop (σ := Nat × Value × List SVal × Ghost) (fun s => [(8, Value.int .i64 (s.1 : Nat)), (3, s.2.1), (0, u_2), (2, u_3), (6, u_4), (7, u_5)]) (fun s => [rowA (s.2.1) 70 6 (s.2.2.1).length ((s.2.2.1).flatMap sC)]) (fun s => s.2.2.2) (fun s => s.1 ≤ rs.length ∧ s.2.2.1.map Prod.fst = stepsOf [] ((rs.map Prod.fst).take s.1) ∧ (∀ p ∈ s.2.2.1, SlL s.2.2.2 p.2.1 3 tC t0 p.1.h.ts) ∧ (∀ p ∈ s.2.2.1, Ss s.2.2.2 p.2.2 p.1.subs) ∧ GNew w nX G s.2.2.2) (fun s => rs.length - s.1) ((0, _, [], _)) ⟨Nat.zero_le _, rfl, by simp, by simp, GNew.refl _ _ _⟩ rfl ⟨rfl, rfl, rfl, rfl, rfl, rfl, trivial⟩ (.keep (fun _ _ h => rowA_nil rfl _ _ h) (.nil)) (fun s hphi => ?_)
  subst hu_2
  subst hu_3
  subst hu_4
  subst hu_5
  obtain ⟨k, v, qs, H⟩ := s
  obtain ⟨hk, hq, hqt, hqs, hgn⟩ := hphi
  dsimp only at hk hq hqt hqs hgn ⊢
  have hql : qs.length ≤ k := (by have := congrArg List.length hq; rw [stepsOf_len] at this; simp at this; omega)
  replace hr := hr.mono hgn.le
  replace hp := fun p hm0 => (hp p hm0).mono hgn.le
  refine c_seq ?_
  refine c_region ?_
  refine r_val .none rfl (p_lt rfl rfl) ?_
  refine r_nil ?_
  refine e_next ?_
  refine c_seq ?_
  refine c_splitd (d := 9) rfl (fun h_6 => ?_) (fun h_6 => ?_)
  · skip
    first
      | (exfalso; omega)
      | (
        refine c_cond_t rfl ?_
        refine c_skip ?_
        refine e_next ?_
        refine c_seq ?_
        refine c_block ?_
        refine c_seq ?_
        refine c_region ?_
        refine r_val .none rfl (p_move rfl) ?_
        refine r_iaddr_g .none rfl Try.underlying29 sz44 rfl hr rfl (by first | exact of_decide_eq_true rfl | omega) (fun p_8 o_9 R_7 => ?_)
        have hc_10 := hp _ (getD_mem (i := k) (d := d0) (by omega))
        have hz6 : ((rs.map Prod.fst).take k).length + size (rs.getD k d0).1 ≤ 1000 := by have h1 := sizeL_take (rs := rs) (k := k) (by omega); have h2 := sizeL_take_le (rs.map Prod.fst) (k + 1); have h3 := sizeL_len ((rs.map Prod.fst).take k); omega
        refine r_val .none rfl (p_ldga0 Try.underlying44 rfl sz44 rfl R_7 (by first | exact of_decide_eq_true rfl | omega) (rfl : _ = Value.agg #[_, _, _, _, _, _, _, _])) ?_
        refine r_alloc .none rfl zr44 (IsRow.lit _) (fun b_1 => ?_)
        refine r_val .none rfl (p_assign rfl) ?_
        refine r_stw (k := 0) .none sz44 rfl rfl (IsRow.lit _) (one_lit rfl (all_cons rfl (all_cons rfl (all_cons rfl (all_cons rfl (all_cons rfl (all_cons rfl (all_cons rfl (all_cons (hc_10).one rfl))))))))) rfl ?_
        refine r_nil ?_
        refine e_next ?_
        refine c_region_d (fun _ => false) _ mixed (.keep (fun _ _ h => h) (.drop (.nil))) ?_
        refine d_val1 0 rfl rfl (by kernel_rfl) (fun _ _ => rfl) .none rfl (p_move rfl) ?_
        refine d_val1 1 rfl rfl (by kernel_rfl) (fun _ _ => rfl) .none rfl (p_move rfl) ?_
        refine d_val1 2 rfl rfl (by kernel_rfl) (fun _ _ => rfl) .none rfl (p_move rfl) ?_
        refine d_slice0 3 k rfl rfl (by kernel_rfl) (fun _ _ => rfl) .none rfl Try.underlying29 sz44 rfl hr rfl (by first | exact of_decide_eq_true rfl | omega) (fun v_11 hs_12 => ?_)
        have hT_14 := Tr.take2 (by omega) hs_12 hp
        refine d_val1 4 rfl rfl (by kernel_rfl) (fun _ _ => rfl) .none rfl (p_ldw (k := 0) Try.underlying44 rfl sz44 rfl rfl (rfl : _ = Value.agg #[_, _, _, _, _, _, _, _])) ?_
        refine d_eff 5 rfl (by kernel_rfl) (fun K_15 hKK_15 hcK_15 => ?_)
        refine r_callm (vs := [_, _]) .none rfl cl34 rfl (fun w hw => c_of (rs.getD k d0).1 _ _ _ hz6 hc_10 hT_14 w hw) (fun G_16 v_19 hn_17 hr_18 => ?_)
        replace hr := hr.mono hn_17.le
        replace hp := fun p hm0 => (hp p hm0).mono hn_17.le
        replace hqt := fun p hm0 => (hqt p hm0).mono hn_17.le
        replace hqs := fun p hm0 => (hqs p hm0).mono hn_17.le
        replace R_7 := R_7.mono hn_17.le
        replace hc_10 := hc_10.mono hn_17.le
        replace hs_12 := hs_12.mono hn_17.le
        replace hT_14 := hT_14.mono hn_17.le
        obtain ⟨u_20a, u_20b, rfl, u_20s, u_20t⟩ := hr_18
        refine r_nil (e_d (i := 5) (brk := (fun _ => false)) (ph' := true) hKK_15 hcK_15 rfl (fun _ => hn_17.le) (fun _ => .keep (fun _ _ h => h) (.drop (.nil))) ?_)
        clear hKK_15 hcK_15 K_15
        refine d_eff 6 rfl (by kernel_rfl) (fun K_21 hKK_21 hcK_21 => ?_)
        refine r_bslice (vs := [(0, Value.agg #[_, _, _, _, _, _])]) (c := #[_, _, _, _, _, _]) .none rfl Try.underlying48 el70 rfl rfl rfl (bs70_10a6 _ _ _ _ _ _) (IsRow.lit _) (fun b_2 => ?_)
        refine r_nil (e_d (i := 6) (brk := (fun _ => false)) (ph' := true) hKK_21 hcK_21 rfl (fun _ => hn_17.le) (fun _ => .drop (.keep (fun _ _ h => h) (.drop (.nil)))) ?_)
        clear hKK_21 hcK_21 K_21
        refine d_eff 7 rfl (by kernel_rfl) (fun K_22 hKK_22 hcK_22 => ?_)
        refine r_append (k := 2) (k2 := 0) .none rfl Try.underlying48 el70 rfl (by decide) rfl rfl rfl rfl rfl (one_lit rfl (all_cons rfl (all_cons rfl (all_cons rfl (all_cons rfl (all_cons (u_20s).one (all_cons (u_20t).one rfl))))))) (by simp only [maxLen]; omega) (by omega) (fun v_23 => ?_)
        refine r_row1 (k := 2) rfl (fun o_24 => ?_)
        refine r_nil (e_d (i := 7) (brk := (fun _ => false)) (ph' := true) hKK_22 hcK_22 rfl (fun _ => hn_17.le) (fun _ => .drop (.keep (fun _ _ h => h) (.drop (.nil)))) ?_)
        clear hKK_22 hcK_22 K_22
        refine d_val1 8 rfl rfl (by kernel_rfl) (fun _ _ => rfl) .none rfl (p_assign rfl) ?_
        refine d_nil (by kernel_rfl) ?_
        refine e_norm_block ?_
        refine e_next ?_
        refine c_region ?_
        refine r_val .none rfl (p_add rfl rfl (by omega)) ?_
        refine r_val .none rfl (p_move rfl) ?_
        refine r_nil ?_
        refine e_round ((k + 1, _, qs ++ [(stepOf ((rs.map Prod.fst).take k) (rs.getD k d0).1, u_20a, u_20b)], _)) ⟨⟨by dsimp only; omega, by rw [stepsOf_take (by omega), List.map_append, hq, List.nil_append]; rfl, (fun p hp' => by rcases List.mem_append.1 hp' with h | h; exact hqt p h; rw [List.mem_singleton.1 h]; exact u_20s), (fun p hp' => by rcases List.mem_append.1 hp' with h | h; exact hqs p h; rw [List.mem_singleton.1 h]; exact u_20t), (hgn.trans hn_17)⟩, by dsimp only; omega⟩ rfl ⟨rfl, rfl, rfl, rfl, rfl, rfl, trivial⟩ (.drop (.drop (.keep (fun _ _ h => rowA_snoc (l := qs) (x := (stepOf ((rs.map Prod.fst).take k) (rs.getD k d0).1, u_20a, u_20b)) rfl rfl rfl rfl _ _ h) (.nil))))
        )
  · skip
    first
      | (exfalso; omega)
      | (
        refine c_cond_f rfl ?_
        refine c_exit ?_
        refine e_exit_then ?_
        refine e_exit_then ?_
        refine e_exit_block ?_
        refine e_next ?_
        refine c_seq ?_
        refine c_region ?_
        refine r_val .none rfl (p_move rfl) ?_
        refine r_val .none rfl (p_assign rfl) ?_
        refine r_nil ?_
        refine e_next ?_
        refine c_ret ?_
        refine e_freeze (k := 0) rfl (fun G_25 hn_26 hs_27 => ?_)
        replace hr := hr.mono hn_26.le
        replace hp := fun p hm0 => (hp p hm0).mono hn_26.le
        replace hqt := fun p hm0 => (hqt p hm0).mono hn_26.le
        replace hqs := fun p hm0 => (hqs p hm0).mono hn_26.le
        refine e_ret1 Try.results25 (.tmp rfl .nil) (fun w hm => ⟨_, (hgn.trans hn_26), hm.has, ?_, hm.since⟩)
        rw [show stepsOf [] (rs.map Prod.fst) = qs.map Prod.fst by rw [hq, List.take_of_length_le (by simp; omega)]]
        exact Ss.mk qs (SlL.of s0 (fun _ => rfl) rfl hs_27) hqt hqs
        )
theorem c_steps_s (n : Nat) (ih : StepsIs n) (v : Value) (l : List ST) {G : Ghost} (hz : SizeOf.sizeOf l ≤ n + 1) (hsz : sszL l ≤ 5000) (hs : Ss G v l) (w : World) (hG : Has G w) :
    Calls Try.prog 27 #[v] w (Ret fun r w' => ∃ G', GNew w nX G G' ∧ Has G' w' ∧ Ss G' r l ∧ Since nX w w') := by
  refine enter (args := [_]) (X := nX) (G := G) (l := [(0, v)]) Try.func27 rfl Try.ntmps27 hG ⟨rfl, trivial⟩ (Nat.le_of_ble_eq_true rfl) ?_
  obtain ⟨rs, hr, hrt, hp, hl⟩ := hs.inv
  have hbd := hr.bound
  have hll := sszL_len l
  have hlr : l.length = rs.length := by rw [hl]; simp
  refine c_seq ?_
  refine c_region ?_
  refine r_val .none rfl (p_assign rfl) ?_
  refine r_nil ?_
  refine e_next ?_
  refine c_seq ?_
  refine c_region ?_
  refine r_val .none rfl (p_assign rfl) ?_
  refine r_nil ?_
  refine e_next ?_
  refine c_seq ?_
  refine c_seq ?_
  refine c_region ?_
  refine r_val .none rfl (p_move rfl) ?_
  refine r_val .none rfl (p_leng Try.underlying48 rfl hr) ?_
  have bd_1 := (hr).bound
  refine r_val .none rfl (p_move rfl) ?_
  refine r_nil ?_
  refine e_next ?_
  refine c_block ?_
  refine c_nilrow 64 6 ?_
  refine c_name (d := 2) rfl (fun u_2 hu_2 => ?_)
  refine c_name (d := 9) rfl (fun u_3 hu_3 => ?_)
  refine c_name (d := 10) rfl (fun u_4 hu_4 => ?_)
  refine c_loop (σ := Nat × Value × List SVal × Ghost) (fun s => [(11, Value.int .i64 (s.1 : Nat)), (3, s.2.1), (2, u_2), (9, u_3), (10, u_4)]) (fun s => [rowA (s.2.1) 64 6 (s.2.2.1).length ((s.2.2.1).flatMap sC)]) (fun s => s.2.2.2) (fun s => s.1 ≤ rs.length ∧ s.2.2.1.map Prod.fst = (rs.map Prod.fst).take s.1 ∧ (∀ p ∈ s.2.2.1, SlL s.2.2.2 p.2.1 3 tC t0 p.1.h.ts) ∧ (∀ p ∈ s.2.2.1, Ss s.2.2.2 p.2.2 p.1.subs) ∧ GNew w nX G s.2.2.2) (fun s => rs.length - s.1) ((0, _, [], _)) ⟨Nat.zero_le _, rfl, by simp, by simp, GNew.refl _ _ _⟩ rfl ⟨rfl, rfl, rfl, rfl, rfl, trivial⟩ (.keep (fun _ _ h => rowA_nil rfl _ _ h) (.nil)) (fun s hphi => ?_)
  subst hu_2
  subst hu_3
  subst hu_4
  obtain ⟨k, v, qs, H⟩ := s
  obtain ⟨hk, hq, hqt, hqs, hgn⟩ := hphi
  dsimp only at hk hq hqt hqs hgn ⊢
  have hql : qs.length ≤ k := (by have := congrArg List.length hq; simp at this; omega)
  replace hr := hr.mono hgn.le
  replace hrt := fun p hm0 => (hrt p hm0).mono hgn.le
  replace hp := fun p hm0 => (hp p hm0).mono hgn.le
  refine c_seq ?_
  refine c_region ?_
  refine r_val .none rfl (p_lt rfl rfl) ?_
  refine r_nil ?_
  refine e_next ?_
  refine c_seq ?_
  refine c_splitd (d := 12) rfl (fun h_5 => ?_) (fun h_5 => ?_)
  · skip
    first
      | (exfalso; omega)
      | (
        refine c_cond_t rfl ?_
        refine c_skip ?_
        refine e_next ?_
        refine c_seq ?_
        refine c_block ?_
        refine c_seq ?_
        refine c_region ?_
        refine r_iaddr_g .none rfl Try.underlying48 sz70 rfl hr rfl (by first | exact of_decide_eq_true rfl | omega) (fun p_7 o_8 R_6 => ?_)
        have ht_9 := hrt _ (getD_mem (i := k) (d := s0) (by omega))
        have hc_10 := hp _ (getD_mem (i := k) (d := s0) (by omega))
        have hz7 := Nat.le_trans (sszL_mem (by rw [hl]; exact sv_mem (k := k) (by omega))) hsz
        rw [ssz_eq] at hz7
        refine r_val .none rfl (p_ldga0 Try.underlying70 rfl sz70 rfl R_6 (by first | exact of_decide_eq_true rfl | omega) (rfl : _ = Value.agg #[_, _, _, _, _, _])) ?_
        refine r_alloc .none rfl zr70 (IsRow.lit _) (fun b_1 => ?_)
        refine r_stw (k := 0) .none sz70 rfl rfl (IsRow.lit _) (one_lit rfl (all_cons rfl (all_cons rfl (all_cons rfl (all_cons rfl (all_cons (ht_9).one (all_cons (hc_10).one rfl))))))) rfl ?_
        refine r_nil ?_
        refine e_next ?_
        refine c_seq ?_
        refine c_region_d (fun _ => false) _ mixed (.keep (fun _ _ h => h) (.keep (fun _ _ h => h) (.nil))) ?_
        refine d_val1 0 rfl rfl (by kernel_rfl) (fun _ _ => rfl) .none rfl (p_field Try.underlying70 rfl sz3 rfl) ?_
        refine d_val1 1 rfl rfl (by kernel_rfl) (fun _ _ => rfl) .none rfl (p_ld (k := 0) Try.underlying3 rfl rfl rfl (by first | exact of_decide_eq_true rfl | omega) (rfl : _ = Value.int _ _)) ?_
        refine d_val1 2 rfl rfl (by kernel_rfl) (fun _ _ => rfl) .none rfl (p_field Try.underlying70 rfl sz60 rfl) ?_
        refine d_val1 3 rfl rfl (by kernel_rfl) (fun _ _ => rfl) .none rfl (p_lda (k := 0) Try.underlying60 rfl sz60 rfl rfl (by first | exact of_decide_eq_true rfl | omega) (rfl : _ = Value.agg #[_, _, _])) ?_
        refine d_val1 4 rfl rfl (by kernel_rfl) (fun _ _ => rfl) .none rfl (p_field Try.underlying70 rfl sz48 rfl) ?_
        refine d_val1 5 rfl rfl (by kernel_rfl) (fun _ _ => rfl) .none rfl (p_ld (k := 0) Try.underlying48 rfl rfl rfl (by first | exact of_decide_eq_true rfl | omega) rfl) ?_
        refine d_eff2 6 8 rfl rfl (by kernel_rfl) (fun K_11 hKK_11 hcK_11 => ?_) (fun K_11 hKK_11 hcK_11 => ?_)
        · skip
          refine r_callm (vs := [_]) .none rfl cl27 rfl (fun w hw => ih _ _ _ w (sv_at hl (by omega) hz) (by omega) hc_10 hw) (fun G_12 v_15 hn_13 hr_14 => ?_)
          replace hr := hr.mono hn_13.le
          replace hrt := fun p hm0 => (hrt p hm0).mono hn_13.le
          replace hp := fun p hm0 => (hp p hm0).mono hn_13.le
          replace hqt := fun p hm0 => (hqt p hm0).mono hn_13.le
          replace hqs := fun p hm0 => (hqs p hm0).mono hn_13.le
          replace R_6 := R_6.mono hn_13.le
          replace ht_9 := ht_9.mono hn_13.le
          replace hc_10 := hc_10.mono hn_13.le
          have u_16 := hr_14
          refine r_nil (e_d (i := 6) (brk := (fun _ => false)) (ph' := true) hKK_11 hcK_11 rfl (fun _ => hn_13.le) (fun _ => .keep (fun _ _ h => h) (.keep (fun _ _ h => h) (.nil))) ?_)
          clear hKK_11 hcK_11 K_11
          obtain ⟨a_17, c_18, rfl⟩ := Ss.len u_16
          refine d_val1 7 rfl rfl (by kernel_rfl) (fun _ _ => rfl) .none rfl (p_build (vs := [(0, Value.int _ _), (1, Value.agg #[_, _, _]), (3, Value.slice _ _ _)]) rfl (bl64_0i1_1a3_3s3 _ _ _ _ _ _ _)) ?_
          refine d_eff 8 rfl (by kernel_rfl) (fun K_19 hKK_19 hcK_19 => ?_)
          refine r_alloc .none rfl zr64 (IsRow.lit _) (fun b_2 => ?_)
          refine r_nil (e_d (i := 8) (brk := (fun _ => false)) (ph' := true) hKK_19 hcK_19 rfl (fun _ => hn_13.le) (fun _ => .drop (.keep (fun _ _ h => h) (.keep (fun _ _ h => h) (.nil)))) ?_)
          clear hKK_19 hcK_19 K_19
          refine d_eff 9 rfl (by kernel_rfl) (fun K_20 hKK_20 hcK_20 => ?_)
          refine r_stw (k := 0) .none sz64 rfl rfl (IsRow.lit _) (one_lit rfl (all_cons rfl (all_cons rfl (all_cons rfl (all_cons rfl (all_cons rfl (all_cons (u_16).one rfl))))))) rfl ?_
          refine r_nil (e_d (i := 9) (brk := (fun _ => false)) (ph' := true) hKK_20 hcK_20 rfl (fun _ => hn_13.le) (fun _ => .drop (.keep (fun _ _ h => h) (.keep (fun _ _ h => h) (.nil)))) ?_)
          clear hKK_20 hcK_20 K_20
          refine d_nil (by kernel_rfl) ?_
          refine e_next ?_
          refine c_seq ?_
          refine c_seq ?_
          refine c_region ?_
          refine r_val .none rfl (p_field Try.underlying70 rfl sz68 rfl) ?_
          refine r_val .none rfl (p_ld (k := 1) Try.underlying68 rfl rfl rfl (by first | exact of_decide_eq_true rfl | omega) rfl) ?_
          refine r_val .none rfl (p_leng Try.underlying68 rfl ht_9) ?_
          have bd_21 := (ht_9).bound
          refine r_val .none rfl (p_move rfl) ?_
          refine r_nil ?_
          refine e_next ?_
          refine c_block ?_
          refine c_nilrow 92 3 ?_
          refine c_name (d := 2) rfl (fun u_22 hu_22 => ?_)
          refine c_name (d := 3) rfl (fun u_23 hu_23 => ?_)
          refine c_name (d := 5) rfl (fun u_24 hu_24 => ?_)
          refine c_name (d := 6) rfl (fun u_25 hu_25 => ?_)
          refine c_name (d := 9) rfl (fun u_26 hu_26 => ?_)
          refine c_name (d := 10) rfl (fun u_27 hu_27 => ?_)
          refine c_name (d := 11) rfl (fun u_28 hu_28 => ?_)
          refine c_name (d := 12) rfl (fun u_29 hu_29 => ?_)
          refine c_name (d := 13) rfl (fun u_30 hu_30 => ?_)
          refine c_name (d := 14) rfl (fun u_31 hu_31 => ?_)
          refine c_name (d := 15) rfl (fun u_32 hu_32 => ?_)
          refine c_name (d := 16) rfl (fun u_33 hu_33 => ?_)
          refine c_name (d := 17) rfl (fun u_34 hu_34 => ?_)
          refine c_name (d := 18) rfl (fun u_35 hu_35 => ?_)
          refine c_name (d := 19) rfl (fun u_36 hu_36 => ?_)
          refine c_name (d := 20) rfl (fun u_37 hu_37 => ?_)
          refine c_name (d := 21) rfl (fun u_38 hu_38 => ?_)
          refine c_name (d := 22) rfl (fun u_39 hu_39 => ?_)
          refine c_name (d := 23) rfl (fun u_40 hu_40 => ?_)
          refine c_name (d := 24) rfl (fun u_41 hu_41 => ?_)
          refine c_name (d := 25) rfl (fun u_42 hu_42 => ?_)
          refine c_nameL (k := 2) rfl (fun A_43 hA_43 => ?_)
          refine c_nameL (k := 3) rfl (fun A_44 hA_44 => ?_)
          refine c_loop (σ := Nat × Value) (fun s => [(26, Value.int .i64 (s.1 : Nat)), (2, u_22), (3, u_23), (5, u_24), (6, u_25), (9, u_26), (10, u_27), (11, u_28), (12, u_29), (13, u_30), (14, u_31), (15, u_32), (16, u_33), (17, u_34), (18, u_35), (19, u_36), (20, u_37), (21, u_38), (22, u_39), (23, u_40), (24, u_41), (25, u_42)]) (fun s => [rowA (s.2) 92 3 (((rs.getD k s0).1.h.ts.take s.1)).length ((((rs.getD k s0).1.h.ts.take s.1)).flatMap tC), box b_2 6 64 (at_ [.int .i64 (rs.getD k s0).1.h.k, .int .i64 (rs.getD k s0).1.h.k0, .int .i64 (rs.getD k s0).1.h.k1, .int .i64 (rs.getD k s0).1.h.k2, s.2, (.slice a_17 (rs.getD k s0).1.subs.length c_18)]), A_43, A_44]) (fun _ => _) (fun s => s.1 ≤ (rs.getD k s0).1.h.ts.length) (fun s => (rs.getD k s0).1.h.ts.length - s.1) ((0, _)) (Nat.zero_le _) rfl ⟨rfl, rfl, rfl, rfl, rfl, rfl, rfl, rfl, rfl, rfl, rfl, rfl, rfl, rfl, rfl, rfl, rfl, rfl, rfl, rfl, rfl, rfl, trivial⟩ (.keep (fun _ _ h => rowA_nil rfl _ _ h) (.keep (fun _ _ h => box_congr (fun i hi => by match i, hi with | 0, _ => rfl | 1, _ => rfl | 2, _ => rfl | 3, _ => rfl | 4, _ => rfl | 5, _ => rfl) _ _ h) (.keep (fun _ _ h => h) (.keep (fun _ _ h => h) (.nil))))) (fun s hphi => ?_)
          subst hu_22
          subst hu_23
          subst hu_24
          subst hu_25
          subst hu_26
          subst hu_27
          subst hu_28
          subst hu_29
          subst hu_30
          subst hu_31
          subst hu_32
          subst hu_33
          subst hu_34
          subst hu_35
          subst hu_36
          subst hu_37
          subst hu_38
          subst hu_39
          subst hu_40
          subst hu_41
          subst hu_42
          subst hA_43
          subst hA_44
          obtain ⟨j, u⟩ := s
          dsimp only at hphi ⊢
          refine c_row1 (k := 0) rfl (fun ov => ?_)
          refine c_rowlen (k := 0) rfl (fun l63 => ?_)
          refine c_seq ?_
          refine c_region ?_
          refine r_val .none rfl (p_lt rfl rfl) ?_
          refine r_nil ?_
          refine e_next ?_
          refine c_seq ?_
          refine c_splitd (d := 27) rfl (fun h_45 => ?_) (fun h_45 => ?_)
          · skip
            first
              | (exfalso; omega)
              | (
                refine c_cond_t rfl ?_
                refine c_skip ?_
                refine e_next ?_
                refine c_seq ?_
                refine c_block ?_
                refine c_seq ?_
                refine c_region ?_
                refine r_iaddr_g .none rfl Try.underlying68 sz96 rfl ht_9 rfl (by first | exact of_decide_eq_true rfl | omega) (fun p_47 o_48 R_46 => ?_)
                refine r_val .none rfl (p_ldga0 Try.underlying96 rfl sz96 rfl R_46 (by first | exact of_decide_eq_true rfl | omega) (rfl : _ = Value.agg #[_, _, _])) ?_
                refine r_alloc .none rfl zr96 (IsRow.lit _) (fun b_3 => ?_)
                refine r_stw (k := 0) .none sz96 rfl rfl (IsRow.lit _) (one_lit rfl rfl) rfl ?_
                refine r_nil ?_
                refine e_next ?_
                refine c_region ?_
                refine r_val .none rfl (p_field Try.underlying64 rfl sz62 rfl) ?_
                refine r_val .none rfl (p_ld (k := 2) Try.underlying62 rfl rfl rfl (by first | exact of_decide_eq_true rfl | omega) rfl) ?_
                refine r_val .none rfl (p_field Try.underlying96 rfl sz3 rfl) ?_
                refine r_val .none rfl (p_ld (k := 0) Try.underlying3 rfl rfl rfl (by first | exact of_decide_eq_true rfl | omega) (rfl : _ = Value.int _ _)) ?_
                refine r_val .none rfl (p_field Try.underlying96 rfl sz3 rfl) ?_
                refine r_val .none rfl (p_ld (k := 0) Try.underlying3 rfl rfl rfl (by first | exact of_decide_eq_true rfl | omega) (rfl : _ = Value.int _ _)) ?_
                refine r_val .none rfl (p_field Try.underlying96 rfl sz3 rfl) ?_
                refine r_val .none rfl (p_ld (k := 0) Try.underlying3 rfl rfl rfl (by first | exact of_decide_eq_true rfl | omega) (rfl : _ = Value.int _ _)) ?_
                refine r_val .none rfl (p_build (vs := [(0, Value.int _ _), (1, Value.int _ _), (2, Value.int _ _)]) rfl (bl92_0i1_1i1_2i1 _ _ _)) ?_
                refine r_bslice (vs := [(0, Value.agg #[_, _, _])]) (c := #[_, _, _]) .none rfl Try.underlying62 el92 rfl rfl rfl (bs92_10a3 _ _ _) (IsRow.lit _) (fun b_4 => ?_)
                refine r_append (k := 2) (k2 := 0) .none rfl Try.underlying62 el92 rfl (by decide) rfl rfl rfl rfl rfl (one_lit rfl rfl) (by rw [List.length_take]; simp only [maxLen]; omega) (by rw [List.length_take]; omega) (fun v_49 => ?_)
                refine r_row1 (k := 2) rfl (fun o_50 => ?_)
                refine r_val .none rfl (p_field Try.underlying64 rfl sz62 rfl) ?_
                refine r_st (k := 3) .none sz62 rfl rfl o_50 rfl (by first | exact of_decide_eq_true rfl | omega) ?_
                refine r_nil ?_
                refine e_norm_block ?_
                refine e_next ?_
                refine c_region ?_
                refine r_val .none rfl (p_add rfl rfl (by omega)) ?_
                refine r_val .none rfl (p_move rfl) ?_
                refine r_nil ?_
                refine e_round ((j + 1, _)) ⟨by dsimp only; omega, by dsimp only; omega⟩ rfl ⟨rfl, rfl, rfl, rfl, rfl, rfl, rfl, rfl, rfl, rfl, rfl, rfl, rfl, rfl, rfl, rfl, rfl, rfl, rfl, rfl, rfl, rfl, trivial⟩ (.drop (.drop (.keep (fun _ _ h => rowA_snoc (ts_next (by omega)) rfl rfl rfl _ _ h) (.keep (fun _ _ h => box_congr (fun i hi => by match i, hi with | 0, _ => rfl | 1, _ => rfl | 2, _ => rfl | 3, _ => rfl | 4, _ => rfl | 5, _ => rfl) _ _ h) (.keep (fun _ _ h => h) (.keep (fun _ _ h => h) (.nil)))))))
                )
          · skip
            first
              | (exfalso; omega)
              | (
                refine c_cond_f rfl ?_
                refine c_exit ?_
                refine e_exit_then ?_
                refine e_exit_then ?_
                refine e_exit_block ?_
                refine e_next ?_
                refine c_region ?_
                have hj2 : (rs.getD k s0).1.h.ts.take j = (rs.getD k s0).1.h.ts := List.take_of_length_le (by omega)
                refine r_freeze (k := 0) rfl (fun G_51 hn_52 hs_53 => ?_)
                replace hr := hr.mono hn_52.le
                replace hrt := fun p hm0 => (hrt p hm0).mono hn_52.le
                replace hp := fun p hm0 => (hp p hm0).mono hn_52.le
                replace hqt := fun p hm0 => (hqt p hm0).mono hn_52.le
                replace hqs := fun p hm0 => (hqs p hm0).mono hn_52.le
                replace R_6 := R_6.mono hn_52.le
                replace ht_9 := ht_9.mono hn_52.le
                replace hc_10 := hc_10.mono hn_52.le
                replace u_16 := u_16.mono hn_52.le
                have hts_54 : SlL G_51 u 3 tC t0 (rs.getD k s0).1.h.ts := SlL.of2 t0 (fun _ => rfl) (by rw [hj2]) (by rw [hj2]) hs_53
                refine r_val .none rfl (p_move rfl) ?_
                refine r_val .none rfl (p_ldw (k := 0) Try.underlying64 rfl sz64 rfl rfl (rfl : _ = Value.agg #[_, _, _, _, _, _])) ?_
                refine r_bslice (vs := [(0, Value.agg #[_, _, _, _, _, _])]) (c := #[_, _, _, _, _, _]) .none rfl Try.underlying50 el64 rfl rfl rfl (bs64_10a6 _ _ _ _ _ _) (IsRow.lit _) (fun b_5 => ?_)
                refine r_append (k := 3) (k2 := 0) .none rfl Try.underlying50 el64 rfl (by decide) rfl rfl rfl rfl rfl (one_lit rfl (all_cons rfl (all_cons rfl (all_cons rfl (all_cons rfl (all_cons (hts_54).one (all_cons (u_16).one rfl))))))) (by simp only [maxLen]; omega) (by omega) (fun v_55 => ?_)
                refine r_row1 (k := 3) rfl (fun o_56 => ?_)
                refine r_val .none rfl (p_assign rfl) ?_
                refine r_nil ?_
                refine e_norm_block ?_
                refine e_next ?_
                refine c_region ?_
                refine r_val .none rfl (p_add rfl rfl (by omega)) ?_
                refine r_val .none rfl (p_move rfl) ?_
                refine r_nil ?_
                refine e_round ((k + 1, _, qs ++ [((rs.getD k s0).1, u, (.slice a_17 (rs.getD k s0).1.subs.length c_18))], _)) ⟨⟨by dsimp only; omega, by rw [sv_take (by omega), List.map_append, hq]; rfl, (fun p hp' => by rcases List.mem_append.1 hp' with h | h; exact hqt p h; rw [List.mem_singleton.1 h]; exact hts_54), (fun p hp' => by rcases List.mem_append.1 hp' with h | h; exact hqs p h; rw [List.mem_singleton.1 h]; exact u_16), ((hgn.trans hn_13).trans hn_52)⟩, by dsimp only; omega⟩ rfl ⟨rfl, rfl, rfl, rfl, rfl, trivial⟩ (.drop (.drop (.drop (.keep (fun _ _ h => rowA_snoc (l := qs) (x := ((rs.getD k s0).1, u, (.slice a_17 (rs.getD k s0).1.subs.length c_18))) rfl rfl rfl rfl _ _ h) (.nil)))))
                )
        · skip
          refine r_alloc .none rfl zr64 (IsRow.lit _) (fun b_6 => ?_)
          refine r_nil (e_d (i := 8) (brk := (fun _ => false)) (ph' := true) hKK_11 hcK_11 rfl (fun _ => GLe.refl _) (fun _ => .drop (.keep (fun _ _ h => h) (.keep (fun _ _ h => h) (.nil)))) ?_)
          clear hKK_11 hcK_11 K_11
          refine d_eff 6 rfl (by kernel_rfl) (fun K_57 hKK_57 hcK_57 => ?_)
          refine r_callm (vs := [_]) .none rfl cl27 rfl (fun w hw => ih _ _ _ w (sv_at hl (by omega) hz) (by omega) hc_10 hw) (fun G_58 v_61 hn_59 hr_60 => ?_)
          replace hr := hr.mono hn_59.le
          replace hrt := fun p hm0 => (hrt p hm0).mono hn_59.le
          replace hp := fun p hm0 => (hp p hm0).mono hn_59.le
          replace hqt := fun p hm0 => (hqt p hm0).mono hn_59.le
          replace hqs := fun p hm0 => (hqs p hm0).mono hn_59.le
          replace R_6 := R_6.mono hn_59.le
          replace ht_9 := ht_9.mono hn_59.le
          replace hc_10 := hc_10.mono hn_59.le
          have u_62 := hr_60
          refine r_nil (e_d (i := 6) (brk := (fun _ => false)) (ph' := true) hKK_57 hcK_57 rfl (fun _ => hn_59.le) (fun _ => .drop (.keep (fun _ _ h => h) (.keep (fun _ _ h => h) (.nil)))) ?_)
          clear hKK_57 hcK_57 K_57
          obtain ⟨a_63, c_64, rfl⟩ := Ss.len u_62
          refine d_val1 7 rfl rfl (by kernel_rfl) (fun _ _ => rfl) .none rfl (p_build (vs := [(0, Value.int _ _), (1, Value.agg #[_, _, _]), (3, Value.slice _ _ _)]) rfl (bl64_0i1_1a3_3s3 _ _ _ _ _ _ _)) ?_
          refine d_eff 9 rfl (by kernel_rfl) (fun K_65 hKK_65 hcK_65 => ?_)
          refine r_stw (k := 0) .none sz64 rfl rfl (IsRow.lit _) (one_lit rfl (all_cons rfl (all_cons rfl (all_cons rfl (all_cons rfl (all_cons rfl (all_cons (u_62).one rfl))))))) rfl ?_
          refine r_nil (e_d (i := 9) (brk := (fun _ => false)) (ph' := true) hKK_65 hcK_65 rfl (fun _ => hn_59.le) (fun _ => .drop (.keep (fun _ _ h => h) (.keep (fun _ _ h => h) (.nil)))) ?_)
          clear hKK_65 hcK_65 K_65
          refine d_nil (by kernel_rfl) ?_
          refine e_next ?_
          refine c_seq ?_
          refine c_seq ?_
          refine c_region ?_
          refine r_val .none rfl (p_field Try.underlying70 rfl sz68 rfl) ?_
          refine r_val .none rfl (p_ld (k := 1) Try.underlying68 rfl rfl rfl (by first | exact of_decide_eq_true rfl | omega) rfl) ?_
          refine r_val .none rfl (p_leng Try.underlying68 rfl ht_9) ?_
          have bd_66 := (ht_9).bound
          refine r_val .none rfl (p_move rfl) ?_
          refine r_nil ?_
          refine e_next ?_
          refine c_block ?_
          refine c_nilrow 92 3 ?_
          refine c_name (d := 2) rfl (fun u_67 hu_67 => ?_)
          refine c_name (d := 3) rfl (fun u_68 hu_68 => ?_)
          refine c_name (d := 5) rfl (fun u_69 hu_69 => ?_)
          refine c_name (d := 6) rfl (fun u_70 hu_70 => ?_)
          refine c_name (d := 9) rfl (fun u_71 hu_71 => ?_)
          refine c_name (d := 10) rfl (fun u_72 hu_72 => ?_)
          refine c_name (d := 11) rfl (fun u_73 hu_73 => ?_)
          refine c_name (d := 12) rfl (fun u_74 hu_74 => ?_)
          refine c_name (d := 13) rfl (fun u_75 hu_75 => ?_)
          refine c_name (d := 14) rfl (fun u_76 hu_76 => ?_)
          refine c_name (d := 15) rfl (fun u_77 hu_77 => ?_)
          refine c_name (d := 16) rfl (fun u_78 hu_78 => ?_)
          refine c_name (d := 17) rfl (fun u_79 hu_79 => ?_)
          refine c_name (d := 18) rfl (fun u_80 hu_80 => ?_)
          refine c_name (d := 19) rfl (fun u_81 hu_81 => ?_)
          refine c_name (d := 20) rfl (fun u_82 hu_82 => ?_)
          refine c_name (d := 21) rfl (fun u_83 hu_83 => ?_)
          refine c_name (d := 22) rfl (fun u_84 hu_84 => ?_)
          refine c_name (d := 23) rfl (fun u_85 hu_85 => ?_)
          refine c_name (d := 24) rfl (fun u_86 hu_86 => ?_)
          refine c_name (d := 25) rfl (fun u_87 hu_87 => ?_)
          refine c_nameL (k := 2) rfl (fun A_88 hA_88 => ?_)
          refine c_nameL (k := 3) rfl (fun A_89 hA_89 => ?_)
          refine c_loop (σ := Nat × Value) (fun s => [(26, Value.int .i64 (s.1 : Nat)), (2, u_67), (3, u_68), (5, u_69), (6, u_70), (9, u_71), (10, u_72), (11, u_73), (12, u_74), (13, u_75), (14, u_76), (15, u_77), (16, u_78), (17, u_79), (18, u_80), (19, u_81), (20, u_82), (21, u_83), (22, u_84), (23, u_85), (24, u_86), (25, u_87)]) (fun s => [rowA (s.2) 92 3 (((rs.getD k s0).1.h.ts.take s.1)).length ((((rs.getD k s0).1.h.ts.take s.1)).flatMap tC), box b_6 6 64 (at_ [.int .i64 (rs.getD k s0).1.h.k, .int .i64 (rs.getD k s0).1.h.k0, .int .i64 (rs.getD k s0).1.h.k1, .int .i64 (rs.getD k s0).1.h.k2, s.2, (.slice a_63 (rs.getD k s0).1.subs.length c_64)]), A_88, A_89]) (fun _ => _) (fun s => s.1 ≤ (rs.getD k s0).1.h.ts.length) (fun s => (rs.getD k s0).1.h.ts.length - s.1) ((0, _)) (Nat.zero_le _) rfl ⟨rfl, rfl, rfl, rfl, rfl, rfl, rfl, rfl, rfl, rfl, rfl, rfl, rfl, rfl, rfl, rfl, rfl, rfl, rfl, rfl, rfl, rfl, trivial⟩ (.keep (fun _ _ h => rowA_nil rfl _ _ h) (.keep (fun _ _ h => box_congr (fun i hi => by match i, hi with | 0, _ => rfl | 1, _ => rfl | 2, _ => rfl | 3, _ => rfl | 4, _ => rfl | 5, _ => rfl) _ _ h) (.keep (fun _ _ h => h) (.keep (fun _ _ h => h) (.nil))))) (fun s hphi => ?_)
          subst hu_67
          subst hu_68
          subst hu_69
          subst hu_70
          subst hu_71
          subst hu_72
          subst hu_73
          subst hu_74
          subst hu_75
          subst hu_76
          subst hu_77
          subst hu_78
          subst hu_79
          subst hu_80
          subst hu_81
          subst hu_82
          subst hu_83
          subst hu_84
          subst hu_85
          subst hu_86
          subst hu_87
          subst hA_88
          subst hA_89
          obtain ⟨j, u⟩ := s
          dsimp only at hphi ⊢
          refine c_row1 (k := 0) rfl (fun ov => ?_)
          refine c_rowlen (k := 0) rfl (fun l63 => ?_)
          refine c_seq ?_
          refine c_region ?_
          refine r_val .none rfl (p_lt rfl rfl) ?_
          refine r_nil ?_
          refine e_next ?_
          refine c_seq ?_
          refine c_splitd (d := 27) rfl (fun h_90 => ?_) (fun h_90 => ?_)
          · skip
            first
              | (exfalso; omega)
              | (
                refine c_cond_t rfl ?_
                refine c_skip ?_
                refine e_next ?_
                refine c_seq ?_
                refine c_block ?_
                refine c_seq ?_
                refine c_region ?_
                refine r_iaddr_g .none rfl Try.underlying68 sz96 rfl ht_9 rfl (by first | exact of_decide_eq_true rfl | omega) (fun p_92 o_93 R_91 => ?_)
                refine r_val .none rfl (p_ldga0 Try.underlying96 rfl sz96 rfl R_91 (by first | exact of_decide_eq_true rfl | omega) (rfl : _ = Value.agg #[_, _, _])) ?_
                refine r_alloc .none rfl zr96 (IsRow.lit _) (fun b_7 => ?_)
                refine r_stw (k := 0) .none sz96 rfl rfl (IsRow.lit _) (one_lit rfl rfl) rfl ?_
                refine r_nil ?_
                refine e_next ?_
                refine c_region ?_
                refine r_val .none rfl (p_field Try.underlying64 rfl sz62 rfl) ?_
                refine r_val .none rfl (p_ld (k := 2) Try.underlying62 rfl rfl rfl (by first | exact of_decide_eq_true rfl | omega) rfl) ?_
                refine r_val .none rfl (p_field Try.underlying96 rfl sz3 rfl) ?_
                refine r_val .none rfl (p_ld (k := 0) Try.underlying3 rfl rfl rfl (by first | exact of_decide_eq_true rfl | omega) (rfl : _ = Value.int _ _)) ?_
                refine r_val .none rfl (p_field Try.underlying96 rfl sz3 rfl) ?_
                refine r_val .none rfl (p_ld (k := 0) Try.underlying3 rfl rfl rfl (by first | exact of_decide_eq_true rfl | omega) (rfl : _ = Value.int _ _)) ?_
                refine r_val .none rfl (p_field Try.underlying96 rfl sz3 rfl) ?_
                refine r_val .none rfl (p_ld (k := 0) Try.underlying3 rfl rfl rfl (by first | exact of_decide_eq_true rfl | omega) (rfl : _ = Value.int _ _)) ?_
                refine r_val .none rfl (p_build (vs := [(0, Value.int _ _), (1, Value.int _ _), (2, Value.int _ _)]) rfl (bl92_0i1_1i1_2i1 _ _ _)) ?_
                refine r_bslice (vs := [(0, Value.agg #[_, _, _])]) (c := #[_, _, _]) .none rfl Try.underlying62 el92 rfl rfl rfl (bs92_10a3 _ _ _) (IsRow.lit _) (fun b_8 => ?_)
                refine r_append (k := 2) (k2 := 0) .none rfl Try.underlying62 el92 rfl (by decide) rfl rfl rfl rfl rfl (one_lit rfl rfl) (by rw [List.length_take]; simp only [maxLen]; omega) (by rw [List.length_take]; omega) (fun v_94 => ?_)
                refine r_row1 (k := 2) rfl (fun o_95 => ?_)
                refine r_val .none rfl (p_field Try.underlying64 rfl sz62 rfl) ?_
                refine r_st (k := 3) .none sz62 rfl rfl o_95 rfl (by first | exact of_decide_eq_true rfl | omega) ?_
                refine r_nil ?_
                refine e_norm_block ?_
                refine e_next ?_
                refine c_region ?_
                refine r_val .none rfl (p_add rfl rfl (by omega)) ?_
                refine r_val .none rfl (p_move rfl) ?_
                refine r_nil ?_
                refine e_round ((j + 1, _)) ⟨by dsimp only; omega, by dsimp only; omega⟩ rfl ⟨rfl, rfl, rfl, rfl, rfl, rfl, rfl, rfl, rfl, rfl, rfl, rfl, rfl, rfl, rfl, rfl, rfl, rfl, rfl, rfl, rfl, rfl, trivial⟩ (.drop (.drop (.keep (fun _ _ h => rowA_snoc (ts_next (by omega)) rfl rfl rfl _ _ h) (.keep (fun _ _ h => box_congr (fun i hi => by match i, hi with | 0, _ => rfl | 1, _ => rfl | 2, _ => rfl | 3, _ => rfl | 4, _ => rfl | 5, _ => rfl) _ _ h) (.keep (fun _ _ h => h) (.keep (fun _ _ h => h) (.nil)))))))
                )
          · skip
            first
              | (exfalso; omega)
              | (
                refine c_cond_f rfl ?_
                refine c_exit ?_
                refine e_exit_then ?_
                refine e_exit_then ?_
                refine e_exit_block ?_
                refine e_next ?_
                refine c_region ?_
                have hj2 : (rs.getD k s0).1.h.ts.take j = (rs.getD k s0).1.h.ts := List.take_of_length_le (by omega)
                refine r_freeze (k := 0) rfl (fun G_96 hn_97 hs_98 => ?_)
                replace hr := hr.mono hn_97.le
                replace hrt := fun p hm0 => (hrt p hm0).mono hn_97.le
                replace hp := fun p hm0 => (hp p hm0).mono hn_97.le
                replace hqt := fun p hm0 => (hqt p hm0).mono hn_97.le
                replace hqs := fun p hm0 => (hqs p hm0).mono hn_97.le
                replace R_6 := R_6.mono hn_97.le
                replace ht_9 := ht_9.mono hn_97.le
                replace hc_10 := hc_10.mono hn_97.le
                replace u_62 := u_62.mono hn_97.le
                have hts_99 : SlL G_96 u 3 tC t0 (rs.getD k s0).1.h.ts := SlL.of2 t0 (fun _ => rfl) (by rw [hj2]) (by rw [hj2]) hs_98
                refine r_val .none rfl (p_move rfl) ?_
                refine r_val .none rfl (p_ldw (k := 0) Try.underlying64 rfl sz64 rfl rfl (rfl : _ = Value.agg #[_, _, _, _, _, _])) ?_
                refine r_bslice (vs := [(0, Value.agg #[_, _, _, _, _, _])]) (c := #[_, _, _, _, _, _]) .none rfl Try.underlying50 el64 rfl rfl rfl (bs64_10a6 _ _ _ _ _ _) (IsRow.lit _) (fun b_9 => ?_)
                refine r_append (k := 3) (k2 := 0) .none rfl Try.underlying50 el64 rfl (by decide) rfl rfl rfl rfl rfl (one_lit rfl (all_cons rfl (all_cons rfl (all_cons rfl (all_cons rfl (all_cons (hts_99).one (all_cons (u_62).one rfl))))))) (by simp only [maxLen]; omega) (by omega) (fun v_100 => ?_)
                refine r_row1 (k := 3) rfl (fun o_101 => ?_)
                refine r_val .none rfl (p_assign rfl) ?_
                refine r_nil ?_
                refine e_norm_block ?_
                refine e_next ?_
                refine c_region ?_
                refine r_val .none rfl (p_add rfl rfl (by omega)) ?_
                refine r_val .none rfl (p_move rfl) ?_
                refine r_nil ?_
                refine e_round ((k + 1, _, qs ++ [((rs.getD k s0).1, u, (.slice a_63 (rs.getD k s0).1.subs.length c_64))], _)) ⟨⟨by dsimp only; omega, by rw [sv_take (by omega), List.map_append, hq]; rfl, (fun p hp' => by rcases List.mem_append.1 hp' with h | h; exact hqt p h; rw [List.mem_singleton.1 h]; exact hts_99), (fun p hp' => by rcases List.mem_append.1 hp' with h | h; exact hqs p h; rw [List.mem_singleton.1 h]; exact u_62), ((hgn.trans hn_59).trans hn_97)⟩, by dsimp only; omega⟩ rfl ⟨rfl, rfl, rfl, rfl, rfl, trivial⟩ (.drop (.drop (.drop (.keep (fun _ _ h => rowA_snoc (l := qs) (x := ((rs.getD k s0).1, u, (.slice a_63 (rs.getD k s0).1.subs.length c_64))) rfl rfl rfl rfl _ _ h) (.nil)))))
                )
        )
  · skip
    first
      | (exfalso; omega)
      | (
        refine c_cond_f rfl ?_
        refine c_exit ?_
        refine e_exit_then ?_
        refine e_exit_then ?_
        refine e_exit_block ?_
        refine e_next ?_
        refine c_seq ?_
        refine c_region ?_
        refine r_val .none rfl (p_move rfl) ?_
        refine r_val .none rfl (p_assign rfl) ?_
        refine r_nil ?_
        refine e_next ?_
        refine c_ret ?_
        refine e_freeze (k := 0) rfl (fun G_102 hn_103 hs_104 => ?_)
        replace hr := hr.mono hn_103.le
        replace hrt := fun p hm0 => (hrt p hm0).mono hn_103.le
        replace hp := fun p hm0 => (hp p hm0).mono hn_103.le
        replace hqt := fun p hm0 => (hqt p hm0).mono hn_103.le
        replace hqs := fun p hm0 => (hqs p hm0).mono hn_103.le
        refine e_ret1 Try.results27 (.tmp rfl .nil) (fun w hm => ⟨_, (hgn.trans hn_103), hm.has, ?_, hm.since⟩)
        rw [show l = qs.map Prod.fst by rw [hq, hl, List.take_of_length_le (by simp; omega)]]
        exact Ss.mk qs (SlL.of s0 (fun _ => rfl) rfl hs_104) hqt hqs
        )
theorem c_steps_n : ∀ n, StepsIs n
  | 0 => fun v l G w hz hsz hs hG => absurd hz (by cases l <;> simp)
  | n + 1 => fun v l G w hz hsz hs hG => c_steps_s n (c_steps_n n) v l hz hsz hs w hG
theorem c_steps (v : Value) (l : List ST) {G : Ghost} (hsz : sszL l ≤ 5000) (hs : Ss G v l) (w : World) (hG : Has G w) : Calls Try.prog 27 #[v] w (Ret fun r w' => ∃ G', GNew w nX G G' ∧ Has G' w' ∧ Ss G' r l ∧ Since nX w w') := c_steps_n _ v l G w (Nat.le_refl _) hsz hs hG
end Go.Proofs.Ytoflaphnlfggkaa

/-
  GX: a range over a map of the call's own that stays as it is meanwhile. Generic in the program.
-/
namespace Go.Gx
open Go.RowKit Go.MapKept

section
variable {κ ν : Type} {ke : κ → Value} {ve : ν → Value}

def ranA (m r : Nat) (ke : κ → Value) (ve : ν → Value) (l lft : List (κ × ν)) : Asrt where
  holds w F := (∃ es clock since c0 seen, MapIs w m ke ve l es clock ∧ w.heap[r]? = some (.mapIter (some m) since seen c0) ∧ (∀ x ∈ es.toList, x.born < since) ∧ since ≤ c0 ∧ since ≤ clock ∧
    (es.toList.filter fun e => !seen.contains e.born).map kv = lft.map (enc ke ve)) ∧ ∀ b, F b ↔ b = m ∨ b = r
  frame := by
    rintro w w' F ⟨⟨es, c, s, c0, se, h1, h2, h3⟩, hF⟩ hk
    exact ⟨⟨es, c, s, c0, se, ⟨by rw [hk m ((hF m).2 (.inl rfl))]; exact h1.heap, h1.st, h1.eq⟩, by rw [hk r ((hF r).2 (.inr rfl))]; exact h2, h3⟩, hF⟩
  dom := by
    rintro w F b ⟨⟨es, c, s, c0, se, h1, h2, _⟩, hF⟩ hb
    rcases (hF b).1 hb with rfl | rfl
    · exact lt_of_heap h1.heap
    · exact lt_of_heap h2

/-- The same, just behind a step that yielded p. -/
def ranE (m r : Nat) (ke : κ → Value) (ve : ν → Value) (l lft : List (κ × ν)) (p : κ × ν) : Asrt where
  holds w F := (∃ es clock since seen, MapIs w m ke ve l es clock ∧ w.heap[r]? = some (.mapIter (some m) since seen clock) ∧ (∀ x ∈ es.toList, x.born < since) ∧ since ≤ clock ∧
    (es.toList.filter fun e => !seen.contains e.born).map kv = lft.map (enc ke ve) ∧ ∃ e ∈ es.toList, ∃ s0 : Array Nat, seen = s0.push e.born ∧ kv e = enc ke ve p) ∧ ∀ b, F b ↔ b = m ∨ b = r
  frame := by
    rintro w w' F ⟨⟨es, c, s, se, h1, h2, h3⟩, hF⟩ hk
    exact ⟨⟨es, c, s, se, ⟨by rw [hk m ((hF m).2 (.inl rfl))]; exact h1.heap, h1.st, h1.eq⟩, by rw [hk r ((hF r).2 (.inr rfl))]; exact h2, h3⟩, hF⟩
  dom := by
    rintro w F b ⟨⟨es, c, s, se, h1, h2, _⟩, hF⟩ hb
    rcases (hF b).1 hb with rfl | rfl
    · exact lt_of_heap h1.heap
    · exact lt_of_heap h2

theorem ranE_A {m r : Nat} {l lft : List (κ × ν)} {p : κ × ν} {w : World} {F : Nat → Prop} (h : (ranE m r ke ve l lft p).holds w F) : (ranA m r ke ve l lft).holds w F := by
  obtain ⟨⟨es, c, s, se, h1, h2, h3, h4, h5, _⟩, hF⟩ := h
  exact ⟨⟨es, c, s, c, se, h1, h2, h3, h4, h4, h5⟩, hF⟩

variable {P : Program} {ops : Array Oper} {Q : Exit → Act → World → Prop} {N : Nat} {X : Nat → Prop} {w0 : World} {G : Ghost} {l : List (Nat × Value)} {L : List Asrt}
variable {rest : List Oper} {d i m r : Nat} {ty : TypeId} {pos : String} {after : Array Edge} {gd : Option (Nat × Bool)} {x : Operand} {T K E : TypeId} {mv lft : List (κ × ν)}

theorem r_range_map (hw : Wt ops l gd) (hd : Nat.blt d N = true) (hT : P.underlying T = some (.map K E)) (hx : ev l x = some (.map (some m))) (hL : L[i]? = some (mapA m ke ve mv))
    (h : ∀ r, Runs P ops Q N X w0 G rest ((d, .pointer (some ⟨r, 0, none⟩)) :: l) (L.set i (ranA m r ke ve mv mv))) : Runs P ops Q N X w0 G (⟨some d, .range T x, ty, pos, after, gd⟩ :: rest) l L := by
  refine Runs.step hw (fun a w hS => ?_)
  show Oper.upon P _ a _ Q _
  obtain ⟨F, ⟨⟨es, c, hm⟩, hF⟩, _, hput⟩ := hS.mem.take hL
  have hr : (execOp a.eval ⟨some d, .range T x, ty, pos, after, gd⟩).run P w = .ok (.value (.pointer (some ⟨w.heap.size, 0, none⟩))) (w.alloc (.mapIter (some m) c #[] c)) := by
    simp only [execOp, hS.fr.eval hx]
    simp [Instr.range, run_underlying hT, run_getObj_map' hm.heap]
  rw [hr, Oper.upon_value]
  have hlt := lt_of_heap hm.heap
  refine h _ _ _ ⟨hS.fr.put (by simpa using hd) _, hput _ _ (fun b => b = m ∨ b = w.heap.size) ?_ ⟨⟨es, c, c, c, #[], ⟨((heap_alloc w _).2 m hlt).trans hm.heap, hm.st, hm.eq⟩, (heap_alloc w _).1, hm.st.1, Nat.le_refl _, Nat.le_refl _, ?_⟩, fun b => Iff.rfl⟩ (fun b hb => ?_)⟩
  · exact ⟨rfl, rfl, rfl, by simp, fun k hk _ => (heap_alloc w _).2 k hk⟩
  · rw [← hm.eq]
    congr 1
    exact List.filter_eq_self.2 (fun e _ => by simp)
  · rcases hb with rfl | rfl
    · exact .inl ((hF _).2 rfl)
    · exact .inr (Nat.le_refl _)

theorem split_at {α β γ : Type} {f : α → γ} {g : β → γ} : ∀ {A : List α} {B : List β} {e : α}, A.map f = B.map g → e ∈ A → ∃ a1 a2 b1 p b2, A = a1 ++ e :: a2 ∧ B = b1 ++ p :: b2 ∧ a1.map f = b1.map g ∧ f e = g p ∧ a2.map f = b2.map g
  | [], _, _, _, h => by simp at h
  | x :: A, [], _, h, _ => by simp at h
  | x :: A, y :: B, e, h, he => by
    simp only [List.map_cons, List.cons.injEq] at h
    rcases List.mem_cons.1 he with rfl | he
    · exact ⟨[], A, [], y, B, rfl, rfl, rfl, h.1, h.2⟩
    · obtain ⟨a1, a2, b1, p, b2, h1, h2, h3, h4, h5⟩ := split_at h.2 he
      exact ⟨x :: a1, a2, y :: b1, p, b2, by rw [h1]; rfl, by rw [h2]; rfl, by simp [h.1, h3], h4, h5⟩

theorem r_next_map {ity : TypeId} (hw : Wt ops l gd) (hd : Nat.blt d N = true) (hx : ev l x = some (.pointer (some ⟨r, 0, none⟩))) (hL : L[i]? = some (ranA m r ke ve mv lft))
    (h1 : ∀ a p b, lft = a ++ p :: b → Runs P ops Q N X w0 G rest ((d, .tuple #[.bool true, ke p.1, ve p.2]) :: l) (L.set i (ranE m r ke ve mv (a ++ b) p)))
    (h0 : lft = [] → Runs P ops Q N X w0 G rest ((d, .tuple #[.bool false]) :: l) L) : Runs P ops Q N X w0 G (⟨some d, .next x false, ity, pos, after, gd⟩ :: rest) l L := by
  refine Runs.step hw (fun a w hS => ?_)
  show Oper.upon P _ a _ Q _
  obtain ⟨F, ⟨⟨es, c, since, c0, seen, hm, hr, hold, hsc, hsk, hl⟩, hF⟩, _, hput⟩ := hS.mem.take hL
  have hne : r ≠ m := fun e => by rw [e, hm.heap] at hr; cases hr
  rcases Go.run_next_at (P := P) w ity r m since c0 seen es c hr hm.heap hold hsc with ⟨hz, hrun⟩ | ⟨e, he, w1, hw1, hrun⟩
  · have hr' : (execOp a.eval ⟨some d, .next x false, ity, pos, after, gd⟩).run P w = .ok (.value (.tuple #[.bool false])) w := by
      simp only [execOp, hS.fr.eval hx]
      simp [hrun]
    rw [hr', Oper.upon_value]
    have hnil : lft = [] := by
      have : (es.toList.filter fun e => !seen.contains e.born).length = 0 := by
        rw [← Array.toList_filter, Array.length_toList]; exact hz
      have h2 := congrArg List.length hl
      rw [List.length_map, List.length_map, this] at h2
      exact List.eq_nil_of_length_eq_zero h2.symm
    exact h0 hnil _ _ ⟨hS.fr.put (by simpa using hd) _, hS.mem⟩
  · have hr' : (execOp a.eval ⟨some d, .next x false, ity, pos, after, gd⟩).run P w = .ok (.value (.tuple #[.bool true, e.key, e.val])) (ChangeMaps.setBlock w1 r (.mapIter (some m) since (seen.push e.born) c)) := by
      simp only [execOp, hS.fr.eval hx]
      simp [hrun]
    rw [hr', Oper.upon_value]
    have he' : e ∈ es.toList.filter fun e => !seen.contains e.born := by rw [← Array.toList_filter]; exact he
    obtain ⟨a1, a2, b1, p, b2, e1, e2, e3, e4, e5⟩ := split_at hl he'
    have hkv : ke p.1 = e.key ∧ ve p.2 = e.val := ⟨(congrArg Prod.fst e4).symm, (congrArg Prod.snd e4).symm⟩
    rw [← hkv.1, ← hkv.2]
    have hheap : w1.heap = w.heap := by rcases hw1 with rfl | rfl <;> rfl
    have hnd : ((es.toList.filter fun e => !seen.contains e.born).map (·.born)).Nodup := (List.filter_sublist.map _).nodup hm.st.2.1
    refine h1 b1 p b2 e2 _ _ ⟨hS.fr.put (by simpa using hd) _, hput _ _ (fun b => b = m ∨ b = r) ?_ ⟨⟨es, c, since, seen.push e.born, ⟨?_, hm.st, hm.eq⟩, ?_, hold, hsk, ?_, e, (List.mem_filter.1 he').1, seen, rfl, e4⟩, fun b => Iff.rfl⟩ (fun b hb => .inl ((hF b).2 hb))⟩
    · refine ⟨?_, ?_, ?_, ?_, fun k _ hk => ?_⟩
      · rcases hw1 with rfl | rfl <;> rfl
      · rcases hw1 with rfl | rfl <;> rfl
      · rcases hw1 with rfl | rfl <;> rfl
      · simp [ChangeMaps.setBlock, hheap]
      · have : r ≠ k := fun e => hk ((hF k).2 (.inr e.symm))
        simp [ChangeMaps.setBlock, hheap, this]
    · simp [ChangeMaps.setBlock, hheap, hne, hm.heap]
    · have := lt_of_heap hr
      simp [ChangeMaps.setBlock, hheap, this]
    · have e6 : (es.toList.filter fun x => !(seen.push e.born).contains x.born) = a1 ++ a2 := by
        have e7 : (es.toList.filter fun x => !(seen.push e.born).contains x.born) = (es.toList.filter fun x => !seen.contains x.born).filter (fun x => !(x.born == e.born)) := by
          rw [List.filter_filter]
          refine congrArg (fun f => es.toList.filter f) ?_
          funext x
          rw [show (seen.push e.born).contains x.born = (seen.contains x.born || x.born == e.born) from by rw [Array.contains_push] <;> simp [Bool.or_comm]]
          cases seen.contains x.born <;> cases (x.born == e.born) <;> rfl
        rw [e7, e1] at *
        rw [e1, List.map_append, List.map_cons] at hnd
        rw [List.filter_append, List.filter_cons]
        simp only [beq_self_eq_true, Bool.not_true, Bool.false_eq_true, if_false]
        have h2 := List.nodup_append.1 hnd
        have h3 := List.nodup_cons.1 h2.2.1
        congr 1
        · refine List.filter_eq_self.2 (fun x hx => ?_)
          have : x.born ≠ e.born := h2.2.2 _ (List.mem_map.2 ⟨x, hx, rfl⟩) _ (by simp)
          simpa using this
        · refine List.filter_eq_self.2 (fun x hx => ?_)
          have : x.born ≠ e.born := fun e8 => h3.1 (by rw [← e8]; exact List.mem_map.2 ⟨x, hx, rfl⟩)
          simpa using this
      rw [e6, List.map_append, List.map_append, e3, e5]

theorem p_entry {p : κ × ν} (hx : ev l x = some (.pointer (some ⟨r, 0, none⟩))) (hL : L[i]? = some (ranE m r ke ve mv lft p)) :
    PV P N X w0 G l L ⟨some d, .entry x, ty, pos, after, gd⟩ (.tuple #[ke p.1, ve p.2]) := by
  intro ac w hS
  obtain ⟨F, ⟨⟨es, c, s, se, h1, h2, h3, h4, h5, e, he, s0, rfl, hkv⟩, hF⟩, _⟩ := hS.mem.take hL
  have hrun := Go.run_entry_at (P := P) w r m s s0 es c e h2 h1.heap he h1.st.2.1
  have hk : e.key = ke p.1 ∧ e.val = ve p.2 := ⟨congrArg Prod.fst hkv, congrArg Prod.snd hkv⟩
  simp only [execOp, hS.fr.eval hx]
  simp [hrun, hk]

theorem Mem.unrange {w : World} (hM : Mem X w0 G w L) (hL : L[i]? = some (ranA m r ke ve mv lft)) : Mem X w0 G w (L.set i (mapA m ke ve mv)) := by
  obtain ⟨F, ⟨⟨es, c, _, _, _, hm, _⟩, hF⟩, _, hput⟩ := hM.take hL
  exact hput w _ (fun b => b = m) ⟨rfl, rfl, rfl, Nat.le_refl _, fun _ _ _ => rfl⟩ ⟨⟨es, c, hm⟩, fun b => Iff.rfl⟩ (fun b hb => .inl (hb ▸ (hF m).2 (.inl rfl)))

/-- The range is over: the map is what it was. -/
theorem c_unrange {c : Code} (hL : L[i]? = some (ranA m r ke ve mv lft)) (h : CRuns P c Q N X w0 G l (L.set i (mapA m ke ve mv))) : CRuns P c Q N X w0 G l L := fun a w hS => h a w ⟨hS.fr, hS.mem.unrange hL⟩
theorem r_unrangeE {p : κ × ν} (hL : L[i]? = some (ranE m r ke ve mv lft p)) (h : Runs P ops Q N X w0 G rest l (L.set i (ranA m r ke ve mv lft))) : Runs P ops Q N X w0 G rest l L := fun a w hS => by
  obtain ⟨F, hE, _, hput⟩ := hS.mem.take hL
  exact h a w ⟨hS.fr, hput w _ F ⟨rfl, rfl, rfl, Nat.le_refl _, fun _ _ _ => rfl⟩ (ranE_A hE) (fun b hb => .inl hb)⟩
theorem r_unrange (hL : L[i]? = some (ranA m r ke ve mv lft)) (h : Runs P ops Q N X w0 G rest l (L.set i (mapA m ke ve mv))) : Runs P ops Q N X w0 G rest l L := fun a w hS => h a w ⟨hS.fr, hS.mem.unrange hL⟩
theorem e_unrange {e : Exit} (hL : L[i]? = some (ranA m r ke ve mv lft)) (h : ERuns Q e N X w0 G l (L.set i (mapA m ke ve mv))) : ERuns Q e N X w0 G l L := fun a w hS => h a w ⟨hS.fr, hS.mem.unrange hL⟩
end
end Go.Gx

/-
  GX: a string made of the call's own bytes. Generic in the program.
-/
namespace Go.Gx
open Go.RowKit

def bytesF (n : Nat) (f : Nat → Nat) : ByteArray := ⟨((List.range n).map fun i => UInt8.ofNat (f i)).toArray⟩

section
variable {P : Program} {N : Nat} {X : Nat → Prop} {w0 : World} {G : Ghost} {l : List (Nat × Value)} {L : List Asrt}
variable {d : Nat} {ty : TypeId} {pos : String} {after : Array Edge} {gd : Option (Nat × Bool)} {x : Operand} {T U E E' : TypeId} {b k : Nat} {f : Nat → Value}

/-- string([]byte of three). -/
theorem p_conv_bytes3 {a0 a1 a2 : Int} (hT : P.underlying T = some (.slice E)) (hE : P.underlying E = some (.int .u8)) (hU : P.underlying U = some .string) (hx : ev l x = some (.slice (some ⟨b, 0, none⟩) 3 3)) (hL : L[k]? = some (box b 3 E' f))
    (h0 : f 0 = .int .u8 a0) (h1 : f 1 = .int .u8 a1) (h2 : f 2 = .int .u8 a2) :
    PV P N X w0 G l L ⟨some d, .convert T U x, ty, pos, after, gd⟩ (.string ⟨#[UInt8.ofNat a0.toNat, UInt8.ofNat a1.toNat, UInt8.ofNat a2.toNat]⟩) := by
  intro ac w hS
  obtain ⟨F, ⟨hB, _⟩, _⟩ := hS.mem.take hL
  have c0 := hB.cell (i := 0) (by omega)
  have c1 := hB.cell (i := 1) (by omega)
  have c2 := hB.cell (i := 2) (by omega)
  rw [h0] at c0; rw [h1] at c1; rw [h2] at c2
  simp only [execOp, hS.fr.eval hx]
  simp [convert, run_underlying hT, run_underlying hU, run_underlying hE, Conv.bytesToString]
  have hl := run_loadCells_list (P := P) w ⟨b, 0, none⟩ [.int .u8 a0, .int .u8 a1, .int .u8 a2] (fun j v hj => by
    rw [addr_add, Nat.zero_add]
    match j, hj with
    | 0, hj => simp at hj; subst hj; exact c0
    | 1, hj => simp at hj; subst hj; exact c1
    | 2, hj => simp at hj; subst hj; exact c2
    | j + 3, hj => simp at hj)
  simp only [List.length_cons, List.length_nil] at hl
  rw [hl]
  simp
  rfl
end
end Go.Gx

/-
  GX: a row of the call's own is sorted, or its runs are made one, by the library (whose contracts come in as premises). Generic in the program.
-/
namespace Go.Gx
open Go.RowKit Go.Sort

section
variable {α : Type} [Inhabited α]

theorem putRow_heap {enc : α → Value} {w : World} {g n : Nat} {d : Array α} {cur : Array Value} {E : TypeId} {fr : Nat × Nat} (hg : w.heap[g]? = some (.cells cur E fr)) : (putRow enc w g 0 d).heap[g]? = some (.cells (putCells enc 0 d cur) E fr) := by
  show (w.heap.modify g (onCells (putCells enc 0 d)))[g]? = _
  rw [Array.getElem?_modify, if_pos rfl, hg]
  rfl
theorem putRow_other {enc : α → Value} {w : World} {g k : Nat} {d : Array α} (h : k ≠ g) : (putRow enc w g 0 d).heap[k]? = w.heap[k]? := by
  simp [putRow, mapBlock, Array.getElem?_modify, Ne.symm h]

theorem putCells_take {enc : α → Value} {d : Array α} {cur : Array Value} {m : Nat} (hm : m ≤ d.size) (hc : d.size ≤ cur.size) : (putCells enc 0 d cur).toList.take m = ((d.toList.take m).map enc) := by
  apply List.ext_getElem?
  intro i
  by_cases hi : i < m
  · have h1 : i < cur.size := by omega
    have h2 : i < d.size := by omega
    simp [List.getElem?_take, hi, putCells, h1, h2]
  · simp [List.getElem?_take, hi]
end

theorem compact_le (zs : List Int) : (Lib.compact zs).length ≤ zs.length := by
  unfold Lib.compact Lib.compactUpTo
  rw [List.length_map]
  exact Nat.le_trans (List.length_filter_le _ _) (by simp)
abbrev sortI (zs : List Int) : List Int := zs.mergeSort fun x y => decide (x ≤ y)
abbrev cI (z : Int) : List Value := [.int .i64 z]

/-- The library's contract of slices.Sort at []int. -/
def SortC (P : Program) (f : FuncId) : Prop := ∀ (blk off cap : Nat) (zs : List Int) (w : World), Holds (Value.int .i64) w blk off zs.toArray → blk < w.heap.size → zs.length < 4611686018427387904 →
  Calls P f #[.slice (some ⟨blk, off, none⟩) zs.length cap] w fun e w' => e = .returned (.tuple #[]) ∧ ∃ n os, w' = grow (putRow (Value.int .i64) (Sort.ahead w n) blk off (sortI zs).toArray) os
def SortN (P : Program) (f : FuncId) : Prop := ∀ (p : Option Addr) (cap : Nat) (w : World), Calls P f #[.slice p 0 cap] w fun e w' => e = .returned (.tuple #[]) ∧ w' = w
/-- .. and of slices.Compact. -/
def CompC (P : Program) (f : FuncId) : Prop := ∀ (blk off cap : Nat) (zs : List Int) (w : World), Holds (Value.int .i64) w blk off zs.toArray → zs.length ≤ 9223372036854775807 → zs.length ≤ cap →
  Calls P f #[.slice (some ⟨blk, off, none⟩) zs.length cap] w fun e w' => e = .returned (.slice (some ⟨blk, off, none⟩) (Lib.compact zs).length cap) ∧ ∃ q, w' = putRow (Value.int .i64) (Sort.ahead w q) blk off (Lib.compact zs ++ List.replicate (zs.length - (Lib.compact zs).length) 0).toArray
def CompN (P : Program) (f : FuncId) : Prop := ∀ (a : Option Addr) (cap : Nat) (w : World), Calls P f #[.slice a 0 cap] w fun e w' => e = .returned (.slice a 0 cap) ∧ w' = w

theorem cells_ints (zs : List Int) : zs.flatMap cI = zs.map (Value.int .i64) := by
  induction zs with
  | nil => rfl
  | cons z t ih => simp [List.flatMap_cons, ih]

section
variable {P : Program} {ops : Array Oper} {Q : Exit → Act → World → Prop} {N : Nat} {X : Nat → Prop} {w0 : World} {G : Ghost} {l : List (Nat × Value)} {L : List Asrt}
variable {rest : List Oper} {d k n : Nat} {ty : TypeId} {pos : String} {after : Array Edge} {gd : Option (Nat × Bool)} {v : Value} {E : TypeId} {zs : List Int} {f : FuncId} {xs : List Operand} {ats : Array TypeId}

theorem own_holds {w : World} {g cap : Nat} {cur : Array Value} (hg : w.heap[g]? = some (.cells cur E (0, 0))) (hc : cur.size = cap) (hn : zs.length ≤ cap) (ht : cur.toList.take zs.length = zs.map (Value.int .i64)) : Holds (Value.int .i64) w g 0 zs.toArray := by
  intro j hj
  have hj' : j < zs.length := by simpa using hj
  constructor
  · rw [cell_of_row w g (0 + j) cur E (0, 0) hg, Nat.zero_add]
    have h1 := congrArg (fun l => l[j]?) ht
    simp [List.getElem?_take, hj'] at h1
    simp [h1, hj']
  · simp [World.frozen?, hg]

theorem own_after {w : World} {g cap q : Nat} {cur : Array Value} {os : Array Obj} {zs' : List Int} {m : Nat} (hg : w.heap[g]? = some (.cells cur E (0, 0))) (hc : cur.size = cap) (hcm : cap ≤ maxLen) (hz : zs'.length ≤ cap) (hm : m ≤ zs'.length) (hmm : m ≤ maxLen) :
    (rowA (.slice (some ⟨g, 0, none⟩) m cap) E 1 m ((zs'.take m).flatMap cI)).holds (grow (putRow (Value.int .i64) (Sort.ahead w q) g 0 zs'.toArray) os) (fun b => b = g) := by
  have hg' : (Sort.ahead w q).heap[g]? = some (.cells cur E (0, 0)) := hg
  have h1 := putRow_heap (enc := Value.int .i64) (n := 0) (d := zs'.toArray) hg'
  have hlt : g < (putRow (Value.int .i64) (Sort.ahead w q) g 0 zs'.toArray).heap.size := lt_of_heap h1
  refine ⟨⟨?_, .inr ⟨g, cap, putCells (Value.int .i64) 0 zs'.toArray cur, rfl, Nat.zero_le _, ?_, by omega, hcm, ?_, ?_⟩⟩, fun b => ⟨fun h => by subst h; rfl, fun h => by simp [Value.ownBlock] at h; exact h.symm⟩, hmm⟩
  · rw [cells_ints]; simp; omega
  · show ((putRow (Value.int .i64) (Sort.ahead w q) g 0 zs'.toArray).heap ++ os)[g]? = _
    rw [Array.getElem?_append_left hlt]; exact h1
  · simp [putCells, hc]
  · rw [Nat.mul_one, putCells_take (by simpa using hm) (by simp; omega), cells_ints]

theorem since_sort {w : World} {g q : Nat} {os : Array Obj} {zs' : List Int} {F : Nat → Prop} (hF : F g) : Since F w (grow (putRow (Value.int .i64) (Sort.ahead w q) g 0 zs'.toArray) os) := by
  refine ⟨rfl, rfl, rfl, ?_, fun b hb hx => ?_⟩
  · show w.heap.size ≤ (((putRow (Value.int .i64) (Sort.ahead w q) g 0 zs'.toArray).heap ++ os)).size
    have : (putRow (Value.int .i64) (Sort.ahead w q) g 0 zs'.toArray).heap.size = w.heap.size := by
      show (w.heap.modify g _).size = _
      simp
    rw [Array.size_append]; omega
  · have hne : b ≠ g := fun e => hx (e ▸ hF)
    show ((putRow (Value.int .i64) (Sort.ahead w q) g 0 zs'.toArray).heap ++ os)[b]? = _
    have hsz : (putRow (Value.int .i64) (Sort.ahead w q) g 0 zs'.toArray).heap.size = w.heap.size := by
      show (w.heap.modify g _).size = _
      simp
    rw [Array.getElem?_append_left (by omega), putRow_other hne]
    rfl

theorem r_sort (hw : Wt ops l gd) (hd : Nat.blt d N = true) (hf : Callable P f) (hv : evs l xs = some [v]) (hL : L[k]? = some (rowA v E 1 zs.length (zs.flatMap cI))) (hs : SortC P f) (hn : SortN P f) (hlen : zs.length < 4611686018427387904)
    (h : Runs P ops Q N X w0 G rest ((d, .tuple #[]) :: l) (L.set k (rowA v E 1 (sortI zs).length ((sortI zs).flatMap cI)))) : Runs P ops Q N X w0 G (⟨some d, .call ⟨.value (.func f), xs.toArray, ats⟩, ty, pos, after, gd⟩ :: rest) l L := by
  refine Runs.step hw (fun a w hS => ?_)
  show Oper.upon P _ a _ Q _
  rw [run_call hS.fr hv hf, Oper.upon_enter]
  obtain ⟨F, ⟨⟨hlen1, hown⟩, hF, hmax⟩, _, hput⟩ := hS.mem.take hL
  have hsl : (sortI zs).length = zs.length := List.length_mergeSort zs
  by_cases hz : zs.length = 0
  · have hz' : zs = [] := List.eq_nil_of_length_eq_zero hz
    subst hz'
    have e1 : (rowA v E 1 (sortI []).length ((sortI []).flatMap cI)) = rowA v E 1 ([] : List Int).length (([] : List Int).flatMap cI) := by simp [sortI]
    rw [e1, set_same hL] at h
    have hv2 : ∃ p c, v = .slice p 0 c := by
      rcases hown with ⟨rfl, _⟩ | ⟨g, cap, cur, rfl, _⟩
      · exact ⟨_, _, rfl⟩
      · exact ⟨_, _, rfl⟩
    obtain ⟨p, c, rfl⟩ := hv2
    refine (hn p c w).mono (fun e w' hR => ?_)
    obtain ⟨rfl, rfl⟩ := hR
    exact h _ _ ⟨hS.fr.put (by simpa using hd) _, hS.mem⟩
  · rcases hown with ⟨_, h0⟩ | ⟨g, cap, cur, rfl, _, hg, hnc, hcm, hcs, htk⟩
    · exact absurd h0 hz
    · have hcs' : cur.size = cap := by simpa using hcs
      have htk' : cur.toList.take zs.length = zs.map (Value.int .i64) := by rw [← cells_ints]; simpa using htk
      refine (hs g 0 cap zs w (own_holds hg hcs' hnc htk') (lt_of_heap hg) hlen).mono (fun e w' hR => ?_)
      obtain ⟨rfl, q, os, rfl⟩ := hR
      have hFg : F g := (hF g).2 rfl
      refine h _ _ ⟨hS.fr.put (by simpa using hd) _, hput _ _ (fun b => b = g) (since_sort hFg) ?_ (fun b hb => .inl (hb ▸ hFg))⟩
      have h2 := own_after (q := q) (os := os) (zs' := sortI zs) (m := zs.length) hg hcs' hcm (by omega) (by omega) (by omega)
      rw [List.take_of_length_le (by omega)] at h2
      rw [hsl]
      exact h2

theorem r_compact (hw : Wt ops l gd) (hd : Nat.blt d N = true) (hf : Callable P f) (hv : evs l xs = some [v]) (hL : L[k]? = some (rowA v E 1 zs.length (zs.flatMap cI))) (hs : CompC P f) (hn : CompN P f) (hle : (Lib.compact zs).length ≤ zs.length)
    (h : ∀ v', Runs P ops Q N X w0 G rest ((d, v') :: l) (L.set k (rowA v' E 1 (Lib.compact zs).length ((Lib.compact zs).flatMap cI)))) : Runs P ops Q N X w0 G (⟨some d, .call ⟨.value (.func f), xs.toArray, ats⟩, ty, pos, after, gd⟩ :: rest) l L := by
  refine Runs.step hw (fun a w hS => ?_)
  show Oper.upon P _ a _ Q _
  rw [run_call hS.fr hv hf, Oper.upon_enter]
  obtain ⟨F, ⟨⟨hlen1, hown⟩, hF, hmax⟩, _, hput⟩ := hS.mem.take hL
  by_cases hz : zs.length = 0
  · have hz' : zs = [] := List.eq_nil_of_length_eq_zero hz
    subst hz'
    have hc0 : Lib.compact ([] : List Int) = [] := List.eq_nil_of_length_eq_zero (by simpa using hle)
    have h' := h v
    rw [hc0, set_same hL] at h'
    have hv2 : ∃ p c, v = .slice p 0 c := by
      rcases hown with ⟨rfl, _⟩ | ⟨g, cap, cur, rfl, _⟩
      · exact ⟨_, _, rfl⟩
      · exact ⟨_, _, rfl⟩
    obtain ⟨p, c, rfl⟩ := hv2
    refine (hn p c w).mono (fun e w' hR => ?_)
    obtain ⟨rfl, rfl⟩ := hR
    exact h' _ _ ⟨hS.fr.put (by simpa using hd) _, hS.mem⟩
  · rcases hown with ⟨_, h0⟩ | ⟨g, cap, cur, rfl, _, hg, hnc, hcm, hcs, htk⟩
    · exact absurd h0 hz
    · have hcs' : cur.size = cap := by simpa using hcs
      have htk' : cur.toList.take zs.length = zs.map (Value.int .i64) := by rw [← cells_ints]; simpa using htk
      refine (hs g 0 cap zs w (own_holds hg hcs' hnc htk') (by simpa only [maxLen] using hmax) hnc).mono (fun e w' hR => ?_)
      obtain ⟨rfl, q, rfl⟩ := hR
      have hFg : F g := (hF g).2 rfl
      have e0 : ∀ W : World, W = grow W #[] := fun W => (grow_empty W).symm
      rw [e0 (putRow _ _ _ _ _)]
      refine h _ _ _ ⟨hS.fr.put (by simpa using hd) _, hput _ _ (fun b => b = g) (since_sort hFg) ?_ (fun b hb => .inl (hb ▸ hFg))⟩
      have h2 := own_after (q := q) (os := #[]) (zs' := Lib.compact zs ++ List.replicate (zs.length - (Lib.compact zs).length) 0) (m := (Lib.compact zs).length) hg hcs' hcm (by simp; omega) (by simp) (by simp only [maxLen] at *; omega)
      rw [List.take_left' rfl] at h2
      exact h2
end
end Go.Gx

/-
  GX: the keys of a map of the call's own, sorted by the library (its contracts come in as premises). Generic in the program.
-/
namespace Go.Gx
open Go.RowKit Go.Sort Go.Maps
open Go.WideElems (Fit rd rg)

theorem sortI_perm {l l' : List Int} (h : l.Perm l') : sortI l = sortI l' := by
  unfold sortI
  refine List.Perm.eq_of_pairwise (le := fun a b : Int => decide (a ≤ b) = true) (fun a b _ _ h1 h2 => ?_) (List.pairwise_mergeSort (by intro a b c; simp; omega) (by intro a b; simp; omega) l) (List.pairwise_mergeSort (by intro a b c; simp; omega) (by intro a b; simp; omega) l') (((List.mergeSort_perm l _).trans h).trans (List.mergeSort_perm l' _).symm)
  simp at h1 h2; omega

/-- How an element reads, where nothing is asked of it. -/
def R0 : Value → Option (DataW Unit × List MemPlace) := fun _ => some (.nil, [])

section
variable {ν : Type} {P : Program} {K : TypeId}
theorem ownsMap_of {w : World} {m : Nat} {ve : ν → Value} {l : List (Int × ν)} {es : Array MapEntry} {clock : Nat} (hM : MapIs w m kI ve l es clock) (hK : P.underlying K = some (.int .i64)) (hwf : ∀ p ∈ l, (Lit.int .i64 p.1).wf = true) (hsz : l.length ≤ maxLen) :
    ∃ D0 : DataW Unit, w.ownsMap P K R0 m l.length D0 ∧ (intKeys D0).Perm (l.map Prod.fst) ∧ Maps.size D0 = l.length := by
  have hlen : es.size = l.length := by have := congrArg List.length hM.eq; simpa using this
  have hmem : ∀ x ∈ es.toList, ∃ p ∈ l, x.key = .int .i64 p.1 := by
    intro x hx
    have h1 : kv x ∈ es.toList.map kv := List.mem_map.2 ⟨x, hx, rfl⟩
    rw [hM.eq] at h1
    obtain ⟨p, hp, e⟩ := List.mem_map.1 h1
    exact ⟨p, hp, by have := congrArg Prod.fst e; exact this.symm⟩
  have hrd : ∀ x ∈ es.toList, ∃ n : Int, x.key = .int .i64 n ∧ rd (H := Unit) P K R0 x = some (.int .i64 n, .nil) := by
    intro x hx
    obtain ⟨p, hp, e⟩ := hmem x hx
    refine ⟨p.1, e, ?_⟩
    unfold rd
    rw [e, keyOf_int_mk hK (hwf p hp)]
    rfl
  refine ⟨_, ⟨es, clock, hM.heap, ⟨by rw [hlen]; exact hsz, hM.st, fun x hx => by obtain ⟨n, _, h⟩ := hrd x hx; exact ⟨_, h⟩⟩, by omega, rfl⟩, ?_, ?_⟩
  · show (List.map (fun p : Lit × DataW Unit => intOf p.1) _).Perm _
    refine ((Go.WideShapes.sorted_perm _).map _).trans ?_
    rw [List.map_map]
    have e1 : es.toList.map ((fun p : Lit × DataW Unit => intOf p.1) ∘ rg P K R0) = (es.toList.map kv).map (fun q : Value × Value => match q.1 with | .int _ n => n | _ => 0) := by
      rw [List.map_map]
      refine List.map_congr_left fun x hx => ?_
      obtain ⟨n, h1, h2⟩ := hrd x hx
      simp only [Function.comp, rg, h2, Option.getD_some, kv, h1]
      rfl
    rw [e1, hM.eq, List.map_map]
    exact List.Perm.refl _
  · show (List.foldr DataW.insert [] _).length = _
    rw [(Go.WideShapes.sorted_perm _).length_eq]
    simpa using hlen
end

/-- slices.Sorted(maps.Keys(m)): the second call, of what the first one made. -/
def KeysC (P : Program) (f g : FuncId) (K : TypeId) : Prop := ∀ (Bm b nn : Nat) (D0 : DataW Unit) (w : World), w.cell? ⟨Bm, 0, none⟩ = some (.map (some b)) → Bm < w.heap.size → w.ownsMap P K R0 b nn D0 → Maps.size D0 ≤ maxLen → Maps.size D0 * 8 ≤ 140737488355328 →
  Calls P f #[.func (.func g) #[] #[.pointer (some ⟨Bm, 0, none⟩)]] w fun e w' => ∃ (v : Value) (ss : List Int), e = .returned v ∧ ss.Perm (intKeys D0) ∧ w'.ownsRow w.heap.size K 1 v ss.length ((ss.mergeSort fun x y => decide (x ≤ y)).map (Value.int .i64)) ∧ Below w.heap.size w w'

section
variable {P : Program} {ops : Array Oper} {Q : Exit → Act → World → Prop} {N : Nat} {X : Nat → Prop} {w0 : World} {G : Ghost} {l : List (Nat × Value)} {L : List Asrt} {ν : Type}
variable {rest : List Oper} {d i j m Bm : Nat} {ty : TypeId} {pos : String} {after : Array Edge} {gd : Option (Nat × Bool)} {K T : TypeId} {f g : FuncId} {x : Operand} {ats : Array TypeId} {ve : ν → Value} {mv : List (Int × ν)}

theorem Mem.add {w w' : World} {A : Asrt} {F' : Nat → Prop} (h : Mem X w0 G w L) (hs : Since nX w w') (hA : A.holds w' F') (hF : ∀ b, F' b → w.heap.size ≤ b) : Mem X w0 G w' (A :: L) := by
  have h1 := h.call hs
  refine ⟨h1.since, h1.has, F', hA, fun b hb => ⟨.inl (Nat.le_trans h.since.size (hF b hb)), h.has.fresh (hF b hb)⟩, ?_⟩
  refine Sep.keep (h.sep.mono (fun b hb hu => ⟨hu, fun hf => ?_⟩)) (fun b hb _ => hs.block b hb id)
  have := hF b hf
  omega

theorem r_sorted (hw : Wt ops l gd) (hd : Nat.blt d N = true) (hf : Callable P f) (hv : evs l [x] = some [.func (.func g) #[] #[.pointer (some ⟨Bm, 0, none⟩)]]) (hL1 : L[i]? = some (mapA m kI ve mv)) (hL2 : L[j]? = some (box Bm 1 T (at_ [.map (some m)])))
    (hc : KeysC P f g K) (hK : P.underlying K = some (.int .i64)) (hwf : ∀ p ∈ mv, (Lit.int .i64 p.1).wf = true) (hlen : mv.length * 8 ≤ 140737488355328)
    (h : ∀ v, Runs P ops Q N X w0 G rest ((d, v) :: l) (rowA v K 1 (sortI (mv.map Prod.fst)).length ((sortI (mv.map Prod.fst)).flatMap cI) :: L)) : Runs P ops Q N X w0 G (⟨some d, .call ⟨.value (.func f), #[x], ats⟩, ty, pos, after, gd⟩ :: rest) l L := by
  refine Runs.step hw (fun a w hS => ?_)
  show Oper.upon P _ a _ Q _
  have hm : mv.length ≤ maxLen := by simp only [maxLen]; omega
  rw [show (#[x] : Array Operand) = [x].toArray from rfl, run_call hS.fr hv hf, Oper.upon_enter]
  obtain ⟨F1, ⟨⟨es, clock, hM⟩, _⟩, _, _⟩ := hS.mem.take hL1
  obtain ⟨F2, ⟨⟨c, hc1, hc2⟩, _⟩, _, _⟩ := hS.mem.take hL2
  obtain ⟨D0, hown, hperm, hsize⟩ := ownsMap_of (P := P) (K := K) hM hK hwf hm
  have hcell : w.cell? ⟨Bm, 0, none⟩ = some (.map (some m)) := by
    rw [cell_of_row w Bm 0 c T (0, 0) hc1]; exact hc2.get 0 (by decide)
  refine (hc Bm m _ D0 w hcell (lt_of_heap hc1) hown (by omega) (by omega)).mono (fun e w' hR => ?_)
  obtain ⟨v, ss, rfl, hss, hrow, hb⟩ := hR
  have hs : Since nX w w' := ⟨hb.os, hb.tape, hb.output, hb.size, fun k hk _ => hb.block k hk⟩
  have e1 : (ss.mergeSort fun x y => decide (x ≤ y)) = sortI (mv.map Prod.fst) := sortI_perm (hss.trans hperm)
  have e2 : ss.length = (sortI (mv.map Prod.fst)).length := by rw [← e1]; exact (List.length_mergeSort ss).symm
  rw [e1, e2, ← cells_ints] at hrow
  have hl1 : (sortI (mv.map Prod.fst)).length ≤ maxLen := by
    have : (sortI (mv.map Prod.fst)).length = mv.length := by unfold sortI; rw [List.length_mergeSort]; simp
    omega
  obtain ⟨h1, h2⟩ := hrow
  refine h v _ _ ⟨hS.fr.put (by simpa using hd) _, hS.mem.add (F' := fun b => v.ownBlock = some b) hs ⟨⟨h1, ?_⟩, fun _ => Iff.rfl, hl1⟩ ?_⟩
  · rcases h2 with h2 | ⟨g', cap, cur, e, hb', r⟩
    · exact .inl h2
    · exact .inr ⟨g', cap, cur, e, Nat.zero_le _, r⟩
  · intro b hb'
    rcases h2 with ⟨rfl, _⟩ | ⟨g', cap, cur, rfl, hb2, _⟩
    · cases hb'
    · simp [Value.ownBlock] at hb'; omega
end
end Go.Gx

/-
  GX: a method that keeps (or changes) its object and hands back memory that stays. Generic in the program.
-/
namespace Go.Gx
open Go.RowKit

theorem Sep.takeU {w : World} : ∀ {L : List Asrt} {U : Nat → Prop} {k : Nat} {A : Asrt}, Sep w L U → L[k]? = some A →
    ∃ F, A.holds w F ∧ (∀ b, F b → U b) ∧
      ∀ (U' : Nat → Prop) (w' : World) (A' : Asrt) (F' : Nat → Prop), (∀ b, b < w.heap.size → U b → ¬ F b → U' b) → A'.holds w' F' → (∀ b, F' b → U' b ∧ (F b ∨ w.heap.size ≤ b)) →
        (∀ b, b < w.heap.size → U b → ¬ F b → w'.heap[b]? = w.heap[b]?) → Sep w' (L.set k A') U'
  | [], _, _, _, _, h => by simp at h
  | A :: L, U, 0, A', ⟨F, h, hs, hL⟩, e => by
    simp at e; subst e
    refine ⟨F, h, hs, fun U' w' A'' F' hu h' hF' hk => ⟨F', h', fun b hb => (hF' b hb).1, ?_⟩⟩
    have hL1 : Sep w L (fun b => (U b ∧ ¬ F b) ∧ (U' b ∧ ¬ F' b)) := Sep.mono hL (fun b hb hub => ⟨hub, hu b hb hub.1 hub.2, fun hf => by
      rcases (hF' b hf).2 with h1 | h1
      · exact hub.2 h1
      · omega⟩)
    have hL3 := Sep.keep (w' := w') hL1 (fun b hb hu => hk b hb hu.1.1 hu.1.2)
    exact Sep.mono hL3 (fun b _ hu => hu.2)
  | A :: L, U, k + 1, A', ⟨F, h, hs, hL⟩, e => by
    simp at e
    obtain ⟨G, hg, hgs, hput⟩ := Sep.takeU hL e
    refine ⟨G, hg, fun b hb => (hgs b hb).1, fun U' w' A'' F' hu h' hF' hk => ?_⟩
    refine ⟨F, A.frame h (fun b hb => hk b (A.dom h hb) (hs b hb) (fun hg' => (hgs b hg').2 hb)), fun b hb => hu b (A.dom h hb) (hs b hb) (fun hg' => (hgs b hg').2 hb), ?_⟩
    exact hput (fun b => U' b ∧ ¬ F b) w' A'' F' (fun b hb hub hng => ⟨hu b hb hub.1 hng, hub.2⟩) h' (fun b hb => by
      obtain ⟨h0, h1⟩ := hF' b hb
      refine ⟨⟨h0, fun hf => ?_⟩, h1⟩
      rcases h1 with h1 | h1
      · exact (hgs b h1).2 hf
      · have := A.dom h hf; omega) (fun b hb hu hg' => hk b hb hu.1 hg')

def KeptG (A : Asrt) (F : Nat → Prop) (G' : Ghost) (w w' : World) : Prop := Since F w w' ∧ ∃ F', A.holds w' F' ∧ (∀ b, F' b → F b ∨ w.heap.size ≤ b) ∧ ∀ b, F' b → G' b = none

section
variable {P : Program} {ops : Array Oper} {Q : Exit → Act → World → Prop} {N : Nat} {X : Nat → Prop} {w0 : World} {G : Ghost} {l : List (Nat × Value)} {L : List Asrt}
variable {rest : List Oper} {d k : Nat} {ty : TypeId} {pos : String} {after : Array Edge} {gd : Option (Nat × Bool)}

theorem Mem.keptG {w : World} {F : Nat → Prop} {Ls : List Asrt} (h : Mem F w0 G w Ls) (Ls' : List Asrt) (hI : Imp Ls Ls') (B : Asrt) (hB : ∀ F', (starL Ls').holds w F' → B.holds w F') : KeptG B F G w0 w := by
  refine ⟨h.since, ?_⟩
  have h1 := (h.imp hI).sep
  rw [show Ls' = Ls' ++ [] by simp] at h1
  obtain ⟨F', h2, h3, _⟩ := Sep.packL Ls' h1
  exact ⟨F', hB F' h2, fun b hb => (h3 b hb).1.symm, fun b hb => (h3 b hb).2⟩

/-- A call that changes one object and hands back memory that stays. -/
theorem r_callom {f : FuncId} {xs : List Operand} {vs : List Value} {ats : Array TypeId} {A B : Asrt} {S : Ghost → Value → Prop} (hw : Wt ops l gd) (hd : Nat.blt d N = true) (hf : Callable P f) (hv : evs l xs = some vs) (hL : L[k]? = some A)
    (hc : ∀ w F, Has G w → A.holds w F → (∀ b, F b → G b = none) → Calls P f vs.toArray w (Ret fun r w' => ∃ G', GNew w F G G' ∧ Has G' w' ∧ S G' r ∧ KeptG B F G' w w'))
    (h : ∀ G' r, GNew w0 X G G' → S G' r → Runs P ops Q N X w0 G' rest ((d, r) :: l) (L.set k B)) : Runs P ops Q N X w0 G (⟨some d, .call ⟨.value (.func f), xs.toArray, ats⟩, ty, pos, after, gd⟩ :: rest) l L := by
  refine Runs.step hw (fun a w hS => ?_)
  show Oper.upon P _ a _ Q _
  rw [run_call hS.fr hv hf, Oper.upon_enter]
  obtain ⟨F, hA, hsub, hput⟩ := hS.mem.sep.takeU hL
  refine (hc w F hS.mem.has hA (fun b hb => (hsub b hb).2)).mono (fun e w' hR => ?_)
  cases e with
  | returned r =>
    obtain ⟨G', hn, hh, hr, hs, F', hB, hF', hFG'⟩ := hR
    have hn' : GNew w0 X G G' := ⟨hn.le, fun b h1 h2 => by
      rcases hn.new b h1 h2 with h3 | h3
      · exact .inl (Nat.le_trans hS.mem.since.size h3)
      · exact (hsub b h3).1⟩
    refine h G' r hn' hr _ _ ⟨hS.fr.put (by simpa using hd) _, ?_, hh, ?_⟩
    · refine ⟨hs.os.trans hS.mem.since.os, hs.tape.trans hS.mem.since.tape, hs.output.trans hS.mem.since.output, Nat.le_trans hS.mem.since.size hs.size, fun i hi hx => ?_⟩
      rw [hs.block i (Nat.lt_of_lt_of_le hi hS.mem.since.size) (fun hf => Or.elim (hsub i hf).1 (fun h1 => by omega) (fun h1 => hx h1))]
      exact hS.mem.since.block i hi hx
    · refine hput (fun b => (w0.heap.size ≤ b ∨ X b) ∧ G' b = none) w' B F' (fun b hb hu hf => ⟨hu.1, ?_⟩) hB (fun b hb => ⟨⟨?_, hFG' b hb⟩, hF' b hb⟩) (fun b hb _ hf => hs.block b hb hf)
      · cases e : G' b with
        | none => rfl
        | some o => rcases hn.new b hu.2 (by rw [e]; simp) with h3 | h3
                    · omega
                    · exact (hf h3).elim
      · rcases hF' b hb with h1 | h1
        · exact (hsub b h1).1
        · exact .inl (Nat.le_trans hS.mem.since.size h1)
  | panicked c => exact hR.elim
  | outgrown => exact hR.elim
end
end Go.Gx

/-
  GX: function values: they are made, and called. Generic in the program.
-/
namespace Go.Gx
open Go.RowKit

section
variable {P : Program} {ops : Array Oper} {Q : Exit → Act → World → Prop} {N : Nat} {X : Nat → Prop} {w0 : World} {G : Ghost} {l : List (Nat × Value)} {L : List Asrt}
variable {rest : List Oper} {ty : TypeId} {pos : String} {after : Array Edge} {gd : Option (Nat × Bool)}

theorem p_mkfunc {f : FuncId} {d : Nat} {xs : List Operand} {vs : List Value} (hv : evs l xs = some vs) : PV P N X w0 G l L ⟨some d, .makeFunc (.func f) #[] xs.toArray, ty, pos, after, gd⟩ (.func (.func f) #[] vs.toArray) := by
  intro a w hS
  have e := evs_eq hS.fr hv
  have h1 : xs.toArray.map a.eval = vs.toArray := by rw [← e]; simp
  simp only [execOp]
  rw [h1]
  simp [Go.Instr.makeFunc]

theorem fun_same {f : FuncId} {dst : Option Nat} {y : Operand} {xs : List Operand} {cs : List Value} {ats : Array TypeId} {a : Act} (hF : Fr N a l) (hy : ev l y = some (.func (.func f) #[] cs.toArray)) :
    execOp a.eval ⟨dst, .call ⟨.value y, xs.toArray, ats⟩, ty, pos, after, gd⟩ = execOp a.eval ⟨dst, .call ⟨.value (.func f), (xs ++ cs.map Operand.const).toArray, ats⟩, ty, pos, after, gd⟩ := by
  have h2 : execOp a.eval ⟨dst, .call ⟨.value (.func f), (xs ++ cs.map Operand.const).toArray, ats⟩, ty, pos, after, gd⟩ = callFunc f (#[] ++ (xs ++ cs.map Operand.const).toArray.map a.eval ++ #[]) := rfl
  have h3 : (Deferred.ofValue (.func (.func f) #[] cs.toArray) (xs.toArray.map a.eval) >>= fun t => invoke t.target t.args) = callFunc f ((#[] ++ xs.toArray.map a.eval) ++ cs.toArray) := rfl
  have h4 : execOp a.eval ⟨dst, .call ⟨.value y, xs.toArray, ats⟩, ty, pos, after, gd⟩ = (Deferred.ofValue (a.eval y) (xs.toArray.map a.eval) >>= fun t => invoke t.target t.args) := rfl
  rw [h2, h4, hF.eval hy, h3]
  have h5 : (List.map a.eval (cs.map Operand.const)) = cs := by
    rw [List.map_map]
    exact (List.map_congr_left (fun x _ => rfl)).trans (List.map_id cs)
  congr 1
  apply Array.toList_inj.1
  simp only [Array.toList_append, List.append_toArray, Array.toList_map, List.map_append, h5]
  simp

/-- A call of a function value is a call of its function with what it has caught behind the arguments. -/
theorem r_fun {f : FuncId} {dst : Option Nat} {y : Operand} {xs : List Operand} {cs : List Value} {ats : Array TypeId} (hw : Wt ops l gd) (hy : ev l y = some (.func (.func f) #[] cs.toArray))
    (h : Runs P ops Q N X w0 G (⟨dst, .call ⟨.value (.func f), (xs ++ cs.map Operand.const).toArray, ats⟩, ty, pos, after, gd⟩ :: rest) l L) :
    Runs P ops Q N X w0 G (⟨dst, .call ⟨.value y, xs.toArray, ats⟩, ty, pos, after, gd⟩ :: rest) l L := by
  intro a w hS
  have h1 := h a w hS
  unfold wpList at h1 ⊢
  rw [if_pos (hw.wanted hS.fr)] at h1 ⊢
  have e := fun_same (ty := ty) (pos := pos) (after := after) (gd := gd) (dst := dst) (xs := xs) (ats := ats) hS.fr hy
  rcases h1 with h1 | ⟨h1, h2⟩
  · left
    show Oper.upon P _ a _ Q _
    rw [e]
    exact h1
  · right
    refine ⟨?_, h2⟩
    simp only [Oper.asks] at h1 ⊢
    rw [e]
    exact h1
end
end Go.Gx

/-
  GX: what closures want: a block that they have caught; a slice held against nil; a row without elements; an object that grows by what is found. Generic in the program.
-/
namespace Go.Gx
open Go.RowKit

section
variable {P : Program} {ops : Array Oper} {Q : Exit → Act → World → Prop} {N : Nat} {X : Nat → Prop} {w0 : World} {G : Ghost} {l : List (Nat × Value)} {L : List Asrt}
variable {rest : List Oper} {d : Nat} {ty : TypeId} {pos : String} {after : Array Edge} {gd : Option (Nat × Bool)} {x y : Operand} {v : Value}

/-- A block of the call's own stays as it is from now on. -/
theorem r_freezeX {k n b E : Nat} {f : Nat → Value} (hL : L[k]? = some (box b n E f))
    (h : ∀ G', GNew w0 X G G' → RowAt G' b 0 n f → Runs P ops Q N X w0 G' rest l (L.eraseIdx k)) : Runs P ops Q N X w0 G rest l L := by
  intro a w hS
  obtain ⟨G', h1, h2, h3⟩ := hS.mem.freezeB (m := 1) (sz := n) hL (by omega) (by omega)
  obtain ⟨_, _, e, _, h4⟩ := h2
  obtain ⟨b', o, e2, h5⟩ := h4 (by omega)
  simp only [Value.slice.injEq] at e
  obtain ⟨rfl, _⟩ := e
  simp only [Option.some.injEq, Addr.mk.injEq] at e2
  obtain ⟨rfl, rfl, _⟩ := e2
  have h6 := h5 0 (by omega)
  simp only [Nat.zero_mul, Nat.add_zero, Nat.zero_add] at h6
  exact h G' h1 h6 a w ⟨hS.fr, h3⟩

theorem eqnil_run {T E : TypeId} {a : Option Addr} {n c n' c' : Nat} (hT : P.underlying T = some (.slice E)) (d : Nat) (w : World) : (Op.equalIn (d + 1) T (.slice a n c) (.slice none n' c')).run P w = .ok a.isNone w := by
  cases a <;> simp [Op.equalIn, run_underlying hT]

/-- '==' between a slice and nil. -/
theorem p_eqnil {T U E : TypeId} {a : Option Addr} {n c n' c' : Nat} (hT : P.underlying T = some (.slice E)) (hx : ev l x = some (.slice a n c)) (hy : ev l y = some (.slice none n' c')) :
    PV P N X w0 G l L ⟨some d, .binOp .eql T x y U, ty, pos, after, gd⟩ (.bool a.isNone) := by
  intro ac w hS
  have e : (Op.equal T (.slice a n c) (.slice none n' c')).run P w = .ok a.isNone w := by
    exact eqnil_run hT 9999 w
  have e2 : (binOp .eql T (.slice a n c) (.slice none n' c')).run P w = .ok (.bool a.isNone) w := by
    have h1 : binOp .eql T (.slice a n c) (.slice none n' c') = (do pure (.bool (← Op.equal T (.slice a n c) (.slice none n' c')))) := rfl
    rw [h1]; simp [e]
  have e3 : (eqGuard .eql T x y (.slice a n c) (.slice none n' c')).run P w = .ok () w := by simp [eqGuard]
  simp only [execOp, hS.fr.eval hx, hS.fr.eval hy]
  simp [e3, e2]

/-- A row without elements. -/
theorem r_bslice0 {T E : TypeId} {sz bytes : Nat} {zv : Value} (hw : Wt ops l gd) (hd : Nat.blt d N = true) (hT : P.underlying T = some (.slice E)) (hE : ElemIs P E sz bytes zv)
    (h : ∀ v, Runs P ops Q N X w0 G rest ((d, v) :: l) (rowA v E sz 0 [] :: L)) :
    Runs P ops Q N X w0 G (⟨some d, .buildSlice T 0 #[], ty, pos, after, gd⟩ :: rest) l L := by
  refine Runs.step hw (fun a w hS => ?_)
  show Oper.upon P _ a _ Q _
  obtain ⟨i, hi, hz, hs, _⟩ := hE.info
  have hr : (execOp a.eval ⟨some d, .buildSlice T 0 #[], ty, pos, after, gd⟩).run P w = .ok (.value (.slice (some ⟨w.heap.size, 0, none⟩) 0 0)) (w.alloc (.cells #[] E)) := by
    have h3 : (sizeOf E).run P w = .ok sz w := by simp [sizeOf, typeInfo, hi, hs]
    simp only [execOp]
    simp [Instr.buildSlice, run_underlying hT, h3, Instr.fill, newRow]
    have h5 : ∀ g : Nat → Value, Array.map g (Array.range 0) = #[] := fun g => Array.ext (by simp) (fun i h1 _ => by simp at h1)
    rw [h5]
  rw [hr, Oper.upon_value]
  refine h _ _ _ ⟨hS.fr.put (by simpa using hd) _, hS.mem.alloc _ _ ⟨⟨by simp, .inr ⟨w.heap.size, 0, #[], rfl, Nat.zero_le _, heap_alloc_new w _, Nat.le_refl _, Nat.zero_le _, by simp, by simp⟩⟩, fun b => ⟨fun h => ?_, fun h => ?_⟩, Nat.zero_le _⟩⟩
  · have : b = w.heap.size := h
    subst this; rfl
  · simp [Value.ownBlock] at h; exact h.symm

/-- A call that changes one object, which is told by what comes of it, and hands back memory that stays. -/
theorem r_callox {τ : Type} {k : Nat} {f : FuncId} {xs : List Operand} {vs : List Value} {ats : Array TypeId} {A : Asrt} {B : τ → Asrt} {S : Ghost → Value → τ → Prop} (hw : Wt ops l gd) (hd : Nat.blt d N = true) (hf : Callable P f) (hv : evs l xs = some vs) (hL : L[k]? = some A)
    (hc : ∀ w F, Has G w → A.holds w F → (∀ b, F b → G b = none) → Calls P f vs.toArray w (Ret fun r w' => ∃ G' z, GNew w F G G' ∧ Has G' w' ∧ S G' r z ∧ KeptG (B z) F G' w w'))
    (h : ∀ G' r z, GNew w0 X G G' → S G' r z → Runs P ops Q N X w0 G' rest ((d, r) :: l) (L.set k (B z))) : Runs P ops Q N X w0 G (⟨some d, .call ⟨.value (.func f), xs.toArray, ats⟩, ty, pos, after, gd⟩ :: rest) l L := by
  refine Runs.step hw (fun a w hS => ?_)
  show Oper.upon P _ a _ Q _
  rw [run_call hS.fr hv hf, Oper.upon_enter]
  obtain ⟨F, hA, hsub, hput⟩ := hS.mem.sep.takeU hL
  refine (hc w F hS.mem.has hA (fun b hb => (hsub b hb).2)).mono (fun e w' hR => ?_)
  cases e with
  | returned r =>
    obtain ⟨G', z, hn, hh, hr, hs, F', hB, hF', hFG'⟩ := hR
    have hn' : GNew w0 X G G' := ⟨hn.le, fun b h1 h2 => by
      rcases hn.new b h1 h2 with h3 | h3
      · exact .inl (Nat.le_trans hS.mem.since.size h3)
      · exact (hsub b h3).1⟩
    refine h G' r z hn' hr _ _ ⟨hS.fr.put (by simpa using hd) _, ?_, hh, ?_⟩
    · refine ⟨hs.os.trans hS.mem.since.os, hs.tape.trans hS.mem.since.tape, hs.output.trans hS.mem.since.output, Nat.le_trans hS.mem.since.size hs.size, fun i hi hx => ?_⟩
      rw [hs.block i (Nat.lt_of_lt_of_le hi hS.mem.since.size) (fun hf => Or.elim (hsub i hf).1 (fun h1 => by omega) (fun h1 => hx h1))]
      exact hS.mem.since.block i hi hx
    · refine hput (fun b => (w0.heap.size ≤ b ∨ X b) ∧ G' b = none) w' (B z) F' (fun b hb hu hf => ⟨hu.1, ?_⟩) hB (fun b hb => ⟨⟨?_, hFG' b hb⟩, hF' b hb⟩) (fun b hb _ hf => hs.block b hb hf)
      · cases e : G' b with
        | none => rfl
        | some o => rcases hn.new b hu.2 (by rw [e]; simp) with h3 | h3
                    · omega
                    · exact (hf h3).elim
      · rcases hF' b hb with h1 | h1
        · exact (hsub b h1).1
        · exact .inl (Nat.le_trans hS.mem.since.size h1)
  | panicked c => exact hR.elim
  | outgrown => exact hR.elim
end

section
variable {P : Program} {ops : Array Oper} {Q : Exit → Act → World → Prop} {N : Nat} {X : Nat → Prop} {w0 : World} {G : Ghost} {l : List (Nat × Value)} {L : List Asrt}
variable {rest : List Oper} {d : Nat} {ty : TypeId} {pos : String} {after : Array Edge} {gd : Option (Nat × Bool)} {x y : Operand} {v u : Value}
/-- An assertion is told in other words. -/
theorem r_conv {k : Nat} {A B : Asrt} (hL : L[k]? = some A) (hI : ∀ w F, A.holds w F → B.holds w F) (h : Runs P ops Q N X w0 G rest l (L.set k B)) : Runs P ops Q N X w0 G rest l L := by
  intro a w hS
  obtain ⟨F, hA, _, hput⟩ := hS.mem.take hL
  exact h a w ⟨hS.fr, hput w B F (Since.refl _ _) (hI w F hA) (fun b hb => .inl hb)⟩

/-- append(out, xs...): xs is a row of the call's own, too. -/
theorem r_append_o {T E : TypeId} {sz n m bytes k k2 : Nat} {zv : Value} {xs ys : List Value} (hw : Wt ops l gd) (hd : Nat.blt d N = true) (hT : P.underlying T = some (.slice E)) (hE : ElemIs P E sz bytes zv) (hz : zv.cells.size = sz) (hsz : 0 < sz)
    (hx : ev l x = some v) (hL : L[k]? = some (rowA v E sz n xs)) (hy : ev l y = some u) (hL2 : L[k2]? = some (rowA u E sz m ys)) (h1 : ∀ z ∈ ys, z.oneCell' = true) (h63 : n + m ≤ maxLen) (hbytes : (n + m) * bytes ≤ 140737488355328)
    (h : ∀ v', Runs P ops Q N X w0 G rest ((d, v') :: l) (L.set k (rowA v' E sz (n + m) (xs ++ ys)))) : Runs P ops Q N X w0 G (⟨some d, .call ⟨.builtin .append, #[x, y], #[T, T]⟩, ty, pos, after, gd⟩ :: rest) l L := by
  obtain ⟨i0, hi0, _, hs0, _⟩ := hE.info
  refine Runs.step hw (fun ac w hS => ?_)
  show Oper.upon P _ ac _ Q _
  obtain ⟨F2, hB, _⟩ := hS.mem.take hL2
  have hB' := hB
  obtain ⟨⟨hlen, hown⟩, _, _⟩ := hB
  rcases hown with ⟨rfl, rfl⟩ | ⟨g, cap, cur, rfl, _, hg, hn, hm, hcs, htk⟩
  · have hys : ys = [] := List.eq_nil_of_length_eq_zero (by simpa using hlen)
    subst hys
    have hsz' : SzIs P E sz := by simp [SzIs, hi0, hs0]
    have h' := h v
    simp only [Nat.add_zero, List.append_nil, set_self hL] at h'
    have hr := p_append_nil (P := P) (N := N) (X := X) (w0 := w0) (G := G) (ty := ty) (pos := pos) (after := after) (gd := gd) (d := d) (c := 0) hT hsz' hx hL hy ac w hS
    rw [hr, Oper.upon_value]
    exact h' _ _ ⟨hS.fr.put (by simpa using hd) v, hS.mem⟩
  · obtain ⟨v', w', hr, hS'⟩ := append_end (ty := ty) (pos := pos) (after := after) (gd := gd) (d := d) (news := ys) hT hE hz hsz hS hL hx hy hlen
      (fun j z hj => by
        have hj2 : j < m * sz := by
          have h5 : j < ys.length := by
            rcases Nat.lt_or_ge j ys.length with h6 | h6
            · exact h6
            · rw [List.getElem?_eq_none h6] at hj; cases hj
          omega
        have h7 := rowA_cell hB' rfl hj2
        rw [addr_add, Nat.zero_add, h7]
        simp [List.getD, hj])
      h1 h63 hbytes hd
    rw [hr, Oper.upon_value]
    exact h v' _ _ hS'
end

/-- A row of a call's own goes out and stays as it is. -/
theorem row_mem {w w' : World} {G : Ghost} {r : Value} {E sz n : Nat} {xs : List Value} (hG : Has G w) (h : Since nX w w' ∧ ∃ F', (rowA r E sz n xs).holds w' F' ∧ ∀ b, F' b → w.heap.size ≤ b) :
    ∃ G', GNew w nX G G' ∧ Has G' w' ∧ SlG G' r n sz (fun i j => xs.getD (i * sz + j) undef) ∧ Since nX w w' := by
  obtain ⟨hs, F', hB, hF⟩ := h
  have h1 : Mem nX w G w [] := ⟨Since.refl _ _, hG, trivial⟩
  have h2 := h1.call hs
  have hm : Mem nX w G w' [rowA r E sz n xs] := ⟨h2.since, h2.has, F', hB, fun b hb => ⟨.inl (hF b hb), hG.fresh (hF b hb)⟩, trivial⟩
  obtain ⟨G', h3, h4, h5⟩ := hm.freeze (k := 0) rfl
  exact ⟨G', h3, h5.has, h4, hs⟩

theorem Mem.pack {X : Nat → Prop} {w0 w : World} {G : Ghost} {Ls L : List Asrt} (h : Mem X w0 G w (Ls ++ L)) : Mem X w0 G w (starL Ls :: L) := by
  obtain ⟨F, h1, h2, h3⟩ := Sep.packL Ls h.sep
  exact ⟨h.since, h.has, F, h1, h2, h3⟩

/-! ### slices of slices -/
section
variable {α : Type}
/-- The cells of an element that is a slice. -/
def lC (p : α × Value) : List Value := [p.2]
/-- The value v is a slice of slices, of which each is what T says. -/
def Ls (T : Ghost → Value → α → Prop) (e : α) (G : Ghost) (v : Value) (l : List α) : Prop := ∃ rs : List (α × Value), SlL G v 1 lC (e, .slice none 0 0) rs ∧ (∀ p ∈ rs, T G p.2 p.1) ∧ l = rs.map Prod.fst
theorem Ls.mk {T : Ghost → Value → α → Prop} {e : α} {G : Ghost} {v : Value} (rs : List (α × Value)) (h : SlL G v 1 lC (e, .slice none 0 0) rs) (hp : ∀ p ∈ rs, T G p.2 p.1) : Ls T e G v (rs.map Prod.fst) := ⟨rs, h, hp, rfl⟩

/-- A variable that holds a row of slices. -/
def outA (T E : TypeId) (p : Nat) (rs : List (α × Value)) : Asrt := exA fun v : Value => starL [box p 1 T (at_ [v]), rowA v E 1 rs.length (rs.flatMap lC)]

section
variable {P : Program} {ops : Array Oper} {Q : Exit → Act → World → Prop} {N : Nat} {X : Nat → Prop} {w0 : World} {G : Ghost} {l : List (Nat × Value)} {L : List Asrt}
variable {rest : List Oper} {T E p : Nat} {rs : List (α × Value)}
theorem r_packout {v : Value} {f : Nat → Value} {n : Nat} {xs : List Value} (hf : f 0 = v) (hn : n = rs.length) (hx : xs = rs.flatMap lC) (h : Runs P ops Q N X w0 G rest l (outA T E p rs :: L)) : Runs P ops Q N X w0 G rest l (rowA v E 1 n xs :: box p 1 T f :: L) := by
  intro a w hS
  subst hn; subst hx
  have h1 : Mem X w0 G w (box p 1 T f :: rowA v E 1 rs.length (rs.flatMap lC) :: L) := by
    obtain ⟨hs, hh, F1, h1, hU1, F2, h2, hU2, hL⟩ := hS.mem
    exact ⟨hs, hh, F2, h2, fun b hb => (hU2 b hb).1, F1, h1, fun b hb => ⟨hU1 b hb, fun h3 => (hU2 b h3).2 hb⟩, hL.mono (fun b _ hb => ⟨⟨hb.1.1, hb.2⟩, hb.1.2⟩)⟩
  have h2 : Mem X w0 G w (box p 1 T (at_ [v]) :: rowA v E 1 rs.length (rs.flatMap lC) :: L) := by
    obtain ⟨hs, hh, F1, h1, hr⟩ := h1
    exact ⟨hs, hh, F1, box_congr (fun i hi => by match i, hi with | 0, _ => exact hf) _ _ h1, hr⟩
  obtain ⟨hs, hh, F, h3, hr⟩ := Mem.pack (Ls := [box p 1 T (at_ [v]), rowA v E 1 rs.length (rs.flatMap lC)]) (L := L) h2
  exact h a w ⟨hS.fr, hs, hh, F, ⟨v, h3⟩, hr⟩
theorem r_unpackout (h : ∀ v : Value, Runs P ops Q N X w0 G rest l (box p 1 T (at_ [v]) :: rowA v E 1 rs.length (rs.flatMap lC) :: L)) : Runs P ops Q N X w0 G rest l (outA T E p rs :: L) := by
  intro a w hS
  obtain ⟨hs, hh, F, ⟨v, h3⟩, hr⟩ := hS.mem
  exact h v a w ⟨hS.fr, Mem.unpack (Ls := [box p 1 T (at_ [v]), rowA v E 1 rs.length (rs.flatMap lC)]) ⟨hs, hh, F, h3, hr⟩⟩
end
end
end Go.Gx

/- Plain laws of chains of conditions; no program in sight. -/
namespace Go.Gx
theorem RowAt.congr {G : Ghost} {b o n : Nat} {f g : Nat → Value} (h : RowAt G b o n f) (e : ∀ i, i < n → f i = g i) : RowAt G b o n g := by
  obtain ⟨c, T, fr, h1, h2⟩ := h
  exact ⟨c, T, fr, h1, fun j hj => by rw [h2 j hj, e j hj]⟩
end Go.Gx
namespace Go.Gx.T6
open Go.Gx Go.Gx.T3 Go.Gx.T4 Go.Gx.T8

theorem cv_ones {G : Ghost} {rs : List (CT × Value)} (hp : ∀ p ∈ rs, Cs G p.2 p.1.subs) : ∀ i, i < rs.length → ∀ j, j < 8 → (at_ (cvC (rs.getD i d0)) j).oneCell' = true := by
  intro i hi j hj
  have h := (hp _ (getD_mem (d := d0) hi)).one
  match j, hj with
  | 0, _ => rfl
  | 1, _ => rfl
  | 2, _ => rfl
  | 3, _ => rfl
  | 4, _ => rfl
  | 5, _ => rfl
  | 6, _ => rfl
  | 7, _ => exact h
theorem nil_rs {α : Type} {G : Ghost} {n c : Nat} {sz : Nat} {cells : α → List Value} {e : α} {rs : List α} (h : SlL G (.slice none n c) sz cells e rs) : rs = [] := by
  obtain ⟨a, cap, e1, _, h2⟩ := h
  simp only [Value.slice.injEq] at e1
  obtain ⟨rfl, _⟩ := e1
  rcases rs with _ | ⟨x, t⟩
  · rfl
  · obtain ⟨_, _, e3, _⟩ := h2 (by simp)
    cases e3

theorem Tr.slg {α : Type} {subs : α → List α} {cf : α × Value → List Value} {sz : Nat} {d : α × Value} {G : Ghost} {v : Value} {l : List α} (h : Tr subs cf sz d G v l) : ∃ f, SlG G v l.length sz f := by
  obtain ⟨rs, hr, _, rfl⟩ := h.inv
  exact ⟨_, by rw [List.length_map]; exact hr⟩

mutual
/-- The chains of what stands in a condition, and its own. -/
def chain1 : List CT → CT → List (List CT)
  | ah, .mk h l => (if h.k = 3 then chains ah l else []) ++ [ah ++ [.mk h l]]
/-- The chains of conditions behind a beginning. -/
def chains : List CT → List CT → List (List CT)
  | _, [] => []
  | ah, c :: t => chain1 ah c ++ chains (ah ++ [c]) t
end
theorem chain1_ncc {ah : List CT} {c : CT} (h : c.h.k = 3) : chain1 ah c = chains ah c.subs ++ [ah ++ [c]] := by
  cases c with | mk hd l => have h' : hd.k = 3 := h; rw [chain1, if_pos h']; rfl
theorem chain1_other {ah : List CT} {c : CT} (h : c.h.k ≠ 3) : chain1 ah c = [ah ++ [c]] := by
  cases c with | mk hd l => have h' : hd.k ≠ 3 := h; rw [chain1, if_neg h']; rfl
theorem chains_append (a b : List CT) : ∀ ah, chains ah (a ++ b) = chains ah a ++ chains (ah ++ a) b := by
  induction a with
  | nil => intro ah; simp [chains]
  | cons c t ih => intro ah; simp [chains, ih]
theorem chains_take {rs : List (CT × Value)} {k : Nat} {ah : List CT} (hk : k < rs.length) : chains ah ((rs.map Prod.fst).take (k + 1)) = chains ah ((rs.map Prod.fst).take k) ++ chain1 (ah ++ (rs.map Prod.fst).take k) (rs.getD k d0).1 := by
  rw [map_take (d := d0) hk, chains_append]; simp [chains]
mutual
theorem chain1_len : ∀ (c : CT) (ah : List CT), (chain1 ah c).length ≤ size c
  | .mk h l, ah => by
    have := chains_len l ah
    rw [chain1, size]
    split <;> simp <;> omega
theorem chains_len : ∀ (l : List CT) (ah : List CT), (chains ah l).length ≤ sizeL l
  | [], _ => by simp [chains, sizeL]
  | c :: t, ah => by
    have h1 := chain1_len c ah
    have h2 := chains_len t (ah ++ [c])
    rw [chains, sizeL, List.length_append]; omega
end
/-- A part of them, and what is behind. -/
theorem chains_take_le (ah : List CT) (rs : List (CT × Value)) (k : Nat) : (chains ah ((rs.map Prod.fst).take k)).length ≤ sizeL ((rs.map Prod.fst).take k) := chains_len _ _

theorem sub_size {rs : List (CT × Value)} {k : Nat} (hk : k < rs.length) : SizeOf.sizeOf (rs.getD k d0).1.subs < SizeOf.sizeOf (rs.map Prod.fst) := by
  have h1 : (rs.getD k d0).1 ∈ rs.map Prod.fst := List.mem_map.2 ⟨_, getD_mem hk, rfl⟩
  have h2 := List.sizeOf_lt_of_mem h1
  have h3 := size_subs (rs.getD k d0).1
  omega
/-- What is known of the chains that were found: each is a slice of conditions. -/
abbrev ChC (G : Ghost) (z : List (List CT × Value)) : Prop := ∀ q ∈ z, Cs G q.2 q.1
theorem ChC.mono {G G' : Ghost} {z : List (List CT × Value)} (h : ChC G z) (hle : GLe G G') : ChC G' z := fun q hq => (h q hq).mono hle
theorem ChC.snoc {G : Ghost} {z : List (List CT × Value)} {v : Value} {l : List CT} (h : ChC G z) (hl : Cs G v l) : ChC G (z ++ [(l, v)]) := fun q hq => by
  rcases List.mem_append.1 hq with h1 | h1
  · exact h q h1
  · rw [List.mem_singleton.1 h1]; exact hl

/-! ### alike -/
def hEq (a b : Hd) : Bool := decide (a.k = b.k) && csEq [.bool a.v0, .int .i64 a.n0, .bool a.v1, .int .i64 a.n1, .bool a.v2, .int .i64 a.n2] [.bool b.v0, .int .i64 b.n0, .bool b.v1, .int .i64 b.n1, .bool b.v2, .int .i64 b.n2]
theorem hEq_r (a b : Hd) : csEq [.int .i64 (vi a.v0), .int .i64 a.n0, .int .i64 (vi a.v1), .int .i64 a.n1, .int .i64 (vi a.v2), .int .i64 a.n2] [.int .i64 (vi b.v0), .int .i64 b.n0, .int .i64 (vi b.v1), .int .i64 b.n1, .int .i64 (vi b.v2), .int .i64 b.n2] = csEq [.bool a.v0, .int .i64 a.n0, .bool a.v1, .int .i64 a.n1, .bool a.v2, .int .i64 a.n2] [.bool b.v0, .int .i64 b.n0, .bool b.v1, .int .i64 b.n1, .bool b.v2, .int .i64 b.n2] := by
  cases a.v0 <;> cases a.v1 <;> cases a.v2 <;> cases b.v0 <;> cases b.v1 <;> cases b.v2 <;> simp [csEq, cEq, vi]
def hRb (a b : Hd) : Bool := csEq [.int .i64 (vi a.v0), .int .i64 a.n0, .int .i64 (vi a.v1), .int .i64 a.n1, .int .i64 (vi a.v2), .int .i64 a.n2] [.int .i64 (vi b.v0), .int .i64 b.n0, .int .i64 (vi b.v1), .int .i64 b.n1, .int .i64 (vi b.v2), .int .i64 b.n2]
theorem hEq_rb (a b : Hd) : hEq a b = (decide (a.k = b.k) && hRb a b) := by unfold hEq hRb; rw [hEq_r]
theorem hEq_iff (a b : Hd) : hEq a b = true ↔ a = b := by
  obtain ⟨a0, a1, a2, a3, a4, a5, a6⟩ := a
  obtain ⟨b0, b1, b2, b3, b4, b5, b6⟩ := b
  simp [hEq, csEq, cEq]
mutual
def ceq : CT → CT → Bool
  | .mk h l, .mk h' l' => hEq h h' && ceqL l l'
def ceqL : List CT → List CT → Bool
  | [], [] => true
  | c :: t, c' :: t' => ceq c c' && ceqL t t'
  | _, _ => false
end
theorem ceq_eq (a b : CT) : ceq a b = (hEq a.h b.h && ceqL a.subs b.subs) := by cases a; cases b; rw [ceq]; rfl
theorem ceqL_len : ∀ {l l' : List CT}, l.length ≠ l'.length → ceqL l l' = false
  | [], [], h => absurd rfl h
  | [], _ :: _, _ => by simp [ceqL]
  | _ :: _, [], _ => by simp [ceqL]
  | c :: t, c' :: t', h => by rw [ceqL, ceqL_len (by simpa using h), Bool.and_false]
theorem ceq_no {c c2 : CT} (h : (¬ c.h.k = c2.h.k ∨ hRb c.h c2.h = false) ∨ ¬ c.subs.length = c2.subs.length) : ceq c c2 = false := by
  rw [ceq_eq, hEq_rb]
  rcases h with (h | h) | h
  · rw [decide_eq_false h]; rfl
  · rw [h, Bool.and_false]; rfl
  · rw [ceqL_len h, Bool.and_false]
theorem ceq_sub {c c2 : CT} (h : c.h.k = c2.h.k ∧ hRb c.h c2.h = true) : ceq c c2 = ceqL c.subs c2.subs := by
  rw [ceq_eq, hEq_rb, decide_eq_true h.1, h.2]; rfl
theorem ceqL_no {rs rs2 : List (CT × Value)} {k : Nat} (h1 : k < rs.length) (h2 : k < rs2.length) (h : ceq (rs.getD k d0).1 (rs2.getD k d0).1 = false) : ceqL ((rs.map Prod.fst).drop k) ((rs2.map Prod.fst).drop k) = false := by
  rw [map_drop (d := d0) h1, map_drop (d := d0) h2, ceqL, h, Bool.false_and]
theorem ceqL_yes {rs rs2 : List (CT × Value)} {k : Nat} (h1 : k < rs.length) (h2 : k < rs2.length) (h : ceq (rs.getD k d0).1 (rs2.getD k d0).1 = true) : ceqL ((rs.map Prod.fst).drop (k + 1)) ((rs2.map Prod.fst).drop (k + 1)) = ceqL ((rs.map Prod.fst).drop k) ((rs2.map Prod.fst).drop k) := by
  rw [map_drop (d := d0) h1, map_drop (d := d0) h2, ceqL, h, Bool.true_and]
mutual
theorem ceq_iff : ∀ (a b : CT), ceq a b = true ↔ a = b
  | .mk h l, .mk h' l' => by
    rw [ceq, Bool.and_eq_true, hEq_iff, ceqL_iff l l']
    simp
theorem ceqL_iff : ∀ (l l' : List CT), ceqL l l' = true ↔ l = l'
  | [], [] => by simp [ceqL]
  | [], _ :: _ => by simp [ceqL]
  | _ :: _, [] => by simp [ceqL]
  | c :: t, c' :: t' => by
    rw [ceqL, Bool.and_eq_true, ceq_iff c c', ceqL_iff t t']
    simp
end
/-- The chains that conditions end themselves. -/
def ownC (l : List CT) : List Int := (List.range l.length).map fun i => (sizeL (l.take (i + 1)) : Int) - 1
def ownCTo (l : List CT) (k : Nat) : List Int := (List.range k).map fun i => (sizeL (l.take (i + 1)) : Int) - 1
theorem ownCTo_succ (l : List CT) (k : Nat) : ownCTo l (k + 1) = ownCTo l k ++ [(sizeL (l.take (k + 1)) : Int) - 1] := by simp [ownCTo, List.range_succ]
theorem ownCTo_len (l : List CT) (k : Nat) : (ownCTo l k).length = k := by simp [ownCTo]
theorem rv_one1 {G : Ghost} {z : List (List CT × Value)} (hz : ∀ q ∈ z, Rs G q.2 q.1) : ∀ i, i < z.length → ∀ j, j < 1 → (at_ (lC (z.getD i ([], .slice none 0 0))) j).oneCell' = true := by
  intro i hi j hj
  have h := (hz _ (getD_mem (d := ([], .slice none 0 0)) hi)).one
  match j, hj with
  | 0, _ => exact h
theorem rv_all {G : Ghost} {rs : List (CT × Value)} (hp : ∀ p ∈ rs, Rs G p.2 p.1.subs) : ∀ u ∈ rs.flatMap rvC, u.oneCell' = true := by
  intro u hu
  obtain ⟨p, h1, h2⟩ := List.mem_flatMap.1 hu
  have h3 := (hp p h1).one
  simp only [rvC, List.mem_cons, List.not_mem_nil, or_false] at h2
  rcases h2 with rfl | rfl | rfl | rfl | rfl | rfl | rfl | rfl
  all_goals first | rfl | exact h3
abbrev RhC (G : Ghost) (z : List (List CT × Value)) : Prop := ∀ q ∈ z, Rs G q.2 q.1
theorem RhC.mono {G G' : Ghost} {z : List (List CT × Value)} (h : RhC G z) (hle : GLe G G') : RhC G' z := fun q hq => (h q hq).mono hle
theorem RhC.snoc {G : Ghost} {z : List (List CT × Value)} {v : Value} {l : List CT} (h : RhC G z) (hl : Rs G v l) : RhC G (z ++ [(l, v)]) := fun q hq => by
  rcases List.mem_append.1 hq with h1 | h1
  · exact h q h1
  · rw [List.mem_singleton.1 h1]; exact hl
theorem RhC.app {G : Ghost} {z z' : List (List CT × Value)} (h : RhC G z) (h' : RhC G z') : RhC G (z ++ z') := fun q hq => by
  rcases List.mem_append.1 hq with h1 | h1
  · exact h q h1
  · exact h' q h1
end Go.Gx.T6

/- Walks: what Go functions of this chapter come to, each as a function on plain data; no condition but those that each theorem names. Printed by a program of this work (gen.py). -/
namespace Go.Proofs.Ytoflaphnlfggkaa
open Go.Gx Go.Gx.T4 Go.Gx.T3 Go.Gx.T6 Go.Gx.T8 Go.Gx.T4 Go.Gx.T3 Go.Gx.T8 Go.Gx.T4 Go.Gx.T3
theorem el38 : ElemIs Try.prog 38 8 80 (Value.agg #[Value.int .i64 0, Value.bool false, Value.int .i64 0, Value.bool false, Value.int .i64 0, Value.bool false, Value.int .i64 0, Value.slice none 0 0]) := by
  unfold ElemIs
  kernel_rfl
theorem c_cloneC_a (a : Option Addr) (cap : Nat) (rs : List (CT × Value)) {G : Ghost} (hr : SlL G (Value.slice a rs.length cap) 8 cvC d0 rs) (hlen : rs.length ≤ 1000) (hp : ∀ p ∈ rs, Cs G p.2 p.1.subs) (w : World) (hG : Has G w) :
    Calls Try.prog 44 #[Value.slice a rs.length cap] w (Ret fun r w' => Since nX w w' ∧ ∃ F', (rowA r 38 8 (rs).length ((rs).flatMap cvC)).holds w' F' ∧ ∀ b, F' b → w.heap.size ≤ b) := by
  refine enter (args := [_]) (X := nX) (G := G) (l := [(0, Value.slice a rs.length cap)]) Try.func44 rfl Try.ntmps44 hG ⟨rfl, trivial⟩ (Nat.le_of_ble_eq_true rfl) ?_
  refine c_seq ?_
  refine c_region ?_
  refine r_val .none rfl (p_assign rfl) ?_
  refine r_nil ?_
  refine e_next ?_
  refine c_seq ?_
  refine c_seq ?_
  refine c_region ?_
  refine r_val .none rfl (p_move rfl) ?_
  refine r_val .none rfl (p_eqnil Try.underlying22 rfl rfl) ?_
  refine r_nil ?_
  refine e_next ?_
  refine c_split (d := 4) rfl (fun h_1 => ?_) (fun h_1 => ?_)
  · skip
    have hrs : rs = [] := by cases a with | none => exact nil_rs hr | some x => cases h_1
    refine c_cond_t rfl ?_
    refine c_seq ?_
    refine c_region ?_
    refine r_val .none rfl (p_assign rfl) ?_
    refine r_nilrow 38 8 ?_
    refine r_nil ?_
    refine e_next ?_
    refine c_ret ?_
    refine e_ret_then ?_
    refine e_ret1 Try.results44 (.tmp rfl .nil) (fun w hm => hm.made [rowA (.slice none 0 0) 38 8 (rs).length ((rs).flatMap cvC)] (.keep (fun _ _ h => rowA_congr (by rw [hrs]; rfl) (by rw [hrs]; rfl) _ _ h) (.nil)) _ (fun F' h => starL_one h))
  · skip
    refine c_cond_f rfl ?_
    refine c_skip ?_
    refine e_next ?_
    refine c_seq ?_
    refine c_region ?_
    refine r_bslice0 .none rfl Try.underlying22 el38 (fun v_2 => ?_)
    refine r_val .none rfl (p_move rfl) ?_
    refine r_append_g (k := 0) .none rfl Try.underlying22 el38 rfl (by decide) rfl rfl rfl hr (fun _ hi _ hj => cv_ones hp _ hi _ hj) (by simp only [maxLen]; omega) (by omega) (fun v_3 => ?_)
    refine r_row1 (k := 0) rfl (fun o_4 => ?_)
    refine r_val .none rfl (p_assign rfl) ?_
    refine r_nil ?_
    refine e_next ?_
    refine c_ret ?_
    refine e_ret1 Try.results44 (.tmp rfl .nil) (fun w hm => hm.made [rowA v_3 38 8 (rs).length ((rs).flatMap cvC)] (.keep (fun _ _ h => rowA_congr (by omega) (by rw [flat_all (cells := cvC) (fun _ => rfl)]; rfl) _ _ h) (.nil)) _ (fun F' h => starL_one h))
theorem c_cloneC (v : Value) (rs : List (CT × Value)) {G : Ghost} (hr : SlL G v 8 cvC d0 rs) (hlen : rs.length ≤ 1000) (hp : ∀ p ∈ rs, Cs G p.2 p.1.subs) (w : World) (hG : Has G w) : Calls Try.prog 44 #[v] w (Ret fun r w' => Since nX w w' ∧ ∃ F', (rowA r 38 8 (rs).length ((rs).flatMap cvC)).holds w' F' ∧ ∀ b, F' b → w.heap.size ≤ b) := by
  obtain ⟨a, cap, rfl⟩ := SlG.len hr
  exact c_cloneC_a a cap rs hr hlen hp w hG
theorem c_cloneCM (v : Value) (rs : List (CT × Value)) {G : Ghost} (hr : SlL G v 8 cvC d0 rs) (hlen : rs.length ≤ 1000) (hp : ∀ p ∈ rs, Cs G p.2 p.1.subs) (w : World) (hG : Has G w) : Calls Try.prog 44 #[v] w (Ret fun r w' => ∃ G2, GNew w nX G G2 ∧ Has G2 w' ∧ SlL G2 r 8 cvC d0 rs ∧ Since nX w w') := by
  refine (c_cloneC v rs hr hlen hp w hG).mono (fun e w' hR => ?_)
  cases e with
  | returned r =>
    obtain ⟨G2, h1, h2, h3, h4⟩ := row_mem hG hR
    exact ⟨G2, h1, h2, SlL.of d0 (fun _ => rfl) rfl h3, h4⟩
  | panicked c => exact hR.elim
  | outgrown => exact hR.elim
end Go.Proofs.Ytoflaphnlfggkaa

/- Walks: what Go functions of this chapter come to, each as a function on plain data; no condition but those that each theorem names. Printed by a program of this work (gen.py). -/
namespace Go.Proofs.Ytoflaphnlfggkaa
open Go.Gx Go.Gx.T4 Go.Gx.T3 Go.Gx.T6 Go.Gx.T8 Go.Gx.T4 Go.Gx.T3 Go.Gx.T8 Go.Gx.T4 Go.Gx.T3
theorem sz25 : SzIs Try.prog 25 1 := by
  unfold SzIs
  kernel_rfl
theorem zr25 : ZeroIs Try.prog 25 (Value.slice none 0 0) := by
  unfold ZeroIs
  kernel_rfl
theorem cl42 : Callable Try.prog 42 := callable Try.func42 (by kernel_rfl) rfl
theorem cl43 : Callable Try.prog 43 := callable Try.func43 (by kernel_rfl) rfl
theorem cl44 : Callable Try.prog 44 := callable Try.func44 (by kernel_rfl) rfl
theorem bs22_10s3 (a0 : Option Addr) (a1 a2 : Nat) : Instr.fill (fun i => some (i * 1, 1)) ((Array.range (1 * 1)).map ((Value.slice none 0 0).cells[· % (Value.slice none 0 0).cells.size]!)) [(0, Value.slice a0 a1 a2)] = some #[Value.slice a0 a1 a2] := by
  kernel_rfl
theorem bs38_10a8 (a0 a1 a2 a3 a4 a5 a6 a7 : Value) : Instr.fill (fun i => some (i * 8, 8)) ((Array.range (1 * 8)).map ((Value.agg #[Value.int .i64 0, Value.bool false, Value.int .i64 0, Value.bool false, Value.int .i64 0, Value.bool false, Value.int .i64 0, Value.slice none 0 0]).cells[· % (Value.agg #[Value.int .i64 0, Value.bool false, Value.int .i64 0, Value.bool false, Value.int .i64 0, Value.bool false, Value.int .i64 0, Value.slice none 0 0]).cells.size]!)) [(0, Value.agg #[a0, a1, a2, a3, a4, a5, a6, a7])] = some #[a0, a1, a2, a3, a4, a5, a6, a7] := by
  kernel_rfl
theorem el22 : ElemIs Try.prog 22 1 24 (Value.slice none 0 0) := by
  unfold ElemIs
  kernel_rfl
def GrowIs (n : Nat) : Prop := ∀ (va vl : Value) (ah l : List CT) (p : Nat) (z0 : List (List CT × Value)) (G : Ghost) (F : Nat → Prop) (w : World), SizeOf.sizeOf l ≤ n → ah.length + sizeL l ≤ 1000 → z0.length + sizeL l ≤ 3000 → Cs G va ah → Cs G vl l → ChC G z0 → Has G w → (outA 25 22 p (z0)).holds w F → (∀ b, F b → G b = none) → Calls Try.prog 42 #[va, vl, Value.func (.func 43) #[] #[.pointer (some ⟨p, 0, none⟩)]] w (Ret fun r w' => ∃ G' z', GNew w F G G' ∧ Has G' w' ∧ (r = .tuple #[] ∧ z'.map Prod.fst = z0.map Prod.fst ++ chains ah l ∧ ChC G' z') ∧ KeptG (outA 25 22 p (z')) F G' w w')
theorem c_ch1 (v : Value) (es : List (CT × Value)) (p : Nat) (z : List (List CT × Value)) {G : Ghost} {F : Nat → Prop} (hr : SlL G v 8 cvC d0 es) (hp : ∀ p ∈ es, Cs G p.2 p.1.subs) (hla : es.length ≤ 1000) (hlz : z.length ≤ 3000) (hz : ChC G z) (w : World) (hG : Has G w) (hA : (outA 25 22 p (z)).holds w F) (hFG : ∀ b, F b → G b = none) :
    Calls Try.prog 43 #[v, Value.pointer (some ⟨p, 0, none⟩)] w (Ret fun r w' => ∃ G' z', GNew w F G G' ∧ Has G' w' ∧ (r = .tuple #[] ∧ z'.map Prod.fst = z.map Prod.fst ++ [es.map Prod.fst] ∧ ChC G' z') ∧ KeptG (outA 25 22 p (z')) F G' w w') := by
  refine enterO (args := [_, _]) (G := G) (A := outA 25 22 p (z)) (l := [(0, v), (1, Value.pointer (some ⟨p, 0, none⟩))]) Try.func43 rfl Try.ntmps43 hG hA hFG ⟨rfl, rfl, trivial⟩ (Nat.le_of_ble_eq_true rfl) ?_
  refine c_unex (fun ov => ?_)
  refine c_unpack ?_
  refine c_row1 (k := 1) rfl (fun o1 => ?_)
  refine c_region_d (fun j => [4, 5].contains j) _ mixed (.keep (fun _ _ h => h) (.keep (fun _ _ h => h) (.nil))) ?_
  refine d_val1 0 rfl rfl (by kernel_rfl) (fun j hj => by have h : 5 < j := (Nat.lt_of_lt_of_le (by decide : 5 < 6) hj); simp; omega) .none rfl (p_ld (k := 0) Try.underlying25 rfl rfl rfl (by first | exact of_decide_eq_true rfl | omega) rfl) ?_
  refine d_val1 1 rfl rfl (by kernel_rfl) (fun j hj => by have h : 5 < j := (Nat.lt_of_lt_of_le (by decide : 5 < 6) hj); simp; omega) .none rfl (p_move rfl) ?_
  refine d_eff 2 rfl (by kernel_rfl) (fun K_1 hKK_1 hcK_1 => ?_)
  refine r_callm (vs := [_]) .none rfl cl44 rfl (fun w hw => c_cloneCM _ es hr hla hp w hw) (fun G_2 v_5 hn_3 hr_4 => ?_)
  replace hr := hr.mono hn_3.le
  replace hp := fun p hm0 => (hp p hm0).mono hn_3.le
  replace hz := ChC.mono hz hn_3.le
  have u_6 := hr_4
  refine r_nil (e_d (i := 2) (brk := (fun j => [4, 5].contains j)) (ph' := true) hKK_1 hcK_1 rfl (fun _ => hn_3.le) (fun _ => .keep (fun _ _ h => h) (.keep (fun _ _ h => h) (.nil))) ?_)
  clear hKK_1 hcK_1 K_1
  obtain ⟨a_7, c_8, rfl⟩ := SlG.len u_6
  refine d_eff 3 rfl (by kernel_rfl) (fun K_9 hKK_9 hcK_9 => ?_)
  refine r_bslice (vs := [(0, Value.slice _ _ _)]) (c := #[_]) .none rfl Try.underlying25 el22 rfl rfl rfl (bs22_10s3 _ _ _) (IsRow.lit _) (fun b_1 => ?_)
  refine r_nil (e_d (i := 3) (brk := (fun j => [4, 5].contains j)) (ph' := true) hKK_9 hcK_9 rfl (fun _ => hn_3.le) (fun _ => .drop (.keep (fun _ _ h => h) (.keep (fun _ _ h => h) (.nil)))) ?_)
  clear hKK_9 hcK_9 K_9
  refine d_eff 4 rfl (by kernel_rfl) (fun K_10 hKK_10 hcK_10 => ?_)
  refine r_append (k := 2) (k2 := 0) .none rfl Try.underlying25 el22 rfl (by decide) rfl rfl rfl rfl rfl (one_lit rfl rfl) (by simp only [maxLen]; omega) (by omega) (fun v_11 => ?_)
  refine r_row1 (k := 2) rfl (fun o_12 => ?_)
  refine r_nil (e_d (i := 4) (brk := (fun j => [4, 5].contains j)) (ph' := false) hKK_10 hcK_10 rfl (fun h => by cases h) (fun h => by cases h) ?_)
  clear hKK_10 hcK_10 K_10
  refine d_eff 5 rfl (by kernel_rfl) (fun K_13 hKK_13 hcK_13 => ?_)
  refine r_st (k := 1) .none sz25 rfl rfl o_12 rfl (by first | exact of_decide_eq_true rfl | omega) ?_
  refine r_nil (e_d (i := 5) (brk := (fun j => [4, 5].contains j)) (ph' := false) hKK_13 hcK_13 rfl (fun h => by cases h) (fun h => by cases h) ?_)
  clear hKK_13 hcK_13 K_13
  refine d_nil (by kernel_rfl) ?_
  refine e_end0 Try.results43 (fun w hm => ⟨_, (z ++ [(es.map Prod.fst, (Value.slice a_7 es.length c_8))]), hn_3, hm.has, ⟨rfl, by simp, ChC.snoc hz (Tr.mk _ u_6 hp)⟩, hm.keptG [box p 1 25 (at_ [v_11]), rowA v_11 22 1 (z ++ [(es.map Prod.fst, (Value.slice a_7 es.length c_8))]).length ((z ++ [(es.map Prod.fst, (Value.slice a_7 es.length c_8))]).flatMap lC)] (.drop (.keep (fun _ _ h => box_congr (fun i hi => by match i, hi with | 0, _ => rfl) _ _ h) (.keep (fun _ _ h => rowA_snoc (l := z) (x := (es.map Prod.fst, (Value.slice a_7 es.length c_8))) rfl rfl rfl rfl _ _ h) (.nil)))) (outA _ _ p (z ++ [(es.map Prod.fst, (Value.slice a_7 es.length c_8))])) (fun F' h => ⟨_, h⟩)⟩)
theorem c_grow6_s (n : Nat) (ih : GrowIs n) (va vl : Value) (ah l : List CT) (p : Nat) (z0 : List (List CT × Value)) {G : Ghost} {F : Nat → Prop} (hz : SizeOf.sizeOf l ≤ n + 1) (hsz : ah.length + sizeL l ≤ 1000) (hlz : z0.length + sizeL l ≤ 3000) (hsa : Cs G va ah) (hs : Cs G vl l) (hz0 : ChC G z0) (w : World) (hG : Has G w) (hA : (outA 25 22 p (z0)).holds w F) (hFG : ∀ b, F b → G b = none) :
    Calls Try.prog 42 #[va, vl, Value.func (.func 43) #[] #[.pointer (some ⟨p, 0, none⟩)]] w (Ret fun r w' => ∃ G' z', GNew w F G G' ∧ Has G' w' ∧ (r = .tuple #[] ∧ z'.map Prod.fst = z0.map Prod.fst ++ chains ah l ∧ ChC G' z') ∧ KeptG (outA 25 22 p (z')) F G' w w') := by
  refine enterO (args := [_, _, _]) (G := G) (A := outA 25 22 p (z0)) (l := [(0, va), (1, vl), (2, Value.func (.func 43) #[] #[.pointer (some ⟨p, 0, none⟩)])]) Try.func42 rfl Try.ntmps42 hG hA hFG ⟨rfl, rfl, rfl, trivial⟩ (Nat.le_of_ble_eq_true rfl) ?_
  obtain ⟨rs, hr, hp, rfl⟩ := hs.inv
  have hbd := hr.bound
  refine c_seq ?_
  refine c_region ?_
  refine r_val .none rfl (p_move rfl) ?_
  refine r_val .none rfl (p_leng Try.underlying22 rfl hr) ?_
  have bd_1 := (hr).bound
  refine r_val .none rfl (p_move rfl) ?_
  refine r_nil ?_
  refine e_next ?_
  refine c_block ?_
  refine c_name (d := 2) rfl (fun u_2 hu_2 => ?_)
  refine c_name (d := 8) rfl (fun u_3 hu_3 => ?_)
  refine c_name (d := 9) rfl (fun u_4 hu_4 => ?_)
  refine c_loop (σ := Nat × Value × List (List CT × Value) × Ghost) (fun s => [(10, Value.int .i64 (s.1 : Nat)), (0, s.2.1), (2, u_2), (8, u_3), (9, u_4)]) (fun s => [outA 25 22 p (s.2.2.1)]) (fun s => s.2.2.2) (fun s => s.1 ≤ rs.length ∧ Cs s.2.2.2 s.2.1 (ah ++ (rs.map Prod.fst).take s.1) ∧ s.2.2.1.map Prod.fst = z0.map Prod.fst ++ chains ah ((rs.map Prod.fst).take s.1) ∧ ChC s.2.2.2 s.2.2.1 ∧ GNew w F G s.2.2.2) (fun s => rs.length - s.1) ((0, _, z0, _)) ⟨Nat.zero_le _, by simpa using hsa, by simp [chains], hz0, GNew.refl _ _ _⟩ rfl ⟨rfl, rfl, rfl, rfl, rfl, trivial⟩ (.keep (fun _ _ h => h) (.nil)) (fun s hphi => ?_)
  subst hu_2
  subst hu_3
  subst hu_4
  obtain ⟨k, v, z, H⟩ := s
  obtain ⟨hk, hva, hzq, hzc, hgn⟩ := hphi
  dsimp only at hk hva hzq hzc hgn ⊢
  obtain ⟨es, ha, hap, hal⟩ := hva.inv
  have hla : es.length = ah.length + k := by have := congrArg List.length hal; simp at this; omega
  have hzl : z.length = z0.length + (chains ah ((rs.map Prod.fst).take k)).length := by have := congrArg List.length hzq; simpa using this
  have hcl := chains_take_le ah rs k
  have hst0 := sizeL_take_le (rs.map Prod.fst) k
  have hll := sizeL_len (rs.map Prod.fst)
  rw [List.length_map] at hll
  replace hsa := hsa.mono hgn.le
  replace hr := hr.mono hgn.le
  replace hp := fun p hm0 => (hp p hm0).mono hgn.le
  refine c_seq ?_
  refine c_region ?_
  refine r_val .none rfl (p_lt rfl rfl) ?_
  refine r_nil ?_
  refine e_next ?_
  refine c_seq ?_
  refine c_splitd (d := 11) rfl (fun h_5 => ?_) (fun h_5 => ?_)
  · skip
    first
      | (exfalso; omega)
      | (
        refine c_cond_t rfl ?_
        refine c_skip ?_
        refine e_next ?_
        refine c_seq ?_
        refine c_block ?_
        refine c_seq ?_
        refine c_region ?_
        refine r_iaddr_g .none rfl Try.underlying22 sz38 rfl hr rfl (by first | exact of_decide_eq_true rfl | omega) (fun p_7 o_8 R_6 => ?_)
        have hc_9 := hp _ (getD_mem (i := k) (d := d0) (by omega))
        have hkl := sizeL_len ((rs.map Prod.fst).take k)
        rw [List.length_take, List.length_map] at hkl
        have hsk := sizeL_take (rs := rs) (k := k) (by omega)
        have hsk2 := sizeL_take_le (rs.map Prod.fst) (k + 1)
        have hsq := size_eq (rs.getD k d0).1
        refine r_val .none rfl (p_ldga0 Try.underlying38 rfl sz38 rfl R_6 (by first | exact of_decide_eq_true rfl | omega) (rfl : _ = Value.agg #[_, _, _, _, _, _, _, _])) ?_
        refine r_alloc .none rfl zr38 (IsRow.lit _) (fun b_1 => ?_)
        refine r_stw (k := 0) .none sz38 rfl rfl (IsRow.lit _) (one_lit rfl (all_cons rfl (all_cons rfl (all_cons rfl (all_cons rfl (all_cons rfl (all_cons rfl (all_cons rfl (all_cons (hc_9).one rfl))))))))) rfl ?_
        refine r_nil ?_
        refine e_next ?_
        refine c_seq ?_
        refine c_seq ?_
        refine c_region ?_
        refine r_val .none rfl (p_field Try.underlying38 rfl sz3 rfl) ?_
        refine r_val .none rfl (p_ld (k := 0) Try.underlying3 rfl rfl rfl (by first | exact of_decide_eq_true rfl | omega) (rfl : _ = Value.int _ _)) ?_
        refine r_val .none rfl (p_eq rfl rfl) ?_
        refine r_nil ?_
        refine e_next ?_
        refine c_splitd (d := 16) rfl (fun h_10 => ?_) (fun h_10 => ?_)
        · skip
          have hk3 := h_10
          first
            | (exfalso; omega)
            | (
              refine c_cond_t rfl ?_
              refine c_region ?_
              refine r_val .none rfl (p_move rfl) ?_
              refine r_val .none rfl (p_field Try.underlying38 rfl sz22 rfl) ?_
              refine r_val .none rfl (p_ld (k := 0) Try.underlying22 rfl rfl rfl (by first | exact of_decide_eq_true rfl | omega) rfl) ?_
              refine r_val .none rfl (p_move rfl) ?_
              refine r_callox (k := 1) (vs := [_, _, _]) .none rfl cl42 rfl rfl (fun w F hw hA hFG => ih _ _ _ _ _ _ _ _ w (Nat.le_of_lt_succ (Nat.lt_of_lt_of_le (sub_size (by omega)) hz)) (by rw [List.length_append, List.length_take, List.length_map]; omega) (by omega) hva hc_9 hzc hw hA hFG) (fun G_11 v_14 z_16 hn_12 hr_13 => ?_)
              replace hsa := hsa.mono hn_12.le
              replace hr := hr.mono hn_12.le
              replace hp := fun p hm0 => (hp p hm0).mono hn_12.le
              replace ha := ha.mono hn_12.le
              replace hap := fun p hm0 => (hap p hm0).mono hn_12.le
              replace hva := hva.mono hn_12.le
              replace hzc := ChC.mono hzc hn_12.le
              replace R_6 := R_6.mono hn_12.le
              replace hc_9 := hc_9.mono hn_12.le
              obtain ⟨-, u_15q, u_15c⟩ := hr_13
              refine r_nil ?_
              refine e_next ?_
              refine c_seq ?_
              refine c_region_d (fun _ => false) _ mixed (.keep (fun _ _ h => h) (.keep (fun _ _ h => h) (.nil))) ?_
              refine d_val1 0 rfl rfl (by kernel_rfl) (fun _ _ => rfl) .none rfl (p_move rfl) ?_
              refine d_val1 2 rfl rfl (by kernel_rfl) (fun _ _ => rfl) .none rfl (p_ldw (k := 0) Try.underlying38 rfl sz38 rfl rfl (rfl : _ = Value.agg #[_, _, _, _, _, _, _, _])) ?_
              refine d_eff2 1 3 rfl rfl (by kernel_rfl) (fun K_17 hKK_17 hcK_17 => ?_) (fun K_17 hKK_17 hcK_17 => ?_)
              · skip
                refine r_callrow (vs := [_]) .none rfl cl44 rfl (fun w hw => c_cloneC _ es ha (by omega) hap w hw) (fun v_18 => ?_)
                refine r_nil (e_d (i := 1) (brk := (fun _ => false)) (ph' := true) hKK_17 hcK_17 rfl (fun _ => GLe.refl _) (fun _ => .drop (.keep (fun _ _ h => h) (.keep (fun _ _ h => h) (.nil)))) ?_)
                clear hKK_17 hcK_17 K_17
                refine d_eff 3 rfl (by kernel_rfl) (fun K_19 hKK_19 hcK_19 => ?_)
                refine r_bslice (vs := [(0, Value.agg #[_, _, _, _, _, _, _, _])]) (c := #[_, _, _, _, _, _, _, _]) .none rfl Try.underlying22 el38 rfl rfl rfl (bs38_10a8 _ _ _ _ _ _ _ _) (IsRow.lit _) (fun b_2 => ?_)
                refine r_nil (e_d (i := 3) (brk := (fun _ => false)) (ph' := true) hKK_19 hcK_19 rfl (fun _ => GLe.refl _) (fun _ => .drop (.drop (.keep (fun _ _ h => h) (.keep (fun _ _ h => h) (.nil))))) ?_)
                clear hKK_19 hcK_19 K_19
                refine d_eff 4 rfl (by kernel_rfl) (fun K_20 hKK_20 hcK_20 => ?_)
                refine r_append (k := 1) (k2 := 0) .none rfl Try.underlying22 el38 rfl (by decide) rfl rfl rfl rfl rfl (one_lit rfl (all_cons rfl (all_cons rfl (all_cons rfl (all_cons rfl (all_cons rfl (all_cons rfl (all_cons rfl (all_cons (hc_9).one rfl))))))))) (by simp only [maxLen]; omega) (by omega) (fun v_21 => ?_)
                refine r_row1 (k := 1) rfl (fun o_22 => ?_)
                refine r_nil (e_d (i := 4) (brk := (fun _ => false)) (ph' := true) hKK_20 hcK_20 rfl (fun _ => GLe.refl _) (fun _ => .drop (.drop (.keep (fun _ _ h => h) (.keep (fun _ _ h => h) (.nil))))) ?_)
                clear hKK_20 hcK_20 K_20
                refine d_val1 5 rfl rfl (by kernel_rfl) (fun _ _ => rfl) .none rfl (p_assign rfl) ?_
                refine d_nil (by kernel_rfl) ?_
                refine e_next ?_
                refine c_region ?_
                refine r_val .none rfl (p_move rfl) ?_
                refine r_freeze (k := 1) rfl (fun G_23 hn_24 hs_25 => ?_)
                replace hsa := hsa.mono hn_24.le
                replace hr := hr.mono hn_24.le
                replace hp := fun p hm0 => (hp p hm0).mono hn_24.le
                replace ha := ha.mono hn_24.le
                replace hap := fun p hm0 => (hap p hm0).mono hn_24.le
                replace hva := hva.mono hn_24.le
                replace hzc := ChC.mono hzc hn_24.le
                replace R_6 := R_6.mono hn_24.le
                replace hc_9 := hc_9.mono hn_24.le
                replace u_15c := ChC.mono u_15c hn_24.le
                have hs2 : SlL G_23 v_21 8 cvC d0 (es ++ [rs.getD k d0]) := SlL.of2 d0 (fun _ => rfl) (by simp) (by rw [List.flatMap_append, List.flatMap_cons, List.flatMap_nil, List.append_nil]; rfl) hs_25
                have hp2 : ∀ p ∈ es ++ [rs.getD k d0], Cs G_23 p.2 p.1.subs := fun p hp' => by rcases List.mem_append.1 hp' with h | h; exact hap p h; rw [List.mem_singleton.1 h]; exact hc_9
                have hva2 : Cs G_23 v_21 (ah ++ (rs.map Prod.fst).take (k + 1)) := by have h := Tr.mk _ hs2 hp2; rw [List.map_append, ← hal] at h; rw [map_take (d := d0) (by omega), ← List.append_assoc]; exact h
                have hm2 : (es ++ [rs.getD k d0]).map Prod.fst = ah ++ (rs.map Prod.fst).take (k + 1) := by rw [List.map_append, ← hal, map_take (d := d0) (by omega), ← List.append_assoc]; rfl
                refine r_val .none rfl (p_move rfl) ?_
                refine r_fun (cs := [_]) .none rfl ?_
                refine r_callox (k := 2) (vs := [_, _]) .none rfl cl43 rfl rfl (fun w F hw hA hFG => c_ch1 _ _ _ _ hs2 hp2 (by simp; omega) (by have h9 := congrArg List.length u_15q; rw [List.length_append, List.length_map, List.length_map] at h9; have h10 := chains_len (rs.getD k d0).1.subs (ah ++ (rs.map Prod.fst).take k); omega) u_15c w hw hA hFG) (fun G_26 v_29 z_31 hn_27 hr_28 => ?_)
                replace hsa := hsa.mono hn_27.le
                replace hr := hr.mono hn_27.le
                replace hp := fun p hm0 => (hp p hm0).mono hn_27.le
                replace ha := ha.mono hn_27.le
                replace hap := fun p hm0 => (hap p hm0).mono hn_27.le
                replace hva := hva.mono hn_27.le
                replace hzc := ChC.mono hzc hn_27.le
                replace R_6 := R_6.mono hn_27.le
                replace hc_9 := hc_9.mono hn_27.le
                replace u_15c := ChC.mono u_15c hn_27.le
                replace hs2 := hs2.mono hn_27.le
                replace hp2 := fun p hm0 => (hp2 p hm0).mono hn_27.le
                replace hva2 := hva2.mono hn_27.le
                obtain ⟨-, u_30q, u_30c⟩ := hr_28
                refine r_nil ?_
                refine e_norm_block ?_
                refine e_next ?_
                refine c_region ?_
                refine r_val .none rfl (p_add rfl rfl (by omega)) ?_
                refine r_val .none rfl (p_move rfl) ?_
                refine r_nil ?_
                refine e_round ((k + 1, _, z_31, _)) ⟨⟨by dsimp only; omega, hva2, by rw [u_30q, hm2, chains_take (by omega)]; first | (rw [hzq, chain1_other (by assumption), map_take (d := d0) (by omega)]; simp [List.append_assoc]; done) | (rw [u_15q, hzq, chain1_ncc (by assumption), map_take (d := d0) (by omega)]; simp [List.append_assoc]; done), u_30c, (((hgn.trans hn_12).trans hn_24).trans hn_27)⟩, by dsimp only; omega⟩ rfl ⟨rfl, rfl, rfl, rfl, rfl, trivial⟩ (.drop (.drop (.keep (fun _ _ h => h) (.nil))))
              · skip
                refine r_bslice (vs := [(0, Value.agg #[_, _, _, _, _, _, _, _])]) (c := #[_, _, _, _, _, _, _, _]) .none rfl Try.underlying22 el38 rfl rfl rfl (bs38_10a8 _ _ _ _ _ _ _ _) (IsRow.lit _) (fun b_3 => ?_)
                refine r_nil (e_d (i := 3) (brk := (fun _ => false)) (ph' := true) hKK_17 hcK_17 rfl (fun _ => GLe.refl _) (fun _ => .drop (.keep (fun _ _ h => h) (.keep (fun _ _ h => h) (.nil)))) ?_)
                clear hKK_17 hcK_17 K_17
                refine d_eff 1 rfl (by kernel_rfl) (fun K_32 hKK_32 hcK_32 => ?_)
                refine r_callrow (vs := [_]) .none rfl cl44 rfl (fun w hw => c_cloneC _ es ha (by omega) hap w hw) (fun v_33 => ?_)
                refine r_nil (e_d (i := 1) (brk := (fun _ => false)) (ph' := true) hKK_32 hcK_32 rfl (fun _ => GLe.refl _) (fun _ => .drop (.drop (.keep (fun _ _ h => h) (.keep (fun _ _ h => h) (.nil))))) ?_)
                clear hKK_32 hcK_32 K_32
                refine d_eff 4 rfl (by kernel_rfl) (fun K_34 hKK_34 hcK_34 => ?_)
                refine r_append (k := 0) (k2 := 1) .none rfl Try.underlying22 el38 rfl (by decide) rfl rfl rfl rfl rfl (one_lit rfl (all_cons rfl (all_cons rfl (all_cons rfl (all_cons rfl (all_cons rfl (all_cons rfl (all_cons rfl (all_cons (hc_9).one rfl))))))))) (by simp only [maxLen]; omega) (by omega) (fun v_35 => ?_)
                refine r_row1 (k := 0) rfl (fun o_36 => ?_)
                refine r_nil (e_d (i := 4) (brk := (fun _ => false)) (ph' := true) hKK_34 hcK_34 rfl (fun _ => GLe.refl _) (fun _ => .drop (.drop (.keep (fun _ _ h => h) (.keep (fun _ _ h => h) (.nil))))) ?_)
                clear hKK_34 hcK_34 K_34
                refine d_val1 5 rfl rfl (by kernel_rfl) (fun _ _ => rfl) .none rfl (p_assign rfl) ?_
                refine d_nil (by kernel_rfl) ?_
                refine e_next ?_
                refine c_region ?_
                refine r_val .none rfl (p_move rfl) ?_
                refine r_freeze (k := 0) rfl (fun G_37 hn_38 hs_39 => ?_)
                replace hsa := hsa.mono hn_38.le
                replace hr := hr.mono hn_38.le
                replace hp := fun p hm0 => (hp p hm0).mono hn_38.le
                replace ha := ha.mono hn_38.le
                replace hap := fun p hm0 => (hap p hm0).mono hn_38.le
                replace hva := hva.mono hn_38.le
                replace hzc := ChC.mono hzc hn_38.le
                replace R_6 := R_6.mono hn_38.le
                replace hc_9 := hc_9.mono hn_38.le
                replace u_15c := ChC.mono u_15c hn_38.le
                have hs2 : SlL G_37 v_35 8 cvC d0 (es ++ [rs.getD k d0]) := SlL.of2 d0 (fun _ => rfl) (by simp) (by rw [List.flatMap_append, List.flatMap_cons, List.flatMap_nil, List.append_nil]; rfl) hs_39
                have hp2 : ∀ p ∈ es ++ [rs.getD k d0], Cs G_37 p.2 p.1.subs := fun p hp' => by rcases List.mem_append.1 hp' with h | h; exact hap p h; rw [List.mem_singleton.1 h]; exact hc_9
                have hva2 : Cs G_37 v_35 (ah ++ (rs.map Prod.fst).take (k + 1)) := by have h := Tr.mk _ hs2 hp2; rw [List.map_append, ← hal] at h; rw [map_take (d := d0) (by omega), ← List.append_assoc]; exact h
                have hm2 : (es ++ [rs.getD k d0]).map Prod.fst = ah ++ (rs.map Prod.fst).take (k + 1) := by rw [List.map_append, ← hal, map_take (d := d0) (by omega), ← List.append_assoc]; rfl
                refine r_val .none rfl (p_move rfl) ?_
                refine r_fun (cs := [_]) .none rfl ?_
                refine r_callox (k := 2) (vs := [_, _]) .none rfl cl43 rfl rfl (fun w F hw hA hFG => c_ch1 _ _ _ _ hs2 hp2 (by simp; omega) (by have h9 := congrArg List.length u_15q; rw [List.length_append, List.length_map, List.length_map] at h9; have h10 := chains_len (rs.getD k d0).1.subs (ah ++ (rs.map Prod.fst).take k); omega) u_15c w hw hA hFG) (fun G_40 v_43 z_45 hn_41 hr_42 => ?_)
                replace hsa := hsa.mono hn_41.le
                replace hr := hr.mono hn_41.le
                replace hp := fun p hm0 => (hp p hm0).mono hn_41.le
                replace ha := ha.mono hn_41.le
                replace hap := fun p hm0 => (hap p hm0).mono hn_41.le
                replace hva := hva.mono hn_41.le
                replace hzc := ChC.mono hzc hn_41.le
                replace R_6 := R_6.mono hn_41.le
                replace hc_9 := hc_9.mono hn_41.le
                replace u_15c := ChC.mono u_15c hn_41.le
                replace hs2 := hs2.mono hn_41.le
                replace hp2 := fun p hm0 => (hp2 p hm0).mono hn_41.le
                replace hva2 := hva2.mono hn_41.le
                obtain ⟨-, u_44q, u_44c⟩ := hr_42
                refine r_nil ?_
                refine e_norm_block ?_
                refine e_next ?_
                refine c_region ?_
                refine r_val .none rfl (p_add rfl rfl (by omega)) ?_
                refine r_val .none rfl (p_move rfl) ?_
                refine r_nil ?_
                refine e_round ((k + 1, _, z_45, _)) ⟨⟨by dsimp only; omega, hva2, by rw [u_44q, hm2, chains_take (by omega)]; first | (rw [hzq, chain1_other (by assumption), map_take (d := d0) (by omega)]; simp [List.append_assoc]; done) | (rw [u_15q, hzq, chain1_ncc (by assumption), map_take (d := d0) (by omega)]; simp [List.append_assoc]; done), u_44c, (((hgn.trans hn_12).trans hn_38).trans hn_41)⟩, by dsimp only; omega⟩ rfl ⟨rfl, rfl, rfl, rfl, rfl, trivial⟩ (.drop (.drop (.keep (fun _ _ h => h) (.nil))))
              )
        · skip
          have hk3 := h_10
          first
            | (exfalso; omega)
            | (
              refine c_cond_f rfl ?_
              refine c_skip ?_
              refine e_next ?_
              refine c_seq ?_
              refine c_region_d (fun _ => false) _ mixed (.keep (fun _ _ h => h) (.keep (fun _ _ h => h) (.nil))) ?_
              refine d_val1 0 rfl rfl (by kernel_rfl) (fun _ _ => rfl) .none rfl (p_move rfl) ?_
              refine d_val1 2 rfl rfl (by kernel_rfl) (fun _ _ => rfl) .none rfl (p_ldw (k := 0) Try.underlying38 rfl sz38 rfl rfl (rfl : _ = Value.agg #[_, _, _, _, _, _, _, _])) ?_
              refine d_eff2 1 3 rfl rfl (by kernel_rfl) (fun K_46 hKK_46 hcK_46 => ?_) (fun K_46 hKK_46 hcK_46 => ?_)
              · skip
                refine r_callrow (vs := [_]) .none rfl cl44 rfl (fun w hw => c_cloneC _ es ha (by omega) hap w hw) (fun v_47 => ?_)
                refine r_nil (e_d (i := 1) (brk := (fun _ => false)) (ph' := true) hKK_46 hcK_46 rfl (fun _ => GLe.refl _) (fun _ => .drop (.keep (fun _ _ h => h) (.keep (fun _ _ h => h) (.nil)))) ?_)
                clear hKK_46 hcK_46 K_46
                refine d_eff 3 rfl (by kernel_rfl) (fun K_48 hKK_48 hcK_48 => ?_)
                refine r_bslice (vs := [(0, Value.agg #[_, _, _, _, _, _, _, _])]) (c := #[_, _, _, _, _, _, _, _]) .none rfl Try.underlying22 el38 rfl rfl rfl (bs38_10a8 _ _ _ _ _ _ _ _) (IsRow.lit _) (fun b_4 => ?_)
                refine r_nil (e_d (i := 3) (brk := (fun _ => false)) (ph' := true) hKK_48 hcK_48 rfl (fun _ => GLe.refl _) (fun _ => .drop (.drop (.keep (fun _ _ h => h) (.keep (fun _ _ h => h) (.nil))))) ?_)
                clear hKK_48 hcK_48 K_48
                refine d_eff 4 rfl (by kernel_rfl) (fun K_49 hKK_49 hcK_49 => ?_)
                refine r_append (k := 1) (k2 := 0) .none rfl Try.underlying22 el38 rfl (by decide) rfl rfl rfl rfl rfl (one_lit rfl (all_cons rfl (all_cons rfl (all_cons rfl (all_cons rfl (all_cons rfl (all_cons rfl (all_cons rfl (all_cons (hc_9).one rfl))))))))) (by simp only [maxLen]; omega) (by omega) (fun v_50 => ?_)
                refine r_row1 (k := 1) rfl (fun o_51 => ?_)
                refine r_nil (e_d (i := 4) (brk := (fun _ => false)) (ph' := true) hKK_49 hcK_49 rfl (fun _ => GLe.refl _) (fun _ => .drop (.drop (.keep (fun _ _ h => h) (.keep (fun _ _ h => h) (.nil))))) ?_)
                clear hKK_49 hcK_49 K_49
                refine d_val1 5 rfl rfl (by kernel_rfl) (fun _ _ => rfl) .none rfl (p_assign rfl) ?_
                refine d_nil (by kernel_rfl) ?_
                refine e_next ?_
                refine c_region ?_
                refine r_val .none rfl (p_move rfl) ?_
                refine r_freeze (k := 1) rfl (fun G_52 hn_53 hs_54 => ?_)
                replace hsa := hsa.mono hn_53.le
                replace hr := hr.mono hn_53.le
                replace hp := fun p hm0 => (hp p hm0).mono hn_53.le
                replace ha := ha.mono hn_53.le
                replace hap := fun p hm0 => (hap p hm0).mono hn_53.le
                replace hva := hva.mono hn_53.le
                replace hzc := ChC.mono hzc hn_53.le
                replace R_6 := R_6.mono hn_53.le
                replace hc_9 := hc_9.mono hn_53.le
                have hs2 : SlL G_52 v_50 8 cvC d0 (es ++ [rs.getD k d0]) := SlL.of2 d0 (fun _ => rfl) (by simp) (by rw [List.flatMap_append, List.flatMap_cons, List.flatMap_nil, List.append_nil]; rfl) hs_54
                have hp2 : ∀ p ∈ es ++ [rs.getD k d0], Cs G_52 p.2 p.1.subs := fun p hp' => by rcases List.mem_append.1 hp' with h | h; exact hap p h; rw [List.mem_singleton.1 h]; exact hc_9
                have hva2 : Cs G_52 v_50 (ah ++ (rs.map Prod.fst).take (k + 1)) := by have h := Tr.mk _ hs2 hp2; rw [List.map_append, ← hal] at h; rw [map_take (d := d0) (by omega), ← List.append_assoc]; exact h
                have hm2 : (es ++ [rs.getD k d0]).map Prod.fst = ah ++ (rs.map Prod.fst).take (k + 1) := by rw [List.map_append, ← hal, map_take (d := d0) (by omega), ← List.append_assoc]; rfl
                refine r_val .none rfl (p_move rfl) ?_
                refine r_fun (cs := [_]) .none rfl ?_
                refine r_callox (k := 2) (vs := [_, _]) .none rfl cl43 rfl rfl (fun w F hw hA hFG => c_ch1 _ _ _ _ hs2 hp2 (by simp; omega) (by omega) hzc w hw hA hFG) (fun G_55 v_58 z_60 hn_56 hr_57 => ?_)
                replace hsa := hsa.mono hn_56.le
                replace hr := hr.mono hn_56.le
                replace hp := fun p hm0 => (hp p hm0).mono hn_56.le
                replace ha := ha.mono hn_56.le
                replace hap := fun p hm0 => (hap p hm0).mono hn_56.le
                replace hva := hva.mono hn_56.le
                replace hzc := ChC.mono hzc hn_56.le
                replace R_6 := R_6.mono hn_56.le
                replace hc_9 := hc_9.mono hn_56.le
                replace hs2 := hs2.mono hn_56.le
                replace hp2 := fun p hm0 => (hp2 p hm0).mono hn_56.le
                replace hva2 := hva2.mono hn_56.le
                obtain ⟨-, u_59q, u_59c⟩ := hr_57
                refine r_nil ?_
                refine e_norm_block ?_
                refine e_next ?_
                refine c_region ?_
                refine r_val .none rfl (p_add rfl rfl (by omega)) ?_
                refine r_val .none rfl (p_move rfl) ?_
                refine r_nil ?_
                refine e_round ((k + 1, _, z_60, _)) ⟨⟨by dsimp only; omega, hva2, by rw [u_59q, hm2, chains_take (by omega)]; first | (rw [hzq, chain1_other (by assumption), map_take (d := d0) (by omega)]; simp [List.append_assoc]; done) | (rw [hzq, hzq, chain1_ncc (by assumption), map_take (d := d0) (by omega)]; simp [List.append_assoc]; done), u_59c, ((hgn.trans hn_53).trans hn_56)⟩, by dsimp only; omega⟩ rfl ⟨rfl, rfl, rfl, rfl, rfl, trivial⟩ (.drop (.drop (.keep (fun _ _ h => h) (.nil))))
              · skip
                refine r_bslice (vs := [(0, Value.agg #[_, _, _, _, _, _, _, _])]) (c := #[_, _, _, _, _, _, _, _]) .none rfl Try.underlying22 el38 rfl rfl rfl (bs38_10a8 _ _ _ _ _ _ _ _) (IsRow.lit _) (fun b_5 => ?_)
                refine r_nil (e_d (i := 3) (brk := (fun _ => false)) (ph' := true) hKK_46 hcK_46 rfl (fun _ => GLe.refl _) (fun _ => .drop (.keep (fun _ _ h => h) (.keep (fun _ _ h => h) (.nil)))) ?_)
                clear hKK_46 hcK_46 K_46
                refine d_eff 1 rfl (by kernel_rfl) (fun K_61 hKK_61 hcK_61 => ?_)
                refine r_callrow (vs := [_]) .none rfl cl44 rfl (fun w hw => c_cloneC _ es ha (by omega) hap w hw) (fun v_62 => ?_)
                refine r_nil (e_d (i := 1) (brk := (fun _ => false)) (ph' := true) hKK_61 hcK_61 rfl (fun _ => GLe.refl _) (fun _ => .drop (.drop (.keep (fun _ _ h => h) (.keep (fun _ _ h => h) (.nil))))) ?_)
                clear hKK_61 hcK_61 K_61
                refine d_eff 4 rfl (by kernel_rfl) (fun K_63 hKK_63 hcK_63 => ?_)
                refine r_append (k := 0) (k2 := 1) .none rfl Try.underlying22 el38 rfl (by decide) rfl rfl rfl rfl rfl (one_lit rfl (all_cons rfl (all_cons rfl (all_cons rfl (all_cons rfl (all_cons rfl (all_cons rfl (all_cons rfl (all_cons (hc_9).one rfl))))))))) (by simp only [maxLen]; omega) (by omega) (fun v_64 => ?_)
                refine r_row1 (k := 0) rfl (fun o_65 => ?_)
                refine r_nil (e_d (i := 4) (brk := (fun _ => false)) (ph' := true) hKK_63 hcK_63 rfl (fun _ => GLe.refl _) (fun _ => .drop (.drop (.keep (fun _ _ h => h) (.keep (fun _ _ h => h) (.nil))))) ?_)
                clear hKK_63 hcK_63 K_63
                refine d_val1 5 rfl rfl (by kernel_rfl) (fun _ _ => rfl) .none rfl (p_assign rfl) ?_
                refine d_nil (by kernel_rfl) ?_
                refine e_next ?_
                refine c_region ?_
                refine r_val .none rfl (p_move rfl) ?_
                refine r_freeze (k := 0) rfl (fun G_66 hn_67 hs_68 => ?_)
                replace hsa := hsa.mono hn_67.le
                replace hr := hr.mono hn_67.le
                replace hp := fun p hm0 => (hp p hm0).mono hn_67.le
                replace ha := ha.mono hn_67.le
                replace hap := fun p hm0 => (hap p hm0).mono hn_67.le
                replace hva := hva.mono hn_67.le
                replace hzc := ChC.mono hzc hn_67.le
                replace R_6 := R_6.mono hn_67.le
                replace hc_9 := hc_9.mono hn_67.le
                have hs2 : SlL G_66 v_64 8 cvC d0 (es ++ [rs.getD k d0]) := SlL.of2 d0 (fun _ => rfl) (by simp) (by rw [List.flatMap_append, List.flatMap_cons, List.flatMap_nil, List.append_nil]; rfl) hs_68
                have hp2 : ∀ p ∈ es ++ [rs.getD k d0], Cs G_66 p.2 p.1.subs := fun p hp' => by rcases List.mem_append.1 hp' with h | h; exact hap p h; rw [List.mem_singleton.1 h]; exact hc_9
                have hva2 : Cs G_66 v_64 (ah ++ (rs.map Prod.fst).take (k + 1)) := by have h := Tr.mk _ hs2 hp2; rw [List.map_append, ← hal] at h; rw [map_take (d := d0) (by omega), ← List.append_assoc]; exact h
                have hm2 : (es ++ [rs.getD k d0]).map Prod.fst = ah ++ (rs.map Prod.fst).take (k + 1) := by rw [List.map_append, ← hal, map_take (d := d0) (by omega), ← List.append_assoc]; rfl
                refine r_val .none rfl (p_move rfl) ?_
                refine r_fun (cs := [_]) .none rfl ?_
                refine r_callox (k := 2) (vs := [_, _]) .none rfl cl43 rfl rfl (fun w F hw hA hFG => c_ch1 _ _ _ _ hs2 hp2 (by simp; omega) (by omega) hzc w hw hA hFG) (fun G_69 v_72 z_74 hn_70 hr_71 => ?_)
                replace hsa := hsa.mono hn_70.le
                replace hr := hr.mono hn_70.le
                replace hp := fun p hm0 => (hp p hm0).mono hn_70.le
                replace ha := ha.mono hn_70.le
                replace hap := fun p hm0 => (hap p hm0).mono hn_70.le
                replace hva := hva.mono hn_70.le
                replace hzc := ChC.mono hzc hn_70.le
                replace R_6 := R_6.mono hn_70.le
                replace hc_9 := hc_9.mono hn_70.le
                replace hs2 := hs2.mono hn_70.le
                replace hp2 := fun p hm0 => (hp2 p hm0).mono hn_70.le
                replace hva2 := hva2.mono hn_70.le
                obtain ⟨-, u_73q, u_73c⟩ := hr_71
                refine r_nil ?_
                refine e_norm_block ?_
                refine e_next ?_
                refine c_region ?_
                refine r_val .none rfl (p_add rfl rfl (by omega)) ?_
                refine r_val .none rfl (p_move rfl) ?_
                refine r_nil ?_
                refine e_round ((k + 1, _, z_74, _)) ⟨⟨by dsimp only; omega, hva2, by rw [u_73q, hm2, chains_take (by omega)]; first | (rw [hzq, chain1_other (by assumption), map_take (d := d0) (by omega)]; simp [List.append_assoc]; done) | (rw [hzq, hzq, chain1_ncc (by assumption), map_take (d := d0) (by omega)]; simp [List.append_assoc]; done), u_73c, ((hgn.trans hn_67).trans hn_70)⟩, by dsimp only; omega⟩ rfl ⟨rfl, rfl, rfl, rfl, rfl, trivial⟩ (.drop (.drop (.keep (fun _ _ h => h) (.nil))))
              )
        )
  · skip
    first
      | (exfalso; omega)
      | (
        refine c_cond_f rfl ?_
        refine c_exit ?_
        refine e_exit_then ?_
        refine e_exit_then ?_
        refine e_exit_block ?_
        refine e_end0 Try.results42 (fun w hm => ⟨_, z, hgn, hm.has, ⟨rfl, by rw [hzq, List.take_of_length_le (by simp; omega)], hzc⟩, hm.keptG [outA _ _ p z] (.keep (fun _ _ h => h) (.nil)) (outA _ _ p z) (fun F' h => starL_one h)⟩)
        )
theorem c_grow6_n : ∀ n, GrowIs n
  | 0 => fun va vl ah l p z0 G F w hz _ _ _ _ _ _ _ _ => absurd hz (by cases l <;> simp)
  | n + 1 => fun va vl ah l p z0 G F w hz hsz hlz hsa hs hz0 hG hA hFG => c_grow6_s n (c_grow6_n n) va vl ah l p z0 hz hsz hlz hsa hs hz0 w hG hA hFG
theorem c_grow6 (va vl : Value) (ah l : List CT) (p : Nat) (z0 : List (List CT × Value)) {G : Ghost} {F : Nat → Prop} (hsz : ah.length + sizeL l ≤ 1000) (hlz : z0.length + sizeL l ≤ 3000) (hsa : Cs G va ah) (hs : Cs G vl l) (hz0 : ChC G z0) (w : World) (hG : Has G w) (hA : (outA 25 22 p (z0)).holds w F) (hFG : ∀ b, F b → G b = none) : Calls Try.prog 42 #[va, vl, Value.func (.func 43) #[] #[.pointer (some ⟨p, 0, none⟩)]] w (Ret fun r w' => ∃ G' z', GNew w F G G' ∧ Has G' w' ∧ (r = .tuple #[] ∧ z'.map Prod.fst = z0.map Prod.fst ++ chains ah l ∧ ChC G' z') ∧ KeptG (outA 25 22 p (z')) F G' w w') := c_grow6_n _ va vl ah l p z0 G F w (Nat.le_refl _) hsz hlz hsa hs hz0 hG hA hFG
theorem c_chains6 (v : Value) (l : List CT) {G : Ghost} (hsz : sizeL l ≤ 1000) (hs : Cs G v l) (w : World) (hG : Has G w) :
    Calls Try.prog 13 #[v] w (Ret fun r w' => ∃ G', GNew w nX G G' ∧ Has G' w' ∧ Ls (fun G v l => Cs G v l) ([] : List CT) G' r (chains [] l) ∧ Since nX w w') := by
  refine enter (args := [_]) (X := nX) (G := G) (l := [(0, v)]) Try.func13 rfl Try.ntmps13 hG ⟨rfl, trivial⟩ (Nat.le_of_ble_eq_true rfl) ?_
  refine c_seq ?_
  refine c_region ?_
  refine r_val .none rfl (p_assign rfl) ?_
  refine r_nil ?_
  refine e_next ?_
  refine c_seq ?_
  refine c_region ?_
  refine r_alloc .none rfl zr25 (IsRow.lit [_]) (fun b_1 => ?_)
  refine r_nil ?_
  refine e_next ?_
  refine c_seq ?_
  refine c_region ?_
  refine r_val .none rfl (p_move rfl) ?_
  refine r_val .none rfl (p_mkfunc (vs := [_]) rfl) ?_
  refine r_nilrow 22 1 ?_
  refine r_packout (rs := ([] : List (List CT × Value))) rfl rfl rfl ?_
  refine r_callox (k := 0) (vs := [_, _, _]) .none rfl cl42 rfl rfl (fun w F hw hA hFG => c_grow6 _ _ [] _ _ [] (by simp; omega) (by simp; omega) Tr.nil hs (by simp [ChC]) w hw hA hFG) (fun G_1 v_4 z_6 hn_2 hr_3 => ?_)
  replace hs := hs.mono hn_2.le
  obtain ⟨-, u_5q, u_5c⟩ := hr_3
  refine r_nil ?_
  refine e_next ?_
  refine c_seq ?_
  refine c_region ?_
  refine r_unpackout (fun ov => ?_)
  refine r_row1 (k := 1) rfl (fun o1 => ?_)
  refine r_val .none rfl (p_ld (k := 0) Try.underlying25 rfl rfl rfl (by first | exact of_decide_eq_true rfl | omega) rfl) ?_
  refine r_val .none rfl (p_assign rfl) ?_
  refine r_nil ?_
  refine e_next ?_
  refine c_ret ?_
  refine e_freeze (k := 1) rfl (fun G_7 hn_8 hs_9 => ?_)
  replace hs := hs.mono hn_8.le
  replace u_5c := ChC.mono u_5c hn_8.le
  refine e_ret1 Try.results13 (.tmp rfl .nil) (fun w hm => ⟨_, (hn_2.trans hn_8), hm.has, ?_, hm.since⟩)
  rw [show chains [] l = z_6.map Prod.fst by rw [u_5q]; rfl]
  exact Ls.mk _ (SlL.of (([] : List CT), Value.slice none 0 0) (fun _ => rfl) rfl hs_9) u_5c
end Go.Proofs.Ytoflaphnlfggkaa

/- Walks: what Go functions of this chapter come to, each as a function on plain data; no condition but those that each theorem names. Printed by a program of this work (gen.py). -/
namespace Go.Proofs.Ytoflaphnlfggkaa
open Go.Gx Go.Gx.T3 Go.Gx.T4 Go.Gx.T3 Go.Gx.T6 Go.Gx.T8 Go.Gx.T4 Go.Gx.T3 Go.Gx.T8 Go.Gx.T4 Go.Gx.T3
theorem lf42 : leafT Try.prog 9 42 = some [3, 3, 3, 3, 3, 3] := by
  kernel_rfl
theorem ef42 : eqT Try.prog 9 42 = true := by
  kernel_rfl
theorem eg42 : Try.prog.eqGuardType Try.prog.depth 42 = false := by
  kernel_rfl
theorem cl45 : Callable Try.prog 45 := callable Try.func45 (by kernel_rfl) rfl
theorem cl46 : Callable Try.prog 46 := callable Try.func46 (by kernel_rfl) rfl
theorem bs3_10i2 (a0 : IntKind) (a1 : Int) : Instr.fill (fun i => some (i * 1, 1)) ((Array.range (1 * 1)).map ((Value.int .i64 0).cells[· % (Value.int .i64 0).cells.size]!)) [(0, Value.int a0 a1)] = some #[Value.int a0 a1] := by
  kernel_rfl
theorem el3 : ElemIs Try.prog 3 1 8 (Value.int .i64 0) := by
  unfold ElemIs
  kernel_rfl
def SizeIs (n : Nat) : Prop := ∀ (c : CT) (sv : Value) (G : Ghost) (w : World), SizeOf.sizeOf c ≤ n → size c ≤ 1000 → Cs G sv c.subs → Has G w → Calls Try.prog 46 #[Value.agg #[Value.int .i64 c.h.k, Value.bool c.h.v0, Value.int .i64 c.h.n0, Value.bool c.h.v1, Value.int .i64 c.h.n1, Value.bool c.h.v2, Value.int .i64 c.h.n2, sv]] w (Ret fun r w' => r = Value.int .i64 (size c : Nat) ∧ Since nX w w')
def RsameIs (n : Nat) : Prop := ∀ (c c2 : CT) (sv sv2 : Value) (G : Ghost) (w : World), SizeOf.sizeOf c ≤ n → Rs G sv c.subs → Rs G sv2 c2.subs → Has G w → Calls Try.prog 45 #[Value.agg #[Value.int .i64 c.h.k, Value.int .i64 (vi c.h.v0), Value.int .i64 c.h.n0, Value.int .i64 (vi c.h.v1), Value.int .i64 c.h.n1, Value.int .i64 (vi c.h.v2), Value.int .i64 c.h.n2, sv], Value.agg #[Value.int .i64 c2.h.k, Value.int .i64 (vi c2.h.v0), Value.int .i64 c2.h.n0, Value.int .i64 (vi c2.h.v1), Value.int .i64 c2.h.n1, Value.int .i64 (vi c2.h.v2), Value.int .i64 c2.h.n2, sv2]] w (Ret fun r w' => r = Value.bool (ceq c c2) ∧ Since nX w w')
theorem c_size_s (n : Nat) (ih : SizeIs n) (c : CT) (sv : Value)  {G : Ghost} (hz : SizeOf.sizeOf c ≤ n + 1) (hsz : size c ≤ 1000) (hs : Cs G sv c.subs) (w : World) (hG : Has G w) :
    Calls Try.prog 46 #[Value.agg #[Value.int .i64 c.h.k, Value.bool c.h.v0, Value.int .i64 c.h.n0, Value.bool c.h.v1, Value.int .i64 c.h.n1, Value.bool c.h.v2, Value.int .i64 c.h.n2, sv]] w (Ret fun r w' => r = Value.int .i64 (size c : Nat) ∧ Since nX w w') := by
  refine enter (args := [_]) (X := nX) (G := G) (l := [(0, Value.agg #[Value.int .i64 c.h.k, Value.bool c.h.v0, Value.int .i64 c.h.n0, Value.bool c.h.v1, Value.int .i64 c.h.n1, Value.bool c.h.v2, Value.int .i64 c.h.n2, sv])]) Try.func46 rfl Try.ntmps46 hG ⟨rfl, trivial⟩ (Nat.le_of_ble_eq_true rfl) ?_
  obtain ⟨rs, hr, hp, hl⟩ := hs.inv
  have hlen : c.subs.length = rs.length := by rw [hl]; simp
  have hbd := hr.bound
  refine c_seq ?_
  refine c_region ?_
  refine r_box .none rfl rfl (IsRow.lit _) (fun b_1 => ?_)
  refine r_val .none rfl (p_assign rfl) ?_
  refine r_nil ?_
  refine e_next ?_
  refine c_seq ?_
  refine c_region ?_
  refine r_val .none rfl (p_assign rfl) ?_
  refine r_nil ?_
  refine e_next ?_
  refine c_seq ?_
  refine c_seq ?_
  refine c_region ?_
  refine r_val .none rfl (p_field Try.underlying38 rfl sz22 rfl) ?_
  refine r_val .none rfl (p_ld (k := 0) Try.underlying22 rfl rfl rfl (by first | exact of_decide_eq_true rfl | omega) rfl) ?_
  refine r_val .none rfl (p_leng Try.underlying22 rfl hr) ?_
  have bd_1 := (hr).bound
  refine r_val .none rfl (p_move rfl) ?_
  refine r_nil ?_
  refine e_next ?_
  refine c_block ?_
  refine c_name (d := 2) rfl (fun u_2 hu_2 => ?_)
  refine c_name (d := 7) rfl (fun u_3 hu_3 => ?_)
  refine c_name (d := 8) rfl (fun u_4 hu_4 => ?_)
  refine c_nameL (k := 0) rfl (fun A_5 hA_5 => ?_)
  refine c_loop (σ := Nat) (fun k => [(9, Value.int .i64 (k : Nat)), (3, Value.int .i64 (1 + sizeL ((rs.map Prod.fst).take k) : Nat)), (2, u_2), (7, u_3), (8, u_4)]) (fun k => [A_5]) (fun _ => _) (fun k => k ≤ rs.length) (fun k => rs.length - k) (0) (by omega) rfl ⟨rfl, rfl, rfl, rfl, rfl, trivial⟩ (.keep (fun _ _ h => h) (.nil)) (fun k hphi => ?_)
  subst hu_2
  subst hu_3
  subst hu_4
  subst hA_5
  refine c_seq ?_
  refine c_region ?_
  refine r_val .none rfl (p_lt rfl rfl) ?_
  refine r_nil ?_
  refine e_next ?_
  refine c_seq ?_
  refine c_splitd (d := 10) rfl (fun h_6 => ?_) (fun h_6 => ?_)
  · skip
    first
      | (exfalso; omega)
      | (
        refine c_cond_t rfl ?_
        refine c_skip ?_
        refine e_next ?_
        refine c_seq ?_
        refine c_block ?_
        refine c_seq ?_
        refine c_region ?_
        refine r_iaddr_g .none rfl Try.underlying22 sz38 rfl hr rfl (by first | exact of_decide_eq_true rfl | omega) (fun p_8 o_9 R_7 => ?_)
        have hc_10 := hp _ (getD_mem (i := k) (d := d0) (by omega))
        have hz3 := size_child (i := k) hl (by omega) hsz
        refine r_val .none rfl (p_ldga0 Try.underlying38 rfl sz38 rfl R_7 (by first | exact of_decide_eq_true rfl | omega) (rfl : _ = Value.agg #[_, _, _, _, _, _, _, _])) ?_
        refine r_alloc .none rfl zr38 (IsRow.lit _) (fun b_2 => ?_)
        refine r_stw (k := 0) .none sz38 rfl rfl (IsRow.lit _) (one_lit rfl (all_cons rfl (all_cons rfl (all_cons rfl (all_cons rfl (all_cons rfl (all_cons rfl (all_cons rfl (all_cons (hc_10).one rfl))))))))) rfl ?_
        refine r_nil ?_
        refine e_next ?_
        refine c_region ?_
        refine r_val .none rfl (p_move rfl) ?_
        refine r_val .none rfl (p_ldw (k := 0) Try.underlying38 rfl sz38 rfl rfl (rfl : _ = Value.agg #[_, _, _, _, _, _, _, _])) ?_
        refine r_call (vs := [_]) .none rfl cl46 rfl (fun w hw => ih (rs.getD k d0).1 _ _ w (size_at hl (by omega) hz) hz3 hc_10 hw) ?_
        refine r_val .none rfl (p_add rfl rfl (by have h1 := sizeL_take_le (rs.map Prod.fst) k; have h2 := size_eq c; rw [hl] at h2; omega)) ?_
        refine r_val .none rfl (p_assign rfl) ?_
        refine r_nil ?_
        refine e_norm_block ?_
        refine e_next ?_
        refine c_region ?_
        refine r_val .none rfl (p_add rfl rfl (by omega)) ?_
        refine r_val .none rfl (p_move rfl) ?_
        refine r_nil ?_
        refine e_round (k + 1) ⟨by omega, by omega⟩ rfl ⟨rfl, (congrArg (fun z => some (Value.int .i64 z)) (by rw [sizeL_take (by omega)]; omega)), rfl, rfl, rfl, trivial⟩ (.drop (.keep (fun _ _ h => h) (.nil)))
        )
  · skip
    first
      | (exfalso; omega)
      | (
        refine c_cond_f rfl ?_
        refine c_exit ?_
        refine e_exit_then ?_
        refine e_exit_then ?_
        refine e_exit_block ?_
        refine e_next ?_
        refine c_seq ?_
        refine c_region ?_
        refine r_val .none rfl (p_move rfl) ?_
        refine r_val .none rfl (p_assign rfl) ?_
        refine r_nil ?_
        refine e_next ?_
        refine c_ret ?_
        refine e_ret1 Try.results46 (.tmp rfl .nil) (fun w hm => ⟨?_, hm.since⟩)
        have hk : k = rs.length := by omega
        subst hk
        rw [size_eq, hl, List.take_of_length_le (by simp)]
        )
theorem c_size_n : ∀ n, SizeIs n
  | 0 => fun c sv G w hz hsz hs hG => absurd hz (by have := size_subs c; omega)
  | n + 1 => fun c sv G w hz hsz hs hG => c_size_s n (c_size_n n) c sv hz hsz hs w hG
theorem c_size (c : CT) (sv : Value) {G : Ghost} (hsz : size c ≤ 1000) (hs : Cs G sv c.subs) (w : World) (hG : Has G w) : Calls Try.prog 46 #[Value.agg #[Value.int .i64 c.h.k, Value.bool c.h.v0, Value.int .i64 c.h.n0, Value.bool c.h.v1, Value.int .i64 c.h.n1, Value.bool c.h.v2, Value.int .i64 c.h.n2, sv]] w (Ret fun r w' => r = Value.int .i64 (size c : Nat) ∧ Since nX w w') := c_size_n _ c sv G w (Nat.le_refl _) hsz hs hG
theorem c_rsame4_s (n : Nat) (ih : RsameIs n) (c : CT) (sv : Value) (c2 : CT) (sv2 : Value) {G : Ghost} (hz : SizeOf.sizeOf c ≤ n + 1) (hs : Rs G sv c.subs) (hs2 : Rs G sv2 c2.subs) (w : World) (hG : Has G w) :
    Calls Try.prog 45 #[Value.agg #[Value.int .i64 c.h.k, Value.int .i64 (vi c.h.v0), Value.int .i64 c.h.n0, Value.int .i64 (vi c.h.v1), Value.int .i64 c.h.n1, Value.int .i64 (vi c.h.v2), Value.int .i64 c.h.n2, sv], Value.agg #[Value.int .i64 c2.h.k, Value.int .i64 (vi c2.h.v0), Value.int .i64 c2.h.n0, Value.int .i64 (vi c2.h.v1), Value.int .i64 c2.h.n1, Value.int .i64 (vi c2.h.v2), Value.int .i64 c2.h.n2, sv2]] w (Ret fun r w' => r = Value.bool (ceq c c2) ∧ Since nX w w') := by
  refine enter (args := [_, _]) (X := nX) (G := G) (l := [(0, Value.agg #[Value.int .i64 c.h.k, Value.int .i64 (vi c.h.v0), Value.int .i64 c.h.n0, Value.int .i64 (vi c.h.v1), Value.int .i64 c.h.n1, Value.int .i64 (vi c.h.v2), Value.int .i64 c.h.n2, sv]), (1, Value.agg #[Value.int .i64 c2.h.k, Value.int .i64 (vi c2.h.v0), Value.int .i64 c2.h.n0, Value.int .i64 (vi c2.h.v1), Value.int .i64 c2.h.n1, Value.int .i64 (vi c2.h.v2), Value.int .i64 c2.h.n2, sv2])]) Try.func45 rfl Try.ntmps45 hG ⟨rfl, rfl, trivial⟩ (Nat.le_of_ble_eq_true rfl) ?_
  obtain ⟨rs, hr, hp, hl⟩ := hs.inv
  obtain ⟨rs2, hr2, hp2, hl2⟩ := hs2.inv
  have hlen : c.subs.length = rs.length := by rw [hl]; simp
  have hlen2 : c2.subs.length = rs2.length := by rw [hl2]; simp
  have hbd := hr.bound
  have hbd2 := hr2.bound
  refine c_seq ?_
  refine c_region ?_
  refine r_box .none rfl rfl (IsRow.lit _) (fun b_1 => ?_)
  refine r_box .none rfl rfl (IsRow.lit _) (fun b_2 => ?_)
  refine r_val .none rfl (p_assign rfl) ?_
  refine r_nil ?_
  refine e_next ?_
  refine c_seq ?_
  refine c_seq ?_
  refine c_region ?_
  refine r_val .none rfl (p_field Try.underlying44 rfl sz3 rfl) ?_
  refine r_val .none rfl (p_ld (k := 1) Try.underlying3 rfl rfl rfl (by first | exact of_decide_eq_true rfl | omega) (rfl : _ = Value.int _ _)) ?_
  refine r_val .none rfl (p_field Try.underlying44 rfl sz3 rfl) ?_
  refine r_val .none rfl (p_ld (k := 0) Try.underlying3 rfl rfl rfl (by first | exact of_decide_eq_true rfl | omega) (rfl : _ = Value.int _ _)) ?_
  refine r_val .none rfl (p_ne rfl rfl) ?_
  refine r_val .none rfl (p_move rfl) ?_
  refine' r_or (c := 11) (d := 17) [_, _, _, _, _, _] rfl (fun h_1 Q_2 hQ_3 => ?_) (fun h_1 Q_2 hQ_3 => ?_) ?_
  rotate_left 1
  · skip
    replace h_1 := of_decide_eq_false h_1
    refine r_val (.some rfl rfl) rfl (p_field Try.underlying44 rfl sz42 rfl) ?_
    refine r_val (.some rfl rfl) rfl (p_lda (k := 1) Try.underlying42 rfl sz42 rfl rfl (by first | exact of_decide_eq_true rfl | omega) (rfl : _ = Value.agg #[_, _, _, _, _, _])) ?_
    refine r_val (.some rfl rfl) rfl (p_field Try.underlying44 rfl sz42 rfl) ?_
    refine r_val (.some rfl rfl) rfl (p_lda (k := 0) Try.underlying42 rfl sz42 rfl rfl (by first | exact of_decide_eq_true rfl | omega) (rfl : _ = Value.agg #[_, _, _, _, _, _])) ?_
    refine r_val (.some rfl rfl) rfl (p_nea rfl rfl (eq_flat Try.underlying42 rfl lf42 ef42 eg42 (.cons (.int Try.underlying3) (.cons (.int Try.underlying3) (.cons (.int Try.underlying3) (.cons (.int Try.underlying3) (.cons (.int Try.underlying3) (.cons (.int Try.underlying3) (.nil))))))) (.cons (.int Try.underlying3) (.cons (.int Try.underlying3) (.cons (.int Try.underlying3) (.cons (.int Try.underlying3) (.cons (.int Try.underlying3) (.cons (.int Try.underlying3) (.nil))))))))) ?_
    refine r_val .none rfl (p_pick_f rfl rfl) ?_
    refine r_nil (e_fin (d := 17) hQ_3 rfl (by repeat (first | exact .refl | refine .put rfl ?_ | refine .say rfl ?_ | refine .say2 rfl (by first | assumption | simp_all) ?_)))
  · skip
    repeat (first | refine r_skip rfl (.no rfl rfl) ?_ | refine r_skip rfl (.un rfl rfl) ?_)
    refine r_val (by first | exact .none | exact .some rfl rfl) rfl (p_pick_t rfl rfl) ?_
    refine r_nil (e_fin (d := 17) hQ_3 rfl (by repeat (first | exact .refl | refine .put rfl ?_ | refine .say rfl ?_ | refine .say2 rfl (by first | assumption | simp_all) ?_)))
  refine r_val .none rfl (p_move rfl) ?_
  refine' r_or (c := 18) (d := 26) [_, _, _, _, _, _, _, _] rfl (fun h_5 Q_6 hQ_7 => ?_) (fun h_5 Q_6 hQ_7 => ?_) ?_
  rotate_left 1
  · skip
    try simp only [norms] at h_5
    refine r_val (.some rfl rfl) rfl (p_field Try.underlying44 rfl sz29 rfl) ?_
    refine r_val (.some rfl rfl) rfl (p_ld (k := 1) Try.underlying29 rfl rfl rfl (by first | exact of_decide_eq_true rfl | omega) rfl) ?_
    refine r_val (.some rfl rfl) rfl (p_leng Try.underlying29 rfl hr) ?_
    have bd_9 := (hr).bound
    refine r_val (.some rfl rfl) rfl (p_field Try.underlying44 rfl sz29 rfl) ?_
    refine r_val (.some rfl rfl) rfl (p_ld (k := 0) Try.underlying29 rfl rfl rfl (by first | exact of_decide_eq_true rfl | omega) rfl) ?_
    refine r_val (.some rfl rfl) rfl (p_leng Try.underlying29 rfl hr2) ?_
    have bd_10 := (hr2).bound
    refine r_val (.some rfl rfl) rfl (p_ne rfl rfl) ?_
    refine r_val .none rfl (p_pick_f rfl rfl) ?_
    refine r_nil (e_fin (d := 26) hQ_7 rfl (by repeat (first | exact .refl | refine .put rfl ?_ | refine .say rfl ?_ | refine .say2 rfl (by first | assumption | simp_all) ?_)))
  · skip
    repeat (first | refine r_skip rfl (.no rfl rfl) ?_ | refine r_skip rfl (.un rfl rfl) ?_)
    refine r_val (by first | exact .none | exact .some rfl rfl) rfl (p_pick_t rfl rfl) ?_
    refine r_nil (e_fin (d := 26) hQ_7 rfl (by repeat (first | exact .refl | refine .put rfl ?_ | refine .say rfl ?_ | refine .say2 rfl (by first | assumption | simp_all) ?_)))
  refine r_nil ?_
  refine e_next ?_
  refine c_split (d := 26) rfl (fun h_11 => ?_) (fun h_11 => ?_)
  · skip
    try simp only [norms] at h_11
    have hN : (¬ c.h.k = c2.h.k ∨ hRb c.h c2.h = false) ∨ ¬ (rs.length : Int) = rs2.length := h_11
    first
      | (exfalso; omega)
      | (
        refine c_cond_t rfl ?_
        refine c_seq ?_
        refine c_region ?_
        refine r_val .none rfl (p_assign rfl) ?_
        refine r_nil ?_
        refine e_next ?_
        refine c_ret ?_
        refine e_ret_then ?_
        refine e_ret1 Try.results45 (.tmp rfl .nil) (fun w hm => ⟨?_, hm.since⟩)
        first
        | exact congrArg Value.bool (ceq_no (Or.imp_right (fun hx => by omega) hN)).symm
        | (rw [ceq_sub hN.1, hl, hl2, ← hphi.2.2, ceqL_no (by omega) (by omega) hE]; done)
        | (rw [ceq_sub hN.1, hl, hl2, ← hphi.2.2, List.drop_eq_nil_of_le (by simp; omega), List.drop_eq_nil_of_le (by simp; omega)]; rfl)
        )
  · skip
    try simp only [norms] at h_11
    have hN : (c.h.k = c2.h.k ∧ hRb c.h c2.h = true) ∧ (rs.length : Int) = rs2.length := h_11
    first
      | (exfalso; omega)
      | (
        refine c_cond_f rfl ?_
        refine c_skip ?_
        refine e_next ?_
        refine c_seq ?_
        refine c_seq ?_
        refine c_region ?_
        refine r_val .none rfl (p_field Try.underlying44 rfl sz29 rfl) ?_
        refine r_val .none rfl (p_ld (k := 1) Try.underlying29 rfl rfl rfl (by first | exact of_decide_eq_true rfl | omega) rfl) ?_
        refine r_val .none rfl (p_leng Try.underlying29 rfl hr) ?_
        have bd_12 := (hr).bound
        refine r_val .none rfl (p_move rfl) ?_
        refine r_nil ?_
        refine e_next ?_
        refine c_block ?_
        refine c_name (d := 2) rfl (fun u_13 hu_13 => ?_)
        refine c_name (d := 3) rfl (fun u_14 hu_14 => ?_)
        refine c_name (d := 29) rfl (fun u_15 hu_15 => ?_)
        refine c_nameL (k := 0) rfl (fun A_16 hA_16 => ?_)
        refine c_nameL (k := 1) rfl (fun A_17 hA_17 => ?_)
        refine c_loop (σ := Nat) (fun k => [(30, Value.int .i64 (k : Nat)), (2, u_13), (3, u_14), (29, u_15)]) (fun k => [A_16, A_17]) (fun _ => _) (fun k => k ≤ rs.length ∧ rs.length = rs2.length ∧ ceqL ((rs.map Prod.fst).drop k) ((rs2.map Prod.fst).drop k) = ceqL (rs.map Prod.fst) (rs2.map Prod.fst)) (fun k => rs.length - k) (0) ⟨Nat.zero_le _, by omega, rfl⟩ rfl ⟨rfl, rfl, rfl, rfl, trivial⟩ (.keep (fun _ _ h => h) (.keep (fun _ _ h => h) (.nil))) (fun k hphi => ?_)
        subst hu_13
        subst hu_14
        subst hu_15
        subst hA_16
        subst hA_17
        refine c_seq ?_
        refine c_region ?_
        refine r_val .none rfl (p_lt rfl rfl) ?_
        refine r_nil ?_
        refine e_next ?_
        refine c_seq ?_
        refine c_splitd (d := 31) rfl (fun h_18 => ?_) (fun h_18 => ?_)
        · skip
          first
            | (exfalso; omega)
            | (
              refine c_cond_t rfl ?_
              refine c_skip ?_
              refine e_next ?_
              refine c_seq ?_
              refine c_block ?_
              refine c_seq ?_
              refine c_region ?_
              refine r_val .none rfl (p_move rfl) ?_
              refine r_val .none rfl (p_assign rfl) ?_
              refine r_nil ?_
              refine e_next ?_
              refine c_seq ?_
              refine c_region_q mixed (by kernel_rfl) ?_
              refine q_val .none rfl (p_field Try.underlying44 rfl sz29 rfl) ?_
              refine q_val .none rfl (p_ld (k := 1) Try.underlying29 rfl rfl rfl (by first | exact of_decide_eq_true rfl | omega) rfl) ?_
              refine q_val .none rfl (p_move rfl) ?_
              refine q_iaddr_g .none rfl Try.underlying29 sz44 rfl hr rfl (by first | exact of_decide_eq_true rfl | omega) (fun p_20 o_21 R_19 => ?_)
              have hc_22 := hp _ (getD_mem (i := k) (d := d0) (by omega))
              refine q_val .none rfl (p_ldga0 Try.underlying44 rfl sz44 rfl R_19 (by first | exact of_decide_eq_true rfl | omega) (rfl : _ = Value.agg #[_, _, _, _, _, _, _, _])) ?_
              refine q_val .none rfl (p_field Try.underlying44 rfl sz29 rfl) ?_
              refine q_val .none rfl (p_ld (k := 0) Try.underlying29 rfl rfl rfl (by first | exact of_decide_eq_true rfl | omega) rfl) ?_
              refine q_val .none rfl (p_move rfl) ?_
              refine q_iaddr_g .none rfl Try.underlying29 sz44 rfl hr2 rfl (by first | exact of_decide_eq_true rfl | omega) (fun p_24 o_25 R_23 => ?_)
              have hc_26 := hp2 _ (getD_mem (i := k) (d := d0) (by omega))
              refine q_val .none rfl (p_ldga0 Try.underlying44 rfl sz44 rfl R_23 (by first | exact of_decide_eq_true rfl | omega) (rfl : _ = Value.agg #[_, _, _, _, _, _, _, _])) ?_
              refine q_call (vs := [_, _]) .none rfl cl45 rfl (fun w hw => ih (rs.getD k d0).1 _ _ _ _ w (size_at hl (by omega) hz) hc_22 hc_26 hw) ?_
              refine q_val .none rfl (p_not rfl) ?_
              refine q_nil ?_
              refine e_next ?_
              refine c_splitn (d := 44) rfl (fun h_27 => ?_) (fun h_27 => ?_)
              · skip
                have hE := h_27
                first
                  | (exfalso; omega)
                  | (
                    refine c_cond_t rfl ?_
                    refine c_seq ?_
                    refine c_region ?_
                    refine r_val .none rfl (p_assign rfl) ?_
                    refine r_nil ?_
                    refine e_next ?_
                    refine c_ret ?_
                    refine e_ret_block ?_
                    refine e_ret_then ?_
                    refine e_ret_then ?_
                    refine e_ret_block ?_
                    refine e_ret_then ?_
                    refine e_ret1 Try.results45 (.tmp rfl .nil) (fun w hm => ⟨?_, hm.since⟩)
                    first
                    | exact congrArg Value.bool (ceq_no (Or.imp_right (fun hx => by omega) hN)).symm
                    | (rw [ceq_sub hN.1, hl, hl2, ← hphi.2.2, ceqL_no (by omega) (by omega) hE]; done)
                    | (rw [ceq_sub hN.1, hl, hl2, ← hphi.2.2, List.drop_eq_nil_of_le (by simp; omega), List.drop_eq_nil_of_le (by simp; omega)]; rfl)
                    )
              · skip
                have hE := h_27
                first
                  | (exfalso; omega)
                  | (
                    refine c_cond_f rfl ?_
                    refine c_skip ?_
                    refine e_norm_block ?_
                    refine e_next ?_
                    refine c_region ?_
                    refine r_val .none rfl (p_add rfl rfl (by omega)) ?_
                    refine r_val .none rfl (p_move rfl) ?_
                    refine r_nil ?_
                    refine e_round (k + 1) ⟨⟨by omega, hphi.2.1, by rw [ceqL_yes (by omega) (by omega) hE]; exact hphi.2.2⟩, by omega⟩ rfl ⟨rfl, rfl, rfl, rfl, trivial⟩ (.keep (fun _ _ h => h) (.keep (fun _ _ h => h) (.nil)))
                    )
              )
        · skip
          first
            | (exfalso; omega)
            | (
              refine c_cond_f rfl ?_
              refine c_exit ?_
              refine e_exit_then ?_
              refine e_exit_then ?_
              refine e_exit_block ?_
              refine e_next ?_
              refine c_seq ?_
              refine c_region ?_
              refine r_val .none rfl (p_assign rfl) ?_
              refine r_nil ?_
              refine e_next ?_
              refine c_ret ?_
              refine e_ret1 Try.results45 (.tmp rfl .nil) (fun w hm => ⟨?_, hm.since⟩)
              first
              | exact congrArg Value.bool (ceq_no (Or.imp_right (fun hx => by omega) hN)).symm
              | (rw [ceq_sub hN.1, hl, hl2, ← hphi.2.2, ceqL_no (by omega) (by omega) hE]; done)
              | (rw [ceq_sub hN.1, hl, hl2, ← hphi.2.2, List.drop_eq_nil_of_le (by simp; omega), List.drop_eq_nil_of_le (by simp; omega)]; rfl)
              )
        )
theorem c_rsame4_n : ∀ n, RsameIs n
  | 0 => fun c c2 sv sv2 G w hz _ _ _ => absurd hz (by have := size_subs c; omega)
  | n + 1 => fun c c2 sv sv2 G w hz hs hs2 hG => c_rsame4_s n (c_rsame4_n n) c sv c2 sv2 hz hs hs2 w hG
theorem c_rsame4 (c c2 : CT) (sv sv2 : Value) {G : Ghost} (hs : Rs G sv c.subs) (hs2 : Rs G sv2 c2.subs) (w : World) (hG : Has G w) : Calls Try.prog 45 #[Value.agg #[Value.int .i64 c.h.k, Value.int .i64 (vi c.h.v0), Value.int .i64 c.h.n0, Value.int .i64 (vi c.h.v1), Value.int .i64 c.h.n1, Value.int .i64 (vi c.h.v2), Value.int .i64 c.h.n2, sv], Value.agg #[Value.int .i64 c2.h.k, Value.int .i64 (vi c2.h.v0), Value.int .i64 c2.h.n0, Value.int .i64 (vi c2.h.v1), Value.int .i64 c2.h.n1, Value.int .i64 (vi c2.h.v2), Value.int .i64 c2.h.n2, sv2]] w (Ret fun r w' => r = Value.bool (ceq c c2) ∧ Since nX w w') := c_rsame4_n _ c c2 sv sv2 G w (Nat.le_refl _) hs hs2 hG
theorem c_rsame6 (v v2 : Value) (l l2 : List CT) {G : Ghost} (hs : Rs G v l) (hs2 : Rs G v2 l2) (w : World) (hG : Has G w) :
    Calls Try.prog 16 #[v, v2] w (Ret fun r w' => r = Value.bool (ceqL l l2) ∧ Since nX w w') := by
  refine enter (args := [_, _]) (X := nX) (G := G) (l := [(0, v), (1, v2)]) Try.func16 rfl Try.ntmps16 hG ⟨rfl, rfl, trivial⟩ (Nat.le_of_ble_eq_true rfl) ?_
  obtain ⟨rs, hr, hp, rfl⟩ := hs.inv
  obtain ⟨rs2, hr2, hp2, rfl⟩ := hs2.inv
  have hbd := hr.bound
  have hbd2 := hr2.bound
  refine c_seq ?_
  refine c_region ?_
  refine r_val .none rfl (p_assign rfl) ?_
  refine r_nil ?_
  refine e_next ?_
  refine c_seq ?_
  refine c_seq ?_
  refine c_region ?_
  refine r_val .none rfl (p_move rfl) ?_
  refine r_val .none rfl (p_leng Try.underlying29 rfl hr) ?_
  have bd_1 := (hr).bound
  refine r_val .none rfl (p_move rfl) ?_
  refine r_val .none rfl (p_leng Try.underlying29 rfl hr2) ?_
  have bd_2 := (hr2).bound
  refine r_val .none rfl (p_ne rfl rfl) ?_
  refine r_nil ?_
  refine e_next ?_
  refine c_splitd (d := 10) rfl (fun h_3 => ?_) (fun h_3 => ?_)
  · skip
    first
      | (exfalso; omega)
      | (
        refine c_cond_t rfl ?_
        refine c_seq ?_
        refine c_region ?_
        refine r_val .none rfl (p_assign rfl) ?_
        refine r_nil ?_
        refine e_next ?_
        refine c_ret ?_
        refine e_ret_then ?_
        refine e_ret1 Try.results16 (.tmp rfl .nil) (fun w hm => ⟨?_, hm.since⟩)
        first
        | (rw [ceqL_len (by simp; omega)])
        | (rw [← hphi.2.2, ceqL_no (by omega) (by omega) hE])
        | (rw [← hphi.2.2, List.drop_eq_nil_of_le (by simp; omega), List.drop_eq_nil_of_le (by simp; omega)]; rfl)
        )
  · skip
    first
      | (exfalso; omega)
      | (
        refine c_cond_f rfl ?_
        refine c_skip ?_
        refine e_next ?_
        refine c_seq ?_
        refine c_seq ?_
        refine c_region ?_
        refine r_val .none rfl (p_move rfl) ?_
        refine r_val .none rfl (p_leng Try.underlying29 rfl hr) ?_
        have bd_4 := (hr).bound
        refine r_val .none rfl (p_move rfl) ?_
        refine r_nil ?_
        refine e_next ?_
        refine c_block ?_
        refine c_name (d := 0) rfl (fun u_5 hu_5 => ?_)
        refine c_name (d := 1) rfl (fun u_6 hu_6 => ?_)
        refine c_name (d := 12) rfl (fun u_7 hu_7 => ?_)
        refine c_loop (σ := Nat) (fun k => [(13, Value.int .i64 (k : Nat)), (0, u_5), (1, u_6), (12, u_7)]) (fun k => []) (fun _ => _) (fun k => k ≤ rs.length ∧ rs.length = rs2.length ∧ ceqL ((rs.map Prod.fst).drop k) ((rs2.map Prod.fst).drop k) = ceqL (rs.map Prod.fst) (rs2.map Prod.fst)) (fun k => rs.length - k) (0) ⟨Nat.zero_le _, by omega, rfl⟩ rfl ⟨rfl, rfl, rfl, rfl, trivial⟩ (.nil) (fun k hphi => ?_)
        subst hu_5
        subst hu_6
        subst hu_7
        refine c_seq ?_
        refine c_region ?_
        refine r_val .none rfl (p_lt rfl rfl) ?_
        refine r_nil ?_
        refine e_next ?_
        refine c_seq ?_
        refine c_splitd (d := 14) rfl (fun h_8 => ?_) (fun h_8 => ?_)
        · skip
          first
            | (exfalso; omega)
            | (
              refine c_cond_t rfl ?_
              refine c_skip ?_
              refine e_next ?_
              refine c_seq ?_
              refine c_block ?_
              refine c_seq ?_
              refine c_region ?_
              refine r_val .none rfl (p_move rfl) ?_
              refine r_val .none rfl (p_assign rfl) ?_
              refine r_nil ?_
              refine e_next ?_
              refine c_seq ?_
              refine c_region_q mixed (by kernel_rfl) ?_
              refine q_val .none rfl (p_move rfl) ?_
              refine q_val .none rfl (p_move rfl) ?_
              refine q_iaddr_g .none rfl Try.underlying29 sz44 rfl hr rfl (by first | exact of_decide_eq_true rfl | omega) (fun p_10 o_11 R_9 => ?_)
              have hc_12 := hp _ (getD_mem (i := k) (d := d0) (by omega))
              refine q_val .none rfl (p_ldga0 Try.underlying44 rfl sz44 rfl R_9 (by first | exact of_decide_eq_true rfl | omega) (rfl : _ = Value.agg #[_, _, _, _, _, _, _, _])) ?_
              refine q_val .none rfl (p_move rfl) ?_
              refine q_val .none rfl (p_move rfl) ?_
              refine q_iaddr_g .none rfl Try.underlying29 sz44 rfl hr2 rfl (by first | exact of_decide_eq_true rfl | omega) (fun p_14 o_15 R_13 => ?_)
              have hc_16 := hp2 _ (getD_mem (i := k) (d := d0) (by omega))
              refine q_val .none rfl (p_ldga0 Try.underlying44 rfl sz44 rfl R_13 (by first | exact of_decide_eq_true rfl | omega) (rfl : _ = Value.agg #[_, _, _, _, _, _, _, _])) ?_
              refine q_call (vs := [_, _]) .none rfl cl45 rfl (fun w hw => c_rsame4 (rs.getD k d0).1 _ _ _ hc_12 hc_16 w hw) ?_
              refine q_val .none rfl (p_not rfl) ?_
              refine q_nil ?_
              refine e_next ?_
              refine c_splitn (d := 25) rfl (fun h_17 => ?_) (fun h_17 => ?_)
              · skip
                have hE := h_17
                first
                  | (exfalso; omega)
                  | (
                    refine c_cond_t rfl ?_
                    refine c_seq ?_
                    refine c_region ?_
                    refine r_val .none rfl (p_assign rfl) ?_
                    refine r_nil ?_
                    refine e_next ?_
                    refine c_ret ?_
                    refine e_ret_block ?_
                    refine e_ret_then ?_
                    refine e_ret_then ?_
                    refine e_ret_block ?_
                    refine e_ret_then ?_
                    refine e_ret1 Try.results16 (.tmp rfl .nil) (fun w hm => ⟨?_, hm.since⟩)
                    first
                    | (rw [ceqL_len (by simp; omega)])
                    | (rw [← hphi.2.2, ceqL_no (by omega) (by omega) hE])
                    | (rw [← hphi.2.2, List.drop_eq_nil_of_le (by simp; omega), List.drop_eq_nil_of_le (by simp; omega)]; rfl)
                    )
              · skip
                have hE := h_17
                first
                  | (exfalso; omega)
                  | (
                    refine c_cond_f rfl ?_
                    refine c_skip ?_
                    refine e_norm_block ?_
                    refine e_next ?_
                    refine c_region ?_
                    refine r_val .none rfl (p_add rfl rfl (by omega)) ?_
                    refine r_val .none rfl (p_move rfl) ?_
                    refine r_nil ?_
                    refine e_round (k + 1) ⟨⟨by omega, hphi.2.1, by rw [ceqL_yes (by omega) (by omega) hE]; exact hphi.2.2⟩, by omega⟩ rfl ⟨rfl, rfl, rfl, rfl, trivial⟩ (.nil)
                    )
              )
        · skip
          first
            | (exfalso; omega)
            | (
              refine c_cond_f rfl ?_
              refine c_exit ?_
              refine e_exit_then ?_
              refine e_exit_then ?_
              refine e_exit_block ?_
              refine e_next ?_
              refine c_seq ?_
              refine c_region ?_
              refine r_val .none rfl (p_assign rfl) ?_
              refine r_nil ?_
              refine e_next ?_
              refine c_ret ?_
              refine e_ret1 Try.results16 (.tmp rfl .nil) (fun w hm => ⟨?_, hm.since⟩)
              first
              | (rw [ceqL_len (by simp; omega)])
              | (rw [← hphi.2.2, ceqL_no (by omega) (by omega) hE])
              | (rw [← hphi.2.2, List.drop_eq_nil_of_le (by simp; omega), List.drop_eq_nil_of_le (by simp; omega)]; rfl)
              )
        )
theorem c_own6 (v : Value) (l : List CT) {G : Ghost} (hsz : sizeL l ≤ 1000) (hs : Cs G v l) (w : World) (hG : Has G w) :
    Calls Try.prog 17 #[v] w (Ret fun r w' => ∃ G', GNew w nX G G' ∧ Has G' w' ∧ SlL G' r 1 cI 0 (ownC l) ∧ Since nX w w') := by
  refine enter (args := [_]) (X := nX) (G := G) (l := [(0, v)]) Try.func17 rfl Try.ntmps17 hG ⟨rfl, trivial⟩ (Nat.le_of_ble_eq_true rfl) ?_
  obtain ⟨rs, hr, hp, rfl⟩ := hs.inv
  have hbd := hr.bound
  have hll := sizeL_len (rs.map Prod.fst)
  rw [List.length_map] at hll
  refine c_seq ?_
  refine c_region ?_
  refine r_val .none rfl (p_assign rfl) ?_
  refine r_nil ?_
  refine e_next ?_
  refine c_seq ?_
  refine c_region ?_
  refine r_val .none rfl (p_assign rfl) ?_
  refine r_nil ?_
  refine e_next ?_
  refine c_seq ?_
  refine c_region ?_
  refine r_val .none rfl (p_assign rfl) ?_
  refine r_nil ?_
  refine e_next ?_
  refine c_seq ?_
  refine c_seq ?_
  refine c_region ?_
  refine r_val .none rfl (p_move rfl) ?_
  refine r_val .none rfl (p_leng Try.underlying22 rfl hr) ?_
  have bd_1 := (hr).bound
  refine r_val .none rfl (p_move rfl) ?_
  refine r_nil ?_
  refine e_next ?_
  refine c_block ?_
  refine c_nilrow 3 1 ?_
  refine c_name (d := 2) rfl (fun u_2 hu_2 => ?_)
  refine c_name (d := 7) rfl (fun u_3 hu_3 => ?_)
  refine c_name (d := 8) rfl (fun u_4 hu_4 => ?_)
  refine c_loop (σ := Nat × Value) (fun s => [(9, Value.int .i64 (s.1 : Nat)), (4, Value.int .i64 (sizeL ((rs.map Prod.fst).take s.1) : Nat)), (3, s.2), (2, u_2), (7, u_3), (8, u_4)]) (fun s => [rowA (s.2) 3 1 ((ownCTo (rs.map Prod.fst) s.1)).length (((ownCTo (rs.map Prod.fst) s.1)).flatMap cI)]) (fun _ => _) (fun s => s.1 ≤ rs.length) (fun s => rs.length - s.1) ((0, _)) (Nat.zero_le _) rfl ⟨rfl, rfl, rfl, rfl, rfl, rfl, trivial⟩ (.keep (fun _ _ h => rowA_nil rfl _ _ h) (.nil)) (fun s hphi => ?_)
  subst hu_2
  subst hu_3
  subst hu_4
  obtain ⟨k, v⟩ := s
  dsimp only at hphi ⊢
  refine c_row1 (k := 0) rfl (fun ov => ?_)
  refine c_rowlen (k := 0) rfl (fun l63 => ?_)
  refine c_seq ?_
  refine c_region ?_
  refine r_val .none rfl (p_lt rfl rfl) ?_
  refine r_nil ?_
  refine e_next ?_
  refine c_seq ?_
  refine c_splitd (d := 10) rfl (fun h_5 => ?_) (fun h_5 => ?_)
  · skip
    first
      | (exfalso; omega)
      | (
        refine c_cond_t rfl ?_
        refine c_skip ?_
        refine e_next ?_
        refine c_seq ?_
        refine c_block ?_
        refine c_seq ?_
        refine c_region ?_
        refine r_iaddr_g .none rfl Try.underlying22 sz38 rfl hr rfl (by first | exact of_decide_eq_true rfl | omega) (fun p_7 o_8 R_6 => ?_)
        have hc_9 := hp _ (getD_mem (i := k) (d := d0) (by omega))
        have hz3 : size (rs.getD k d0).1 ≤ 1000 := Nat.le_trans (sizeL_mem (List.mem_map.2 ⟨_, getD_mem (i := k) (d := d0) (by omega), rfl⟩)) hsz
        refine r_val .none rfl (p_ldga0 Try.underlying38 rfl sz38 rfl R_6 (by first | exact of_decide_eq_true rfl | omega) (rfl : _ = Value.agg #[_, _, _, _, _, _, _, _])) ?_
        have hst := sizeL_take (rs := rs) (k := k) (by omega)
        have hst2 := sizeL_take_le (rs.map Prod.fst) (k + 1)
        refine r_alloc .none rfl zr38 (IsRow.lit _) (fun b_1 => ?_)
        refine r_stw (k := 0) .none sz38 rfl rfl (IsRow.lit _) (one_lit rfl (all_cons rfl (all_cons rfl (all_cons rfl (all_cons rfl (all_cons rfl (all_cons rfl (all_cons rfl (all_cons (hc_9).one rfl))))))))) rfl ?_
        refine r_nil ?_
        refine e_next ?_
        refine c_seq ?_
        refine c_region ?_
        refine r_val .none rfl (p_move rfl) ?_
        refine r_val .none rfl (p_ldw (k := 0) Try.underlying38 rfl sz38 rfl rfl (rfl : _ = Value.agg #[_, _, _, _, _, _, _, _])) ?_
        refine r_call (vs := [_]) .none rfl cl46 rfl (fun w hw => c_size (rs.getD k d0).1 _ hz3 hc_9 w hw) ?_
        refine r_val .none rfl (p_add rfl rfl (by omega)) ?_
        refine r_val .none rfl (p_assign rfl) ?_
        refine r_nil ?_
        refine e_next ?_
        refine c_region ?_
        refine r_val .none rfl (p_move rfl) ?_
        refine r_val .none rfl (p_move rfl) ?_
        refine r_val .none rfl (p_sub rfl rfl (by omega)) ?_
        refine r_bslice (vs := [(0, Value.int _ _)]) (c := #[_]) .none rfl Try.underlying32 el3 rfl rfl rfl (bs3_10i2 _ _) (IsRow.lit _) (fun b_2 => ?_)
        refine r_append (k := 2) (k2 := 0) .none rfl Try.underlying32 el3 rfl (by decide) rfl rfl rfl rfl rfl (one_lit rfl rfl) (by rw [ownCTo_len]; simp only [maxLen]; omega) (by rw [ownCTo_len]; omega) (fun v_10 => ?_)
        refine r_row1 (k := 2) rfl (fun o_11 => ?_)
        refine r_val .none rfl (p_assign rfl) ?_
        refine r_nil ?_
        refine e_norm_block ?_
        refine e_next ?_
        refine c_region ?_
        refine r_val .none rfl (p_add rfl rfl (by omega)) ?_
        refine r_val .none rfl (p_move rfl) ?_
        refine r_nil ?_
        refine e_round ((k + 1, _)) ⟨by dsimp only; omega, by dsimp only; omega⟩ rfl ⟨rfl, (congrArg (fun z => some (Value.int .i64 z)) (by rw [hst]; omega)), rfl, rfl, rfl, rfl, trivial⟩ (.drop (.drop (.keep (fun _ _ h => rowA_snoc (ownCTo_succ _ _) rfl rfl (by rw [hst]; exact congrArg (fun z => [Value.int .i64 z]) (by omega)) _ _ h) (.nil))))
        )
  · skip
    first
      | (exfalso; omega)
      | (
        refine c_cond_f rfl ?_
        refine c_exit ?_
        refine e_exit_then ?_
        refine e_exit_then ?_
        refine e_exit_block ?_
        refine e_next ?_
        refine c_seq ?_
        refine c_region ?_
        refine r_val .none rfl (p_move rfl) ?_
        refine r_val .none rfl (p_assign rfl) ?_
        refine r_nil ?_
        refine e_next ?_
        refine c_ret ?_
        refine e_freeze (k := 0) rfl (fun G_12 hn_13 hs_14 => ?_)
        replace hr := hr.mono hn_13.le
        replace hp := fun p hm0 => (hp p hm0).mono hn_13.le
        refine e_ret1 Try.results17 (.tmp rfl .nil) (fun w hm => ⟨_, hn_13, hm.has, ?_, hm.since⟩)
        rw [show ownC (rs.map Prod.fst) = ownCTo (rs.map Prod.fst) k by unfold ownC ownCTo; rw [show (rs.map Prod.fst).length = k by simp; omega]]
        exact SlL.of 0 (fun _ => rfl) rfl hs_14
        )
end Go.Proofs.Ytoflaphnlfggkaa
