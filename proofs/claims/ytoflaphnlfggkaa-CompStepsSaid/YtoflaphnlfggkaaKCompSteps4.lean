/- Texts of this work, laid together: a logic of steps, plain laws, and walks of Go functions, each without a condition but those that its theorems name. -/
import Derived.Test.YtoflaphnlfggkaaKCompSteps3
import Derived.Test.YtoflaphnlfggkaaRows
import Derived.Shelf.Small.Bits
import Derived.Shelf.SlSortCmp.WholeK
import Derived.Shelf.SlSortCmp.NoneTotal
import Derived.Ground.SlsfProg
import Derived.Shelf.Small.Wraps
import Derived.Shelf.Strconv.Itoa0
import Derived.Ground.Names2Prog
import Derived.Shelf.Slices.SearchI
import Derived.Test.YtoflaphnlfggkaaProg
/- Walks: what Go functions of this chapter come to, each as a function on plain data; no condition but those that each theorem names. Printed by a program of this work (gen.py). -/
namespace Go.Proofs.Ytoflaphnlfggkaa
open Go.Gx Go.Gx.T3 Go.Gx.T4 Go.Gx.T3 Go.Gx.T8 Go.Gx.T4 Go.Gx.T3
theorem sz48 : SzIs Try.prog 48 1 := by
  unfold SzIs
  kernel_rfl
theorem sz60 : SzIs Try.prog 60 3 := by
  unfold SzIs
  kernel_rfl
theorem sz68 : SzIs Try.prog 68 1 := by
  unfold SzIs
  kernel_rfl
theorem sz70 : SzIs Try.prog 70 6 := by
  unfold SzIs
  kernel_rfl
theorem zr70 : ZeroIs Try.prog 70 (Value.agg #[Value.int .i64 0, Value.int .i64 0, Value.int .i64 0, Value.int .i64 0, Value.slice none 0 0, Value.slice none 0 0]) := by
  unfold ZeroIs
  kernel_rfl
theorem lf41 : leafT Try.prog 9 41 = some [3, 3] := by
  kernel_rfl
theorem ef41 : eqT Try.prog 9 41 = true := by
  kernel_rfl
theorem eg41 : Try.prog.eqGuardType Try.prog.depth 41 = false := by
  kernel_rfl
theorem cl34 : Callable Try.prog 34 := callable Try.func34 (by kernel_rfl) rfl
theorem cl55 : Callable Try.prog 55 := callable Try.func55 (by kernel_rfl) rfl
theorem bl70_0i1 (x0 : Int) : Program.built Try.prog 70 [(0, Value.int .i64 x0)] = some #[Value.int .i64 x0, Value.int .i64 0, Value.int .i64 0, Value.int .i64 0, Value.slice none 0 0, Value.slice none 0 0] := by
  kernel_rfl
theorem bl96_0i1_1i1_2i1 (x0 : Int) (x1 : Int) (x2 : Int) : Program.built Try.prog 96 [(0, Value.int .i64 x0), (1, Value.int .i64 x1), (2, Value.int .i64 x2)] = some #[Value.int .i64 x0, Value.int .i64 x1, Value.int .i64 x2] := by
  kernel_rfl
theorem bs70_10a6 (a0 a1 a2 a3 a4 a5 : Value) : Instr.fill (fun i => some (i * 6, 6)) ((Array.range (1 * 6)).map ((Value.agg #[Value.int .i64 0, Value.int .i64 0, Value.int .i64 0, Value.int .i64 0, Value.slice none 0 0, Value.slice none 0 0]).cells[· % (Value.agg #[Value.int .i64 0, Value.int .i64 0, Value.int .i64 0, Value.int .i64 0, Value.slice none 0 0, Value.slice none 0 0]).cells.size]!)) [(0, Value.agg #[a0, a1, a2, a3, a4, a5])] = some #[a0, a1, a2, a3, a4, a5] := by
  kernel_rfl
theorem bs96_10a3 (a0 a1 a2 : Value) : Instr.fill (fun i => some (i * 3, 3)) ((Array.range (1 * 3)).map ((Value.agg #[Value.int .i64 0, Value.int .i64 0, Value.int .i64 0]).cells[· % (Value.agg #[Value.int .i64 0, Value.int .i64 0, Value.int .i64 0]).cells.size]!)) [(0, Value.agg #[a0, a1, a2])] = some #[a0, a1, a2] := by
  kernel_rfl
theorem el70 : ElemIs Try.prog 70 6 80 (Value.agg #[Value.int .i64 0, Value.int .i64 0, Value.int .i64 0, Value.int .i64 0, Value.slice none 0 0, Value.slice none 0 0]) := by
  unfold ElemIs
  kernel_rfl
theorem el96 : ElemIs Try.prog 96 3 24 (Value.agg #[Value.int .i64 0, Value.int .i64 0, Value.int .i64 0]) := by
  unfold ElemIs
  kernel_rfl
def OfIs (n : Nat) : Prop := ∀ (c : CT) (sv va : Value) (l : List CT) (G : Ghost) (w : World), SizeOf.sizeOf c ≤ n → l.length + size c ≤ 1000 → Rs G sv c.subs → Rs G va l → Has G w → Calls Try.prog 34 #[va, Value.agg #[Value.int .i64 c.h.k, Value.int .i64 (vi c.h.v0), Value.int .i64 c.h.n0, Value.int .i64 (vi c.h.v1), Value.int .i64 c.h.n1, Value.int .i64 (vi c.h.v2), Value.int .i64 c.h.n2, sv]] w (Ret fun r w' => ∃ G', GNew w nX G G' ∧ Has G' w' ∧ (∃ tv uv, r = Value.agg #[Value.int .i64 (stepOf l c).h.k, Value.int .i64 (stepOf l c).h.k0, Value.int .i64 (stepOf l c).h.k1, Value.int .i64 (stepOf l c).h.k2, tv, uv] ∧ SlL G' tv 3 tC t0 (stepOf l c).h.ts ∧ Ss G' uv (stepOf l c).subs) ∧ Since nX w w')
theorem c_of_s (n : Nat) (ih : OfIs n) (c : CT) (sv : Value) (va : Value) (l : List CT) {G : Ghost} (hz : SizeOf.sizeOf c ≤ n + 1) (hch : l.length + size c ≤ 1000) (hs : Rs G sv c.subs) (hs2 : Rs G va l) (w : World) (hG : Has G w) :
    Calls Try.prog 34 #[va, Value.agg #[Value.int .i64 c.h.k, Value.int .i64 (vi c.h.v0), Value.int .i64 c.h.n0, Value.int .i64 (vi c.h.v1), Value.int .i64 c.h.n1, Value.int .i64 (vi c.h.v2), Value.int .i64 c.h.n2, sv]] w (Ret fun r w' => ∃ G', GNew w nX G G' ∧ Has G' w' ∧ (∃ tv uv, r = Value.agg #[Value.int .i64 (stepOf l c).h.k, Value.int .i64 (stepOf l c).h.k0, Value.int .i64 (stepOf l c).h.k1, Value.int .i64 (stepOf l c).h.k2, tv, uv] ∧ SlL G' tv 3 tC t0 (stepOf l c).h.ts ∧ Ss G' uv (stepOf l c).subs) ∧ Since nX w w') := by
  refine enter (args := [_, _]) (X := nX) (G := G) (l := [(0, va), (1, Value.agg #[Value.int .i64 c.h.k, Value.int .i64 (vi c.h.v0), Value.int .i64 c.h.n0, Value.int .i64 (vi c.h.v1), Value.int .i64 c.h.n1, Value.int .i64 (vi c.h.v2), Value.int .i64 c.h.n2, sv])]) Try.func34 rfl Try.ntmps34 hG ⟨rfl, rfl, trivial⟩ (Nat.le_of_ble_eq_true rfl) ?_
  obtain ⟨rs, hr, hp, hl⟩ := hs.inv
  have hlen : c.subs.length = rs.length := by rw [hl]; simp
  have hbd := hr.bound
  have hrl := size_len hl (Nat.le_refl (size c))
  obtain ⟨rc, hrc, hpc, hlc⟩ := hs2.inv
  have hcl : l.length = rc.length := by rw [hlc]; simp
  refine c_seq ?_
  refine c_region ?_
  refine r_box .none rfl rfl (IsRow.lit _) (fun b_1 => ?_)
  refine r_alloc .none rfl zr70 (IsRow.lit _) (fun b_2 => ?_)
  refine r_nil ?_
  refine e_next ?_
  refine c_seq ?_
  refine c_region ?_
  refine r_val .none rfl (p_field Try.underlying44 rfl sz3 rfl) ?_
  refine r_val .none rfl (p_ld (k := 1) Try.underlying3 rfl rfl rfl (by first | exact of_decide_eq_true rfl | omega) (rfl : _ = Value.int _ _)) ?_
  refine r_val .none rfl (p_build (vs := [(0, Value.int _ _)]) rfl (bl70_0i1 _)) ?_
  refine r_alloc .none rfl zr70 (IsRow.lit _) (fun b_3 => ?_)
  refine r_stw (k := 0) .none sz70 rfl rfl (IsRow.lit _) (one_lit rfl rfl) rfl ?_
  refine r_nil ?_
  refine e_next ?_
  refine c_seq ?_
  refine c_seq ?_
  refine c_region ?_
  refine r_val .none rfl (p_field Try.underlying44 rfl sz3 rfl) ?_
  refine r_val .none rfl (p_ld (k := 2) Try.underlying3 rfl rfl rfl (by first | exact of_decide_eq_true rfl | omega) (rfl : _ = Value.int _ _)) ?_
  refine r_val .none rfl (p_eq rfl rfl) ?_
  refine r_nil ?_
  refine e_next ?_
  refine c_splitd (d := 18) rfl (fun h_1 => ?_) (fun h_1 => ?_)
  · skip
    first
      | (exfalso; omega)
      | (
        refine c_cond_t rfl ?_
        refine c_seq ?_
        refine c_seq ?_
        refine c_region ?_
        refine r_val .none rfl (p_field Try.underlying44 rfl sz29 rfl) ?_
        refine r_val .none rfl (p_ld (k := 2) Try.underlying29 rfl rfl rfl (by first | exact of_decide_eq_true rfl | omega) rfl) ?_
        refine r_val .none rfl (p_leng Try.underlying29 rfl hr) ?_
        have bd_2 := (hr).bound
        refine r_val .none rfl (p_move rfl) ?_
        refine r_nil ?_
        refine e_next ?_
        refine c_block ?_
        refine c_nilrow 70 6 ?_
        refine c_name (d := 0) rfl (fun u_3 hu_3 => ?_)
        refine c_name (d := 3) rfl (fun u_4 hu_4 => ?_)
        refine c_name (d := 4) rfl (fun u_5 hu_5 => ?_)
        refine c_name (d := 5) rfl (fun u_6 hu_6 => ?_)
        refine c_name (d := 20) rfl (fun u_7 hu_7 => ?_)
        refine c_name (d := 21) rfl (fun u_8 hu_8 => ?_)
        refine c_nameL (k := 2) rfl (fun A_9 hA_9 => ?_)
        refine c_nameL (k := 3) rfl (fun A_10 hA_10 => ?_)
        refine c_loop (σ := Nat × Value × List SVal × Ghost) (fun s => [(22, Value.int .i64 (s.1 : Nat)), (0, u_3), (3, u_4), (4, u_5), (5, u_6), (20, u_7), (21, u_8)]) (fun s => [rowA (s.2.1) 70 6 (s.2.2.1).length ((s.2.2.1).flatMap sC), box b_3 6 70 (at_ [.int .i64 c.h.k, .int .i64 0, .int .i64 0, .int .i64 0, .slice none 0 0, s.2.1]), A_9, A_10]) (fun s => s.2.2.2) (fun s => s.1 ≤ rs.length ∧ s.2.2.1.map Prod.fst = stepsOf l ((rs.map Prod.fst).take s.1) ∧ (∀ p ∈ s.2.2.1, SlL s.2.2.2 p.2.1 3 tC t0 p.1.h.ts) ∧ (∀ p ∈ s.2.2.1, Ss s.2.2.2 p.2.2 p.1.subs) ∧ GNew w nX G s.2.2.2) (fun s => rs.length - s.1) ((0, _, [], _)) ⟨Nat.zero_le _, rfl, by simp, by simp, GNew.refl _ _ _⟩ rfl ⟨rfl, rfl, rfl, rfl, rfl, rfl, rfl, trivial⟩ (.keep (fun _ _ h => rowA_nil rfl _ _ h) (.keep (fun _ _ h => box_congr (fun i hi => by match i, hi with | 0, _ => rfl | 1, _ => rfl | 2, _ => rfl | 3, _ => rfl | 4, _ => rfl | 5, _ => rfl) _ _ h) (.keep (fun _ _ h => h) (.keep (fun _ _ h => h) (.nil))))) (fun s hphi => ?_)
        subst hu_3
        subst hu_4
        subst hu_5
        subst hu_6
        subst hu_7
        subst hu_8
        subst hA_9
        subst hA_10
        obtain ⟨k, v, qs, H⟩ := s
        obtain ⟨hk, hq, hqt, hqs, hgn⟩ := hphi
        dsimp only at hk hq hqt hqs hgn ⊢
        have hql : qs.length ≤ k := (by have := congrArg List.length hq; rw [stepsOf_len] at this; simp at this; omega)
        refine c_row1 (k := 0) rfl (fun ov => ?_)
        refine c_rowlen (k := 0) rfl (fun l63 => ?_)
        replace hrc := hrc.mono hgn.le
        replace hp := fun p hm0 => (hp p hm0).mono hgn.le
        replace hr := hr.mono hgn.le
        replace hpc := fun p hm0 => (hpc p hm0).mono hgn.le
        replace hs2 := hs2.mono hgn.le
        refine c_seq ?_
        refine c_region ?_
        refine r_val .none rfl (p_lt rfl rfl) ?_
        refine r_nil ?_
        refine e_next ?_
        refine c_seq ?_
        refine c_splitd (d := 23) rfl (fun h_11 => ?_) (fun h_11 => ?_)
        · skip
          first
            | (exfalso; omega)
            | (
              refine c_cond_t rfl ?_
              refine c_skip ?_
              refine e_next ?_
              refine c_seq ?_
              refine c_block ?_
              refine c_seq ?_
              refine c_region ?_
              refine r_val .none rfl (p_move rfl) ?_
              refine r_iaddr_g .none rfl Try.underlying29 sz44 rfl hr rfl (by first | exact of_decide_eq_true rfl | omega) (fun p_13 o_14 R_12 => ?_)
              have hc_15 := hp _ (getD_mem (i := k) (d := d0) (by omega))
              have hz5 : (l ++ ((rs.map Prod.fst).take k)).length + size (rs.getD k d0).1 ≤ 1000 := by have h1 := sizeL_take (rs := rs) (k := k) (by omega); have h2 := sizeL_take_le (rs.map Prod.fst) (k + 1); have h3 := sizeL_len ((rs.map Prod.fst).take k); have h4 := size_eq c; rw [hl] at h4; rw [List.length_take, List.length_map] at h3; rw [List.length_append, List.length_take, List.length_map]; omega
              refine r_val .none rfl (p_ldga0 Try.underlying44 rfl sz44 rfl R_12 (by first | exact of_decide_eq_true rfl | omega) (rfl : _ = Value.agg #[_, _, _, _, _, _, _, _])) ?_
              refine r_alloc .none rfl zr44 (IsRow.lit _) (fun b_4 => ?_)
              refine r_val .none rfl (p_assign rfl) ?_
              refine r_stw (k := 0) .none sz44 rfl rfl (IsRow.lit _) (one_lit rfl (all_cons rfl (all_cons rfl (all_cons rfl (all_cons rfl (all_cons rfl (all_cons rfl (all_cons rfl (all_cons (hc_15).one rfl))))))))) rfl ?_
              refine r_nil ?_
              refine e_next ?_
              refine c_seq ?_
              refine c_region ?_
              refine r_val .none rfl (p_assign rfl) ?_
              refine r_nil ?_
              refine e_next ?_
              refine c_seq ?_
              refine c_region ?_
              refine r_val .none rfl (p_move rfl) ?_
              refine r_val .none rfl (p_move rfl) ?_
              refine r_nilrow 44 8 ?_
              refine r_append_g (k := 0) .none rfl Try.underlying29 el44 rfl (by decide) rfl rfl rfl hrc (rv_ones hpc) (by simp only [maxLen]; omega) (by omega) (fun v_16 => ?_)
              refine r_row1 (k := 0) rfl (fun o_17 => ?_)
              refine r_val .none rfl (p_assign rfl) ?_
              refine r_nil ?_
              refine e_next ?_
              refine c_seq ?_
              refine c_region ?_
              refine r_val .none rfl (p_move rfl) ?_
              refine r_val .none rfl (p_field Try.underlying44 rfl sz29 rfl) ?_
              refine r_val .none rfl (p_ld (k := 5) Try.underlying29 rfl rfl rfl (by first | exact of_decide_eq_true rfl | omega) rfl) ?_
              refine r_val .none rfl (p_move rfl) ?_
              refine r_slice0 (k) .none rfl Try.underlying29 sz44 rfl hr rfl (by first | exact of_decide_eq_true rfl | omega) (fun v_18 hs_19 => ?_)
              have hpt_21 := (Tr.take (by omega) hs_19 hp).1
              refine r_append_g (k := 0) .none rfl Try.underlying29 el44 rfl (by decide) rfl rfl rfl hpt_21 (rv_ones (fun p hm0 => hp p (List.mem_of_mem_take hm0))) (by rw [List.length_take]; simp only [maxLen]; omega) (by rw [List.length_take]; omega) (fun v_22 => ?_)
              refine r_row1 (k := 0) rfl (fun o_23 => ?_)
              refine r_freeze (k := 0) rfl (fun G_24 hn_25 hs_26 => ?_)
              replace hrc := hrc.mono hn_25.le
              replace hp := fun p hm0 => (hp p hm0).mono hn_25.le
              replace hr := hr.mono hn_25.le
              replace hpc := fun p hm0 => (hpc p hm0).mono hn_25.le
              replace hs2 := hs2.mono hn_25.le
              replace hqt := fun p hm0 => (hqt p hm0).mono hn_25.le
              replace hqs := fun p hm0 => (hqs p hm0).mono hn_25.le
              replace R_12 := R_12.mono hn_25.le
              replace hc_15 := hc_15.mono hn_25.le
              replace hs_19 := hs_19.mono hn_25.le
              replace hpt_21 := hpt_21.mono hn_25.le
              have hf_27 : SlL G_24 v_22 8 rvC d0 (rc ++ rs.take k) := SlL.of2 d0 (fun _ => rfl) (by simp) (by rw [List.nil_append, flat_all (cells := rvC) (fun _ => rfl), flat_all (cells := rvC) (fun _ => rfl), List.flatMap_append]) hs_26
              have hT_28 : Rs G_24 v_22 (l ++ ((rs.map Prod.fst).take k)) := by rw [hlc, ← List.map_take, ← List.map_append]; exact Tr.mk _ hf_27 (fun p hm0 => by rcases List.mem_append.1 hm0 with h | h; exact hpc p h; exact hp p (List.mem_of_mem_take h))
              refine r_val .none rfl (p_assign rfl) ?_
              refine r_nil ?_
              refine e_next ?_
              refine c_region_d (fun j => [6, 7, 8].contains j) _ mixed (.keep (fun _ _ h => h) (.keep (fun _ _ h => h) (.keep (fun _ _ h => h) (.keep (fun _ _ h => h) (.keep (fun _ _ h => h) (.nil)))))) ?_
              refine d_val1 0 rfl rfl (by kernel_rfl) (fun j hj => by have h : 8 < j := (Nat.lt_of_lt_of_le (by decide : 8 < 9) hj); simp; omega) .none rfl (p_field Try.underlying70 rfl sz48 rfl) ?_
              refine d_val1 1 rfl rfl (by kernel_rfl) (fun j hj => by have h : 8 < j := (Nat.lt_of_lt_of_le (by decide : 8 < 9) hj); simp; omega) .none rfl (p_ld (k := 2) Try.underlying48 rfl rfl rfl (by first | exact of_decide_eq_true rfl | omega) rfl) ?_
              refine d_val1 2 rfl rfl (by kernel_rfl) (fun j hj => by have h : 8 < j := (Nat.lt_of_lt_of_le (by decide : 8 < 9) hj); simp; omega) .none rfl (p_move rfl) ?_
              refine d_val1 3 rfl rfl (by kernel_rfl) (fun j hj => by have h : 8 < j := (Nat.lt_of_lt_of_le (by decide : 8 < 9) hj); simp; omega) .none rfl (p_ldw (k := 0) Try.underlying44 rfl sz44 rfl rfl (rfl : _ = Value.agg #[_, _, _, _, _, _, _, _])) ?_
              refine d_eff 4 rfl (by kernel_rfl) (fun K_29 hKK_29 hcK_29 => ?_)
              refine r_callm (vs := [_, _]) .none rfl cl34 rfl (fun w hw => ih (rs.getD k d0).1 _ _ _ _ w (size_at hl (by omega) hz) hz5 hc_15 hT_28 hw) (fun G_30 v_33 hn_31 hr_32 => ?_)
              replace hrc := hrc.mono hn_31.le
              replace hp := fun p hm0 => (hp p hm0).mono hn_31.le
              replace hr := hr.mono hn_31.le
              replace hpc := fun p hm0 => (hpc p hm0).mono hn_31.le
              replace hs2 := hs2.mono hn_31.le
              replace hqt := fun p hm0 => (hqt p hm0).mono hn_31.le
              replace hqs := fun p hm0 => (hqs p hm0).mono hn_31.le
              replace R_12 := R_12.mono hn_31.le
              replace hc_15 := hc_15.mono hn_31.le
              replace hs_19 := hs_19.mono hn_31.le
              replace hpt_21 := hpt_21.mono hn_31.le
              replace hT_28 := hT_28.mono hn_31.le
              obtain ⟨u_34a, u_34b, rfl, u_34s, u_34t⟩ := hr_32
              refine r_nil (e_d (i := 4) (brk := (fun j => [6, 7, 8].contains j)) (ph' := true) hKK_29 hcK_29 rfl (fun _ => hn_31.le) (fun _ => .keep (fun _ _ h => h) (.keep (fun _ _ h => h) (.keep (fun _ _ h => h) (.keep (fun _ _ h => h) (.keep (fun _ _ h => h) (.nil)))))) ?_)
              clear hKK_29 hcK_29 K_29
              refine d_eff 5 rfl (by kernel_rfl) (fun K_35 hKK_35 hcK_35 => ?_)
              refine r_bslice (vs := [(0, Value.agg #[_, _, _, _, _, _])]) (c := #[_, _, _, _, _, _]) .none rfl Try.underlying48 el70 rfl rfl rfl (bs70_10a6 _ _ _ _ _ _) (IsRow.lit _) (fun b_5 => ?_)
              refine r_nil (e_d (i := 5) (brk := (fun j => [6, 7, 8].contains j)) (ph' := true) hKK_35 hcK_35 rfl (fun _ => hn_31.le) (fun _ => .drop (.keep (fun _ _ h => h) (.keep (fun _ _ h => h) (.keep (fun _ _ h => h) (.keep (fun _ _ h => h) (.keep (fun _ _ h => h) (.nil))))))) ?_)
              clear hKK_35 hcK_35 K_35
              refine d_eff 6 rfl (by kernel_rfl) (fun K_36 hKK_36 hcK_36 => ?_)
              refine r_append (k := 2) (k2 := 0) .none rfl Try.underlying48 el70 rfl (by decide) rfl rfl rfl rfl rfl (one_lit rfl (all_cons rfl (all_cons rfl (all_cons rfl (all_cons rfl (all_cons (u_34s).one (all_cons (u_34t).one rfl))))))) (by simp only [maxLen]; omega) (by omega) (fun v_37 => ?_)
              refine r_row1 (k := 2) rfl (fun o_38 => ?_)
              refine r_nil (e_d (i := 6) (brk := (fun j => [6, 7, 8].contains j)) (ph' := false) hKK_36 hcK_36 rfl (fun h => by cases h) (fun h => by cases h) ?_)
              clear hKK_36 hcK_36 K_36
              refine d_val2 7 rfl rfl (by kernel_rfl) .none rfl (fun _ => p_field Try.underlying70 rfl sz48 rfl) ?_
              refine d_eff 8 rfl (by kernel_rfl) (fun K_39 hKK_39 hcK_39 => ?_)
              refine r_st (k := 3) .none sz48 rfl rfl o_38 rfl (by first | exact of_decide_eq_true rfl | omega) ?_
              refine r_nil (e_d (i := 8) (brk := (fun j => [6, 7, 8].contains j)) (ph' := false) hKK_39 hcK_39 rfl (fun h => by cases h) (fun h => by cases h) ?_)
              clear hKK_39 hcK_39 K_39
              refine d_nil (by kernel_rfl) ?_
              refine e_norm_block ?_
              refine e_next ?_
              refine c_region ?_
              refine r_val .none rfl (p_add rfl rfl (by omega)) ?_
              refine r_val .none rfl (p_move rfl) ?_
              refine r_nil ?_
              refine e_round ((k + 1, _, qs ++ [(stepOf (l ++ ((rs.map Prod.fst).take k)) (rs.getD k d0).1, u_34a, u_34b)], _)) ⟨⟨by dsimp only; omega, by rw [stepsOf_take (by omega), List.map_append, hq]; rfl, (fun p hp' => by rcases List.mem_append.1 hp' with h | h; exact hqt p h; rw [List.mem_singleton.1 h]; exact u_34s), (fun p hp' => by rcases List.mem_append.1 hp' with h | h; exact hqs p h; rw [List.mem_singleton.1 h]; exact u_34t), ((hgn.trans hn_25).trans hn_31)⟩, by dsimp only; omega⟩ rfl ⟨rfl, rfl, rfl, rfl, rfl, rfl, rfl, trivial⟩ (.drop (.drop (.keep (fun _ _ h => rowA_snoc (l := qs) (x := (stepOf (l ++ ((rs.map Prod.fst).take k)) (rs.getD k d0).1, u_34a, u_34b)) rfl rfl rfl rfl _ _ h) (.keep (fun _ _ h => box_congr (fun i hi => by match i, hi with | 0, _ => rfl | 1, _ => rfl | 2, _ => rfl | 3, _ => rfl | 4, _ => rfl | 5, _ => rfl) _ _ h) (.keep (fun _ _ h => h) (.keep (fun _ _ h => h) (.nil)))))))
              )
        · skip
          first
            | (exfalso; omega)
            | (
              refine c_cond_f rfl ?_
              refine c_exit ?_
              refine e_exit_then ?_
              refine e_exit_then ?_
              refine e_exit_block ?_
              refine e_next ?_
              refine c_seq ?_
              refine c_region ?_
              refine r_val .none rfl (p_ldw (k := 1) Try.underlying70 rfl sz70 rfl rfl (rfl : _ = Value.agg #[_, _, _, _, _, _])) ?_
              refine r_stw (k := 2) .none sz70 rfl rfl (IsRow.lit _) (one_lit rfl (all_cons rfl (all_cons rfl (all_cons rfl (all_cons rfl (all_cons rfl (all_cons ov rfl))))))) rfl ?_
              refine r_nil ?_
              refine e_next ?_
              refine c_ret ?_
              refine e_ret_then ?_
              refine e_freeze (k := 0) rfl (fun G_40 hn_41 hs_42 => ?_)
              replace hrc := hrc.mono hn_41.le
              replace hp := fun p hm0 => (hp p hm0).mono hn_41.le
              replace hr := hr.mono hn_41.le
              replace hpc := fun p hm0 => (hpc p hm0).mono hn_41.le
              replace hs2 := hs2.mono hn_41.le
              replace hqt := fun p hm0 => (hqt p hm0).mono hn_41.le
              replace hqs := fun p hm0 => (hqs p hm0).mono hn_41.le
              refine e_ret1 Try.results34 (.cell (k := 1) rfl Try.underlying70 rfl sz70 rfl (rfl : _ = Value.agg #[_, _, _, _, _, _]) .nil) (fun w hm => ⟨_, (hgn.trans hn_41), hm.has, ?_, hm.since⟩)
              have hk2 : k = rs.length := by omega
              rw [stepOf_ncc (by omega)]
              refine ⟨_, _, rfl, SlG.nil _ _ _, ?_⟩
              show Ss _ _ (stepsOf l c.subs)
              rw [show stepsOf l c.subs = qs.map Prod.fst by rw [hq, hl, List.take_of_length_le (by simp; omega)]]
              exact Ss.mk qs (SlL.of s0 (fun _ => rfl) rfl hs_42) hqt hqs
              )
        )
  · skip
    first
      | (exfalso; omega)
      | (
        refine c_cond_f rfl ?_
        refine c_skip ?_
        refine e_next ?_
        refine c_seq ?_
        refine c_seq ?_
        refine c_region ?_
        refine r_val .none rfl (p_assign rfl) ?_
        refine r_nil ?_
        refine e_next ?_
        refine c_block ?_
        refine c_nilrow 96 3 ?_
        refine c_name (d := 0) rfl (fun u_43 hu_43 => ?_)
        refine c_name (d := 3) rfl (fun u_44 hu_44 => ?_)
        refine c_name (d := 4) rfl (fun u_45 hu_45 => ?_)
        refine c_name (d := 5) rfl (fun u_46 hu_46 => ?_)
        refine c_nameL (k := 2) rfl (fun A_47 hA_47 => ?_)
        refine c_nameL (k := 3) rfl (fun A_48 hA_48 => ?_)
        refine c_loop (σ := Nat × Value) (fun s => [(9, Value.int .i64 (s.1 : Nat)), (0, u_43), (3, u_44), (4, u_45), (5, u_46)]) (fun s => [rowA (s.2) 96 3 ((testsTo l c.h s.1)).length (((testsTo l c.h s.1)).flatMap tC), box b_3 6 70 (at_ [.int .i64 c.h.k, .int .i64 (keyTo c.h s.1 0), .int .i64 (keyTo c.h s.1 1), .int .i64 (keyTo c.h s.1 2), s.2, .slice none 0 0]), A_47, A_48]) (fun _ => _) (fun s => s.1 ≤ 3) (fun s => 3 - s.1) ((0, _)) (by omega) rfl ⟨rfl, rfl, rfl, rfl, rfl, trivial⟩ (.keep (fun _ _ h => rowA_nil rfl _ _ h) (.keep (fun _ _ h => box_congr (fun i hi => by match i, hi with | 0, _ => rfl | 1, _ => rfl | 2, _ => rfl | 3, _ => rfl | 4, _ => rfl | 5, _ => rfl) _ _ h) (.keep (fun _ _ h => h) (.keep (fun _ _ h => h) (.nil))))) (fun s hphi => ?_)
        subst hu_43
        subst hu_44
        subst hu_45
        subst hu_46
        subst hA_47
        subst hA_48
        obtain ⟨f, v⟩ := s
        dsimp only at hphi ⊢
        refine c_row1 (k := 0) rfl (fun ov => ?_)
        refine c_rowlen (k := 0) rfl (fun l63 => ?_)
        obtain rfl | rfl | rfl | rfl : f = 0 ∨ f = 1 ∨ f = 2 ∨ f = 3 := by omega
        · skip
          refine c_seq ?_
          refine c_seq ?_
          refine c_region ?_
          refine r_val .none rfl (p_move rfl) ?_
          refine r_val .none rfl (p_lt rfl rfl) ?_
          refine r_say (d := 47) (v := Value.bool true) rfl ?_
          refine r_nil ?_
          refine e_next ?_
          refine c_cond_t rfl ?_
          refine c_skip ?_
          refine e_next ?_
          refine c_seq ?_
          refine c_block ?_
          refine c_seq ?_
          refine c_seq ?_
          refine c_region ?_
          refine r_val .none rfl (p_move rfl) ?_
          refine r_val .none rfl (p_field Try.underlying44 rfl sz42 rfl) ?_
          refine r_val .none rfl (p_iaddr (k := 0) Try.underlying42 sz41 rfl rfl (by first | exact of_decide_eq_true rfl | omega)) ?_
          refine r_val .none rfl (p_field Try.underlying41 rfl sz3 rfl) ?_
          refine r_val .none rfl (p_ld (k := 3) Try.underlying3 rfl rfl rfl (by first | exact of_decide_eq_true rfl | omega) (rfl : _ = Value.int _ _)) ?_
          refine r_val .none rfl (p_eq rfl rfl) ?_
          refine r_nil ?_
          refine e_next ?_
          refine c_splitd (d := 55) rfl (fun h_49 => ?_) (fun h_49 => ?_)
          · skip
            have hv : vF c.h 0 = false := vF_no h_49
            first
              | (exfalso; omega)
              | (
                refine c_cond_t rfl ?_
                refine c_seq ?_
                refine c_region ?_
                refine r_val .none rfl (p_move rfl) ?_
                refine r_val .none rfl (p_move rfl) ?_
                refine r_val .none rfl (p_field Try.underlying44 rfl sz42 rfl) ?_
                refine r_val .none rfl (p_iaddr (k := 0) Try.underlying42 sz41 rfl rfl (by first | exact of_decide_eq_true rfl | omega)) ?_
                refine r_val .none rfl (p_field Try.underlying41 rfl sz3 rfl) ?_
                refine r_val .none rfl (p_ld (k := 3) Try.underlying3 rfl rfl rfl (by first | exact of_decide_eq_true rfl | omega) (rfl : _ = Value.int _ _)) ?_
                refine r_val .none rfl (p_field Try.underlying70 rfl sz60 rfl) ?_
                refine r_val .none rfl (p_iaddr (k := 0) Try.underlying60 sz3 rfl rfl (by first | exact of_decide_eq_true rfl | omega)) ?_
                refine r_st (k := 1) .none sz3 rfl rfl rfl rfl (by first | exact of_decide_eq_true rfl | omega) ?_
                refine r_nil ?_
                refine e_next ?_
                refine c_exit ?_
                refine e_exit_then ?_
                refine e_exit_block ?_
                refine e_next ?_
                refine c_region ?_
                refine r_val .none rfl (p_move rfl) ?_
                refine r_val .none rfl (p_add rfl rfl (by omega)) ?_
                refine r_val .none rfl (p_assign rfl) ?_
                refine r_nil ?_
                refine e_round ((1, _)) ⟨Nat.le_of_ble_eq_true rfl, Nat.le_of_ble_eq_true rfl⟩ rfl ⟨rfl, rfl, rfl, rfl, rfl, trivial⟩ (.keep (fun _ _ h => rowA_same (by show testsTo l c.h (0 + 1) = _; rw [testsTo_succ, (by first | exact T1 (by assumption) | exact T4 (by assumption) (by assumption) (dup0 _) : testF l c.h 0 = []), List.append_nil]) _ _ h) (.keep (fun _ _ h => box_congr (fun i hi => by match i, hi with | 0, _ => rfl | 1, _ => exact (by first | exact congrArg (Value.int .i64) (key_set (h := c.h) (f := 0) (by assumption)).symm | exact congrArg (Value.int .i64) ((show keyTo c.h 0 0 = 0 by simp [keyTo]).trans (key_not (h := c.h) (f := 0) (by assumption)).symm)) | 2, _ => exact congrArg (Value.int .i64) (key_else (h := c.h) (f := 0) (i := 1) (by decide)).symm | 3, _ => exact congrArg (Value.int .i64) (key_else (h := c.h) (f := 0) (i := 2) (by decide)).symm | 4, _ => rfl | 5, _ => rfl) _ _ h) (.keep (fun _ _ h => h) (.keep (fun _ _ h => h) (.nil)))))
                )
          · skip
            have hv : vF c.h 0 = true := vF_yes h_49
            first
              | (exfalso; omega)
              | (
                refine c_cond_f rfl ?_
                refine c_skip ?_
                refine e_next ?_
                refine c_seq ?_
                refine c_region ?_
                refine r_val .none rfl (p_move rfl) ?_
                refine r_val .none rfl (p_move rfl) ?_
                refine r_val .none rfl (p_field Try.underlying44 rfl sz42 rfl) ?_
                refine r_val .none rfl (p_iaddr (k := 0) Try.underlying42 sz41 rfl rfl (by first | exact of_decide_eq_true rfl | omega)) ?_
                refine r_val .none rfl (p_field Try.underlying41 rfl sz3 rfl) ?_
                refine r_val .none rfl (p_ld (k := 3) Try.underlying3 rfl rfl rfl (by first | exact of_decide_eq_true rfl | omega) (rfl : _ = Value.int _ _)) ?_
                refine r_call (vs := [_, _]) .none rfl cl55 rfl (fun w hw => c_bound _ _ _ hs2 w hw) ?_
                refine r_val .none rfl (p_move rfl) ?_
                refine r_val .none rfl (p_extract rfl rfl) ?_
                refine r_val .none rfl (p_extract rfl rfl) ?_
                refine r_alloc .none rfl zr101 (IsRow.lit _) (fun b_6 => ?_)
                refine r_stw (k := 0) .none sz101 rfl rfl (IsRow.lit _) (one_lit rfl rfl) rfl ?_
                refine r_val .none rfl (p_assign rfl) ?_
                refine r_nil ?_
                refine e_next ?_
                refine c_seq ?_
                refine c_seq ?_
                refine c_region ?_
                refine r_val .none rfl (p_move rfl) ?_
                refine r_nil ?_
                refine e_next ?_
                refine c_split (d := 74) rfl (fun h_50 => ?_) (fun h_50 => ?_)
                · skip
                  have hb : (bound (nF c.h 0) l 0).isSome = true := h_50
                  first
                    | (exfalso; omega)
                    | (
                      refine c_cond_t rfl ?_
                      refine c_seq ?_
                      refine c_region ?_
                      refine r_val .none rfl (p_field Try.underlying70 rfl sz68 rfl) ?_
                      refine r_val .none rfl (p_ld (k := 2) Try.underlying68 rfl rfl rfl (by first | exact of_decide_eq_true rfl | omega) rfl) ?_
                      refine r_val .none rfl (p_move rfl) ?_
                      refine r_val .none rfl (p_field Try.underlying101 rfl sz3 rfl) ?_
                      refine r_val .none rfl (p_ld (k := 0) Try.underlying3 rfl rfl rfl (by first | exact of_decide_eq_true rfl | omega) (rfl : _ = Value.int _ _)) ?_
                      refine r_val .none rfl (p_field Try.underlying101 rfl sz3 rfl) ?_
                      refine r_val .none rfl (p_ld (k := 0) Try.underlying3 rfl rfl rfl (by first | exact of_decide_eq_true rfl | omega) (rfl : _ = Value.int _ _)) ?_
                      refine r_val .none rfl (p_build (vs := [(0, Value.int _ _), (1, Value.int _ _), (2, Value.int _ _)]) rfl (bl96_0i1_1i1_2i1 _ _ _)) ?_
                      refine r_bslice (vs := [(0, Value.agg #[_, _, _])]) (c := #[_, _, _]) .none rfl Try.underlying68 el96 rfl rfl rfl (bs96_10a3 _ _ _) (IsRow.lit _) (fun b_7 => ?_)
                      refine r_append (k := 2) (k2 := 0) .none rfl Try.underlying68 el96 rfl (by decide) rfl rfl rfl rfl rfl (one_lit rfl rfl) (by have q0 := testsTo_len l c.h 0; have q1 := testsTo_len l c.h 1; have q2 := testsTo_len l c.h 2; simp only [maxLen]; omega) (by have q0 := testsTo_len l c.h 0; have q1 := testsTo_len l c.h 1; have q2 := testsTo_len l c.h 2; omega) (fun v_51 => ?_)
                      refine r_row1 (k := 2) rfl (fun o_52 => ?_)
                      refine r_val .none rfl (p_field Try.underlying70 rfl sz68 rfl) ?_
                      refine r_st (k := 3) .none sz68 rfl rfl o_52 rfl (by first | exact of_decide_eq_true rfl | omega) ?_
                      refine r_nil ?_
                      refine e_next ?_
                      refine c_exit ?_
                      refine e_exit_then ?_
                      refine e_exit_block ?_
                      refine e_next ?_
                      refine c_region ?_
                      refine r_val .none rfl (p_move rfl) ?_
                      refine r_val .none rfl (p_add rfl rfl (by omega)) ?_
                      refine r_val .none rfl (p_assign rfl) ?_
                      refine r_nil ?_
                      refine e_round ((1, _)) ⟨Nat.le_of_ble_eq_true rfl, Nat.le_of_ble_eq_true rfl⟩ rfl ⟨rfl, rfl, rfl, rfl, rfl, trivial⟩ (.drop (.drop (.keep (fun _ _ h => rowA_snoc (x := (((0 : Nat) : Int), ((bound (nF c.h 0) l 0).getD (0, 0)).1, ((bound (nF c.h 0) l 0).getD (0, 0)).2)) (by show testsTo l c.h (0 + 1) = _; rw [testsTo_succ, T2 (by assumption) (by assumption)]) rfl rfl rfl _ _ h) (.keep (fun _ _ h => box_congr (fun i hi => by match i, hi with | 0, _ => rfl | 1, _ => exact (by first | exact congrArg (Value.int .i64) (key_set (h := c.h) (f := 0) (by assumption)).symm | exact congrArg (Value.int .i64) ((show keyTo c.h 0 0 = 0 by simp [keyTo]).trans (key_not (h := c.h) (f := 0) (by assumption)).symm)) | 2, _ => exact congrArg (Value.int .i64) (key_else (h := c.h) (f := 0) (i := 1) (by decide)).symm | 3, _ => exact congrArg (Value.int .i64) (key_else (h := c.h) (f := 0) (i := 2) (by decide)).symm | 4, _ => rfl | 5, _ => rfl) _ _ h) (.keep (fun _ _ h => h) (.keep (fun _ _ h => h) (.nil)))))))
                      )
                · skip
                  have hb : (bound (nF c.h 0) l 0).isSome = false := h_50
                  first
                    | (exfalso; omega)
                    | (
                      refine c_cond_f rfl ?_
                      refine c_skip ?_
                      refine e_next ?_
                      refine c_seq ?_
                      refine c_region ?_
                      refine r_val .none rfl (p_assign rfl) ?_
                      refine r_nil ?_
                      refine e_next ?_
                      refine c_block ?_
                      refine c_unroll 3 ?_
                      refine l_round (n := 2) ?_
                      refine c_seq ?_
                      refine c_seq ?_
                      refine c_region ?_
                      refine r_val .none rfl (p_move rfl) ?_
                      refine r_val .none rfl (p_move rfl) ?_
                      refine r_val .none rfl (p_lt rfl rfl) ?_
                      refine r_say (d := 88) (v := Value.bool false) rfl ?_
                      refine r_nil ?_
                      refine e_next ?_
                      refine c_cond_f rfl ?_
                      refine c_exit ?_
                      refine e_exit_then ?_
                      refine e_exit_then ?_
                      refine e_exit_block ?_
                      refine e_norm_block ?_
                      refine e_next ?_
                      refine c_region ?_
                      refine r_val .none rfl (p_move rfl) ?_
                      refine r_val .none rfl (p_add rfl rfl (by omega)) ?_
                      refine r_val .none rfl (p_assign rfl) ?_
                      refine r_nil ?_
                      refine e_round ((1, _)) ⟨Nat.le_of_ble_eq_true rfl, Nat.le_of_ble_eq_true rfl⟩ rfl ⟨rfl, rfl, rfl, rfl, rfl, trivial⟩ (.drop (.keep (fun _ _ h => rowA_same (by show testsTo l c.h (0 + 1) = _; rw [testsTo_succ, (by first | exact T1 (by assumption) | exact T4 (by assumption) (by assumption) (dup0 _) : testF l c.h 0 = []), List.append_nil]) _ _ h) (.keep (fun _ _ h => box_congr (fun i hi => by match i, hi with | 0, _ => rfl | 1, _ => exact (by first | exact congrArg (Value.int .i64) (key_set (h := c.h) (f := 0) (by assumption)).symm | exact congrArg (Value.int .i64) ((show keyTo c.h 0 0 = 0 by simp [keyTo]).trans (key_not (h := c.h) (f := 0) (by assumption)).symm)) | 2, _ => exact congrArg (Value.int .i64) (key_else (h := c.h) (f := 0) (i := 1) (by decide)).symm | 3, _ => exact congrArg (Value.int .i64) (key_else (h := c.h) (f := 0) (i := 2) (by decide)).symm | 4, _ => rfl | 5, _ => rfl) _ _ h) (.keep (fun _ _ h => h) (.keep (fun _ _ h => h) (.nil))))))
                      )
                )
        · skip
          refine c_seq ?_
          refine c_seq ?_
          refine c_region ?_
          refine r_val .none rfl (p_move rfl) ?_
          refine r_val .none rfl (p_lt rfl rfl) ?_
          refine r_say (d := 47) (v := Value.bool true) rfl ?_
          refine r_nil ?_
          refine e_next ?_
          refine c_cond_t rfl ?_
          refine c_skip ?_
          refine e_next ?_
          refine c_seq ?_
          refine c_block ?_
          refine c_seq ?_
          refine c_seq ?_
          refine c_region ?_
          refine r_val .none rfl (p_move rfl) ?_
          refine r_val .none rfl (p_field Try.underlying44 rfl sz42 rfl) ?_
          refine r_val .none rfl (p_iaddr (k := 1) Try.underlying42 sz41 rfl rfl (by first | exact of_decide_eq_true rfl | omega)) ?_
          refine r_val .none rfl (p_field Try.underlying41 rfl sz3 rfl) ?_
          refine r_val .none rfl (p_ld (k := 3) Try.underlying3 rfl rfl rfl (by first | exact of_decide_eq_true rfl | omega) (rfl : _ = Value.int _ _)) ?_
          refine r_val .none rfl (p_eq rfl rfl) ?_
          refine r_nil ?_
          refine e_next ?_
          refine c_splitd (d := 55) rfl (fun h_53 => ?_) (fun h_53 => ?_)
          · skip
            have hv : vF c.h 1 = false := vF_no h_53
            first
              | (exfalso; omega)
              | (
                refine c_cond_t rfl ?_
                refine c_seq ?_
                refine c_region ?_
                refine r_val .none rfl (p_move rfl) ?_
                refine r_val .none rfl (p_move rfl) ?_
                refine r_val .none rfl (p_field Try.underlying44 rfl sz42 rfl) ?_
                refine r_val .none rfl (p_iaddr (k := 1) Try.underlying42 sz41 rfl rfl (by first | exact of_decide_eq_true rfl | omega)) ?_
                refine r_val .none rfl (p_field Try.underlying41 rfl sz3 rfl) ?_
                refine r_val .none rfl (p_ld (k := 3) Try.underlying3 rfl rfl rfl (by first | exact of_decide_eq_true rfl | omega) (rfl : _ = Value.int _ _)) ?_
                refine r_val .none rfl (p_field Try.underlying70 rfl sz60 rfl) ?_
                refine r_val .none rfl (p_iaddr (k := 1) Try.underlying60 sz3 rfl rfl (by first | exact of_decide_eq_true rfl | omega)) ?_
                refine r_st (k := 1) .none sz3 rfl rfl rfl rfl (by first | exact of_decide_eq_true rfl | omega) ?_
                refine r_nil ?_
                refine e_next ?_
                refine c_exit ?_
                refine e_exit_then ?_
                refine e_exit_block ?_
                refine e_next ?_
                refine c_region ?_
                refine r_val .none rfl (p_move rfl) ?_
                refine r_val .none rfl (p_add rfl rfl (by omega)) ?_
                refine r_val .none rfl (p_assign rfl) ?_
                refine r_nil ?_
                refine e_round ((2, _)) ⟨Nat.le_of_ble_eq_true rfl, Nat.le_of_ble_eq_true rfl⟩ rfl ⟨rfl, rfl, rfl, rfl, rfl, trivial⟩ (.keep (fun _ _ h => rowA_same (by show testsTo l c.h (1 + 1) = _; rw [testsTo_succ, (by first | exact T1 (by assumption) | exact T4 (by assumption) (by assumption) (dup1_no (by assumption)) : testF l c.h 1 = []), List.append_nil]) _ _ h) (.keep (fun _ _ h => box_congr (fun i hi => by match i, hi with | 0, _ => rfl | 1, _ => exact congrArg (Value.int .i64) (key_else (h := c.h) (f := 1) (i := 0) (by decide)).symm | 2, _ => exact (by first | exact congrArg (Value.int .i64) (key_set (h := c.h) (f := 1) (by assumption)).symm | exact congrArg (Value.int .i64) ((show keyTo c.h 1 1 = 0 by simp [keyTo]).trans (key_not (h := c.h) (f := 1) (by assumption)).symm)) | 3, _ => exact congrArg (Value.int .i64) (key_else (h := c.h) (f := 1) (i := 2) (by decide)).symm | 4, _ => rfl | 5, _ => rfl) _ _ h) (.keep (fun _ _ h => h) (.keep (fun _ _ h => h) (.nil)))))
                )
          · skip
            have hv : vF c.h 1 = true := vF_yes h_53
            first
              | (exfalso; omega)
              | (
                refine c_cond_f rfl ?_
                refine c_skip ?_
                refine e_next ?_
                refine c_seq ?_
                refine c_region ?_
                refine r_val .none rfl (p_move rfl) ?_
                refine r_val .none rfl (p_move rfl) ?_
                refine r_val .none rfl (p_field Try.underlying44 rfl sz42 rfl) ?_
                refine r_val .none rfl (p_iaddr (k := 1) Try.underlying42 sz41 rfl rfl (by first | exact of_decide_eq_true rfl | omega)) ?_
                refine r_val .none rfl (p_field Try.underlying41 rfl sz3 rfl) ?_
                refine r_val .none rfl (p_ld (k := 3) Try.underlying3 rfl rfl rfl (by first | exact of_decide_eq_true rfl | omega) (rfl : _ = Value.int _ _)) ?_
                refine r_call (vs := [_, _]) .none rfl cl55 rfl (fun w hw => c_bound _ _ _ hs2 w hw) ?_
                refine r_val .none rfl (p_move rfl) ?_
                refine r_val .none rfl (p_extract rfl rfl) ?_
                refine r_val .none rfl (p_extract rfl rfl) ?_
                refine r_alloc .none rfl zr101 (IsRow.lit _) (fun b_8 => ?_)
                refine r_stw (k := 0) .none sz101 rfl rfl (IsRow.lit _) (one_lit rfl rfl) rfl ?_
                refine r_val .none rfl (p_assign rfl) ?_
                refine r_nil ?_
                refine e_next ?_
                refine c_seq ?_
                refine c_seq ?_
                refine c_region ?_
                refine r_val .none rfl (p_move rfl) ?_
                refine r_nil ?_
                refine e_next ?_
                refine c_split (d := 74) rfl (fun h_54 => ?_) (fun h_54 => ?_)
                · skip
                  have hb : (bound (nF c.h 1) l 0).isSome = true := h_54
                  first
                    | (exfalso; omega)
                    | (
                      refine c_cond_t rfl ?_
                      refine c_seq ?_
                      refine c_region ?_
                      refine r_val .none rfl (p_field Try.underlying70 rfl sz68 rfl) ?_
                      refine r_val .none rfl (p_ld (k := 2) Try.underlying68 rfl rfl rfl (by first | exact of_decide_eq_true rfl | omega) rfl) ?_
                      refine r_val .none rfl (p_move rfl) ?_
                      refine r_val .none rfl (p_field Try.underlying101 rfl sz3 rfl) ?_
                      refine r_val .none rfl (p_ld (k := 0) Try.underlying3 rfl rfl rfl (by first | exact of_decide_eq_true rfl | omega) (rfl : _ = Value.int _ _)) ?_
                      refine r_val .none rfl (p_field Try.underlying101 rfl sz3 rfl) ?_
                      refine r_val .none rfl (p_ld (k := 0) Try.underlying3 rfl rfl rfl (by first | exact of_decide_eq_true rfl | omega) (rfl : _ = Value.int _ _)) ?_
                      refine r_val .none rfl (p_build (vs := [(0, Value.int _ _), (1, Value.int _ _), (2, Value.int _ _)]) rfl (bl96_0i1_1i1_2i1 _ _ _)) ?_
                      refine r_bslice (vs := [(0, Value.agg #[_, _, _])]) (c := #[_, _, _]) .none rfl Try.underlying68 el96 rfl rfl rfl (bs96_10a3 _ _ _) (IsRow.lit _) (fun b_9 => ?_)
                      refine r_append (k := 2) (k2 := 0) .none rfl Try.underlying68 el96 rfl (by decide) rfl rfl rfl rfl rfl (one_lit rfl rfl) (by have q0 := testsTo_len l c.h 0; have q1 := testsTo_len l c.h 1; have q2 := testsTo_len l c.h 2; simp only [maxLen]; omega) (by have q0 := testsTo_len l c.h 0; have q1 := testsTo_len l c.h 1; have q2 := testsTo_len l c.h 2; omega) (fun v_55 => ?_)
                      refine r_row1 (k := 2) rfl (fun o_56 => ?_)
                      refine r_val .none rfl (p_field Try.underlying70 rfl sz68 rfl) ?_
                      refine r_st (k := 3) .none sz68 rfl rfl o_56 rfl (by first | exact of_decide_eq_true rfl | omega) ?_
                      refine r_nil ?_
                      refine e_next ?_
                      refine c_exit ?_
                      refine e_exit_then ?_
                      refine e_exit_block ?_
                      refine e_next ?_
                      refine c_region ?_
                      refine r_val .none rfl (p_move rfl) ?_
                      refine r_val .none rfl (p_add rfl rfl (by omega)) ?_
                      refine r_val .none rfl (p_assign rfl) ?_
                      refine r_nil ?_
                      refine e_round ((2, _)) ⟨Nat.le_of_ble_eq_true rfl, Nat.le_of_ble_eq_true rfl⟩ rfl ⟨rfl, rfl, rfl, rfl, rfl, trivial⟩ (.drop (.drop (.keep (fun _ _ h => rowA_snoc (x := (((1 : Nat) : Int), ((bound (nF c.h 1) l 0).getD (0, 0)).1, ((bound (nF c.h 1) l 0).getD (0, 0)).2)) (by show testsTo l c.h (1 + 1) = _; rw [testsTo_succ, T2 (by assumption) (by assumption)]) rfl rfl rfl _ _ h) (.keep (fun _ _ h => box_congr (fun i hi => by match i, hi with | 0, _ => rfl | 1, _ => exact congrArg (Value.int .i64) (key_else (h := c.h) (f := 1) (i := 0) (by decide)).symm | 2, _ => exact (by first | exact congrArg (Value.int .i64) (key_set (h := c.h) (f := 1) (by assumption)).symm | exact congrArg (Value.int .i64) ((show keyTo c.h 1 1 = 0 by simp [keyTo]).trans (key_not (h := c.h) (f := 1) (by assumption)).symm)) | 3, _ => exact congrArg (Value.int .i64) (key_else (h := c.h) (f := 1) (i := 2) (by decide)).symm | 4, _ => rfl | 5, _ => rfl) _ _ h) (.keep (fun _ _ h => h) (.keep (fun _ _ h => h) (.nil)))))))
                      )
                · skip
                  have hb : (bound (nF c.h 1) l 0).isSome = false := h_54
                  first
                    | (exfalso; omega)
                    | (
                      refine c_cond_f rfl ?_
                      refine c_skip ?_
                      refine e_next ?_
                      refine c_seq ?_
                      refine c_region ?_
                      refine r_val .none rfl (p_assign rfl) ?_
                      refine r_nil ?_
                      refine e_next ?_
                      refine c_block ?_
                      refine c_unroll 3 ?_
                      refine l_round (n := 2) ?_
                      refine c_seq ?_
                      refine c_seq ?_
                      refine c_region ?_
                      refine r_val .none rfl (p_move rfl) ?_
                      refine r_val .none rfl (p_move rfl) ?_
                      refine r_val .none rfl (p_lt rfl rfl) ?_
                      refine r_say (d := 88) (v := Value.bool true) rfl ?_
                      refine r_nil ?_
                      refine e_next ?_
                      refine c_cond_t rfl ?_
                      refine c_skip ?_
                      refine e_next ?_
                      refine c_seq ?_
                      refine c_block ?_
                      refine c_seq ?_
                      refine c_region_q mixed (by kernel_rfl) ?_
                      refine q_val .none rfl (p_move rfl) ?_
                      refine q_val .none rfl (p_field Try.underlying44 rfl sz42 rfl) ?_
                      refine q_val .none rfl (p_iaddr (k := 0) Try.underlying42 sz41 rfl rfl (by first | exact of_decide_eq_true rfl | omega)) ?_
                      refine q_val .none rfl (p_lda (k := 4) Try.underlying41 rfl sz41 rfl rfl (by first | exact of_decide_eq_true rfl | omega) (rfl : _ = Value.agg #[_, _])) ?_
                      refine q_val .none rfl (p_move rfl) ?_
                      refine q_val .none rfl (p_field Try.underlying44 rfl sz42 rfl) ?_
                      refine q_val .none rfl (p_iaddr (k := 1) Try.underlying42 sz41 rfl rfl (by first | exact of_decide_eq_true rfl | omega)) ?_
                      refine q_val .none rfl (p_lda (k := 4) Try.underlying41 rfl sz41 rfl rfl (by first | exact of_decide_eq_true rfl | omega) (rfl : _ = Value.agg #[_, _])) ?_
                      refine q_val .none rfl (p_eqa rfl rfl (eq_flat Try.underlying41 rfl lf41 ef41 eg41 (.cons (.int Try.underlying3) (.cons (.int Try.underlying3) (.nil))) (.cons (.int Try.underlying3) (.cons (.int Try.underlying3) (.nil))))) ?_
                      refine q_nil ?_
                      refine e_next ?_
                      refine c_split (d := 99) rfl (fun h_57 => ?_) (fun h_57 => ?_)
                      · skip
                        first | have s0 : sameF c.h 0 1 = true := (same_cs c.h 0 1).symm.trans h_57 | have s1 : sameF c.h 1 1 = true := (same_cs c.h 1 1).symm.trans h_57
                        first
                          | (exfalso; omega)
                          | (
                            refine c_cond_t rfl ?_
                            refine c_seq ?_
                            refine c_region ?_
                            refine r_val .none rfl (p_field Try.underlying70 rfl sz68 rfl) ?_
                            refine r_val .none rfl (p_ld (k := 2) Try.underlying68 rfl rfl rfl (by first | exact of_decide_eq_true rfl | omega) rfl) ?_
                            refine r_val .none rfl (p_move rfl) ?_
                            refine r_val .none rfl (p_move rfl) ?_
                            refine r_val .none rfl (p_build (vs := [(0, Value.int _ _), (1, Value.int _ _), (2, Value.int _ _)]) rfl (bl96_0i1_1i1_2i1 _ _ _)) ?_
                            refine r_bslice (vs := [(0, Value.agg #[_, _, _])]) (c := #[_, _, _]) .none rfl Try.underlying68 el96 rfl rfl rfl (bs96_10a3 _ _ _) (IsRow.lit _) (fun b_10 => ?_)
                            refine r_append (k := 2) (k2 := 0) .none rfl Try.underlying68 el96 rfl (by decide) rfl rfl rfl rfl rfl (one_lit rfl rfl) (by have q0 := testsTo_len l c.h 0; have q1 := testsTo_len l c.h 1; have q2 := testsTo_len l c.h 2; simp only [maxLen]; omega) (by have q0 := testsTo_len l c.h 0; have q1 := testsTo_len l c.h 1; have q2 := testsTo_len l c.h 2; omega) (fun v_58 => ?_)
                            refine r_row1 (k := 2) rfl (fun o_59 => ?_)
                            refine r_val .none rfl (p_field Try.underlying70 rfl sz68 rfl) ?_
                            refine r_st (k := 3) .none sz68 rfl rfl o_59 rfl (by first | exact of_decide_eq_true rfl | omega) ?_
                            refine r_nil ?_
                            refine e_next ?_
                            refine c_exit ?_
                            refine e_exit_past rfl ?_
                            refine e_exit_then ?_
                            refine e_exit_then ?_
                            refine e_exit_block ?_
                            refine e_norm_block ?_
                            refine e_next ?_
                            refine c_region ?_
                            refine r_val .none rfl (p_move rfl) ?_
                            refine r_val .none rfl (p_add rfl rfl (by omega)) ?_
                            refine r_val .none rfl (p_assign rfl) ?_
                            refine r_nil ?_
                            refine e_round ((2, _)) ⟨Nat.le_of_ble_eq_true rfl, Nat.le_of_ble_eq_true rfl⟩ rfl ⟨rfl, rfl, rfl, rfl, rfl, trivial⟩ (.drop (.drop (.keep (fun _ _ h => rowA_snoc (x := (((1 : Nat) : Int), -1, 0)) (by show testsTo l c.h (1 + 1) = _; rw [testsTo_succ, T3 (by assumption) (by assumption) (dup1_yes (by assumption))]) rfl rfl rfl _ _ h) (.keep (fun _ _ h => box_congr (fun i hi => by match i, hi with | 0, _ => rfl | 1, _ => exact congrArg (Value.int .i64) (key_else (h := c.h) (f := 1) (i := 0) (by decide)).symm | 2, _ => exact (by first | exact congrArg (Value.int .i64) (key_set (h := c.h) (f := 1) (by assumption)).symm | exact congrArg (Value.int .i64) ((show keyTo c.h 1 1 = 0 by simp [keyTo]).trans (key_not (h := c.h) (f := 1) (by assumption)).symm)) | 3, _ => exact congrArg (Value.int .i64) (key_else (h := c.h) (f := 1) (i := 2) (by decide)).symm | 4, _ => rfl | 5, _ => rfl) _ _ h) (.keep (fun _ _ h => h) (.keep (fun _ _ h => h) (.nil)))))))
                            )
                      · skip
                        first | have s0 : sameF c.h 0 1 = false := (same_cs c.h 0 1).symm.trans h_57 | have s1 : sameF c.h 1 1 = false := (same_cs c.h 1 1).symm.trans h_57
                        first
                          | (exfalso; omega)
                          | (
                            refine c_cond_f rfl ?_
                            refine c_skip ?_
                            refine e_norm_block ?_
                            refine e_next ?_
                            refine c_region ?_
                            refine r_val .none rfl (p_move rfl) ?_
                            refine r_val .none rfl (p_add rfl rfl (by omega)) ?_
                            refine r_val .none rfl (p_assign rfl) ?_
                            refine r_nil ?_
                            refine e_again ?_
                            refine l_round (n := 1) ?_
                            refine c_seq ?_
                            refine c_seq ?_
                            refine c_region ?_
                            refine r_val .none rfl (p_move rfl) ?_
                            refine r_val .none rfl (p_move rfl) ?_
                            refine r_val .none rfl (p_lt rfl rfl) ?_
                            refine r_say (d := 88) (v := Value.bool false) rfl ?_
                            refine r_nil ?_
                            refine e_next ?_
                            refine c_cond_f rfl ?_
                            refine c_exit ?_
                            refine e_exit_then ?_
                            refine e_exit_then ?_
                            refine e_exit_block ?_
                            refine e_norm_block ?_
                            refine e_next ?_
                            refine c_region ?_
                            refine r_val .none rfl (p_move rfl) ?_
                            refine r_val .none rfl (p_add rfl rfl (by omega)) ?_
                            refine r_val .none rfl (p_assign rfl) ?_
                            refine r_nil ?_
                            refine e_round ((2, _)) ⟨Nat.le_of_ble_eq_true rfl, Nat.le_of_ble_eq_true rfl⟩ rfl ⟨rfl, rfl, rfl, rfl, rfl, trivial⟩ (.drop (.keep (fun _ _ h => rowA_same (by show testsTo l c.h (1 + 1) = _; rw [testsTo_succ, (by first | exact T1 (by assumption) | exact T4 (by assumption) (by assumption) (dup1_no (by assumption)) : testF l c.h 1 = []), List.append_nil]) _ _ h) (.keep (fun _ _ h => box_congr (fun i hi => by match i, hi with | 0, _ => rfl | 1, _ => exact congrArg (Value.int .i64) (key_else (h := c.h) (f := 1) (i := 0) (by decide)).symm | 2, _ => exact (by first | exact congrArg (Value.int .i64) (key_set (h := c.h) (f := 1) (by assumption)).symm | exact congrArg (Value.int .i64) ((show keyTo c.h 1 1 = 0 by simp [keyTo]).trans (key_not (h := c.h) (f := 1) (by assumption)).symm)) | 3, _ => exact congrArg (Value.int .i64) (key_else (h := c.h) (f := 1) (i := 2) (by decide)).symm | 4, _ => rfl | 5, _ => rfl) _ _ h) (.keep (fun _ _ h => h) (.keep (fun _ _ h => h) (.nil))))))
                            )
                      )
                )
        · skip
          refine c_seq ?_
          refine c_seq ?_
          refine c_region ?_
          refine r_val .none rfl (p_move rfl) ?_
          refine r_val .none rfl (p_lt rfl rfl) ?_
          refine r_say (d := 47) (v := Value.bool true) rfl ?_
          refine r_nil ?_
          refine e_next ?_
          refine c_cond_t rfl ?_
          refine c_skip ?_
          refine e_next ?_
          refine c_seq ?_
          refine c_block ?_
          refine c_seq ?_
          refine c_seq ?_
          refine c_region ?_
          refine r_val .none rfl (p_move rfl) ?_
          refine r_val .none rfl (p_field Try.underlying44 rfl sz42 rfl) ?_
          refine r_val .none rfl (p_iaddr (k := 2) Try.underlying42 sz41 rfl rfl (by first | exact of_decide_eq_true rfl | omega)) ?_
          refine r_val .none rfl (p_field Try.underlying41 rfl sz3 rfl) ?_
          refine r_val .none rfl (p_ld (k := 3) Try.underlying3 rfl rfl rfl (by first | exact of_decide_eq_true rfl | omega) (rfl : _ = Value.int _ _)) ?_
          refine r_val .none rfl (p_eq rfl rfl) ?_
          refine r_nil ?_
          refine e_next ?_
          refine c_splitd (d := 55) rfl (fun h_60 => ?_) (fun h_60 => ?_)
          · skip
            have hv : vF c.h 2 = false := vF_no h_60
            first
              | (exfalso; omega)
              | (
                refine c_cond_t rfl ?_
                refine c_seq ?_
                refine c_region ?_
                refine r_val .none rfl (p_move rfl) ?_
                refine r_val .none rfl (p_move rfl) ?_
                refine r_val .none rfl (p_field Try.underlying44 rfl sz42 rfl) ?_
                refine r_val .none rfl (p_iaddr (k := 2) Try.underlying42 sz41 rfl rfl (by first | exact of_decide_eq_true rfl | omega)) ?_
                refine r_val .none rfl (p_field Try.underlying41 rfl sz3 rfl) ?_
                refine r_val .none rfl (p_ld (k := 3) Try.underlying3 rfl rfl rfl (by first | exact of_decide_eq_true rfl | omega) (rfl : _ = Value.int _ _)) ?_
                refine r_val .none rfl (p_field Try.underlying70 rfl sz60 rfl) ?_
                refine r_val .none rfl (p_iaddr (k := 2) Try.underlying60 sz3 rfl rfl (by first | exact of_decide_eq_true rfl | omega)) ?_
                refine r_st (k := 1) .none sz3 rfl rfl rfl rfl (by first | exact of_decide_eq_true rfl | omega) ?_
                refine r_nil ?_
                refine e_next ?_
                refine c_exit ?_
                refine e_exit_then ?_
                refine e_exit_block ?_
                refine e_next ?_
                refine c_region ?_
                refine r_val .none rfl (p_move rfl) ?_
                refine r_val .none rfl (p_add rfl rfl (by omega)) ?_
                refine r_val .none rfl (p_assign rfl) ?_
                refine r_nil ?_
                refine e_round ((3, _)) ⟨Nat.le_of_ble_eq_true rfl, Nat.le_of_ble_eq_true rfl⟩ rfl ⟨rfl, rfl, rfl, rfl, rfl, trivial⟩ (.keep (fun _ _ h => rowA_same (by show testsTo l c.h (2 + 1) = _; rw [testsTo_succ, (by first | exact T1 (by assumption) | exact T4 (by assumption) (by assumption) (dup2_no (by assumption) (by assumption)) : testF l c.h 2 = []), List.append_nil]) _ _ h) (.keep (fun _ _ h => box_congr (fun i hi => by match i, hi with | 0, _ => rfl | 1, _ => exact congrArg (Value.int .i64) (key_else (h := c.h) (f := 2) (i := 0) (by decide)).symm | 2, _ => exact congrArg (Value.int .i64) (key_else (h := c.h) (f := 2) (i := 1) (by decide)).symm | 3, _ => exact (by first | exact congrArg (Value.int .i64) (key_set (h := c.h) (f := 2) (by assumption)).symm | exact congrArg (Value.int .i64) ((show keyTo c.h 2 2 = 0 by simp [keyTo]).trans (key_not (h := c.h) (f := 2) (by assumption)).symm)) | 4, _ => rfl | 5, _ => rfl) _ _ h) (.keep (fun _ _ h => h) (.keep (fun _ _ h => h) (.nil)))))
                )
          · skip
            have hv : vF c.h 2 = true := vF_yes h_60
            first
              | (exfalso; omega)
              | (
                refine c_cond_f rfl ?_
                refine c_skip ?_
                refine e_next ?_
                refine c_seq ?_
                refine c_region ?_
                refine r_val .none rfl (p_move rfl) ?_
                refine r_val .none rfl (p_move rfl) ?_
                refine r_val .none rfl (p_field Try.underlying44 rfl sz42 rfl) ?_
                refine r_val .none rfl (p_iaddr (k := 2) Try.underlying42 sz41 rfl rfl (by first | exact of_decide_eq_true rfl | omega)) ?_
                refine r_val .none rfl (p_field Try.underlying41 rfl sz3 rfl) ?_
                refine r_val .none rfl (p_ld (k := 3) Try.underlying3 rfl rfl rfl (by first | exact of_decide_eq_true rfl | omega) (rfl : _ = Value.int _ _)) ?_
                refine r_call (vs := [_, _]) .none rfl cl55 rfl (fun w hw => c_bound _ _ _ hs2 w hw) ?_
                refine r_val .none rfl (p_move rfl) ?_
                refine r_val .none rfl (p_extract rfl rfl) ?_
                refine r_val .none rfl (p_extract rfl rfl) ?_
                refine r_alloc .none rfl zr101 (IsRow.lit _) (fun b_11 => ?_)
                refine r_stw (k := 0) .none sz101 rfl rfl (IsRow.lit _) (one_lit rfl rfl) rfl ?_
                refine r_val .none rfl (p_assign rfl) ?_
                refine r_nil ?_
                refine e_next ?_
                refine c_seq ?_
                refine c_seq ?_
                refine c_region ?_
                refine r_val .none rfl (p_move rfl) ?_
                refine r_nil ?_
                refine e_next ?_
                refine c_split (d := 74) rfl (fun h_61 => ?_) (fun h_61 => ?_)
                · skip
                  have hb : (bound (nF c.h 2) l 0).isSome = true := h_61
                  first
                    | (exfalso; omega)
                    | (
                      refine c_cond_t rfl ?_
                      refine c_seq ?_
                      refine c_region ?_
                      refine r_val .none rfl (p_field Try.underlying70 rfl sz68 rfl) ?_
                      refine r_val .none rfl (p_ld (k := 2) Try.underlying68 rfl rfl rfl (by first | exact of_decide_eq_true rfl | omega) rfl) ?_
                      refine r_val .none rfl (p_move rfl) ?_
                      refine r_val .none rfl (p_field Try.underlying101 rfl sz3 rfl) ?_
                      refine r_val .none rfl (p_ld (k := 0) Try.underlying3 rfl rfl rfl (by first | exact of_decide_eq_true rfl | omega) (rfl : _ = Value.int _ _)) ?_
                      refine r_val .none rfl (p_field Try.underlying101 rfl sz3 rfl) ?_
                      refine r_val .none rfl (p_ld (k := 0) Try.underlying3 rfl rfl rfl (by first | exact of_decide_eq_true rfl | omega) (rfl : _ = Value.int _ _)) ?_
                      refine r_val .none rfl (p_build (vs := [(0, Value.int _ _), (1, Value.int _ _), (2, Value.int _ _)]) rfl (bl96_0i1_1i1_2i1 _ _ _)) ?_
                      refine r_bslice (vs := [(0, Value.agg #[_, _, _])]) (c := #[_, _, _]) .none rfl Try.underlying68 el96 rfl rfl rfl (bs96_10a3 _ _ _) (IsRow.lit _) (fun b_12 => ?_)
                      refine r_append (k := 2) (k2 := 0) .none rfl Try.underlying68 el96 rfl (by decide) rfl rfl rfl rfl rfl (one_lit rfl rfl) (by have q0 := testsTo_len l c.h 0; have q1 := testsTo_len l c.h 1; have q2 := testsTo_len l c.h 2; simp only [maxLen]; omega) (by have q0 := testsTo_len l c.h 0; have q1 := testsTo_len l c.h 1; have q2 := testsTo_len l c.h 2; omega) (fun v_62 => ?_)
                      refine r_row1 (k := 2) rfl (fun o_63 => ?_)
                      refine r_val .none rfl (p_field Try.underlying70 rfl sz68 rfl) ?_
                      refine r_st (k := 3) .none sz68 rfl rfl o_63 rfl (by first | exact of_decide_eq_true rfl | omega) ?_
                      refine r_nil ?_
                      refine e_next ?_
                      refine c_exit ?_
                      refine e_exit_then ?_
                      refine e_exit_block ?_
                      refine e_next ?_
                      refine c_region ?_
                      refine r_val .none rfl (p_move rfl) ?_
                      refine r_val .none rfl (p_add rfl rfl (by omega)) ?_
                      refine r_val .none rfl (p_assign rfl) ?_
                      refine r_nil ?_
                      refine e_round ((3, _)) ⟨Nat.le_of_ble_eq_true rfl, Nat.le_of_ble_eq_true rfl⟩ rfl ⟨rfl, rfl, rfl, rfl, rfl, trivial⟩ (.drop (.drop (.keep (fun _ _ h => rowA_snoc (x := (((2 : Nat) : Int), ((bound (nF c.h 2) l 0).getD (0, 0)).1, ((bound (nF c.h 2) l 0).getD (0, 0)).2)) (by show testsTo l c.h (2 + 1) = _; rw [testsTo_succ, T2 (by assumption) (by assumption)]) rfl rfl rfl _ _ h) (.keep (fun _ _ h => box_congr (fun i hi => by match i, hi with | 0, _ => rfl | 1, _ => exact congrArg (Value.int .i64) (key_else (h := c.h) (f := 2) (i := 0) (by decide)).symm | 2, _ => exact congrArg (Value.int .i64) (key_else (h := c.h) (f := 2) (i := 1) (by decide)).symm | 3, _ => exact (by first | exact congrArg (Value.int .i64) (key_set (h := c.h) (f := 2) (by assumption)).symm | exact congrArg (Value.int .i64) ((show keyTo c.h 2 2 = 0 by simp [keyTo]).trans (key_not (h := c.h) (f := 2) (by assumption)).symm)) | 4, _ => rfl | 5, _ => rfl) _ _ h) (.keep (fun _ _ h => h) (.keep (fun _ _ h => h) (.nil)))))))
                      )
                · skip
                  have hb : (bound (nF c.h 2) l 0).isSome = false := h_61
                  first
                    | (exfalso; omega)
                    | (
                      refine c_cond_f rfl ?_
                      refine c_skip ?_
                      refine e_next ?_
                      refine c_seq ?_
                      refine c_region ?_
                      refine r_val .none rfl (p_assign rfl) ?_
                      refine r_nil ?_
                      refine e_next ?_
                      refine c_block ?_
                      refine c_unroll 3 ?_
                      refine l_round (n := 2) ?_
                      refine c_seq ?_
                      refine c_seq ?_
                      refine c_region ?_
                      refine r_val .none rfl (p_move rfl) ?_
                      refine r_val .none rfl (p_move rfl) ?_
                      refine r_val .none rfl (p_lt rfl rfl) ?_
                      refine r_say (d := 88) (v := Value.bool true) rfl ?_
                      refine r_nil ?_
                      refine e_next ?_
                      refine c_cond_t rfl ?_
                      refine c_skip ?_
                      refine e_next ?_
                      refine c_seq ?_
                      refine c_block ?_
                      refine c_seq ?_
                      refine c_region_q mixed (by kernel_rfl) ?_
                      refine q_val .none rfl (p_move rfl) ?_
                      refine q_val .none rfl (p_field Try.underlying44 rfl sz42 rfl) ?_
                      refine q_val .none rfl (p_iaddr (k := 0) Try.underlying42 sz41 rfl rfl (by first | exact of_decide_eq_true rfl | omega)) ?_
                      refine q_val .none rfl (p_lda (k := 4) Try.underlying41 rfl sz41 rfl rfl (by first | exact of_decide_eq_true rfl | omega) (rfl : _ = Value.agg #[_, _])) ?_
                      refine q_val .none rfl (p_move rfl) ?_
                      refine q_val .none rfl (p_field Try.underlying44 rfl sz42 rfl) ?_
                      refine q_val .none rfl (p_iaddr (k := 2) Try.underlying42 sz41 rfl rfl (by first | exact of_decide_eq_true rfl | omega)) ?_
                      refine q_val .none rfl (p_lda (k := 4) Try.underlying41 rfl sz41 rfl rfl (by first | exact of_decide_eq_true rfl | omega) (rfl : _ = Value.agg #[_, _])) ?_
                      refine q_val .none rfl (p_eqa rfl rfl (eq_flat Try.underlying41 rfl lf41 ef41 eg41 (.cons (.int Try.underlying3) (.cons (.int Try.underlying3) (.nil))) (.cons (.int Try.underlying3) (.cons (.int Try.underlying3) (.nil))))) ?_
                      refine q_nil ?_
                      refine e_next ?_
                      refine c_split (d := 99) rfl (fun h_64 => ?_) (fun h_64 => ?_)
                      · skip
                        first | have s0 : sameF c.h 0 2 = true := (same_cs c.h 0 2).symm.trans h_64 | have s1 : sameF c.h 1 2 = true := (same_cs c.h 1 2).symm.trans h_64
                        first
                          | (exfalso; omega)
                          | (
                            refine c_cond_t rfl ?_
                            refine c_seq ?_
                            refine c_region ?_
                            refine r_val .none rfl (p_field Try.underlying70 rfl sz68 rfl) ?_
                            refine r_val .none rfl (p_ld (k := 2) Try.underlying68 rfl rfl rfl (by first | exact of_decide_eq_true rfl | omega) rfl) ?_
                            refine r_val .none rfl (p_move rfl) ?_
                            refine r_val .none rfl (p_move rfl) ?_
                            refine r_val .none rfl (p_build (vs := [(0, Value.int _ _), (1, Value.int _ _), (2, Value.int _ _)]) rfl (bl96_0i1_1i1_2i1 _ _ _)) ?_
                            refine r_bslice (vs := [(0, Value.agg #[_, _, _])]) (c := #[_, _, _]) .none rfl Try.underlying68 el96 rfl rfl rfl (bs96_10a3 _ _ _) (IsRow.lit _) (fun b_13 => ?_)
                            refine r_append (k := 2) (k2 := 0) .none rfl Try.underlying68 el96 rfl (by decide) rfl rfl rfl rfl rfl (one_lit rfl rfl) (by have q0 := testsTo_len l c.h 0; have q1 := testsTo_len l c.h 1; have q2 := testsTo_len l c.h 2; simp only [maxLen]; omega) (by have q0 := testsTo_len l c.h 0; have q1 := testsTo_len l c.h 1; have q2 := testsTo_len l c.h 2; omega) (fun v_65 => ?_)
                            refine r_row1 (k := 2) rfl (fun o_66 => ?_)
                            refine r_val .none rfl (p_field Try.underlying70 rfl sz68 rfl) ?_
                            refine r_st (k := 3) .none sz68 rfl rfl o_66 rfl (by first | exact of_decide_eq_true rfl | omega) ?_
                            refine r_nil ?_
                            refine e_next ?_
                            refine c_exit ?_
                            refine e_exit_past rfl ?_
                            refine e_exit_then ?_
                            refine e_exit_then ?_
                            refine e_exit_block ?_
                            refine e_norm_block ?_
                            refine e_next ?_
                            refine c_region ?_
                            refine r_val .none rfl (p_move rfl) ?_
                            refine r_val .none rfl (p_add rfl rfl (by omega)) ?_
                            refine r_val .none rfl (p_assign rfl) ?_
                            refine r_nil ?_
                            refine e_round ((3, _)) ⟨Nat.le_of_ble_eq_true rfl, Nat.le_of_ble_eq_true rfl⟩ rfl ⟨rfl, rfl, rfl, rfl, rfl, trivial⟩ (.drop (.drop (.keep (fun _ _ h => rowA_snoc (x := (((2 : Nat) : Int), -1, 0)) (by show testsTo l c.h (2 + 1) = _; rw [testsTo_succ, T3 (by assumption) (by assumption) (dup2_0 (by assumption))]) rfl rfl rfl _ _ h) (.keep (fun _ _ h => box_congr (fun i hi => by match i, hi with | 0, _ => rfl | 1, _ => exact congrArg (Value.int .i64) (key_else (h := c.h) (f := 2) (i := 0) (by decide)).symm | 2, _ => exact congrArg (Value.int .i64) (key_else (h := c.h) (f := 2) (i := 1) (by decide)).symm | 3, _ => exact (by first | exact congrArg (Value.int .i64) (key_set (h := c.h) (f := 2) (by assumption)).symm | exact congrArg (Value.int .i64) ((show keyTo c.h 2 2 = 0 by simp [keyTo]).trans (key_not (h := c.h) (f := 2) (by assumption)).symm)) | 4, _ => rfl | 5, _ => rfl) _ _ h) (.keep (fun _ _ h => h) (.keep (fun _ _ h => h) (.nil)))))))
                            )
                      · skip
                        first | have s0 : sameF c.h 0 2 = false := (same_cs c.h 0 2).symm.trans h_64 | have s1 : sameF c.h 1 2 = false := (same_cs c.h 1 2).symm.trans h_64
                        first
                          | (exfalso; omega)
                          | (
                            refine c_cond_f rfl ?_
                            refine c_skip ?_
                            refine e_norm_block ?_
                            refine e_next ?_
                            refine c_region ?_
                            refine r_val .none rfl (p_move rfl) ?_
                            refine r_val .none rfl (p_add rfl rfl (by omega)) ?_
                            refine r_val .none rfl (p_assign rfl) ?_
                            refine r_nil ?_
                            refine e_again ?_
                            refine l_round (n := 1) ?_
                            refine c_seq ?_
                            refine c_seq ?_
                            refine c_region ?_
                            refine r_val .none rfl (p_move rfl) ?_
                            refine r_val .none rfl (p_move rfl) ?_
                            refine r_val .none rfl (p_lt rfl rfl) ?_
                            refine r_say (d := 88) (v := Value.bool true) rfl ?_
                            refine r_nil ?_
                            refine e_next ?_
                            refine c_cond_t rfl ?_
                            refine c_skip ?_
                            refine e_next ?_
                            refine c_seq ?_
                            refine c_block ?_
                            refine c_seq ?_
                            refine c_region_q mixed (by kernel_rfl) ?_
                            refine q_val .none rfl (p_move rfl) ?_
                            refine q_val .none rfl (p_field Try.underlying44 rfl sz42 rfl) ?_
                            refine q_val .none rfl (p_iaddr (k := 1) Try.underlying42 sz41 rfl rfl (by first | exact of_decide_eq_true rfl | omega)) ?_
                            refine q_val .none rfl (p_lda (k := 4) Try.underlying41 rfl sz41 rfl rfl (by first | exact of_decide_eq_true rfl | omega) (rfl : _ = Value.agg #[_, _])) ?_
                            refine q_val .none rfl (p_move rfl) ?_
                            refine q_val .none rfl (p_field Try.underlying44 rfl sz42 rfl) ?_
                            refine q_val .none rfl (p_iaddr (k := 2) Try.underlying42 sz41 rfl rfl (by first | exact of_decide_eq_true rfl | omega)) ?_
                            refine q_val .none rfl (p_lda (k := 4) Try.underlying41 rfl sz41 rfl rfl (by first | exact of_decide_eq_true rfl | omega) (rfl : _ = Value.agg #[_, _])) ?_
                            refine q_val .none rfl (p_eqa rfl rfl (eq_flat Try.underlying41 rfl lf41 ef41 eg41 (.cons (.int Try.underlying3) (.cons (.int Try.underlying3) (.nil))) (.cons (.int Try.underlying3) (.cons (.int Try.underlying3) (.nil))))) ?_
                            refine q_nil ?_
                            refine e_next ?_
                            refine c_split (d := 99) rfl (fun h_67 => ?_) (fun h_67 => ?_)
                            · skip
                              first | have s0 : sameF c.h 0 2 = true := (same_cs c.h 0 2).symm.trans h_67 | have s1 : sameF c.h 1 2 = true := (same_cs c.h 1 2).symm.trans h_67
                              first
                                | (exfalso; omega)
                                | (
                                  refine c_cond_t rfl ?_
                                  refine c_seq ?_
                                  refine c_region ?_
                                  refine r_val .none rfl (p_field Try.underlying70 rfl sz68 rfl) ?_
                                  refine r_val .none rfl (p_ld (k := 2) Try.underlying68 rfl rfl rfl (by first | exact of_decide_eq_true rfl | omega) rfl) ?_
                                  refine r_val .none rfl (p_move rfl) ?_
                                  refine r_val .none rfl (p_move rfl) ?_
                                  refine r_val .none rfl (p_build (vs := [(0, Value.int _ _), (1, Value.int _ _), (2, Value.int _ _)]) rfl (bl96_0i1_1i1_2i1 _ _ _)) ?_
                                  refine r_bslice (vs := [(0, Value.agg #[_, _, _])]) (c := #[_, _, _]) .none rfl Try.underlying68 el96 rfl rfl rfl (bs96_10a3 _ _ _) (IsRow.lit _) (fun b_14 => ?_)
                                  refine r_append (k := 2) (k2 := 0) .none rfl Try.underlying68 el96 rfl (by decide) rfl rfl rfl rfl rfl (one_lit rfl rfl) (by have q0 := testsTo_len l c.h 0; have q1 := testsTo_len l c.h 1; have q2 := testsTo_len l c.h 2; simp only [maxLen]; omega) (by have q0 := testsTo_len l c.h 0; have q1 := testsTo_len l c.h 1; have q2 := testsTo_len l c.h 2; omega) (fun v_68 => ?_)
                                  refine r_row1 (k := 2) rfl (fun o_69 => ?_)
                                  refine r_val .none rfl (p_field Try.underlying70 rfl sz68 rfl) ?_
                                  refine r_st (k := 3) .none sz68 rfl rfl o_69 rfl (by first | exact of_decide_eq_true rfl | omega) ?_
                                  refine r_nil ?_
                                  refine e_next ?_
                                  refine c_exit ?_
                                  refine e_exit_past rfl ?_
                                  refine e_exit_then ?_
                                  refine e_exit_then ?_
                                  refine e_exit_block ?_
                                  refine e_norm_block ?_
                                  refine e_next ?_
                                  refine c_region ?_
                                  refine r_val .none rfl (p_move rfl) ?_
                                  refine r_val .none rfl (p_add rfl rfl (by omega)) ?_
                                  refine r_val .none rfl (p_assign rfl) ?_
                                  refine r_nil ?_
                                  refine e_round ((3, _)) ⟨Nat.le_of_ble_eq_true rfl, Nat.le_of_ble_eq_true rfl⟩ rfl ⟨rfl, rfl, rfl, rfl, rfl, trivial⟩ (.drop (.drop (.keep (fun _ _ h => rowA_snoc (x := (((2 : Nat) : Int), -1, 1)) (by show testsTo l c.h (2 + 1) = _; rw [testsTo_succ, T3 (by assumption) (by assumption) (dup2_1 (by assumption) (by assumption))]) rfl rfl rfl _ _ h) (.keep (fun _ _ h => box_congr (fun i hi => by match i, hi with | 0, _ => rfl | 1, _ => exact congrArg (Value.int .i64) (key_else (h := c.h) (f := 2) (i := 0) (by decide)).symm | 2, _ => exact congrArg (Value.int .i64) (key_else (h := c.h) (f := 2) (i := 1) (by decide)).symm | 3, _ => exact (by first | exact congrArg (Value.int .i64) (key_set (h := c.h) (f := 2) (by assumption)).symm | exact congrArg (Value.int .i64) ((show keyTo c.h 2 2 = 0 by simp [keyTo]).trans (key_not (h := c.h) (f := 2) (by assumption)).symm)) | 4, _ => rfl | 5, _ => rfl) _ _ h) (.keep (fun _ _ h => h) (.keep (fun _ _ h => h) (.nil)))))))
                                  )
                            · skip
                              first | have s0 : sameF c.h 0 2 = false := (same_cs c.h 0 2).symm.trans h_67 | have s1 : sameF c.h 1 2 = false := (same_cs c.h 1 2).symm.trans h_67
                              first
                                | (exfalso; omega)
                                | (
                                  refine c_cond_f rfl ?_
                                  refine c_skip ?_
                                  refine e_norm_block ?_
                                  refine e_next ?_
                                  refine c_region ?_
                                  refine r_val .none rfl (p_move rfl) ?_
                                  refine r_val .none rfl (p_add rfl rfl (by omega)) ?_
                                  refine r_val .none rfl (p_assign rfl) ?_
                                  refine r_nil ?_
                                  refine e_again ?_
                                  refine l_round (n := 0) ?_
                                  refine c_seq ?_
                                  refine c_seq ?_
                                  refine c_region ?_
                                  refine r_val .none rfl (p_move rfl) ?_
                                  refine r_val .none rfl (p_move rfl) ?_
                                  refine r_val .none rfl (p_lt rfl rfl) ?_
                                  refine r_say (d := 88) (v := Value.bool false) rfl ?_
                                  refine r_nil ?_
                                  refine e_next ?_
                                  refine c_cond_f rfl ?_
                                  refine c_exit ?_
                                  refine e_exit_then ?_
                                  refine e_exit_then ?_
                                  refine e_exit_block ?_
                                  refine e_norm_block ?_
                                  refine e_next ?_
                                  refine c_region ?_
                                  refine r_val .none rfl (p_move rfl) ?_
                                  refine r_val .none rfl (p_add rfl rfl (by omega)) ?_
                                  refine r_val .none rfl (p_assign rfl) ?_
                                  refine r_nil ?_
                                  refine e_round ((3, _)) ⟨Nat.le_of_ble_eq_true rfl, Nat.le_of_ble_eq_true rfl⟩ rfl ⟨rfl, rfl, rfl, rfl, rfl, trivial⟩ (.drop (.keep (fun _ _ h => rowA_same (by show testsTo l c.h (2 + 1) = _; rw [testsTo_succ, (by first | exact T1 (by assumption) | exact T4 (by assumption) (by assumption) (dup2_no (by assumption) (by assumption)) : testF l c.h 2 = []), List.append_nil]) _ _ h) (.keep (fun _ _ h => box_congr (fun i hi => by match i, hi with | 0, _ => rfl | 1, _ => exact congrArg (Value.int .i64) (key_else (h := c.h) (f := 2) (i := 0) (by decide)).symm | 2, _ => exact congrArg (Value.int .i64) (key_else (h := c.h) (f := 2) (i := 1) (by decide)).symm | 3, _ => exact (by first | exact congrArg (Value.int .i64) (key_set (h := c.h) (f := 2) (by assumption)).symm | exact congrArg (Value.int .i64) ((show keyTo c.h 2 2 = 0 by simp [keyTo]).trans (key_not (h := c.h) (f := 2) (by assumption)).symm)) | 4, _ => rfl | 5, _ => rfl) _ _ h) (.keep (fun _ _ h => h) (.keep (fun _ _ h => h) (.nil))))))
                                  )
                            )
                      )
                )
        · skip
          refine c_seq ?_
          refine c_seq ?_
          refine c_region ?_
          refine r_val .none rfl (p_move rfl) ?_
          refine r_val .none rfl (p_lt rfl rfl) ?_
          refine r_say (d := 47) (v := Value.bool false) rfl ?_
          refine r_nil ?_
          refine e_next ?_
          refine c_cond_f rfl ?_
          refine c_exit ?_
          refine e_exit_then ?_
          refine e_exit_then ?_
          refine e_exit_block ?_
          refine e_next ?_
          refine c_seq ?_
          refine c_region ?_
          refine r_val .none rfl (p_ldw (k := 1) Try.underlying70 rfl sz70 rfl rfl (rfl : _ = Value.agg #[_, _, _, _, _, _])) ?_
          refine r_stw (k := 2) .none sz70 rfl rfl (IsRow.lit _) (one_lit rfl (all_cons rfl (all_cons rfl (all_cons rfl (all_cons rfl (all_cons ov (all_cons rfl rfl))))))) rfl ?_
          refine r_nil ?_
          refine e_next ?_
          refine c_ret ?_
          refine e_freeze (k := 0) rfl (fun G_70 hn_71 hs_72 => ?_)
          replace hrc := hrc.mono hn_71.le
          replace hp := fun p hm0 => (hp p hm0).mono hn_71.le
          replace hr := hr.mono hn_71.le
          replace hpc := fun p hm0 => (hpc p hm0).mono hn_71.le
          replace hs2 := hs2.mono hn_71.le
          refine e_ret1 Try.results34 (.cell (k := 1) rfl Try.underlying70 rfl sz70 rfl (rfl : _ = Value.agg #[_, _, _, _, _, _]) .nil) (fun w hm => ⟨_, hn_71, hm.has, ?_, hm.since⟩)
          rw [stepOf_other (by omega)]
          exact ⟨_, _, rfl, SlL.of t0 (fun _ => rfl) rfl hs_72, Ss.nil⟩
        )
theorem c_of_n : ∀ n, OfIs n
  | 0 => fun c sv va l G w hz hch hs hs2 hG => absurd hz (by have := size_subs c; omega)
  | n + 1 => fun c sv va l G w hz hch hs hs2 hG => c_of_s n (c_of_n n) c sv va l hz hch hs hs2 w hG
theorem c_of (c : CT) (sv va : Value) (l : List CT) {G : Ghost} (hch : l.length + size c ≤ 1000) (hs : Rs G sv c.subs) (hs2 : Rs G va l) (w : World) (hG : Has G w) : Calls Try.prog 34 #[va, Value.agg #[Value.int .i64 c.h.k, Value.int .i64 (vi c.h.v0), Value.int .i64 c.h.n0, Value.int .i64 (vi c.h.v1), Value.int .i64 c.h.n1, Value.int .i64 (vi c.h.v2), Value.int .i64 c.h.n2, sv]] w (Ret fun r w' => ∃ G', GNew w nX G G' ∧ Has G' w' ∧ (∃ tv uv, r = Value.agg #[Value.int .i64 (stepOf l c).h.k, Value.int .i64 (stepOf l c).h.k0, Value.int .i64 (stepOf l c).h.k1, Value.int .i64 (stepOf l c).h.k2, tv, uv] ∧ SlL G' tv 3 tC t0 (stepOf l c).h.ts ∧ Ss G' uv (stepOf l c).subs) ∧ Since nX w w') := c_of_n _ c sv va l G w (Nat.le_refl _) hch hs hs2 hG
end Go.Proofs.Ytoflaphnlfggkaa

/- Walks: what Go functions of this chapter come to, each as a function on plain data; no condition but those that each theorem names. Printed by a program of this work (gen.py). -/
namespace Go.Proofs.Ytoflaphnlfggkaa
open Go.Gx Go.Gx.T3 Go.Gx.T4 Go.Gx.T3 Go.Gx.T8 Go.Gx.T4 Go.Gx.T3
theorem sz62 : SzIs Try.prog 62 1 := by
  unfold SzIs
  kernel_rfl
theorem sz64 : SzIs Try.prog 64 6 := by
  unfold SzIs
  kernel_rfl
theorem sz96 : SzIs Try.prog 96 3 := by
  unfold SzIs
  kernel_rfl
theorem zr64 : ZeroIs Try.prog 64 (Value.agg #[Value.int .i64 0, Value.int .i64 0, Value.int .i64 0, Value.int .i64 0, Value.slice none 0 0, Value.slice none 0 0]) := by
  unfold ZeroIs
  kernel_rfl
theorem zr96 : ZeroIs Try.prog 96 (Value.agg #[Value.int .i64 0, Value.int .i64 0, Value.int .i64 0]) := by
  unfold ZeroIs
  kernel_rfl
theorem cl27 : Callable Try.prog 27 := callable Try.func27 (by kernel_rfl) rfl
theorem bl64_0i1_1a3_3s3 (x0 : Int) (x1 : Value) (x2 : Value) (x3 : Value) (x4 : Option Addr) (x5 : Nat) (x6 : Nat) : Program.built Try.prog 64 [(0, Value.int .i64 x0), (1, Value.agg #[x1, x2, x3]), (3, Value.slice x4 x5 x6)] = some #[Value.int .i64 x0, x1, x2, x3, Value.slice none 0 0, Value.slice x4 x5 x6] := by
  kernel_rfl
theorem bl92_0i1_1i1_2i1 (x0 : Int) (x1 : Int) (x2 : Int) : Program.built Try.prog 92 [(0, Value.int .i64 x0), (1, Value.int .i64 x1), (2, Value.int .i64 x2)] = some #[Value.int .i64 x0, Value.int .i64 x1, Value.int .i64 x2] := by
  kernel_rfl
theorem bs64_10a6 (a0 a1 a2 a3 a4 a5 : Value) : Instr.fill (fun i => some (i * 6, 6)) ((Array.range (1 * 6)).map ((Value.agg #[Value.int .i64 0, Value.int .i64 0, Value.int .i64 0, Value.int .i64 0, Value.slice none 0 0, Value.slice none 0 0]).cells[· % (Value.agg #[Value.int .i64 0, Value.int .i64 0, Value.int .i64 0, Value.int .i64 0, Value.slice none 0 0, Value.slice none 0 0]).cells.size]!)) [(0, Value.agg #[a0, a1, a2, a3, a4, a5])] = some #[a0, a1, a2, a3, a4, a5] := by
  kernel_rfl
theorem bs92_10a3 (a0 a1 a2 : Value) : Instr.fill (fun i => some (i * 3, 3)) ((Array.range (1 * 3)).map ((Value.agg #[Value.int .i64 0, Value.int .i64 0, Value.int .i64 0]).cells[· % (Value.agg #[Value.int .i64 0, Value.int .i64 0, Value.int .i64 0]).cells.size]!)) [(0, Value.agg #[a0, a1, a2])] = some #[a0, a1, a2] := by
  kernel_rfl
theorem el64 : ElemIs Try.prog 64 6 80 (Value.agg #[Value.int .i64 0, Value.int .i64 0, Value.int .i64 0, Value.int .i64 0, Value.slice none 0 0, Value.slice none 0 0]) := by
  unfold ElemIs
  kernel_rfl
theorem el92 : ElemIs Try.prog 92 3 24 (Value.agg #[Value.int .i64 0, Value.int .i64 0, Value.int .i64 0]) := by
  unfold ElemIs
  kernel_rfl
def StepsIs (n : Nat) : Prop := ∀ (v : Value) (l : List ST) (G : Ghost) (w : World), SizeOf.sizeOf l ≤ n → sszL l ≤ 5000 → Ss G v l → Has G w → Calls Try.prog 27 #[v] w (Ret fun r w' => ∃ G', GNew w nX G G' ∧ Has G' w' ∧ Ss G' r l ∧ Since nX w w')
theorem c_compile (v : Value) (l : List CT) {G : Ghost} (hsz : sizeL l ≤ 1000) (hs : Rs G v l) (w : World) (hG : Has G w) :
    Calls Try.prog 25 #[v] w (Ret fun r w' => ∃ G', GNew w nX G G' ∧ Has G' w' ∧ Ss G' r (stepsOf [] l) ∧ Since nX w w') := by
  refine enter (args := [_]) (X := nX) (G := G) (l := [(0, v)]) Try.func25 rfl Try.ntmps25 hG ⟨rfl, trivial⟩ (Nat.le_of_ble_eq_true rfl) ?_
  obtain ⟨rs, hr, hp, rfl⟩ := hs.inv
  have hbd := hr.bound
  have hll := sizeL_len (rs.map Prod.fst)
  rw [List.length_map] at hll
  refine c_seq ?_
  refine c_region ?_
  refine r_val .none rfl (p_assign rfl) ?_
  refine r_nil ?_
  refine e_next ?_
  refine c_seq ?_
  refine c_region ?_
  refine r_val .none rfl (p_assign rfl) ?_
  refine r_nil ?_
  refine e_next ?_
  refine c_seq ?_
  refine c_seq ?_
  refine c_region ?_
  refine r_val .none rfl (p_move rfl) ?_
  refine r_val .none rfl (p_leng Try.underlying29 rfl hr) ?_
  have bd_1 := (hr).bound
  refine r_val .none rfl (p_move rfl) ?_
  refine r_nil ?_
  refine e_next ?_
  refine c_block ?_
  refine c_nilrow 70 6 ?_
  refine c_name (d := 0) rfl (fun u_2 hu_2 => ?_)
  refine c_name (d := 2) rfl (fun u_3 hu_3 => ?_)
  refine c_name (d := 6) rfl (fun u_4 hu_4 => ?_)
  refine c_name (d := 7) rfl (fun u_5 hu_5 => ?_)
  refine c_loop (σ := Nat × Value × List SVal × Ghost) (fun s => [(8, Value.int .i64 (s.1 : Nat)), (3, s.2.1), (0, u_2), (2, u_3), (6, u_4), (7, u_5)]) (fun s => [rowA (s.2.1) 70 6 (s.2.2.1).length ((s.2.2.1).flatMap sC)]) (fun s => s.2.2.2) (fun s => s.1 ≤ rs.length ∧ s.2.2.1.map Prod.fst = stepsOf [] ((rs.map Prod.fst).take s.1) ∧ (∀ p ∈ s.2.2.1, SlL s.2.2.2 p.2.1 3 tC t0 p.1.h.ts) ∧ (∀ p ∈ s.2.2.1, Ss s.2.2.2 p.2.2 p.1.subs) ∧ GNew w nX G s.2.2.2) (fun s => rs.length - s.1) ((0, _, [], _)) ⟨Nat.zero_le _, rfl, by simp, by simp, GNew.refl _ _ _⟩ rfl ⟨rfl, rfl, rfl, rfl, rfl, rfl, trivial⟩ (.keep (fun _ _ h => rowA_nil rfl _ _ h) (.nil)) (fun s hphi => ?_)
  subst hu_2
  subst hu_3
  subst hu_4
  subst hu_5
  obtain ⟨k, v, qs, H⟩ := s
  obtain ⟨hk, hq, hqt, hqs, hgn⟩ := hphi
  dsimp only at hk hq hqt hqs hgn ⊢
  have hql : qs.length ≤ k := (by have := congrArg List.length hq; rw [stepsOf_len] at this; simp at this; omega)
  replace hr := hr.mono hgn.le
  replace hp := fun p hm0 => (hp p hm0).mono hgn.le
  refine c_seq ?_
  refine c_region ?_
  refine r_val .none rfl (p_lt rfl rfl) ?_
  refine r_nil ?_
  refine e_next ?_
  refine c_seq ?_
  refine c_splitd (d := 9) rfl (fun h_6 => ?_) (fun h_6 => ?_)
  · skip
    first
      | (exfalso; omega)
      | (
        refine c_cond_t rfl ?_
        refine c_skip ?_
        refine e_next ?_
        refine c_seq ?_
        refine c_block ?_
        refine c_seq ?_
        refine c_region ?_
        refine r_val .none rfl (p_move rfl) ?_
        refine r_iaddr_g .none rfl Try.underlying29 sz44 rfl hr rfl (by first | exact of_decide_eq_true rfl | omega) (fun p_8 o_9 R_7 => ?_)
        have hc_10 := hp _ (getD_mem (i := k) (d := d0) (by omega))
        have hz6 : ((rs.map Prod.fst).take k).length + size (rs.getD k d0).1 ≤ 1000 := by have h1 := sizeL_take (rs := rs) (k := k) (by omega); have h2 := sizeL_take_le (rs.map Prod.fst) (k + 1); have h3 := sizeL_len ((rs.map Prod.fst).take k); omega
        refine r_val .none rfl (p_ldga0 Try.underlying44 rfl sz44 rfl R_7 (by first | exact of_decide_eq_true rfl | omega) (rfl : _ = Value.agg #[_, _, _, _, _, _, _, _])) ?_
        refine r_alloc .none rfl zr44 (IsRow.lit _) (fun b_1 => ?_)
        refine r_val .none rfl (p_assign rfl) ?_
        refine r_stw (k := 0) .none sz44 rfl rfl (IsRow.lit _) (one_lit rfl (all_cons rfl (all_cons rfl (all_cons rfl (all_cons rfl (all_cons rfl (all_cons rfl (all_cons rfl (all_cons (hc_10).one rfl))))))))) rfl ?_
        refine r_nil ?_
        refine e_next ?_
        refine c_region_d (fun _ => false) _ mixed (.keep (fun _ _ h => h) (.drop (.nil))) ?_
        refine d_val1 0 rfl rfl (by kernel_rfl) (fun _ _ => rfl) .none rfl (p_move rfl) ?_
        refine d_val1 1 rfl rfl (by kernel_rfl) (fun _ _ => rfl) .none rfl (p_move rfl) ?_
        refine d_val1 2 rfl rfl (by kernel_rfl) (fun _ _ => rfl) .none rfl (p_move rfl) ?_
        refine d_slice0 3 k rfl rfl (by kernel_rfl) (fun _ _ => rfl) .none rfl Try.underlying29 sz44 rfl hr rfl (by first | exact of_decide_eq_true rfl | omega) (fun v_11 hs_12 => ?_)
        have hT_14 := Tr.take2 (by omega) hs_12 hp
        refine d_val1 4 rfl rfl (by kernel_rfl) (fun _ _ => rfl) .none rfl (p_ldw (k := 0) Try.underlying44 rfl sz44 rfl rfl (rfl : _ = Value.agg #[_, _, _, _, _, _, _, _])) ?_
        refine d_eff 5 rfl (by kernel_rfl) (fun K_15 hKK_15 hcK_15 => ?_)
        refine r_callm (vs := [_, _]) .none rfl cl34 rfl (fun w hw => c_of (rs.getD k d0).1 _ _ _ hz6 hc_10 hT_14 w hw) (fun G_16 v_19 hn_17 hr_18 => ?_)
        replace hr := hr.mono hn_17.le
        replace hp := fun p hm0 => (hp p hm0).mono hn_17.le
        replace hqt := fun p hm0 => (hqt p hm0).mono hn_17.le
        replace hqs := fun p hm0 => (hqs p hm0).mono hn_17.le
        replace R_7 := R_7.mono hn_17.le
        replace hc_10 := hc_10.mono hn_17.le
        replace hs_12 := hs_12.mono hn_17.le
        replace hT_14 := hT_14.mono hn_17.le
        obtain ⟨u_20a, u_20b, rfl, u_20s, u_20t⟩ := hr_18
        refine r_nil (e_d (i := 5) (brk := (fun _ => false)) (ph' := true) hKK_15 hcK_15 rfl (fun _ => hn_17.le) (fun _ => .keep (fun _ _ h => h) (.drop (.nil))) ?_)
        clear hKK_15 hcK_15 K_15
        refine d_eff 6 rfl (by kernel_rfl) (fun K_21 hKK_21 hcK_21 => ?_)
        refine r_bslice (vs := [(0, Value.agg #[_, _, _, _, _, _])]) (c := #[_, _, _, _, _, _]) .none rfl Try.underlying48 el70 rfl rfl rfl (bs70_10a6 _ _ _ _ _ _) (IsRow.lit _) (fun b_2 => ?_)
        refine r_nil (e_d (i := 6) (brk := (fun _ => false)) (ph' := true) hKK_21 hcK_21 rfl (fun _ => hn_17.le) (fun _ => .drop (.keep (fun _ _ h => h) (.drop (.nil)))) ?_)
        clear hKK_21 hcK_21 K_21
        refine d_eff 7 rfl (by kernel_rfl) (fun K_22 hKK_22 hcK_22 => ?_)
        refine r_append (k := 2) (k2 := 0) .none rfl Try.underlying48 el70 rfl (by decide) rfl rfl rfl rfl rfl (one_lit rfl (all_cons rfl (all_cons rfl (all_cons rfl (all_cons rfl (all_cons (u_20s).one (all_cons (u_20t).one rfl))))))) (by simp only [maxLen]; omega) (by omega) (fun v_23 => ?_)
        refine r_row1 (k := 2) rfl (fun o_24 => ?_)
        refine r_nil (e_d (i := 7) (brk := (fun _ => false)) (ph' := true) hKK_22 hcK_22 rfl (fun _ => hn_17.le) (fun _ => .drop (.keep (fun _ _ h => h) (.drop (.nil)))) ?_)
        clear hKK_22 hcK_22 K_22
        refine d_val1 8 rfl rfl (by kernel_rfl) (fun _ _ => rfl) .none rfl (p_assign rfl) ?_
        refine d_nil (by kernel_rfl) ?_
        refine e_norm_block ?_
        refine e_next ?_
        refine c_region ?_
        refine r_val .none rfl (p_add rfl rfl (by omega)) ?_
        refine r_val .none rfl (p_move rfl) ?_
        refine r_nil ?_
        refine e_round ((k + 1, _, qs ++ [(stepOf ((rs.map Prod.fst).take k) (rs.getD k d0).1, u_20a, u_20b)], _)) ⟨⟨by dsimp only; omega, by rw [stepsOf_take (by omega), List.map_append, hq, List.nil_append]; rfl, (fun p hp' => by rcases List.mem_append.1 hp' with h | h; exact hqt p h; rw [List.mem_singleton.1 h]; exact u_20s), (fun p hp' => by rcases List.mem_append.1 hp' with h | h; exact hqs p h; rw [List.mem_singleton.1 h]; exact u_20t), (hgn.trans hn_17)⟩, by dsimp only; omega⟩ rfl ⟨rfl, rfl, rfl, rfl, rfl, rfl, trivial⟩ (.drop (.drop (.keep (fun _ _ h => rowA_snoc (l := qs) (x := (stepOf ((rs.map Prod.fst).take k) (rs.getD k d0).1, u_20a, u_20b)) rfl rfl rfl rfl _ _ h) (.nil))))
        )
  · skip
    first
      | (exfalso; omega)
      | (
        refine c_cond_f rfl ?_
        refine c_exit ?_
        refine e_exit_then ?_
        refine e_exit_then ?_
        refine e_exit_block ?_
        refine e_next ?_
        refine c_seq ?_
        refine c_region ?_
        refine r_val .none rfl (p_move rfl) ?_
        refine r_val .none rfl (p_assign rfl) ?_
        refine r_nil ?_
        refine e_next ?_
        refine c_ret ?_
        refine e_freeze (k := 0) rfl (fun G_25 hn_26 hs_27 => ?_)
        replace hr := hr.mono hn_26.le
        replace hp := fun p hm0 => (hp p hm0).mono hn_26.le
        replace hqt := fun p hm0 => (hqt p hm0).mono hn_26.le
        replace hqs := fun p hm0 => (hqs p hm0).mono hn_26.le
        refine e_ret1 Try.results25 (.tmp rfl .nil) (fun w hm => ⟨_, (hgn.trans hn_26), hm.has, ?_, hm.since⟩)
        rw [show stepsOf [] (rs.map Prod.fst) = qs.map Prod.fst by rw [hq, List.take_of_length_le (by simp; omega)]]
        exact Ss.mk qs (SlL.of s0 (fun _ => rfl) rfl hs_27) hqt hqs
        )
theorem c_steps_s (n : Nat) (ih : StepsIs n) (v : Value) (l : List ST) {G : Ghost} (hz : SizeOf.sizeOf l ≤ n + 1) (hsz : sszL l ≤ 5000) (hs : Ss G v l) (w : World) (hG : Has G w) :
    Calls Try.prog 27 #[v] w (Ret fun r w' => ∃ G', GNew w nX G G' ∧ Has G' w' ∧ Ss G' r l ∧ Since nX w w') := by
  refine enter (args := [_]) (X := nX) (G := G) (l := [(0, v)]) Try.func27 rfl Try.ntmps27 hG ⟨rfl, trivial⟩ (Nat.le_of_ble_eq_true rfl) ?_
  obtain ⟨rs, hr, hrt, hp, hl⟩ := hs.inv
  have hbd := hr.bound
  have hll := sszL_len l
  have hlr : l.length = rs.length := by rw [hl]; simp
  refine c_seq ?_
  refine c_region ?_
  refine r_val .none rfl (p_assign rfl) ?_
  refine r_nil ?_
  refine e_next ?_
  refine c_seq ?_
  refine c_region ?_
  refine r_val .none rfl (p_assign rfl) ?_
  refine r_nil ?_
  refine e_next ?_
  refine c_seq ?_
  refine c_seq ?_
  refine c_region ?_
  refine r_val .none rfl (p_move rfl) ?_
  refine r_val .none rfl (p_leng Try.underlying48 rfl hr) ?_
  have bd_1 := (hr).bound
  refine r_val .none rfl (p_move rfl) ?_
  refine r_nil ?_
  refine e_next ?_
  refine c_block ?_
  refine c_nilrow 64 6 ?_
  refine c_name (d := 2) rfl (fun u_2 hu_2 => ?_)
  refine c_name (d := 9) rfl (fun u_3 hu_3 => ?_)
  refine c_name (d := 10) rfl (fun u_4 hu_4 => ?_)
  refine c_loop (σ := Nat × Value × List SVal × Ghost) (fun s => [(11, Value.int .i64 (s.1 : Nat)), (3, s.2.1), (2, u_2), (9, u_3), (10, u_4)]) (fun s => [rowA (s.2.1) 64 6 (s.2.2.1).length ((s.2.2.1).flatMap sC)]) (fun s => s.2.2.2) (fun s => s.1 ≤ rs.length ∧ s.2.2.1.map Prod.fst = (rs.map Prod.fst).take s.1 ∧ (∀ p ∈ s.2.2.1, SlL s.2.2.2 p.2.1 3 tC t0 p.1.h.ts) ∧ (∀ p ∈ s.2.2.1, Ss s.2.2.2 p.2.2 p.1.subs) ∧ GNew w nX G s.2.2.2) (fun s => rs.length - s.1) ((0, _, [], _)) ⟨Nat.zero_le _, rfl, by simp, by simp, GNew.refl _ _ _⟩ rfl ⟨rfl, rfl, rfl, rfl, rfl, trivial⟩ (.keep (fun _ _ h => rowA_nil rfl _ _ h) (.nil)) (fun s hphi => ?_)
  subst hu_2
  subst hu_3
  subst hu_4
  obtain ⟨k, v, qs, H⟩ := s
  obtain ⟨hk, hq, hqt, hqs, hgn⟩ := hphi
  dsimp only at hk hq hqt hqs hgn ⊢
  have hql : qs.length ≤ k := (by have := congrArg List.length hq; simp at this; omega)
  replace hr := hr.mono hgn.le
  replace hrt := fun p hm0 => (hrt p hm0).mono hgn.le
  replace hp := fun p hm0 => (hp p hm0).mono hgn.le
  refine c_seq ?_
  refine c_region ?_
  refine r_val .none rfl (p_lt rfl rfl) ?_
  refine r_nil ?_
  refine e_next ?_
  refine c_seq ?_
  refine c_splitd (d := 12) rfl (fun h_5 => ?_) (fun h_5 => ?_)
  · skip
    first
      | (exfalso; omega)
      | (
        refine c_cond_t rfl ?_
        refine c_skip ?_
        refine e_next ?_
        refine c_seq ?_
        refine c_block ?_
        refine c_seq ?_
        refine c_region ?_
        refine r_iaddr_g .none rfl Try.underlying48 sz70 rfl hr rfl (by first | exact of_decide_eq_true rfl | omega) (fun p_7 o_8 R_6 => ?_)
        have ht_9 := hrt _ (getD_mem (i := k) (d := s0) (by omega))
        have hc_10 := hp _ (getD_mem (i := k) (d := s0) (by omega))
        have hz7 := Nat.le_trans (sszL_mem (by rw [hl]; exact sv_mem (k := k) (by omega))) hsz
        rw [ssz_eq] at hz7
        refine r_val .none rfl (p_ldga0 Try.underlying70 rfl sz70 rfl R_6 (by first | exact of_decide_eq_true rfl | omega) (rfl : _ = Value.agg #[_, _, _, _, _, _])) ?_
        refine r_alloc .none rfl zr70 (IsRow.lit _) (fun b_1 => ?_)
        refine r_stw (k := 0) .none sz70 rfl rfl (IsRow.lit _) (one_lit rfl (all_cons rfl (all_cons rfl (all_cons rfl (all_cons rfl (all_cons (ht_9).one (all_cons (hc_10).one rfl))))))) rfl ?_
        refine r_nil ?_
        refine e_next ?_
        refine c_seq ?_
        refine c_region_d (fun _ => false) _ mixed (.keep (fun _ _ h => h) (.keep (fun _ _ h => h) (.nil))) ?_
        refine d_val1 0 rfl rfl (by kernel_rfl) (fun _ _ => rfl) .none rfl (p_field Try.underlying70 rfl sz3 rfl) ?_
        refine d_val1 1 rfl rfl (by kernel_rfl) (fun _ _ => rfl) .none rfl (p_ld (k := 0) Try.underlying3 rfl rfl rfl (by first | exact of_decide_eq_true rfl | omega) (rfl : _ = Value.int _ _)) ?_
        refine d_val1 2 rfl rfl (by kernel_rfl) (fun _ _ => rfl) .none rfl (p_field Try.underlying70 rfl sz60 rfl) ?_
        refine d_val1 3 rfl rfl (by kernel_rfl) (fun _ _ => rfl) .none rfl (p_lda (k := 0) Try.underlying60 rfl sz60 rfl rfl (by first | exact of_decide_eq_true rfl | omega) (rfl : _ = Value.agg #[_, _, _])) ?_
        refine d_val1 4 rfl rfl (by kernel_rfl) (fun _ _ => rfl) .none rfl (p_field Try.underlying70 rfl sz48 rfl) ?_
        refine d_val1 5 rfl rfl (by kernel_rfl) (fun _ _ => rfl) .none rfl (p_ld (k := 0) Try.underlying48 rfl rfl rfl (by first | exact of_decide_eq_true rfl | omega) rfl) ?_
        refine d_eff2 6 8 rfl rfl (by kernel_rfl) (fun K_11 hKK_11 hcK_11 => ?_) (fun K_11 hKK_11 hcK_11 => ?_)
        · skip
          refine r_callm (vs := [_]) .none rfl cl27 rfl (fun w hw => ih _ _ _ w (sv_at hl (by omega) hz) (by omega) hc_10 hw) (fun G_12 v_15 hn_13 hr_14 => ?_)
          replace hr := hr.mono hn_13.le
          replace hrt := fun p hm0 => (hrt p hm0).mono hn_13.le
          replace hp := fun p hm0 => (hp p hm0).mono hn_13.le
          replace hqt := fun p hm0 => (hqt p hm0).mono hn_13.le
          replace hqs := fun p hm0 => (hqs p hm0).mono hn_13.le
          replace R_6 := R_6.mono hn_13.le
          replace ht_9 := ht_9.mono hn_13.le
          replace hc_10 := hc_10.mono hn_13.le
          have u_16 := hr_14
          refine r_nil (e_d (i := 6) (brk := (fun _ => false)) (ph' := true) hKK_11 hcK_11 rfl (fun _ => hn_13.le) (fun _ => .keep (fun _ _ h => h) (.keep (fun _ _ h => h) (.nil))) ?_)
          clear hKK_11 hcK_11 K_11
          obtain ⟨a_17, c_18, rfl⟩ := Ss.len u_16
          refine d_val1 7 rfl rfl (by kernel_rfl) (fun _ _ => rfl) .none rfl (p_build (vs := [(0, Value.int _ _), (1, Value.agg #[_, _, _]), (3, Value.slice _ _ _)]) rfl (bl64_0i1_1a3_3s3 _ _ _ _ _ _ _)) ?_
          refine d_eff 8 rfl (by kernel_rfl) (fun K_19 hKK_19 hcK_19 => ?_)
          refine r_alloc .none rfl zr64 (IsRow.lit _) (fun b_2 => ?_)
          refine r_nil (e_d (i := 8) (brk := (fun _ => false)) (ph' := true) hKK_19 hcK_19 rfl (fun _ => hn_13.le) (fun _ => .drop (.keep (fun _ _ h => h) (.keep (fun _ _ h => h) (.nil)))) ?_)
          clear hKK_19 hcK_19 K_19
          refine d_eff 9 rfl (by kernel_rfl) (fun K_20 hKK_20 hcK_20 => ?_)
          refine r_stw (k := 0) .none sz64 rfl rfl (IsRow.lit _) (one_lit rfl (all_cons rfl (all_cons rfl (all_cons rfl (all_cons rfl (all_cons rfl (all_cons (u_16).one rfl))))))) rfl ?_
          refine r_nil (e_d (i := 9) (brk := (fun _ => false)) (ph' := true) hKK_20 hcK_20 rfl (fun _ => hn_13.le) (fun _ => .drop (.keep (fun _ _ h => h) (.keep (fun _ _ h => h) (.nil)))) ?_)
          clear hKK_20 hcK_20 K_20
          refine d_nil (by kernel_rfl) ?_
          refine e_next ?_
          refine c_seq ?_
          refine c_seq ?_
          refine c_region ?_
          refine r_val .none rfl (p_field Try.underlying70 rfl sz68 rfl) ?_
          refine r_val .none rfl (p_ld (k := 1) Try.underlying68 rfl rfl rfl (by first | exact of_decide_eq_true rfl | omega) rfl) ?_
          refine r_val .none rfl (p_leng Try.underlying68 rfl ht_9) ?_
          have bd_21 := (ht_9).bound
          refine r_val .none rfl (p_move rfl) ?_
          refine r_nil ?_
          refine e_next ?_
          refine c_block ?_
          refine c_nilrow 92 3 ?_
          refine c_name (d := 2) rfl (fun u_22 hu_22 => ?_)
          refine c_name (d := 3) rfl (fun u_23 hu_23 => ?_)
          refine c_name (d := 5) rfl (fun u_24 hu_24 => ?_)
          refine c_name (d := 6) rfl (fun u_25 hu_25 => ?_)
          refine c_name (d := 9) rfl (fun u_26 hu_26 => ?_)
          refine c_name (d := 10) rfl (fun u_27 hu_27 => ?_)
          refine c_name (d := 11) rfl (fun u_28 hu_28 => ?_)
          refine c_name (d := 12) rfl (fun u_29 hu_29 => ?_)
          refine c_name (d := 13) rfl (fun u_30 hu_30 => ?_)
          refine c_name (d := 14) rfl (fun u_31 hu_31 => ?_)
          refine c_name (d := 15) rfl (fun u_32 hu_32 => ?_)
          refine c_name (d := 16) rfl (fun u_33 hu_33 => ?_)
          refine c_name (d := 17) rfl (fun u_34 hu_34 => ?_)
          refine c_name (d := 18) rfl (fun u_35 hu_35 => ?_)
          refine c_name (d := 19) rfl (fun u_36 hu_36 => ?_)
          refine c_name (d := 20) rfl (fun u_37 hu_37 => ?_)
          refine c_name (d := 21) rfl (fun u_38 hu_38 => ?_)
          refine c_name (d := 22) rfl (fun u_39 hu_39 => ?_)
          refine c_name (d := 23) rfl (fun u_40 hu_40 => ?_)
          refine c_name (d := 24) rfl (fun u_41 hu_41 => ?_)
          refine c_name (d := 25) rfl (fun u_42 hu_42 => ?_)
          refine c_nameL (k := 2) rfl (fun A_43 hA_43 => ?_)
          refine c_nameL (k := 3) rfl (fun A_44 hA_44 => ?_)
          refine c_loop (σ := Nat × Value) (fun s => [(26, Value.int .i64 (s.1 : Nat)), (2, u_22), (3, u_23), (5, u_24), (6, u_25), (9, u_26), (10, u_27), (11, u_28), (12, u_29), (13, u_30), (14, u_31), (15, u_32), (16, u_33), (17, u_34), (18, u_35), (19, u_36), (20, u_37), (21, u_38), (22, u_39), (23, u_40), (24, u_41), (25, u_42)]) (fun s => [rowA (s.2) 92 3 (((rs.getD k s0).1.h.ts.take s.1)).length ((((rs.getD k s0).1.h.ts.take s.1)).flatMap tC), box b_2 6 64 (at_ [.int .i64 (rs.getD k s0).1.h.k, .int .i64 (rs.getD k s0).1.h.k0, .int .i64 (rs.getD k s0).1.h.k1, .int .i64 (rs.getD k s0).1.h.k2, s.2, (.slice a_17 (rs.getD k s0).1.subs.length c_18)]), A_43, A_44]) (fun _ => _) (fun s => s.1 ≤ (rs.getD k s0).1.h.ts.length) (fun s => (rs.getD k s0).1.h.ts.length - s.1) ((0, _)) (Nat.zero_le _) rfl ⟨rfl, rfl, rfl, rfl, rfl, rfl, rfl, rfl, rfl, rfl, rfl, rfl, rfl, rfl, rfl, rfl, rfl, rfl, rfl, rfl, rfl, rfl, trivial⟩ (.keep (fun _ _ h => rowA_nil rfl _ _ h) (.keep (fun _ _ h => box_congr (fun i hi => by match i, hi with | 0, _ => rfl | 1, _ => rfl | 2, _ => rfl | 3, _ => rfl | 4, _ => rfl | 5, _ => rfl) _ _ h) (.keep (fun _ _ h => h) (.keep (fun _ _ h => h) (.nil))))) (fun s hphi => ?_)
          subst hu_22
          subst hu_23
          subst hu_24
          subst hu_25
          subst hu_26
          subst hu_27
          subst hu_28
          subst hu_29
          subst hu_30
          subst hu_31
          subst hu_32
          subst hu_33
          subst hu_34
          subst hu_35
          subst hu_36
          subst hu_37
          subst hu_38
          subst hu_39
          subst hu_40
          subst hu_41
          subst hu_42
          subst hA_43
          subst hA_44
          obtain ⟨j, u⟩ := s
          dsimp only at hphi ⊢
          refine c_row1 (k := 0) rfl (fun ov => ?_)
          refine c_rowlen (k := 0) rfl (fun l63 => ?_)
          refine c_seq ?_
          refine c_region ?_
          refine r_val .none rfl (p_lt rfl rfl) ?_
          refine r_nil ?_
          refine e_next ?_
          refine c_seq ?_
          refine c_splitd (d := 27) rfl (fun h_45 => ?_) (fun h_45 => ?_)
          · skip
            first
              | (exfalso; omega)
              | (
                refine c_cond_t rfl ?_
                refine c_skip ?_
                refine e_next ?_
                refine c_seq ?_
                refine c_block ?_
                refine c_seq ?_
                refine c_region ?_
                refine r_iaddr_g .none rfl Try.underlying68 sz96 rfl ht_9 rfl (by first | exact of_decide_eq_true rfl | omega) (fun p_47 o_48 R_46 => ?_)
                refine r_val .none rfl (p_ldga0 Try.underlying96 rfl sz96 rfl R_46 (by first | exact of_decide_eq_true rfl | omega) (rfl : _ = Value.agg #[_, _, _])) ?_
                refine r_alloc .none rfl zr96 (IsRow.lit _) (fun b_3 => ?_)
                refine r_stw (k := 0) .none sz96 rfl rfl (IsRow.lit _) (one_lit rfl rfl) rfl ?_
                refine r_nil ?_
                refine e_next ?_
                refine c_region ?_
                refine r_val .none rfl (p_field Try.underlying64 rfl sz62 rfl) ?_
                refine r_val .none rfl (p_ld (k := 2) Try.underlying62 rfl rfl rfl (by first | exact of_decide_eq_true rfl | omega) rfl) ?_
                refine r_val .none rfl (p_field Try.underlying96 rfl sz3 rfl) ?_
                refine r_val .none rfl (p_ld (k := 0) Try.underlying3 rfl rfl rfl (by first | exact of_decide_eq_true rfl | omega) (rfl : _ = Value.int _ _)) ?_
                refine r_val .none rfl (p_field Try.underlying96 rfl sz3 rfl) ?_
                refine r_val .none rfl (p_ld (k := 0) Try.underlying3 rfl rfl rfl (by first | exact of_decide_eq_true rfl | omega) (rfl : _ = Value.int _ _)) ?_
                refine r_val .none rfl (p_field Try.underlying96 rfl sz3 rfl) ?_
                refine r_val .none rfl (p_ld (k := 0) Try.underlying3 rfl rfl rfl (by first | exact of_decide_eq_true rfl | omega) (rfl : _ = Value.int _ _)) ?_
                refine r_val .none rfl (p_build (vs := [(0, Value.int _ _), (1, Value.int _ _), (2, Value.int _ _)]) rfl (bl92_0i1_1i1_2i1 _ _ _)) ?_
                refine r_bslice (vs := [(0, Value.agg #[_, _, _])]) (c := #[_, _, _]) .none rfl Try.underlying62 el92 rfl rfl rfl (bs92_10a3 _ _ _) (IsRow.lit _) (fun b_4 => ?_)
                refine r_append (k := 2) (k2 := 0) .none rfl Try.underlying62 el92 rfl (by decide) rfl rfl rfl rfl rfl (one_lit rfl rfl) (by rw [List.length_take]; simp only [maxLen]; omega) (by rw [List.length_take]; omega) (fun v_49 => ?_)
                refine r_row1 (k := 2) rfl (fun o_50 => ?_)
                refine r_val .none rfl (p_field Try.underlying64 rfl sz62 rfl) ?_
                refine r_st (k := 3) .none sz62 rfl rfl o_50 rfl (by first | exact of_decide_eq_true rfl | omega) ?_
                refine r_nil ?_
                refine e_norm_block ?_
                refine e_next ?_
                refine c_region ?_
                refine r_val .none rfl (p_add rfl rfl (by omega)) ?_
                refine r_val .none rfl (p_move rfl) ?_
                refine r_nil ?_
                refine e_round ((j + 1, _)) ⟨by dsimp only; omega, by dsimp only; omega⟩ rfl ⟨rfl, rfl, rfl, rfl, rfl, rfl, rfl, rfl, rfl, rfl, rfl, rfl, rfl, rfl, rfl, rfl, rfl, rfl, rfl, rfl, rfl, rfl, trivial⟩ (.drop (.drop (.keep (fun _ _ h => rowA_snoc (ts_next (by omega)) rfl rfl rfl _ _ h) (.keep (fun _ _ h => box_congr (fun i hi => by match i, hi with | 0, _ => rfl | 1, _ => rfl | 2, _ => rfl | 3, _ => rfl | 4, _ => rfl | 5, _ => rfl) _ _ h) (.keep (fun _ _ h => h) (.keep (fun _ _ h => h) (.nil)))))))
                )
          · skip
            first
              | (exfalso; omega)
              | (
                refine c_cond_f rfl ?_
                refine c_exit ?_
                refine e_exit_then ?_
                refine e_exit_then ?_
                refine e_exit_block ?_
                refine e_next ?_
                refine c_region ?_
                have hj2 : (rs.getD k s0).1.h.ts.take j = (rs.getD k s0).1.h.ts := List.take_of_length_le (by omega)
                refine r_freeze (k := 0) rfl (fun G_51 hn_52 hs_53 => ?_)
                replace hr := hr.mono hn_52.le
                replace hrt := fun p hm0 => (hrt p hm0).mono hn_52.le
                replace hp := fun p hm0 => (hp p hm0).mono hn_52.le
                replace hqt := fun p hm0 => (hqt p hm0).mono hn_52.le
                replace hqs := fun p hm0 => (hqs p hm0).mono hn_52.le
                replace R_6 := R_6.mono hn_52.le
                replace ht_9 := ht_9.mono hn_52.le
                replace hc_10 := hc_10.mono hn_52.le
                replace u_16 := u_16.mono hn_52.le
                have hts_54 : SlL G_51 u 3 tC t0 (rs.getD k s0).1.h.ts := SlL.of2 t0 (fun _ => rfl) (by rw [hj2]) (by rw [hj2]) hs_53
                refine r_val .none rfl (p_move rfl) ?_
                refine r_val .none rfl (p_ldw (k := 0) Try.underlying64 rfl sz64 rfl rfl (rfl : _ = Value.agg #[_, _, _, _, _, _])) ?_
                refine r_bslice (vs := [(0, Value.agg #[_, _, _, _, _, _])]) (c := #[_, _, _, _, _, _]) .none rfl Try.underlying50 el64 rfl rfl rfl (bs64_10a6 _ _ _ _ _ _) (IsRow.lit _) (fun b_5 => ?_)
                refine r_append (k := 3) (k2 := 0) .none rfl Try.underlying50 el64 rfl (by decide) rfl rfl rfl rfl rfl (one_lit rfl (all_cons rfl (all_cons rfl (all_cons rfl (all_cons rfl (all_cons (hts_54).one (all_cons (u_16).one rfl))))))) (by simp only [maxLen]; omega) (by omega) (fun v_55 => ?_)
                refine r_row1 (k := 3) rfl (fun o_56 => ?_)
                refine r_val .none rfl (p_assign rfl) ?_
                refine r_nil ?_
                refine e_norm_block ?_
                refine e_next ?_
                refine c_region ?_
                refine r_val .none rfl (p_add rfl rfl (by omega)) ?_
                refine r_val .none rfl (p_move rfl) ?_
                refine r_nil ?_
                refine e_round ((k + 1, _, qs ++ [((rs.getD k s0).1, u, (.slice a_17 (rs.getD k s0).1.subs.length c_18))], _)) ⟨⟨by dsimp only; omega, by rw [sv_take (by omega), List.map_append, hq]; rfl, (fun p hp' => by rcases List.mem_append.1 hp' with h | h; exact hqt p h; rw [List.mem_singleton.1 h]; exact hts_54), (fun p hp' => by rcases List.mem_append.1 hp' with h | h; exact hqs p h; rw [List.mem_singleton.1 h]; exact u_16), ((hgn.trans hn_13).trans hn_52)⟩, by dsimp only; omega⟩ rfl ⟨rfl, rfl, rfl, rfl, rfl, trivial⟩ (.drop (.drop (.drop (.keep (fun _ _ h => rowA_snoc (l := qs) (x := ((rs.getD k s0).1, u, (.slice a_17 (rs.getD k s0).1.subs.length c_18))) rfl rfl rfl rfl _ _ h) (.nil)))))
                )
        · skip
          refine r_alloc .none rfl zr64 (IsRow.lit _) (fun b_6 => ?_)
          refine r_nil (e_d (i := 8) (brk := (fun _ => false)) (ph' := true) hKK_11 hcK_11 rfl (fun _ => GLe.refl _) (fun _ => .drop (.keep (fun _ _ h => h) (.keep (fun _ _ h => h) (.nil)))) ?_)
          clear hKK_11 hcK_11 K_11
          refine d_eff 6 rfl (by kernel_rfl) (fun K_57 hKK_57 hcK_57 => ?_)
          refine r_callm (vs := [_]) .none rfl cl27 rfl (fun w hw => ih _ _ _ w (sv_at hl (by omega) hz) (by omega) hc_10 hw) (fun G_58 v_61 hn_59 hr_60 => ?_)
          replace hr := hr.mono hn_59.le
          replace hrt := fun p hm0 => (hrt p hm0).mono hn_59.le
          replace hp := fun p hm0 => (hp p hm0).mono hn_59.le
          replace hqt := fun p hm0 => (hqt p hm0).mono hn_59.le
          replace hqs := fun p hm0 => (hqs p hm0).mono hn_59.le
          replace R_6 := R_6.mono hn_59.le
          replace ht_9 := ht_9.mono hn_59.le
          replace hc_10 := hc_10.mono hn_59.le
          have u_62 := hr_60
          refine r_nil (e_d (i := 6) (brk := (fun _ => false)) (ph' := true) hKK_57 hcK_57 rfl (fun _ => hn_59.le) (fun _ => .drop (.keep (fun _ _ h => h) (.keep (fun _ _ h => h) (.nil)))) ?_)
          clear hKK_57 hcK_57 K_57
          obtain ⟨a_63, c_64, rfl⟩ := Ss.len u_62
          refine d_val1 7 rfl rfl (by kernel_rfl) (fun _ _ => rfl) .none rfl (p_build (vs := [(0, Value.int _ _), (1, Value.agg #[_, _, _]), (3, Value.slice _ _ _)]) rfl (bl64_0i1_1a3_3s3 _ _ _ _ _ _ _)) ?_
          refine d_eff 9 rfl (by kernel_rfl) (fun K_65 hKK_65 hcK_65 => ?_)
          refine r_stw (k := 0) .none sz64 rfl rfl (IsRow.lit _) (one_lit rfl (all_cons rfl (all_cons rfl (all_cons rfl (all_cons rfl (all_cons rfl (all_cons (u_62).one rfl))))))) rfl ?_
          refine r_nil (e_d (i := 9) (brk := (fun _ => false)) (ph' := true) hKK_65 hcK_65 rfl (fun _ => hn_59.le) (fun _ => .drop (.keep (fun _ _ h => h) (.keep (fun _ _ h => h) (.nil)))) ?_)
          clear hKK_65 hcK_65 K_65
          refine d_nil (by kernel_rfl) ?_
          refine e_next ?_
          refine c_seq ?_
          refine c_seq ?_
          refine c_region ?_
          refine r_val .none rfl (p_field Try.underlying70 rfl sz68 rfl) ?_
          refine r_val .none rfl (p_ld (k := 1) Try.underlying68 rfl rfl rfl (by first | exact of_decide_eq_true rfl | omega) rfl) ?_
          refine r_val .none rfl (p_leng Try.underlying68 rfl ht_9) ?_
          have bd_66 := (ht_9).bound
          refine r_val .none rfl (p_move rfl) ?_
          refine r_nil ?_
          refine e_next ?_
          refine c_block ?_
          refine c_nilrow 92 3 ?_
          refine c_name (d := 2) rfl (fun u_67 hu_67 => ?_)
          refine c_name (d := 3) rfl (fun u_68 hu_68 => ?_)
          refine c_name (d := 5) rfl (fun u_69 hu_69 => ?_)
          refine c_name (d := 6) rfl (fun u_70 hu_70 => ?_)
          refine c_name (d := 9) rfl (fun u_71 hu_71 => ?_)
          refine c_name (d := 10) rfl (fun u_72 hu_72 => ?_)
          refine c_name (d := 11) rfl (fun u_73 hu_73 => ?_)
          refine c_name (d := 12) rfl (fun u_74 hu_74 => ?_)
          refine c_name (d := 13) rfl (fun u_75 hu_75 => ?_)
          refine c_name (d := 14) rfl (fun u_76 hu_76 => ?_)
          refine c_name (d := 15) rfl (fun u_77 hu_77 => ?_)
          refine c_name (d := 16) rfl (fun u_78 hu_78 => ?_)
          refine c_name (d := 17) rfl (fun u_79 hu_79 => ?_)
          refine c_name (d := 18) rfl (fun u_80 hu_80 => ?_)
          refine c_name (d := 19) rfl (fun u_81 hu_81 => ?_)
          refine c_name (d := 20) rfl (fun u_82 hu_82 => ?_)
          refine c_name (d := 21) rfl (fun u_83 hu_83 => ?_)
          refine c_name (d := 22) rfl (fun u_84 hu_84 => ?_)
          refine c_name (d := 23) rfl (fun u_85 hu_85 => ?_)
          refine c_name (d := 24) rfl (fun u_86 hu_86 => ?_)
          refine c_name (d := 25) rfl (fun u_87 hu_87 => ?_)
          refine c_nameL (k := 2) rfl (fun A_88 hA_88 => ?_)
          refine c_nameL (k := 3) rfl (fun A_89 hA_89 => ?_)
          refine c_loop (σ := Nat × Value) (fun s => [(26, Value.int .i64 (s.1 : Nat)), (2, u_67), (3, u_68), (5, u_69), (6, u_70), (9, u_71), (10, u_72), (11, u_73), (12, u_74), (13, u_75), (14, u_76), (15, u_77), (16, u_78), (17, u_79), (18, u_80), (19, u_81), (20, u_82), (21, u_83), (22, u_84), (23, u_85), (24, u_86), (25, u_87)]) (fun s => [rowA (s.2) 92 3 (((rs.getD k s0).1.h.ts.take s.1)).length ((((rs.getD k s0).1.h.ts.take s.1)).flatMap tC), box b_6 6 64 (at_ [.int .i64 (rs.getD k s0).1.h.k, .int .i64 (rs.getD k s0).1.h.k0, .int .i64 (rs.getD k s0).1.h.k1, .int .i64 (rs.getD k s0).1.h.k2, s.2, (.slice a_63 (rs.getD k s0).1.subs.length c_64)]), A_88, A_89]) (fun _ => _) (fun s => s.1 ≤ (rs.getD k s0).1.h.ts.length) (fun s => (rs.getD k s0).1.h.ts.length - s.1) ((0, _)) (Nat.zero_le _) rfl ⟨rfl, rfl, rfl, rfl, rfl, rfl, rfl, rfl, rfl, rfl, rfl, rfl, rfl, rfl, rfl, rfl, rfl, rfl, rfl, rfl, rfl, rfl, trivial⟩ (.keep (fun _ _ h => rowA_nil rfl _ _ h) (.keep (fun _ _ h => box_congr (fun i hi => by match i, hi with | 0, _ => rfl | 1, _ => rfl | 2, _ => rfl | 3, _ => rfl | 4, _ => rfl | 5, _ => rfl) _ _ h) (.keep (fun _ _ h => h) (.keep (fun _ _ h => h) (.nil))))) (fun s hphi => ?_)
          subst hu_67
          subst hu_68
          subst hu_69
          subst hu_70
          subst hu_71
          subst hu_72
          subst hu_73
          subst hu_74
          subst hu_75
          subst hu_76
          subst hu_77
          subst hu_78
          subst hu_79
          subst hu_80
          subst hu_81
          subst hu_82
          subst hu_83
          subst hu_84
          subst hu_85
          subst hu_86
          subst hu_87
          subst hA_88
          subst hA_89
          obtain ⟨j, u⟩ := s
          dsimp only at hphi ⊢
          refine c_row1 (k := 0) rfl (fun ov => ?_)
          refine c_rowlen (k := 0) rfl (fun l63 => ?_)
          refine c_seq ?_
          refine c_region ?_
          refine r_val .none rfl (p_lt rfl rfl) ?_
          refine r_nil ?_
          refine e_next ?_
          refine c_seq ?_
          refine c_splitd (d := 27) rfl (fun h_90 => ?_) (fun h_90 => ?_)
          · skip
            first
              | (exfalso; omega)
              | (
                refine c_cond_t rfl ?_
                refine c_skip ?_
                refine e_next ?_
                refine c_seq ?_
                refine c_block ?_
                refine c_seq ?_
                refine c_region ?_
                refine r_iaddr_g .none rfl Try.underlying68 sz96 rfl ht_9 rfl (by first | exact of_decide_eq_true rfl | omega) (fun p_92 o_93 R_91 => ?_)
                refine r_val .none rfl (p_ldga0 Try.underlying96 rfl sz96 rfl R_91 (by first | exact of_decide_eq_true rfl | omega) (rfl : _ = Value.agg #[_, _, _])) ?_
                refine r_alloc .none rfl zr96 (IsRow.lit _) (fun b_7 => ?_)
                refine r_stw (k := 0) .none sz96 rfl rfl (IsRow.lit _) (one_lit rfl rfl) rfl ?_
                refine r_nil ?_
                refine e_next ?_
                refine c_region ?_
                refine r_val .none rfl (p_field Try.underlying64 rfl sz62 rfl) ?_
                refine r_val .none rfl (p_ld (k := 2) Try.underlying62 rfl rfl rfl (by first | exact of_decide_eq_true rfl | omega) rfl) ?_
                refine r_val .none rfl (p_field Try.underlying96 rfl sz3 rfl) ?_
                refine r_val .none rfl (p_ld (k := 0) Try.underlying3 rfl rfl rfl (by first | exact of_decide_eq_true rfl | omega) (rfl : _ = Value.int _ _)) ?_
                refine r_val .none rfl (p_field Try.underlying96 rfl sz3 rfl) ?_
                refine r_val .none rfl (p_ld (k := 0) Try.underlying3 rfl rfl rfl (by first | exact of_decide_eq_true rfl | omega) (rfl : _ = Value.int _ _)) ?_
                refine r_val .none rfl (p_field Try.underlying96 rfl sz3 rfl) ?_
                refine r_val .none rfl (p_ld (k := 0) Try.underlying3 rfl rfl rfl (by first | exact of_decide_eq_true rfl | omega) (rfl : _ = Value.int _ _)) ?_
                refine r_val .none rfl (p_build (vs := [(0, Value.int _ _), (1, Value.int _ _), (2, Value.int _ _)]) rfl (bl92_0i1_1i1_2i1 _ _ _)) ?_
                refine r_bslice (vs := [(0, Value.agg #[_, _, _])]) (c := #[_, _, _]) .none rfl Try.underlying62 el92 rfl rfl rfl (bs92_10a3 _ _ _) (IsRow.lit _) (fun b_8 => ?_)
                refine r_append (k := 2) (k2 := 0) .none rfl Try.underlying62 el92 rfl (by decide) rfl rfl rfl rfl rfl (one_lit rfl rfl) (by rw [List.length_take]; simp only [maxLen]; omega) (by rw [List.length_take]; omega) (fun v_94 => ?_)
                refine r_row1 (k := 2) rfl (fun o_95 => ?_)
                refine r_val .none rfl (p_field Try.underlying64 rfl sz62 rfl) ?_
                refine r_st (k := 3) .none sz62 rfl rfl o_95 rfl (by first | exact of_decide_eq_true rfl | omega) ?_
                refine r_nil ?_
                refine e_norm_block ?_
                refine e_next ?_
                refine c_region ?_
                refine r_val .none rfl (p_add rfl rfl (by omega)) ?_
                refine r_val .none rfl (p_move rfl) ?_
                refine r_nil ?_
                refine e_round ((j + 1, _)) ⟨by dsimp only; omega, by dsimp only; omega⟩ rfl ⟨rfl, rfl, rfl, rfl, rfl, rfl, rfl, rfl, rfl, rfl, rfl, rfl, rfl, rfl, rfl, rfl, rfl, rfl, rfl, rfl, rfl, rfl, trivial⟩ (.drop (.drop (.keep (fun _ _ h => rowA_snoc (ts_next (by omega)) rfl rfl rfl _ _ h) (.keep (fun _ _ h => box_congr (fun i hi => by match i, hi with | 0, _ => rfl | 1, _ => rfl | 2, _ => rfl | 3, _ => rfl | 4, _ => rfl | 5, _ => rfl) _ _ h) (.keep (fun _ _ h => h) (.keep (fun _ _ h => h) (.nil)))))))
                )
          · skip
            first
              | (exfalso; omega)
              | (
                refine c_cond_f rfl ?_
                refine c_exit ?_
                refine e_exit_then ?_
                refine e_exit_then ?_
                refine e_exit_block ?_
                refine e_next ?_
                refine c_region ?_
                have hj2 : (rs.getD k s0).1.h.ts.take j = (rs.getD k s0).1.h.ts := List.take_of_length_le (by omega)
                refine r_freeze (k := 0) rfl (fun G_96 hn_97 hs_98 => ?_)
                replace hr := hr.mono hn_97.le
                replace hrt := fun p hm0 => (hrt p hm0).mono hn_97.le
                replace hp := fun p hm0 => (hp p hm0).mono hn_97.le
                replace hqt := fun p hm0 => (hqt p hm0).mono hn_97.le
                replace hqs := fun p hm0 => (hqs p hm0).mono hn_97.le
                replace R_6 := R_6.mono hn_97.le
                replace ht_9 := ht_9.mono hn_97.le
                replace hc_10 := hc_10.mono hn_97.le
                replace u_62 := u_62.mono hn_97.le
                have hts_99 : SlL G_96 u 3 tC t0 (rs.getD k s0).1.h.ts := SlL.of2 t0 (fun _ => rfl) (by rw [hj2]) (by rw [hj2]) hs_98
                refine r_val .none rfl (p_move rfl) ?_
                refine r_val .none rfl (p_ldw (k := 0) Try.underlying64 rfl sz64 rfl rfl (rfl : _ = Value.agg #[_, _, _, _, _, _])) ?_
                refine r_bslice (vs := [(0, Value.agg #[_, _, _, _, _, _])]) (c := #[_, _, _, _, _, _]) .none rfl Try.underlying50 el64 rfl rfl rfl (bs64_10a6 _ _ _ _ _ _) (IsRow.lit _) (fun b_9 => ?_)
                refine r_append (k := 3) (k2 := 0) .none rfl Try.underlying50 el64 rfl (by decide) rfl rfl rfl rfl rfl (one_lit rfl (all_cons rfl (all_cons rfl (all_cons rfl (all_cons rfl (all_cons (hts_99).one (all_cons (u_62).one rfl))))))) (by simp only [maxLen]; omega) (by omega) (fun v_100 => ?_)
                refine r_row1 (k := 3) rfl (fun o_101 => ?_)
                refine r_val .none rfl (p_assign rfl) ?_
                refine r_nil ?_
                refine e_norm_block ?_
                refine e_next ?_
                refine c_region ?_
                refine r_val .none rfl (p_add rfl rfl (by omega)) ?_
                refine r_val .none rfl (p_move rfl) ?_
                refine r_nil ?_
                refine e_round ((k + 1, _, qs ++ [((rs.getD k s0).1, u, (.slice a_63 (rs.getD k s0).1.subs.length c_64))], _)) ⟨⟨by dsimp only; omega, by rw [sv_take (by omega), List.map_append, hq]; rfl, (fun p hp' => by rcases List.mem_append.1 hp' with h | h; exact hqt p h; rw [List.mem_singleton.1 h]; exact hts_99), (fun p hp' => by rcases List.mem_append.1 hp' with h | h; exact hqs p h; rw [List.mem_singleton.1 h]; exact u_62), ((hgn.trans hn_59).trans hn_97)⟩, by dsimp only; omega⟩ rfl ⟨rfl, rfl, rfl, rfl, rfl, trivial⟩ (.drop (.drop (.drop (.keep (fun _ _ h => rowA_snoc (l := qs) (x := ((rs.getD k s0).1, u, (.slice a_63 (rs.getD k s0).1.subs.length c_64))) rfl rfl rfl rfl _ _ h) (.nil)))))
                )
        )
  · skip
    first
      | (exfalso; omega)
      | (
        refine c_cond_f rfl ?_
        refine c_exit ?_
        refine e_exit_then ?_
        refine e_exit_then ?_
        refine e_exit_block ?_
        refine e_next ?_
        refine c_seq ?_
        refine c_region ?_
        refine r_val .none rfl (p_move rfl) ?_
        refine r_val .none rfl (p_assign rfl) ?_
        refine r_nil ?_
        refine e_next ?_
        refine c_ret ?_
        refine e_freeze (k := 0) rfl (fun G_102 hn_103 hs_104 => ?_)
        replace hr := hr.mono hn_103.le
        replace hrt := fun p hm0 => (hrt p hm0).mono hn_103.le
        replace hp := fun p hm0 => (hp p hm0).mono hn_103.le
        replace hqt := fun p hm0 => (hqt p hm0).mono hn_103.le
        replace hqs := fun p hm0 => (hqs p hm0).mono hn_103.le
        refine e_ret1 Try.results27 (.tmp rfl .nil) (fun w hm => ⟨_, (hgn.trans hn_103), hm.has, ?_, hm.since⟩)
        rw [show l = qs.map Prod.fst by rw [hq, hl, List.take_of_length_le (by simp; omega)]]
        exact Ss.mk qs (SlL.of s0 (fun _ => rfl) rfl hs_104) hqt hqs
        )
theorem c_steps_n : ∀ n, StepsIs n
  | 0 => fun v l G w hz hsz hs hG => absurd hz (by cases l <;> simp)
  | n + 1 => fun v l G w hz hsz hs hG => c_steps_s n (c_steps_n n) v l hz hsz hs w hG
theorem c_steps (v : Value) (l : List ST) {G : Ghost} (hsz : sszL l ≤ 5000) (hs : Ss G v l) (w : World) (hG : Has G w) : Calls Try.prog 27 #[v] w (Ret fun r w' => ∃ G', GNew w nX G G' ∧ Has G' w' ∧ Ss G' r l ∧ Since nX w w') := c_steps_n _ v l G w (Nat.le_refl _) hsz hs hG
end Go.Proofs.Ytoflaphnlfggkaa

/- Walks: what Go functions of this chapter come to, each as a function on plain data; no condition but those that each theorem names. Printed by a program of this work (gen.py). -/
namespace Go.Proofs.Ytoflaphnlfggkaa
open Go.Gx Go.Gx.T4 Go.Gx.T3 Go.Gx.T6 Go.Gx.T8 Go.Gx.T4 Go.Gx.T3 Go.Gx.T8 Go.Gx.T4 Go.Gx.T3
theorem el38 : ElemIs Try.prog 38 8 80 (Value.agg #[Value.int .i64 0, Value.bool false, Value.int .i64 0, Value.bool false, Value.int .i64 0, Value.bool false, Value.int .i64 0, Value.slice none 0 0]) := by
  unfold ElemIs
  kernel_rfl
theorem c_cloneC_a (a : Option Addr) (cap : Nat) (rs : List (CT × Value)) {G : Ghost} (hr : SlL G (Value.slice a rs.length cap) 8 cvC d0 rs) (hlen : rs.length ≤ 1000) (hp : ∀ p ∈ rs, Cs G p.2 p.1.subs) (w : World) (hG : Has G w) :
    Calls Try.prog 44 #[Value.slice a rs.length cap] w (Ret fun r w' => Since nX w w' ∧ ∃ F', (rowA r 38 8 (rs).length ((rs).flatMap cvC)).holds w' F' ∧ ∀ b, F' b → w.heap.size ≤ b) := by
  refine enter (args := [_]) (X := nX) (G := G) (l := [(0, Value.slice a rs.length cap)]) Try.func44 rfl Try.ntmps44 hG ⟨rfl, trivial⟩ (Nat.le_of_ble_eq_true rfl) ?_
  refine c_seq ?_
  refine c_region ?_
  refine r_val .none rfl (p_assign rfl) ?_
  refine r_nil ?_
  refine e_next ?_
  refine c_seq ?_
  refine c_seq ?_
  refine c_region ?_
  refine r_val .none rfl (p_move rfl) ?_
  refine r_val .none rfl (p_eqnil Try.underlying22 rfl rfl) ?_
  refine r_nil ?_
  refine e_next ?_
  refine c_split (d := 4) rfl (fun h_1 => ?_) (fun h_1 => ?_)
  · skip
    have hrs : rs = [] := by cases a with | none => exact nil_rs hr | some x => cases h_1
    refine c_cond_t rfl ?_
    refine c_seq ?_
    refine c_region ?_
    refine r_val .none rfl (p_assign rfl) ?_
    refine r_nilrow 38 8 ?_
    refine r_nil ?_
    refine e_next ?_
    refine c_ret ?_
    refine e_ret_then ?_
    refine e_ret1 Try.results44 (.tmp rfl .nil) (fun w hm => hm.made [rowA (.slice none 0 0) 38 8 (rs).length ((rs).flatMap cvC)] (.keep (fun _ _ h => rowA_congr (by rw [hrs]; rfl) (by rw [hrs]; rfl) _ _ h) (.nil)) _ (fun F' h => starL_one h))
  · skip
    refine c_cond_f rfl ?_
    refine c_skip ?_
    refine e_next ?_
    refine c_seq ?_
    refine c_region ?_
    refine r_bslice0 .none rfl Try.underlying22 el38 (fun v_2 => ?_)
    refine r_val .none rfl (p_move rfl) ?_
    refine r_append_g (k := 0) .none rfl Try.underlying22 el38 rfl (by decide) rfl rfl rfl hr (fun _ hi _ hj => cv_ones hp _ hi _ hj) (by simp only [maxLen]; omega) (by omega) (fun v_3 => ?_)
    refine r_row1 (k := 0) rfl (fun o_4 => ?_)
    refine r_val .none rfl (p_assign rfl) ?_
    refine r_nil ?_
    refine e_next ?_
    refine c_ret ?_
    refine e_ret1 Try.results44 (.tmp rfl .nil) (fun w hm => hm.made [rowA v_3 38 8 (rs).length ((rs).flatMap cvC)] (.keep (fun _ _ h => rowA_congr (by omega) (by rw [flat_all (cells := cvC) (fun _ => rfl)]; rfl) _ _ h) (.nil)) _ (fun F' h => starL_one h))
theorem c_cloneC (v : Value) (rs : List (CT × Value)) {G : Ghost} (hr : SlL G v 8 cvC d0 rs) (hlen : rs.length ≤ 1000) (hp : ∀ p ∈ rs, Cs G p.2 p.1.subs) (w : World) (hG : Has G w) : Calls Try.prog 44 #[v] w (Ret fun r w' => Since nX w w' ∧ ∃ F', (rowA r 38 8 (rs).length ((rs).flatMap cvC)).holds w' F' ∧ ∀ b, F' b → w.heap.size ≤ b) := by
  obtain ⟨a, cap, rfl⟩ := SlG.len hr
  exact c_cloneC_a a cap rs hr hlen hp w hG
theorem c_cloneCM (v : Value) (rs : List (CT × Value)) {G : Ghost} (hr : SlL G v 8 cvC d0 rs) (hlen : rs.length ≤ 1000) (hp : ∀ p ∈ rs, Cs G p.2 p.1.subs) (w : World) (hG : Has G w) : Calls Try.prog 44 #[v] w (Ret fun r w' => ∃ G2, GNew w nX G G2 ∧ Has G2 w' ∧ SlL G2 r 8 cvC d0 rs ∧ Since nX w w') := by
  refine (c_cloneC v rs hr hlen hp w hG).mono (fun e w' hR => ?_)
  cases e with
  | returned r =>
    obtain ⟨G2, h1, h2, h3, h4⟩ := row_mem hG hR
    exact ⟨G2, h1, h2, SlL.of d0 (fun _ => rfl) rfl h3, h4⟩
  | panicked c => exact hR.elim
  | outgrown => exact hR.elim
end Go.Proofs.Ytoflaphnlfggkaa

/- Walks: what Go functions of this chapter come to, each as a function on plain data; no condition but those that each theorem names. Printed by a program of this work (gen.py). -/
namespace Go.Proofs.Ytoflaphnlfggkaa
open Go.Gx Go.Gx.T4 Go.Gx.T3 Go.Gx.T6 Go.Gx.T8 Go.Gx.T4 Go.Gx.T3 Go.Gx.T8 Go.Gx.T4 Go.Gx.T3
theorem sz25 : SzIs Try.prog 25 1 := by
  unfold SzIs
  kernel_rfl
theorem zr25 : ZeroIs Try.prog 25 (Value.slice none 0 0) := by
  unfold ZeroIs
  kernel_rfl
theorem cl42 : Callable Try.prog 42 := callable Try.func42 (by kernel_rfl) rfl
theorem cl43 : Callable Try.prog 43 := callable Try.func43 (by kernel_rfl) rfl
theorem cl44 : Callable Try.prog 44 := callable Try.func44 (by kernel_rfl) rfl
theorem bs22_10s3 (a0 : Option Addr) (a1 a2 : Nat) : Instr.fill (fun i => some (i * 1, 1)) ((Array.range (1 * 1)).map ((Value.slice none 0 0).cells[· % (Value.slice none 0 0).cells.size]!)) [(0, Value.slice a0 a1 a2)] = some #[Value.slice a0 a1 a2] := by
  kernel_rfl
theorem bs38_10a8 (a0 a1 a2 a3 a4 a5 a6 a7 : Value) : Instr.fill (fun i => some (i * 8, 8)) ((Array.range (1 * 8)).map ((Value.agg #[Value.int .i64 0, Value.bool false, Value.int .i64 0, Value.bool false, Value.int .i64 0, Value.bool false, Value.int .i64 0, Value.slice none 0 0]).cells[· % (Value.agg #[Value.int .i64 0, Value.bool false, Value.int .i64 0, Value.bool false, Value.int .i64 0, Value.bool false, Value.int .i64 0, Value.slice none 0 0]).cells.size]!)) [(0, Value.agg #[a0, a1, a2, a3, a4, a5, a6, a7])] = some #[a0, a1, a2, a3, a4, a5, a6, a7] := by
  kernel_rfl
theorem el22 : ElemIs Try.prog 22 1 24 (Value.slice none 0 0) := by
  unfold ElemIs
  kernel_rfl
def GrowIs (n : Nat) : Prop := ∀ (va vl : Value) (ah l : List CT) (p : Nat) (z0 : List (List CT × Value)) (G : Ghost) (F : Nat → Prop) (w : World), SizeOf.sizeOf l ≤ n → ah.length + sizeL l ≤ 1000 → z0.length + sizeL l ≤ 3000 → Cs G va ah → Cs G vl l → ChC G z0 → Has G w → (outA 25 22 p (z0)).holds w F → (∀ b, F b → G b = none) → Calls Try.prog 42 #[va, vl, Value.func (.func 43) #[] #[.pointer (some ⟨p, 0, none⟩)]] w (Ret fun r w' => ∃ G' z', GNew w F G G' ∧ Has G' w' ∧ (r = .tuple #[] ∧ z'.map Prod.fst = z0.map Prod.fst ++ chains ah l ∧ ChC G' z') ∧ KeptG (outA 25 22 p (z')) F G' w w')
theorem c_ch1 (v : Value) (es : List (CT × Value)) (p : Nat) (z : List (List CT × Value)) {G : Ghost} {F : Nat → Prop} (hr : SlL G v 8 cvC d0 es) (hp : ∀ p ∈ es, Cs G p.2 p.1.subs) (hla : es.length ≤ 1000) (hlz : z.length ≤ 3000) (hz : ChC G z) (w : World) (hG : Has G w) (hA : (outA 25 22 p (z)).holds w F) (hFG : ∀ b, F b → G b = none) :
    Calls Try.prog 43 #[v, Value.pointer (some ⟨p, 0, none⟩)] w (Ret fun r w' => ∃ G' z', GNew w F G G' ∧ Has G' w' ∧ (r = .tuple #[] ∧ z'.map Prod.fst = z.map Prod.fst ++ [es.map Prod.fst] ∧ ChC G' z') ∧ KeptG (outA 25 22 p (z')) F G' w w') := by
  refine enterO (args := [_, _]) (G := G) (A := outA 25 22 p (z)) (l := [(0, v), (1, Value.pointer (some ⟨p, 0, none⟩))]) Try.func43 rfl Try.ntmps43 hG hA hFG ⟨rfl, rfl, trivial⟩ (Nat.le_of_ble_eq_true rfl) ?_
  refine c_unex (fun ov => ?_)
  refine c_unpack ?_
  refine c_row1 (k := 1) rfl (fun o1 => ?_)
  refine c_region_d (fun j => [4, 5].contains j) _ mixed (.keep (fun _ _ h => h) (.keep (fun _ _ h => h) (.nil))) ?_
  refine d_val1 0 rfl rfl (by kernel_rfl) (fun j hj => by have h : 5 < j := (Nat.lt_of_lt_of_le (by decide : 5 < 6) hj); simp; omega) .none rfl (p_ld (k := 0) Try.underlying25 rfl rfl rfl (by first | exact of_decide_eq_true rfl | omega) rfl) ?_
  refine d_val1 1 rfl rfl (by kernel_rfl) (fun j hj => by have h : 5 < j := (Nat.lt_of_lt_of_le (by decide : 5 < 6) hj); simp; omega) .none rfl (p_move rfl) ?_
  refine d_eff 2 rfl (by kernel_rfl) (fun K_1 hKK_1 hcK_1 => ?_)
  refine r_callm (vs := [_]) .none rfl cl44 rfl (fun w hw => c_cloneCM _ es hr hla hp w hw) (fun G_2 v_5 hn_3 hr_4 => ?_)
  replace hr := hr.mono hn_3.le
  replace hp := fun p hm0 => (hp p hm0).mono hn_3.le
  replace hz := ChC.mono hz hn_3.le
  have u_6 := hr_4
  refine r_nil (e_d (i := 2) (brk := (fun j => [4, 5].contains j)) (ph' := true) hKK_1 hcK_1 rfl (fun _ => hn_3.le) (fun _ => .keep (fun _ _ h => h) (.keep (fun _ _ h => h) (.nil))) ?_)
  clear hKK_1 hcK_1 K_1
  obtain ⟨a_7, c_8, rfl⟩ := SlG.len u_6
  refine d_eff 3 rfl (by kernel_rfl) (fun K_9 hKK_9 hcK_9 => ?_)
  refine r_bslice (vs := [(0, Value.slice _ _ _)]) (c := #[_]) .none rfl Try.underlying25 el22 rfl rfl rfl (bs22_10s3 _ _ _) (IsRow.lit _) (fun b_1 => ?_)
  refine r_nil (e_d (i := 3) (brk := (fun j => [4, 5].contains j)) (ph' := true) hKK_9 hcK_9 rfl (fun _ => hn_3.le) (fun _ => .drop (.keep (fun _ _ h => h) (.keep (fun _ _ h => h) (.nil)))) ?_)
  clear hKK_9 hcK_9 K_9
  refine d_eff 4 rfl (by kernel_rfl) (fun K_10 hKK_10 hcK_10 => ?_)
  refine r_append (k := 2) (k2 := 0) .none rfl Try.underlying25 el22 rfl (by decide) rfl rfl rfl rfl rfl (one_lit rfl rfl) (by simp only [maxLen]; omega) (by omega) (fun v_11 => ?_)
  refine r_row1 (k := 2) rfl (fun o_12 => ?_)
  refine r_nil (e_d (i := 4) (brk := (fun j => [4, 5].contains j)) (ph' := false) hKK_10 hcK_10 rfl (fun h => by cases h) (fun h => by cases h) ?_)
  clear hKK_10 hcK_10 K_10
  refine d_eff 5 rfl (by kernel_rfl) (fun K_13 hKK_13 hcK_13 => ?_)
  refine r_st (k := 1) .none sz25 rfl rfl o_12 rfl (by first | exact of_decide_eq_true rfl | omega) ?_
  refine r_nil (e_d (i := 5) (brk := (fun j => [4, 5].contains j)) (ph' := false) hKK_13 hcK_13 rfl (fun h => by cases h) (fun h => by cases h) ?_)
  clear hKK_13 hcK_13 K_13
  refine d_nil (by kernel_rfl) ?_
  refine e_end0 Try.results43 (fun w hm => ⟨_, (z ++ [(es.map Prod.fst, (Value.slice a_7 es.length c_8))]), hn_3, hm.has, ⟨rfl, by simp, ChC.snoc hz (Tr.mk _ u_6 hp)⟩, hm.keptG [box p 1 25 (at_ [v_11]), rowA v_11 22 1 (z ++ [(es.map Prod.fst, (Value.slice a_7 es.length c_8))]).length ((z ++ [(es.map Prod.fst, (Value.slice a_7 es.length c_8))]).flatMap lC)] (.drop (.keep (fun _ _ h => box_congr (fun i hi => by match i, hi with | 0, _ => rfl) _ _ h) (.keep (fun _ _ h => rowA_snoc (l := z) (x := (es.map Prod.fst, (Value.slice a_7 es.length c_8))) rfl rfl rfl rfl _ _ h) (.nil)))) (outA _ _ p (z ++ [(es.map Prod.fst, (Value.slice a_7 es.length c_8))])) (fun F' h => ⟨_, h⟩)⟩)
theorem c_grow6_s (n : Nat) (ih : GrowIs n) (va vl : Value) (ah l : List CT) (p : Nat) (z0 : List (List CT × Value)) {G : Ghost} {F : Nat → Prop} (hz : SizeOf.sizeOf l ≤ n + 1) (hsz : ah.length + sizeL l ≤ 1000) (hlz : z0.length + sizeL l ≤ 3000) (hsa : Cs G va ah) (hs : Cs G vl l) (hz0 : ChC G z0) (w : World) (hG : Has G w) (hA : (outA 25 22 p (z0)).holds w F) (hFG : ∀ b, F b → G b = none) :
    Calls Try.prog 42 #[va, vl, Value.func (.func 43) #[] #[.pointer (some ⟨p, 0, none⟩)]] w (Ret fun r w' => ∃ G' z', GNew w F G G' ∧ Has G' w' ∧ (r = .tuple #[] ∧ z'.map Prod.fst = z0.map Prod.fst ++ chains ah l ∧ ChC G' z') ∧ KeptG (outA 25 22 p (z')) F G' w w') := by
  refine enterO (args := [_, _, _]) (G := G) (A := outA 25 22 p (z0)) (l := [(0, va), (1, vl), (2, Value.func (.func 43) #[] #[.pointer (some ⟨p, 0, none⟩)])]) Try.func42 rfl Try.ntmps42 hG hA hFG ⟨rfl, rfl, rfl, trivial⟩ (Nat.le_of_ble_eq_true rfl) ?_
  obtain ⟨rs, hr, hp, rfl⟩ := hs.inv
  have hbd := hr.bound
  refine c_seq ?_
  refine c_region ?_
  refine r_val .none rfl (p_move rfl) ?_
  refine r_val .none rfl (p_leng Try.underlying22 rfl hr) ?_
  have bd_1 := (hr).bound
  refine r_val .none rfl (p_move rfl) ?_
  refine r_nil ?_
  refine e_next ?_
  refine c_block ?_
  refine c_name (d := 2) rfl (fun u_2 hu_2 => ?_)
  refine c_name (d := 8) rfl (fun u_3 hu_3 => ?_)
  refine c_name (d := 9) rfl (fun u_4 hu_4 => ?_)
  refine c_loop (σ := Nat × Value × List (List CT × Value) × Ghost) (fun s => [(10, Value.int .i64 (s.1 : Nat)), (0, s.2.1), (2, u_2), (8, u_3), (9, u_4)]) (fun s => [outA 25 22 p (s.2.2.1)]) (fun s => s.2.2.2) (fun s => s.1 ≤ rs.length ∧ Cs s.2.2.2 s.2.1 (ah ++ (rs.map Prod.fst).take s.1) ∧ s.2.2.1.map Prod.fst = z0.map Prod.fst ++ chains ah ((rs.map Prod.fst).take s.1) ∧ ChC s.2.2.2 s.2.2.1 ∧ GNew w F G s.2.2.2) (fun s => rs.length - s.1) ((0, _, z0, _)) ⟨Nat.zero_le _, by simpa using hsa, by simp [chains], hz0, GNew.refl _ _ _⟩ rfl ⟨rfl, rfl, rfl, rfl, rfl, trivial⟩ (.keep (fun _ _ h => h) (.nil)) (fun s hphi => ?_)
  subst hu_2
  subst hu_3
  subst hu_4
  obtain ⟨k, v, z, H⟩ := s
  obtain ⟨hk, hva, hzq, hzc, hgn⟩ := hphi
  dsimp only at hk hva hzq hzc hgn ⊢
  obtain ⟨es, ha, hap, hal⟩ := hva.inv
  have hla : es.length = ah.length + k := by have := congrArg List.length hal; simp at this; omega
  have hzl : z.length = z0.length + (chains ah ((rs.map Prod.fst).take k)).length := by have := congrArg List.length hzq; simpa using this
  have hcl := chains_take_le ah rs k
  have hst0 := sizeL_take_le (rs.map Prod.fst) k
  have hll := sizeL_len (rs.map Prod.fst)
  rw [List.length_map] at hll
  replace hsa := hsa.mono hgn.le
  replace hr := hr.mono hgn.le
  replace hp := fun p hm0 => (hp p hm0).mono hgn.le
  refine c_seq ?_
  refine c_region ?_
  refine r_val .none rfl (p_lt rfl rfl) ?_
  refine r_nil ?_
  refine e_next ?_
  refine c_seq ?_
  refine c_splitd (d := 11) rfl (fun h_5 => ?_) (fun h_5 => ?_)
  · skip
    first
      | (exfalso; omega)
      | (
        refine c_cond_t rfl ?_
        refine c_skip ?_
        refine e_next ?_
        refine c_seq ?_
        refine c_block ?_
        refine c_seq ?_
        refine c_region ?_
        refine r_iaddr_g .none rfl Try.underlying22 sz38 rfl hr rfl (by first | exact of_decide_eq_true rfl | omega) (fun p_7 o_8 R_6 => ?_)
        have hc_9 := hp _ (getD_mem (i := k) (d := d0) (by omega))
        have hkl := sizeL_len ((rs.map Prod.fst).take k)
        rw [List.length_take, List.length_map] at hkl
        have hsk := sizeL_take (rs := rs) (k := k) (by omega)
        have hsk2 := sizeL_take_le (rs.map Prod.fst) (k + 1)
        have hsq := size_eq (rs.getD k d0).1
        refine r_val .none rfl (p_ldga0 Try.underlying38 rfl sz38 rfl R_6 (by first | exact of_decide_eq_true rfl | omega) (rfl : _ = Value.agg #[_, _, _, _, _, _, _, _])) ?_
        refine r_alloc .none rfl zr38 (IsRow.lit _) (fun b_1 => ?_)
        refine r_stw (k := 0) .none sz38 rfl rfl (IsRow.lit _) (one_lit rfl (all_cons rfl (all_cons rfl (all_cons rfl (all_cons rfl (all_cons rfl (all_cons rfl (all_cons rfl (all_cons (hc_9).one rfl))))))))) rfl ?_
        refine r_nil ?_
        refine e_next ?_
        refine c_seq ?_
        refine c_seq ?_
        refine c_region ?_
        refine r_val .none rfl (p_field Try.underlying38 rfl sz3 rfl) ?_
        refine r_val .none rfl (p_ld (k := 0) Try.underlying3 rfl rfl rfl (by first | exact of_decide_eq_true rfl | omega) (rfl : _ = Value.int _ _)) ?_
        refine r_val .none rfl (p_eq rfl rfl) ?_
        refine r_nil ?_
        refine e_next ?_
        refine c_splitd (d := 16) rfl (fun h_10 => ?_) (fun h_10 => ?_)
        · skip
          have hk3 := h_10
          first
            | (exfalso; omega)
            | (
              refine c_cond_t rfl ?_
              refine c_region ?_
              refine r_val .none rfl (p_move rfl) ?_
              refine r_val .none rfl (p_field Try.underlying38 rfl sz22 rfl) ?_
              refine r_val .none rfl (p_ld (k := 0) Try.underlying22 rfl rfl rfl (by first | exact of_decide_eq_true rfl | omega) rfl) ?_
              refine r_val .none rfl (p_move rfl) ?_
              refine r_callox (k := 1) (vs := [_, _, _]) .none rfl cl42 rfl rfl (fun w F hw hA hFG => ih _ _ _ _ _ _ _ _ w (Nat.le_of_lt_succ (Nat.lt_of_lt_of_le (sub_size (by omega)) hz)) (by rw [List.length_append, List.length_take, List.length_map]; omega) (by omega) hva hc_9 hzc hw hA hFG) (fun G_11 v_14 z_16 hn_12 hr_13 => ?_)
              replace hsa := hsa.mono hn_12.le
              replace hr := hr.mono hn_12.le
              replace hp := fun p hm0 => (hp p hm0).mono hn_12.le
              replace ha := ha.mono hn_12.le
              replace hap := fun p hm0 => (hap p hm0).mono hn_12.le
              replace hva := hva.mono hn_12.le
              replace hzc := ChC.mono hzc hn_12.le
              replace R_6 := R_6.mono hn_12.le
              replace hc_9 := hc_9.mono hn_12.le
              obtain ⟨-, u_15q, u_15c⟩ := hr_13
              refine r_nil ?_
              refine e_next ?_
              refine c_seq ?_
              refine c_region_d (fun _ => false) _ mixed (.keep (fun _ _ h => h) (.keep (fun _ _ h => h) (.nil))) ?_
              refine d_val1 0 rfl rfl (by kernel_rfl) (fun _ _ => rfl) .none rfl (p_move rfl) ?_
              refine d_val1 2 rfl rfl (by kernel_rfl) (fun _ _ => rfl) .none rfl (p_ldw (k := 0) Try.underlying38 rfl sz38 rfl rfl (rfl : _ = Value.agg #[_, _, _, _, _, _, _, _])) ?_
              refine d_eff2 1 3 rfl rfl (by kernel_rfl) (fun K_17 hKK_17 hcK_17 => ?_) (fun K_17 hKK_17 hcK_17 => ?_)
              · skip
                refine r_callrow (vs := [_]) .none rfl cl44 rfl (fun w hw => c_cloneC _ es ha (by omega) hap w hw) (fun v_18 => ?_)
                refine r_nil (e_d (i := 1) (brk := (fun _ => false)) (ph' := true) hKK_17 hcK_17 rfl (fun _ => GLe.refl _) (fun _ => .drop (.keep (fun _ _ h => h) (.keep (fun _ _ h => h) (.nil)))) ?_)
                clear hKK_17 hcK_17 K_17
                refine d_eff 3 rfl (by kernel_rfl) (fun K_19 hKK_19 hcK_19 => ?_)
                refine r_bslice (vs := [(0, Value.agg #[_, _, _, _, _, _, _, _])]) (c := #[_, _, _, _, _, _, _, _]) .none rfl Try.underlying22 el38 rfl rfl rfl (bs38_10a8 _ _ _ _ _ _ _ _) (IsRow.lit _) (fun b_2 => ?_)
                refine r_nil (e_d (i := 3) (brk := (fun _ => false)) (ph' := true) hKK_19 hcK_19 rfl (fun _ => GLe.refl _) (fun _ => .drop (.drop (.keep (fun _ _ h => h) (.keep (fun _ _ h => h) (.nil))))) ?_)
                clear hKK_19 hcK_19 K_19
                refine d_eff 4 rfl (by kernel_rfl) (fun K_20 hKK_20 hcK_20 => ?_)
                refine r_append (k := 1) (k2 := 0) .none rfl Try.underlying22 el38 rfl (by decide) rfl rfl rfl rfl rfl (one_lit rfl (all_cons rfl (all_cons rfl (all_cons rfl (all_cons rfl (all_cons rfl (all_cons rfl (all_cons rfl (all_cons (hc_9).one rfl))))))))) (by simp only [maxLen]; omega) (by omega) (fun v_21 => ?_)
                refine r_row1 (k := 1) rfl (fun o_22 => ?_)
                refine r_nil (e_d (i := 4) (brk := (fun _ => false)) (ph' := true) hKK_20 hcK_20 rfl (fun _ => GLe.refl _) (fun _ => .drop (.drop (.keep (fun _ _ h => h) (.keep (fun _ _ h => h) (.nil))))) ?_)
                clear hKK_20 hcK_20 K_20
                refine d_val1 5 rfl rfl (by kernel_rfl) (fun _ _ => rfl) .none rfl (p_assign rfl) ?_
                refine d_nil (by kernel_rfl) ?_
                refine e_next ?_
                refine c_region ?_
                refine r_val .none rfl (p_move rfl) ?_
                refine r_freeze (k := 1) rfl (fun G_23 hn_24 hs_25 => ?_)
                replace hsa := hsa.mono hn_24.le
                replace hr := hr.mono hn_24.le
                replace hp := fun p hm0 => (hp p hm0).mono hn_24.le
                replace ha := ha.mono hn_24.le
                replace hap := fun p hm0 => (hap p hm0).mono hn_24.le
                replace hva := hva.mono hn_24.le
                replace hzc := ChC.mono hzc hn_24.le
                replace R_6 := R_6.mono hn_24.le
                replace hc_9 := hc_9.mono hn_24.le
                replace u_15c := ChC.mono u_15c hn_24.le
                have hs2 : SlL G_23 v_21 8 cvC d0 (es ++ [rs.getD k d0]) := SlL.of2 d0 (fun _ => rfl) (by simp) (by rw [List.flatMap_append, List.flatMap_cons, List.flatMap_nil, List.append_nil]; rfl) hs_25
                have hp2 : ∀ p ∈ es ++ [rs.getD k d0], Cs G_23 p.2 p.1.subs := fun p hp' => by rcases List.mem_append.1 hp' with h | h; exact hap p h; rw [List.mem_singleton.1 h]; exact hc_9
                have hva2 : Cs G_23 v_21 (ah ++ (rs.map Prod.fst).take (k + 1)) := by have h := Tr.mk _ hs2 hp2; rw [List.map_append, ← hal] at h; rw [map_take (d := d0) (by omega), ← List.append_assoc]; exact h
                have hm2 : (es ++ [rs.getD k d0]).map Prod.fst = ah ++ (rs.map Prod.fst).take (k + 1) := by rw [List.map_append, ← hal, map_take (d := d0) (by omega), ← List.append_assoc]; rfl
                refine r_val .none rfl (p_move rfl) ?_
                refine r_fun (cs := [_]) .none rfl ?_
                refine r_callox (k := 2) (vs := [_, _]) .none rfl cl43 rfl rfl (fun w F hw hA hFG => c_ch1 _ _ _ _ hs2 hp2 (by simp; omega) (by have h9 := congrArg List.length u_15q; rw [List.length_append, List.length_map, List.length_map] at h9; have h10 := chains_len (rs.getD k d0).1.subs (ah ++ (rs.map Prod.fst).take k); omega) u_15c w hw hA hFG) (fun G_26 v_29 z_31 hn_27 hr_28 => ?_)
                replace hsa := hsa.mono hn_27.le
                replace hr := hr.mono hn_27.le
                replace hp := fun p hm0 => (hp p hm0).mono hn_27.le
                replace ha := ha.mono hn_27.le
                replace hap := fun p hm0 => (hap p hm0).mono hn_27.le
                replace hva := hva.mono hn_27.le
                replace hzc := ChC.mono hzc hn_27.le
                replace R_6 := R_6.mono hn_27.le
                replace hc_9 := hc_9.mono hn_27.le
                replace u_15c := ChC.mono u_15c hn_27.le
                replace hs2 := hs2.mono hn_27.le
                replace hp2 := fun p hm0 => (hp2 p hm0).mono hn_27.le
                replace hva2 := hva2.mono hn_27.le
                obtain ⟨-, u_30q, u_30c⟩ := hr_28
                refine r_nil ?_
                refine e_norm_block ?_
                refine e_next ?_
                refine c_region ?_
                refine r_val .none rfl (p_add rfl rfl (by omega)) ?_
                refine r_val .none rfl (p_move rfl) ?_
                refine r_nil ?_
                refine e_round ((k + 1, _, z_31, _)) ⟨⟨by dsimp only; omega, hva2, by rw [u_30q, hm2, chains_take (by omega)]; first | (rw [hzq, chain1_other (by assumption), map_take (d := d0) (by omega)]; simp [List.append_assoc]; done) | (rw [u_15q, hzq, chain1_ncc (by assumption), map_take (d := d0) (by omega)]; simp [List.append_assoc]; done), u_30c, (((hgn.trans hn_12).trans hn_24).trans hn_27)⟩, by dsimp only; omega⟩ rfl ⟨rfl, rfl, rfl, rfl, rfl, trivial⟩ (.drop (.drop (.keep (fun _ _ h => h) (.nil))))
              · skip
                refine r_bslice (vs := [(0, Value.agg #[_, _, _, _, _, _, _, _])]) (c := #[_, _, _, _, _, _, _, _]) .none rfl Try.underlying22 el38 rfl rfl rfl (bs38_10a8 _ _ _ _ _ _ _ _) (IsRow.lit _) (fun b_3 => ?_)
                refine r_nil (e_d (i := 3) (brk := (fun _ => false)) (ph' := true) hKK_17 hcK_17 rfl (fun _ => GLe.refl _) (fun _ => .drop (.keep (fun _ _ h => h) (.keep (fun _ _ h => h) (.nil)))) ?_)
                clear hKK_17 hcK_17 K_17
                refine d_eff 1 rfl (by kernel_rfl) (fun K_32 hKK_32 hcK_32 => ?_)
                refine r_callrow (vs := [_]) .none rfl cl44 rfl (fun w hw => c_cloneC _ es ha (by omega) hap w hw) (fun v_33 => ?_)
                refine r_nil (e_d (i := 1) (brk := (fun _ => false)) (ph' := true) hKK_32 hcK_32 rfl (fun _ => GLe.refl _) (fun _ => .drop (.drop (.keep (fun _ _ h => h) (.keep (fun _ _ h => h) (.nil))))) ?_)
                clear hKK_32 hcK_32 K_32
                refine d_eff 4 rfl (by kernel_rfl) (fun K_34 hKK_34 hcK_34 => ?_)
                refine r_append (k := 0) (k2 := 1) .none rfl Try.underlying22 el38 rfl (by decide) rfl rfl rfl rfl rfl (one_lit rfl (all_cons rfl (all_cons rfl (all_cons rfl (all_cons rfl (all_cons rfl (all_cons rfl (all_cons rfl (all_cons (hc_9).one rfl))))))))) (by simp only [maxLen]; omega) (by omega) (fun v_35 => ?_)
                refine r_row1 (k := 0) rfl (fun o_36 => ?_)
                refine r_nil (e_d (i := 4) (brk := (fun _ => false)) (ph' := true) hKK_34 hcK_34 rfl (fun _ => GLe.refl _) (fun _ => .drop (.drop (.keep (fun _ _ h => h) (.keep (fun _ _ h => h) (.nil))))) ?_)
                clear hKK_34 hcK_34 K_34
                refine d_val1 5 rfl rfl (by kernel_rfl) (fun _ _ => rfl) .none rfl (p_assign rfl) ?_
                refine d_nil (by kernel_rfl) ?_
                refine e_next ?_
                refine c_region ?_
                refine r_val .none rfl (p_move rfl) ?_
                refine r_freeze (k := 0) rfl (fun G_37 hn_38 hs_39 => ?_)
                replace hsa := hsa.mono hn_38.le
                replace hr := hr.mono hn_38.le
                replace hp := fun p hm0 => (hp p hm0).mono hn_38.le
                replace ha := ha.mono hn_38.le
                replace hap := fun p hm0 => (hap p hm0).mono hn_38.le
                replace hva := hva.mono hn_38.le
                replace hzc := ChC.mono hzc hn_38.le
                replace R_6 := R_6.mono hn_38.le
                replace hc_9 := hc_9.mono hn_38.le
                replace u_15c := ChC.mono u_15c hn_38.le
                have hs2 : SlL G_37 v_35 8 cvC d0 (es ++ [rs.getD k d0]) := SlL.of2 d0 (fun _ => rfl) (by simp) (by rw [List.flatMap_append, List.flatMap_cons, List.flatMap_nil, List.append_nil]; rfl) hs_39
                have hp2 : ∀ p ∈ es ++ [rs.getD k d0], Cs G_37 p.2 p.1.subs := fun p hp' => by rcases List.mem_append.1 hp' with h | h; exact hap p h; rw [List.mem_singleton.1 h]; exact hc_9
                have hva2 : Cs G_37 v_35 (ah ++ (rs.map Prod.fst).take (k + 1)) := by have h := Tr.mk _ hs2 hp2; rw [List.map_append, ← hal] at h; rw [map_take (d := d0) (by omega), ← List.append_assoc]; exact h
                have hm2 : (es ++ [rs.getD k d0]).map Prod.fst = ah ++ (rs.map Prod.fst).take (k + 1) := by rw [List.map_append, ← hal, map_take (d := d0) (by omega), ← List.append_assoc]; rfl
                refine r_val .none rfl (p_move rfl) ?_
                refine r_fun (cs := [_]) .none rfl ?_
                refine r_callox (k := 2) (vs := [_, _]) .none rfl cl43 rfl rfl (fun w F hw hA hFG => c_ch1 _ _ _ _ hs2 hp2 (by simp; omega) (by have h9 := congrArg List.length u_15q; rw [List.length_append, List.length_map, List.length_map] at h9; have h10 := chains_len (rs.getD k d0).1.subs (ah ++ (rs.map Prod.fst).take k); omega) u_15c w hw hA hFG) (fun G_40 v_43 z_45 hn_41 hr_42 => ?_)
                replace hsa := hsa.mono hn_41.le
                replace hr := hr.mono hn_41.le
                replace hp := fun p hm0 => (hp p hm0).mono hn_41.le
                replace ha := ha.mono hn_41.le
                replace hap := fun p hm0 => (hap p hm0).mono hn_41.le
                replace hva := hva.mono hn_41.le
                replace hzc := ChC.mono hzc hn_41.le
                replace R_6 := R_6.mono hn_41.le
                replace hc_9 := hc_9.mono hn_41.le
                replace u_15c := ChC.mono u_15c hn_41.le
                replace hs2 := hs2.mono hn_41.le
                replace hp2 := fun p hm0 => (hp2 p hm0).mono hn_41.le
                replace hva2 := hva2.mono hn_41.le
                obtain ⟨-, u_44q, u_44c⟩ := hr_42
                refine r_nil ?_
                refine e_norm_block ?_
                refine e_next ?_
                refine c_region ?_
                refine r_val .none rfl (p_add rfl rfl (by omega)) ?_
                refine r_val .none rfl (p_move rfl) ?_
                refine r_nil ?_
                refine e_round ((k + 1, _, z_45, _)) ⟨⟨by dsimp only; omega, hva2, by rw [u_44q, hm2, chains_take (by omega)]; first | (rw [hzq, chain1_other (by assumption), map_take (d := d0) (by omega)]; simp [List.append_assoc]; done) | (rw [u_15q, hzq, chain1_ncc (by assumption), map_take (d := d0) (by omega)]; simp [List.append_assoc]; done), u_44c, (((hgn.trans hn_12).trans hn_38).trans hn_41)⟩, by dsimp only; omega⟩ rfl ⟨rfl, rfl, rfl, rfl, rfl, trivial⟩ (.drop (.drop (.keep (fun _ _ h => h) (.nil))))
              )
        · skip
          have hk3 := h_10
          first
            | (exfalso; omega)
            | (
              refine c_cond_f rfl ?_
              refine c_skip ?_
              refine e_next ?_
              refine c_seq ?_
              refine c_region_d (fun _ => false) _ mixed (.keep (fun _ _ h => h) (.keep (fun _ _ h => h) (.nil))) ?_
              refine d_val1 0 rfl rfl (by kernel_rfl) (fun _ _ => rfl) .none rfl (p_move rfl) ?_
              refine d_val1 2 rfl rfl (by kernel_rfl) (fun _ _ => rfl) .none rfl (p_ldw (k := 0) Try.underlying38 rfl sz38 rfl rfl (rfl : _ = Value.agg #[_, _, _, _, _, _, _, _])) ?_
              refine d_eff2 1 3 rfl rfl (by kernel_rfl) (fun K_46 hKK_46 hcK_46 => ?_) (fun K_46 hKK_46 hcK_46 => ?_)
              · skip
                refine r_callrow (vs := [_]) .none rfl cl44 rfl (fun w hw => c_cloneC _ es ha (by omega) hap w hw) (fun v_47 => ?_)
                refine r_nil (e_d (i := 1) (brk := (fun _ => false)) (ph' := true) hKK_46 hcK_46 rfl (fun _ => GLe.refl _) (fun _ => .drop (.keep (fun _ _ h => h) (.keep (fun _ _ h => h) (.nil)))) ?_)
                clear hKK_46 hcK_46 K_46
                refine d_eff 3 rfl (by kernel_rfl) (fun K_48 hKK_48 hcK_48 => ?_)
                refine r_bslice (vs := [(0, Value.agg #[_, _, _, _, _, _, _, _])]) (c := #[_, _, _, _, _, _, _, _]) .none rfl Try.underlying22 el38 rfl rfl rfl (bs38_10a8 _ _ _ _ _ _ _ _) (IsRow.lit _) (fun b_4 => ?_)
                refine r_nil (e_d (i := 3) (brk := (fun _ => false)) (ph' := true) hKK_48 hcK_48 rfl (fun _ => GLe.refl _) (fun _ => .drop (.drop (.keep (fun _ _ h => h) (.keep (fun _ _ h => h) (.nil))))) ?_)
                clear hKK_48 hcK_48 K_48
                refine d_eff 4 rfl (by kernel_rfl) (fun K_49 hKK_49 hcK_49 => ?_)
                refine r_append (k := 1) (k2 := 0) .none rfl Try.underlying22 el38 rfl (by decide) rfl rfl rfl rfl rfl (one_lit rfl (all_cons rfl (all_cons rfl (all_cons rfl (all_cons rfl (all_cons rfl (all_cons rfl (all_cons rfl (all_cons (hc_9).one rfl))))))))) (by simp only [maxLen]; omega) (by omega) (fun v_50 => ?_)
                refine r_row1 (k := 1) rfl (fun o_51 => ?_)
                refine r_nil (e_d (i := 4) (brk := (fun _ => false)) (ph' := true) hKK_49 hcK_49 rfl (fun _ => GLe.refl _) (fun _ => .drop (.drop (.keep (fun _ _ h => h) (.keep (fun _ _ h => h) (.nil))))) ?_)
                clear hKK_49 hcK_49 K_49
                refine d_val1 5 rfl rfl (by kernel_rfl) (fun _ _ => rfl) .none rfl (p_assign rfl) ?_
                refine d_nil (by kernel_rfl) ?_
                refine e_next ?_
                refine c_region ?_
                refine r_val .none rfl (p_move rfl) ?_
                refine r_freeze (k := 1) rfl (fun G_52 hn_53 hs_54 => ?_)
                replace hsa := hsa.mono hn_53.le
                replace hr := hr.mono hn_53.le
                replace hp := fun p hm0 => (hp p hm0).mono hn_53.le
                replace ha := ha.mono hn_53.le
                replace hap := fun p hm0 => (hap p hm0).mono hn_53.le
                replace hva := hva.mono hn_53.le
                replace hzc := ChC.mono hzc hn_53.le
                replace R_6 := R_6.mono hn_53.le
                replace hc_9 := hc_9.mono hn_53.le
                have hs2 : SlL G_52 v_50 8 cvC d0 (es ++ [rs.getD k d0]) := SlL.of2 d0 (fun _ => rfl) (by simp) (by rw [List.flatMap_append, List.flatMap_cons, List.flatMap_nil, List.append_nil]; rfl) hs_54
                have hp2 : ∀ p ∈ es ++ [rs.getD k d0], Cs G_52 p.2 p.1.subs := fun p hp' => by rcases List.mem_append.1 hp' with h | h; exact hap p h; rw [List.mem_singleton.1 h]; exact hc_9
                have hva2 : Cs G_52 v_50 (ah ++ (rs.map Prod.fst).take (k + 1)) := by have h := Tr.mk _ hs2 hp2; rw [List.map_append, ← hal] at h; rw [map_take (d := d0) (by omega), ← List.append_assoc]; exact h
                have hm2 : (es ++ [rs.getD k d0]).map Prod.fst = ah ++ (rs.map Prod.fst).take (k + 1) := by rw [List.map_append, ← hal, map_take (d := d0) (by omega), ← List.append_assoc]; rfl
                refine r_val .none rfl (p_move rfl) ?_
                refine r_fun (cs := [_]) .none rfl ?_
                refine r_callox (k := 2) (vs := [_, _]) .none rfl cl43 rfl rfl (fun w F hw hA hFG => c_ch1 _ _ _ _ hs2 hp2 (by simp; omega) (by omega) hzc w hw hA hFG) (fun G_55 v_58 z_60 hn_56 hr_57 => ?_)
                replace hsa := hsa.mono hn_56.le
                replace hr := hr.mono hn_56.le
                replace hp := fun p hm0 => (hp p hm0).mono hn_56.le
                replace ha := ha.mono hn_56.le
                replace hap := fun p hm0 => (hap p hm0).mono hn_56.le
                replace hva := hva.mono hn_56.le
                replace hzc := ChC.mono hzc hn_56.le
                replace R_6 := R_6.mono hn_56.le
                replace hc_9 := hc_9.mono hn_56.le
                replace hs2 := hs2.mono hn_56.le
                replace hp2 := fun p hm0 => (hp2 p hm0).mono hn_56.le
                replace hva2 := hva2.mono hn_56.le
                obtain ⟨-, u_59q, u_59c⟩ := hr_57
                refine r_nil ?_
                refine e_norm_block ?_
                refine e_next ?_
                refine c_region ?_
                refine r_val .none rfl (p_add rfl rfl (by omega)) ?_
                refine r_val .none rfl (p_move rfl) ?_
                refine r_nil ?_
                refine e_round ((k + 1, _, z_60, _)) ⟨⟨by dsimp only; omega, hva2, by rw [u_59q, hm2, chains_take (by omega)]; first | (rw [hzq, chain1_other (by assumption), map_take (d := d0) (by omega)]; simp [List.append_assoc]; done) | (rw [hzq, hzq, chain1_ncc (by assumption), map_take (d := d0) (by omega)]; simp [List.append_assoc]; done), u_59c, ((hgn.trans hn_53).trans hn_56)⟩, by dsimp only; omega⟩ rfl ⟨rfl, rfl, rfl, rfl, rfl, trivial⟩ (.drop (.drop (.keep (fun _ _ h => h) (.nil))))
              · skip
                refine r_bslice (vs := [(0, Value.agg #[_, _, _, _, _, _, _, _])]) (c := #[_, _, _, _, _, _, _, _]) .none rfl Try.underlying22 el38 rfl rfl rfl (bs38_10a8 _ _ _ _ _ _ _ _) (IsRow.lit _) (fun b_5 => ?_)
                refine r_nil (e_d (i := 3) (brk := (fun _ => false)) (ph' := true) hKK_46 hcK_46 rfl (fun _ => GLe.refl _) (fun _ => .drop (.keep (fun _ _ h => h) (.keep (fun _ _ h => h) (.nil)))) ?_)
                clear hKK_46 hcK_46 K_46
                refine d_eff 1 rfl (by kernel_rfl) (fun K_61 hKK_61 hcK_61 => ?_)
                refine r_callrow (vs := [_]) .none rfl cl44 rfl (fun w hw => c_cloneC _ es ha (by omega) hap w hw) (fun v_62 => ?_)
                refine r_nil (e_d (i := 1) (brk := (fun _ => false)) (ph' := true) hKK_61 hcK_61 rfl (fun _ => GLe.refl _) (fun _ => .drop (.drop (.keep (fun _ _ h => h) (.keep (fun _ _ h => h) (.nil))))) ?_)
                clear hKK_61 hcK_61 K_61
                refine d_eff 4 rfl (by kernel_rfl) (fun K_63 hKK_63 hcK_63 => ?_)
                refine r_append (k := 0) (k2 := 1) .none rfl Try.underlying22 el38 rfl (by decide) rfl rfl rfl rfl rfl (one_lit rfl (all_cons rfl (all_cons rfl (all_cons rfl (all_cons rfl (all_cons rfl (all_cons rfl (all_cons rfl (all_cons (hc_9).one rfl))))))))) (by simp only [maxLen]; omega) (by omega) (fun v_64 => ?_)
                refine r_row1 (k := 0) rfl (fun o_65 => ?_)
                refine r_nil (e_d (i := 4) (brk := (fun _ => false)) (ph' := true) hKK_63 hcK_63 rfl (fun _ => GLe.refl _) (fun _ => .drop (.drop (.keep (fun _ _ h => h) (.keep (fun _ _ h => h) (.nil))))) ?_)
                clear hKK_63 hcK_63 K_63
                refine d_val1 5 rfl rfl (by kernel_rfl) (fun _ _ => rfl) .none rfl (p_assign rfl) ?_
                refine d_nil (by kernel_rfl) ?_
                refine e_next ?_
                refine c_region ?_
                refine r_val .none rfl (p_move rfl) ?_
                refine r_freeze (k := 0) rfl (fun G_66 hn_67 hs_68 => ?_)
                replace hsa := hsa.mono hn_67.le
                replace hr := hr.mono hn_67.le
                replace hp := fun p hm0 => (hp p hm0).mono hn_67.le
                replace ha := ha.mono hn_67.le
                replace hap := fun p hm0 => (hap p hm0).mono hn_67.le
                replace hva := hva.mono hn_67.le
                replace hzc := ChC.mono hzc hn_67.le
                replace R_6 := R_6.mono hn_67.le
                replace hc_9 := hc_9.mono hn_67.le
                have hs2 : SlL G_66 v_64 8 cvC d0 (es ++ [rs.getD k d0]) := SlL.of2 d0 (fun _ => rfl) (by simp) (by rw [List.flatMap_append, List.flatMap_cons, List.flatMap_nil, List.append_nil]; rfl) hs_68
                have hp2 : ∀ p ∈ es ++ [rs.getD k d0], Cs G_66 p.2 p.1.subs := fun p hp' => by rcases List.mem_append.1 hp' with h | h; exact hap p h; rw [List.mem_singleton.1 h]; exact hc_9
                have hva2 : Cs G_66 v_64 (ah ++ (rs.map Prod.fst).take (k + 1)) := by have h := Tr.mk _ hs2 hp2; rw [List.map_append, ← hal] at h; rw [map_take (d := d0) (by omega), ← List.append_assoc]; exact h
                have hm2 : (es ++ [rs.getD k d0]).map Prod.fst = ah ++ (rs.map Prod.fst).take (k + 1) := by rw [List.map_append, ← hal, map_take (d := d0) (by omega), ← List.append_assoc]; rfl
                refine r_val .none rfl (p_move rfl) ?_
                refine r_fun (cs := [_]) .none rfl ?_
                refine r_callox (k := 2) (vs := [_, _]) .none rfl cl43 rfl rfl (fun w F hw hA hFG => c_ch1 _ _ _ _ hs2 hp2 (by simp; omega) (by omega) hzc w hw hA hFG) (fun G_69 v_72 z_74 hn_70 hr_71 => ?_)
                replace hsa := hsa.mono hn_70.le
                replace hr := hr.mono hn_70.le
                replace hp := fun p hm0 => (hp p hm0).mono hn_70.le
                replace ha := ha.mono hn_70.le
                replace hap := fun p hm0 => (hap p hm0).mono hn_70.le
                replace hva := hva.mono hn_70.le
                replace hzc := ChC.mono hzc hn_70.le
                replace R_6 := R_6.mono hn_70.le
                replace hc_9 := hc_9.mono hn_70.le
                replace hs2 := hs2.mono hn_70.le
                replace hp2 := fun p hm0 => (hp2 p hm0).mono hn_70.le
                replace hva2 := hva2.mono hn_70.le
                obtain ⟨-, u_73q, u_73c⟩ := hr_71
                refine r_nil ?_
                refine e_norm_block ?_
                refine e_next ?_
                refine c_region ?_
                refine r_val .none rfl (p_add rfl rfl (by omega)) ?_
                refine r_val .none rfl (p_move rfl) ?_
                refine r_nil ?_
                refine e_round ((k + 1, _, z_74, _)) ⟨⟨by dsimp only; omega, hva2, by rw [u_73q, hm2, chains_take (by omega)]; first | (rw [hzq, chain1_other (by assumption), map_take (d := d0) (by omega)]; simp [List.append_assoc]; done) | (rw [hzq, hzq, chain1_ncc (by assumption), map_take (d := d0) (by omega)]; simp [List.append_assoc]; done), u_73c, ((hgn.trans hn_67).trans hn_70)⟩, by dsimp only; omega⟩ rfl ⟨rfl, rfl, rfl, rfl, rfl, trivial⟩ (.drop (.drop (.keep (fun _ _ h => h) (.nil))))
              )
        )
  · skip
    first
      | (exfalso; omega)
      | (
        refine c_cond_f rfl ?_
        refine c_exit ?_
        refine e_exit_then ?_
        refine e_exit_then ?_
        refine e_exit_block ?_
        refine e_end0 Try.results42 (fun w hm => ⟨_, z, hgn, hm.has, ⟨rfl, by rw [hzq, List.take_of_length_le (by simp; omega)], hzc⟩, hm.keptG [outA _ _ p z] (.keep (fun _ _ h => h) (.nil)) (outA _ _ p z) (fun F' h => starL_one h)⟩)
        )
theorem c_grow6_n : ∀ n, GrowIs n
  | 0 => fun va vl ah l p z0 G F w hz _ _ _ _ _ _ _ _ => absurd hz (by cases l <;> simp)
  | n + 1 => fun va vl ah l p z0 G F w hz hsz hlz hsa hs hz0 hG hA hFG => c_grow6_s n (c_grow6_n n) va vl ah l p z0 hz hsz hlz hsa hs hz0 w hG hA hFG
theorem c_grow6 (va vl : Value) (ah l : List CT) (p : Nat) (z0 : List (List CT × Value)) {G : Ghost} {F : Nat → Prop} (hsz : ah.length + sizeL l ≤ 1000) (hlz : z0.length + sizeL l ≤ 3000) (hsa : Cs G va ah) (hs : Cs G vl l) (hz0 : ChC G z0) (w : World) (hG : Has G w) (hA : (outA 25 22 p (z0)).holds w F) (hFG : ∀ b, F b → G b = none) : Calls Try.prog 42 #[va, vl, Value.func (.func 43) #[] #[.pointer (some ⟨p, 0, none⟩)]] w (Ret fun r w' => ∃ G' z', GNew w F G G' ∧ Has G' w' ∧ (r = .tuple #[] ∧ z'.map Prod.fst = z0.map Prod.fst ++ chains ah l ∧ ChC G' z') ∧ KeptG (outA 25 22 p (z')) F G' w w') := c_grow6_n _ va vl ah l p z0 G F w (Nat.le_refl _) hsz hlz hsa hs hz0 hG hA hFG
theorem c_chains6 (v : Value) (l : List CT) {G : Ghost} (hsz : sizeL l ≤ 1000) (hs : Cs G v l) (w : World) (hG : Has G w) :
    Calls Try.prog 13 #[v] w (Ret fun r w' => ∃ G', GNew w nX G G' ∧ Has G' w' ∧ Ls (fun G v l => Cs G v l) ([] : List CT) G' r (chains [] l) ∧ Since nX w w') := by
  refine enter (args := [_]) (X := nX) (G := G) (l := [(0, v)]) Try.func13 rfl Try.ntmps13 hG ⟨rfl, trivial⟩ (Nat.le_of_ble_eq_true rfl) ?_
  refine c_seq ?_
  refine c_region ?_
  refine r_val .none rfl (p_assign rfl) ?_
  refine r_nil ?_
  refine e_next ?_
  refine c_seq ?_
  refine c_region ?_
  refine r_alloc .none rfl zr25 (IsRow.lit [_]) (fun b_1 => ?_)
  refine r_nil ?_
  refine e_next ?_
  refine c_seq ?_
  refine c_region ?_
  refine r_val .none rfl (p_move rfl) ?_
  refine r_val .none rfl (p_mkfunc (vs := [_]) rfl) ?_
  refine r_nilrow 22 1 ?_
  refine r_packout (rs := ([] : List (List CT × Value))) rfl rfl rfl ?_
  refine r_callox (k := 0) (vs := [_, _, _]) .none rfl cl42 rfl rfl (fun w F hw hA hFG => c_grow6 _ _ [] _ _ [] (by simp; omega) (by simp; omega) Tr.nil hs (by simp [ChC]) w hw hA hFG) (fun G_1 v_4 z_6 hn_2 hr_3 => ?_)
  replace hs := hs.mono hn_2.le
  obtain ⟨-, u_5q, u_5c⟩ := hr_3
  refine r_nil ?_
  refine e_next ?_
  refine c_seq ?_
  refine c_region ?_
  refine r_unpackout (fun ov => ?_)
  refine r_row1 (k := 1) rfl (fun o1 => ?_)
  refine r_val .none rfl (p_ld (k := 0) Try.underlying25 rfl rfl rfl (by first | exact of_decide_eq_true rfl | omega) rfl) ?_
  refine r_val .none rfl (p_assign rfl) ?_
  refine r_nil ?_
  refine e_next ?_
  refine c_ret ?_
  refine e_freeze (k := 1) rfl (fun G_7 hn_8 hs_9 => ?_)
  replace hs := hs.mono hn_8.le
  replace u_5c := ChC.mono u_5c hn_8.le
  refine e_ret1 Try.results13 (.tmp rfl .nil) (fun w hm => ⟨_, (hn_2.trans hn_8), hm.has, ?_, hm.since⟩)
  rw [show chains [] l = z_6.map Prod.fst by rw [u_5q]; rfl]
  exact Ls.mk _ (SlL.of (([] : List CT), Value.slice none 0 0) (fun _ => rfl) rfl hs_9) u_5c
end Go.Proofs.Ytoflaphnlfggkaa

/- Walks: what Go functions of this chapter come to, each as a function on plain data; no condition but those that each theorem names. Printed by a program of this work (gen.py). -/
namespace Go.Proofs.Ytoflaphnlfggkaa
open Go.Gx Go.Gx.T3 Go.Gx.T4 Go.Gx.T3 Go.Gx.T6 Go.Gx.T8 Go.Gx.T4 Go.Gx.T3 Go.Gx.T8 Go.Gx.T4 Go.Gx.T3
theorem lf42 : leafT Try.prog 9 42 = some [3, 3, 3, 3, 3, 3] := by
  kernel_rfl
theorem ef42 : eqT Try.prog 9 42 = true := by
  kernel_rfl
theorem eg42 : Try.prog.eqGuardType Try.prog.depth 42 = false := by
  kernel_rfl
theorem cl45 : Callable Try.prog 45 := callable Try.func45 (by kernel_rfl) rfl
theorem cl46 : Callable Try.prog 46 := callable Try.func46 (by kernel_rfl) rfl
theorem bs3_10i2 (a0 : IntKind) (a1 : Int) : Instr.fill (fun i => some (i * 1, 1)) ((Array.range (1 * 1)).map ((Value.int .i64 0).cells[· % (Value.int .i64 0).cells.size]!)) [(0, Value.int a0 a1)] = some #[Value.int a0 a1] := by
  kernel_rfl
theorem el3 : ElemIs Try.prog 3 1 8 (Value.int .i64 0) := by
  unfold ElemIs
  kernel_rfl
def SizeIs (n : Nat) : Prop := ∀ (c : CT) (sv : Value) (G : Ghost) (w : World), SizeOf.sizeOf c ≤ n → size c ≤ 1000 → Cs G sv c.subs → Has G w → Calls Try.prog 46 #[Value.agg #[Value.int .i64 c.h.k, Value.bool c.h.v0, Value.int .i64 c.h.n0, Value.bool c.h.v1, Value.int .i64 c.h.n1, Value.bool c.h.v2, Value.int .i64 c.h.n2, sv]] w (Ret fun r w' => r = Value.int .i64 (size c : Nat) ∧ Since nX w w')
def RsameIs (n : Nat) : Prop := ∀ (c c2 : CT) (sv sv2 : Value) (G : Ghost) (w : World), SizeOf.sizeOf c ≤ n → Rs G sv c.subs → Rs G sv2 c2.subs → Has G w → Calls Try.prog 45 #[Value.agg #[Value.int .i64 c.h.k, Value.int .i64 (vi c.h.v0), Value.int .i64 c.h.n0, Value.int .i64 (vi c.h.v1), Value.int .i64 c.h.n1, Value.int .i64 (vi c.h.v2), Value.int .i64 c.h.n2, sv], Value.agg #[Value.int .i64 c2.h.k, Value.int .i64 (vi c2.h.v0), Value.int .i64 c2.h.n0, Value.int .i64 (vi c2.h.v1), Value.int .i64 c2.h.n1, Value.int .i64 (vi c2.h.v2), Value.int .i64 c2.h.n2, sv2]] w (Ret fun r w' => r = Value.bool (ceq c c2) ∧ Since nX w w')
theorem c_size_s (n : Nat) (ih : SizeIs n) (c : CT) (sv : Value)  {G : Ghost} (hz : SizeOf.sizeOf c ≤ n + 1) (hsz : size c ≤ 1000) (hs : Cs G sv c.subs) (w : World) (hG : Has G w) :
    Calls Try.prog 46 #[Value.agg #[Value.int .i64 c.h.k, Value.bool c.h.v0, Value.int .i64 c.h.n0, Value.bool c.h.v1, Value.int .i64 c.h.n1, Value.bool c.h.v2, Value.int .i64 c.h.n2, sv]] w (Ret fun r w' => r = Value.int .i64 (size c : Nat) ∧ Since nX w w') := by
  refine enter (args := [_]) (X := nX) (G := G) (l := [(0, Value.agg #[Value.int .i64 c.h.k, Value.bool c.h.v0, Value.int .i64 c.h.n0, Value.bool c.h.v1, Value.int .i64 c.h.n1, Value.bool c.h.v2, Value.int .i64 c.h.n2, sv])]) Try.func46 rfl Try.ntmps46 hG ⟨rfl, trivial⟩ (Nat.le_of_ble_eq_true rfl) ?_
  obtain ⟨rs, hr, hp, hl⟩ := hs.inv
  have hlen : c.subs.length = rs.length := by rw [hl]; simp
  have hbd := hr.bound
  refine c_seq ?_
  refine c_region ?_
  refine r_box .none rfl rfl (IsRow.lit _) (fun b_1 => ?_)
  refine r_val .none rfl (p_assign rfl) ?_
  refine r_nil ?_
  refine e_next ?_
  refine c_seq ?_
  refine c_region ?_
  refine r_val .none rfl (p_assign rfl) ?_
  refine r_nil ?_
  refine e_next ?_
  refine c_seq ?_
  refine c_seq ?_
  refine c_region ?_
  refine r_val .none rfl (p_field Try.underlying38 rfl sz22 rfl) ?_
  refine r_val .none rfl (p_ld (k := 0) Try.underlying22 rfl rfl rfl (by first | exact of_decide_eq_true rfl | omega) rfl) ?_
  refine r_val .none rfl (p_leng Try.underlying22 rfl hr) ?_
  have bd_1 := (hr).bound
  refine r_val .none rfl (p_move rfl) ?_
  refine r_nil ?_
  refine e_next ?_
  refine c_block ?_
  refine c_name (d := 2) rfl (fun u_2 hu_2 => ?_)
  refine c_name (d := 7) rfl (fun u_3 hu_3 => ?_)
  refine c_name (d := 8) rfl (fun u_4 hu_4 => ?_)
  refine c_nameL (k := 0) rfl (fun A_5 hA_5 => ?_)
  refine c_loop (σ := Nat) (fun k => [(9, Value.int .i64 (k : Nat)), (3, Value.int .i64 (1 + sizeL ((rs.map Prod.fst).take k) : Nat)), (2, u_2), (7, u_3), (8, u_4)]) (fun k => [A_5]) (fun _ => _) (fun k => k ≤ rs.length) (fun k => rs.length - k) (0) (by omega) rfl ⟨rfl, rfl, rfl, rfl, rfl, trivial⟩ (.keep (fun _ _ h => h) (.nil)) (fun k hphi => ?_)
  subst hu_2
  subst hu_3
  subst hu_4
  subst hA_5
  refine c_seq ?_
  refine c_region ?_
  refine r_val .none rfl (p_lt rfl rfl) ?_
  refine r_nil ?_
  refine e_next ?_
  refine c_seq ?_
  refine c_splitd (d := 10) rfl (fun h_6 => ?_) (fun h_6 => ?_)
  · skip
    first
      | (exfalso; omega)
      | (
        refine c_cond_t rfl ?_
        refine c_skip ?_
        refine e_next ?_
        refine c_seq ?_
        refine c_block ?_
        refine c_seq ?_
        refine c_region ?_
        refine r_iaddr_g .none rfl Try.underlying22 sz38 rfl hr rfl (by first | exact of_decide_eq_true rfl | omega) (fun p_8 o_9 R_7 => ?_)
        have hc_10 := hp _ (getD_mem (i := k) (d := d0) (by omega))
        have hz3 := size_child (i := k) hl (by omega) hsz
        refine r_val .none rfl (p_ldga0 Try.underlying38 rfl sz38 rfl R_7 (by first | exact of_decide_eq_true rfl | omega) (rfl : _ = Value.agg #[_, _, _, _, _, _, _, _])) ?_
        refine r_alloc .none rfl zr38 (IsRow.lit _) (fun b_2 => ?_)
        refine r_stw (k := 0) .none sz38 rfl rfl (IsRow.lit _) (one_lit rfl (all_cons rfl (all_cons rfl (all_cons rfl (all_cons rfl (all_cons rfl (all_cons rfl (all_cons rfl (all_cons (hc_10).one rfl))))))))) rfl ?_
        refine r_nil ?_
        refine e_next ?_
        refine c_region ?_
        refine r_val .none rfl (p_move rfl) ?_
        refine r_val .none rfl (p_ldw (k := 0) Try.underlying38 rfl sz38 rfl rfl (rfl : _ = Value.agg #[_, _, _, _, _, _, _, _])) ?_
        refine r_call (vs := [_]) .none rfl cl46 rfl (fun w hw => ih (rs.getD k d0).1 _ _ w (size_at hl (by omega) hz) hz3 hc_10 hw) ?_
        refine r_val .none rfl (p_add rfl rfl (by have h1 := sizeL_take_le (rs.map Prod.fst) k; have h2 := size_eq c; rw [hl] at h2; omega)) ?_
        refine r_val .none rfl (p_assign rfl) ?_
        refine r_nil ?_
        refine e_norm_block ?_
        refine e_next ?_
        refine c_region ?_
        refine r_val .none rfl (p_add rfl rfl (by omega)) ?_
        refine r_val .none rfl (p_move rfl) ?_
        refine r_nil ?_
        refine e_round (k + 1) ⟨by omega, by omega⟩ rfl ⟨rfl, (congrArg (fun z => some (Value.int .i64 z)) (by rw [sizeL_take (by omega)]; omega)), rfl, rfl, rfl, trivial⟩ (.drop (.keep (fun _ _ h => h) (.nil)))
        )
  · skip
    first
      | (exfalso; omega)
      | (
        refine c_cond_f rfl ?_
        refine c_exit ?_
        refine e_exit_then ?_
        refine e_exit_then ?_
        refine e_exit_block ?_
        refine e_next ?_
        refine c_seq ?_
        refine c_region ?_
        refine r_val .none rfl (p_move rfl) ?_
        refine r_val .none rfl (p_assign rfl) ?_
        refine r_nil ?_
        refine e_next ?_
        refine c_ret ?_
        refine e_ret1 Try.results46 (.tmp rfl .nil) (fun w hm => ⟨?_, hm.since⟩)
        have hk : k = rs.length := by omega
        subst hk
        rw [size_eq, hl, List.take_of_length_le (by simp)]
        )
theorem c_size_n : ∀ n, SizeIs n
  | 0 => fun c sv G w hz hsz hs hG => absurd hz (by have := size_subs c; omega)
  | n + 1 => fun c sv G w hz hsz hs hG => c_size_s n (c_size_n n) c sv hz hsz hs w hG
theorem c_size (c : CT) (sv : Value) {G : Ghost} (hsz : size c ≤ 1000) (hs : Cs G sv c.subs) (w : World) (hG : Has G w) : Calls Try.prog 46 #[Value.agg #[Value.int .i64 c.h.k, Value.bool c.h.v0, Value.int .i64 c.h.n0, Value.bool c.h.v1, Value.int .i64 c.h.n1, Value.bool c.h.v2, Value.int .i64 c.h.n2, sv]] w (Ret fun r w' => r = Value.int .i64 (size c : Nat) ∧ Since nX w w') := c_size_n _ c sv G w (Nat.le_refl _) hsz hs hG
theorem c_rsame4_s (n : Nat) (ih : RsameIs n) (c : CT) (sv : Value) (c2 : CT) (sv2 : Value) {G : Ghost} (hz : SizeOf.sizeOf c ≤ n + 1) (hs : Rs G sv c.subs) (hs2 : Rs G sv2 c2.subs) (w : World) (hG : Has G w) :
    Calls Try.prog 45 #[Value.agg #[Value.int .i64 c.h.k, Value.int .i64 (vi c.h.v0), Value.int .i64 c.h.n0, Value.int .i64 (vi c.h.v1), Value.int .i64 c.h.n1, Value.int .i64 (vi c.h.v2), Value.int .i64 c.h.n2, sv], Value.agg #[Value.int .i64 c2.h.k, Value.int .i64 (vi c2.h.v0), Value.int .i64 c2.h.n0, Value.int .i64 (vi c2.h.v1), Value.int .i64 c2.h.n1, Value.int .i64 (vi c2.h.v2), Value.int .i64 c2.h.n2, sv2]] w (Ret fun r w' => r = Value.bool (ceq c c2) ∧ Since nX w w') := by
  refine enter (args := [_, _]) (X := nX) (G := G) (l := [(0, Value.agg #[Value.int .i64 c.h.k, Value.int .i64 (vi c.h.v0), Value.int .i64 c.h.n0, Value.int .i64 (vi c.h.v1), Value.int .i64 c.h.n1, Value.int .i64 (vi c.h.v2), Value.int .i64 c.h.n2, sv]), (1, Value.agg #[Value.int .i64 c2.h.k, Value.int .i64 (vi c2.h.v0), Value.int .i64 c2.h.n0, Value.int .i64 (vi c2.h.v1), Value.int .i64 c2.h.n1, Value.int .i64 (vi c2.h.v2), Value.int .i64 c2.h.n2, sv2])]) Try.func45 rfl Try.ntmps45 hG ⟨rfl, rfl, trivial⟩ (Nat.le_of_ble_eq_true rfl) ?_
  obtain ⟨rs, hr, hp, hl⟩ := hs.inv
  obtain ⟨rs2, hr2, hp2, hl2⟩ := hs2.inv
  have hlen : c.subs.length = rs.length := by rw [hl]; simp
  have hlen2 : c2.subs.length = rs2.length := by rw [hl2]; simp
  have hbd := hr.bound
  have hbd2 := hr2.bound
  refine c_seq ?_
  refine c_region ?_
  refine r_box .none rfl rfl (IsRow.lit _) (fun b_1 => ?_)
  refine r_box .none rfl rfl (IsRow.lit _) (fun b_2 => ?_)
  refine r_val .none rfl (p_assign rfl) ?_
  refine r_nil ?_
  refine e_next ?_
  refine c_seq ?_
  refine c_seq ?_
  refine c_region ?_
  refine r_val .none rfl (p_field Try.underlying44 rfl sz3 rfl) ?_
  refine r_val .none rfl (p_ld (k := 1) Try.underlying3 rfl rfl rfl (by first | exact of_decide_eq_true rfl | omega) (rfl : _ = Value.int _ _)) ?_
  refine r_val .none rfl (p_field Try.underlying44 rfl sz3 rfl) ?_
  refine r_val .none rfl (p_ld (k := 0) Try.underlying3 rfl rfl rfl (by first | exact of_decide_eq_true rfl | omega) (rfl : _ = Value.int _ _)) ?_
  refine r_val .none rfl (p_ne rfl rfl) ?_
  refine r_val .none rfl (p_move rfl) ?_
  refine' r_or (c := 11) (d := 17) [_, _, _, _, _, _] rfl (fun h_1 Q_2 hQ_3 => ?_) (fun h_1 Q_2 hQ_3 => ?_) ?_
  rotate_left 1
  · skip
    replace h_1 := of_decide_eq_false h_1
    refine r_val (.some rfl rfl) rfl (p_field Try.underlying44 rfl sz42 rfl) ?_
    refine r_val (.some rfl rfl) rfl (p_lda (k := 1) Try.underlying42 rfl sz42 rfl rfl (by first | exact of_decide_eq_true rfl | omega) (rfl : _ = Value.agg #[_, _, _, _, _, _])) ?_
    refine r_val (.some rfl rfl) rfl (p_field Try.underlying44 rfl sz42 rfl) ?_
    refine r_val (.some rfl rfl) rfl (p_lda (k := 0) Try.underlying42 rfl sz42 rfl rfl (by first | exact of_decide_eq_true rfl | omega) (rfl : _ = Value.agg #[_, _, _, _, _, _])) ?_
    refine r_val (.some rfl rfl) rfl (p_nea rfl rfl (eq_flat Try.underlying42 rfl lf42 ef42 eg42 (.cons (.int Try.underlying3) (.cons (.int Try.underlying3) (.cons (.int Try.underlying3) (.cons (.int Try.underlying3) (.cons (.int Try.underlying3) (.cons (.int Try.underlying3) (.nil))))))) (.cons (.int Try.underlying3) (.cons (.int Try.underlying3) (.cons (.int Try.underlying3) (.cons (.int Try.underlying3) (.cons (.int Try.underlying3) (.cons (.int Try.underlying3) (.nil))))))))) ?_
    refine r_val .none rfl (p_pick_f rfl rfl) ?_
    refine r_nil (e_fin (d := 17) hQ_3 rfl (by repeat (first | exact .refl | refine .put rfl ?_ | refine .say rfl ?_ | refine .say2 rfl (by first | assumption | simp_all) ?_)))
  · skip
    repeat (first | refine r_skip rfl (.no rfl rfl) ?_ | refine r_skip rfl (.un rfl rfl) ?_)
    refine r_val (by first | exact .none | exact .some rfl rfl) rfl (p_pick_t rfl rfl) ?_
    refine r_nil (e_fin (d := 17) hQ_3 rfl (by repeat (first | exact .refl | refine .put rfl ?_ | refine .say rfl ?_ | refine .say2 rfl (by first | assumption | simp_all) ?_)))
  refine r_val .none rfl (p_move rfl) ?_
  refine' r_or (c := 18) (d := 26) [_, _, _, _, _, _, _, _] rfl (fun h_5 Q_6 hQ_7 => ?_) (fun h_5 Q_6 hQ_7 => ?_) ?_
  rotate_left 1
  · skip
    try simp only [norms] at h_5
    refine r_val (.some rfl rfl) rfl (p_field Try.underlying44 rfl sz29 rfl) ?_
    refine r_val (.some rfl rfl) rfl (p_ld (k := 1) Try.underlying29 rfl rfl rfl (by first | exact of_decide_eq_true rfl | omega) rfl) ?_
    refine r_val (.some rfl rfl) rfl (p_leng Try.underlying29 rfl hr) ?_
    have bd_9 := (hr).bound
    refine r_val (.some rfl rfl) rfl (p_field Try.underlying44 rfl sz29 rfl) ?_
    refine r_val (.some rfl rfl) rfl (p_ld (k := 0) Try.underlying29 rfl rfl rfl (by first | exact of_decide_eq_true rfl | omega) rfl) ?_
    refine r_val (.some rfl rfl) rfl (p_leng Try.underlying29 rfl hr2) ?_
    have bd_10 := (hr2).bound
    refine r_val (.some rfl rfl) rfl (p_ne rfl rfl) ?_
    refine r_val .none rfl (p_pick_f rfl rfl) ?_
    refine r_nil (e_fin (d := 26) hQ_7 rfl (by repeat (first | exact .refl | refine .put rfl ?_ | refine .say rfl ?_ | refine .say2 rfl (by first | assumption | simp_all) ?_)))
  · skip
    repeat (first | refine r_skip rfl (.no rfl rfl) ?_ | refine r_skip rfl (.un rfl rfl) ?_)
    refine r_val (by first | exact .none | exact .some rfl rfl) rfl (p_pick_t rfl rfl) ?_
    refine r_nil (e_fin (d := 26) hQ_7 rfl (by repeat (first | exact .refl | refine .put rfl ?_ | refine .say rfl ?_ | refine .say2 rfl (by first | assumption | simp_all) ?_)))
  refine r_nil ?_
  refine e_next ?_
  refine c_split (d := 26) rfl (fun h_11 => ?_) (fun h_11 => ?_)
  · skip
    try simp only [norms] at h_11
    have hN : (¬ c.h.k = c2.h.k ∨ hRb c.h c2.h = false) ∨ ¬ (rs.length : Int) = rs2.length := h_11
    first
      | (exfalso; omega)
      | (
        refine c_cond_t rfl ?_
        refine c_seq ?_
        refine c_region ?_
        refine r_val .none rfl (p_assign rfl) ?_
        refine r_nil ?_
        refine e_next ?_
        refine c_ret ?_
        refine e_ret_then ?_
        refine e_ret1 Try.results45 (.tmp rfl .nil) (fun w hm => ⟨?_, hm.since⟩)
        first
        | exact congrArg Value.bool (ceq_no (Or.imp_right (fun hx => by omega) hN)).symm
        | (rw [ceq_sub hN.1, hl, hl2, ← hphi.2.2, ceqL_no (by omega) (by omega) hE]; done)
        | (rw [ceq_sub hN.1, hl, hl2, ← hphi.2.2, List.drop_eq_nil_of_le (by simp; omega), List.drop_eq_nil_of_le (by simp; omega)]; rfl)
        )
  · skip
    try simp only [norms] at h_11
    have hN : (c.h.k = c2.h.k ∧ hRb c.h c2.h = true) ∧ (rs.length : Int) = rs2.length := h_11
    first
      | (exfalso; omega)
      | (
        refine c_cond_f rfl ?_
        refine c_skip ?_
        refine e_next ?_
        refine c_seq ?_
        refine c_seq ?_
        refine c_region ?_
        refine r_val .none rfl (p_field Try.underlying44 rfl sz29 rfl) ?_
        refine r_val .none rfl (p_ld (k := 1) Try.underlying29 rfl rfl rfl (by first | exact of_decide_eq_true rfl | omega) rfl) ?_
        refine r_val .none rfl (p_leng Try.underlying29 rfl hr) ?_
        have bd_12 := (hr).bound
        refine r_val .none rfl (p_move rfl) ?_
        refine r_nil ?_
        refine e_next ?_
        refine c_block ?_
        refine c_name (d := 2) rfl (fun u_13 hu_13 => ?_)
        refine c_name (d := 3) rfl (fun u_14 hu_14 => ?_)
        refine c_name (d := 29) rfl (fun u_15 hu_15 => ?_)
        refine c_nameL (k := 0) rfl (fun A_16 hA_16 => ?_)
        refine c_nameL (k := 1) rfl (fun A_17 hA_17 => ?_)
        refine c_loop (σ := Nat) (fun k => [(30, Value.int .i64 (k : Nat)), (2, u_13), (3, u_14), (29, u_15)]) (fun k => [A_16, A_17]) (fun _ => _) (fun k => k ≤ rs.length ∧ rs.length = rs2.length ∧ ceqL ((rs.map Prod.fst).drop k) ((rs2.map Prod.fst).drop k) = ceqL (rs.map Prod.fst) (rs2.map Prod.fst)) (fun k => rs.length - k) (0) ⟨Nat.zero_le _, by omega, rfl⟩ rfl ⟨rfl, rfl, rfl, rfl, trivial⟩ (.keep (fun _ _ h => h) (.keep (fun _ _ h => h) (.nil))) (fun k hphi => ?_)
        subst hu_13
        subst hu_14
        subst hu_15
        subst hA_16
        subst hA_17
        refine c_seq ?_
        refine c_region ?_
        refine r_val .none rfl (p_lt rfl rfl) ?_
        refine r_nil ?_
        refine e_next ?_
        refine c_seq ?_
        refine c_splitd (d := 31) rfl (fun h_18 => ?_) (fun h_18 => ?_)
        · skip
          first
            | (exfalso; omega)
            | (
              refine c_cond_t rfl ?_
              refine c_skip ?_
              refine e_next ?_
              refine c_seq ?_
              refine c_block ?_
              refine c_seq ?_
              refine c_region ?_
              refine r_val .none rfl (p_move rfl) ?_
              refine r_val .none rfl (p_assign rfl) ?_
              refine r_nil ?_
              refine e_next ?_
              refine c_seq ?_
              refine c_region_q mixed (by kernel_rfl) ?_
              refine q_val .none rfl (p_field Try.underlying44 rfl sz29 rfl) ?_
              refine q_val .none rfl (p_ld (k := 1) Try.underlying29 rfl rfl rfl (by first | exact of_decide_eq_true rfl | omega) rfl) ?_
              refine q_val .none rfl (p_move rfl) ?_
              refine q_iaddr_g .none rfl Try.underlying29 sz44 rfl hr rfl (by first | exact of_decide_eq_true rfl | omega) (fun p_20 o_21 R_19 => ?_)
              have hc_22 := hp _ (getD_mem (i := k) (d := d0) (by omega))
              refine q_val .none rfl (p_ldga0 Try.underlying44 rfl sz44 rfl R_19 (by first | exact of_decide_eq_true rfl | omega) (rfl : _ = Value.agg #[_, _, _, _, _, _, _, _])) ?_
              refine q_val .none rfl (p_field Try.underlying44 rfl sz29 rfl) ?_
              refine q_val .none rfl (p_ld (k := 0) Try.underlying29 rfl rfl rfl (by first | exact of_decide_eq_true rfl | omega) rfl) ?_
              refine q_val .none rfl (p_move rfl) ?_
              refine q_iaddr_g .none rfl Try.underlying29 sz44 rfl hr2 rfl (by first | exact of_decide_eq_true rfl | omega) (fun p_24 o_25 R_23 => ?_)
              have hc_26 := hp2 _ (getD_mem (i := k) (d := d0) (by omega))
              refine q_val .none rfl (p_ldga0 Try.underlying44 rfl sz44 rfl R_23 (by first | exact of_decide_eq_true rfl | omega) (rfl : _ = Value.agg #[_, _, _, _, _, _, _, _])) ?_
              refine q_call (vs := [_, _]) .none rfl cl45 rfl (fun w hw => ih (rs.getD k d0).1 _ _ _ _ w (size_at hl (by omega) hz) hc_22 hc_26 hw) ?_
              refine q_val .none rfl (p_not rfl) ?_
              refine q_nil ?_
              refine e_next ?_
              refine c_splitn (d := 44) rfl (fun h_27 => ?_) (fun h_27 => ?_)
              · skip
                have hE := h_27
                first
                  | (exfalso; omega)
                  | (
                    refine c_cond_t rfl ?_
                    refine c_seq ?_
                    refine c_region ?_
                    refine r_val .none rfl (p_assign rfl) ?_
                    refine r_nil ?_
                    refine e_next ?_
                    refine c_ret ?_
                    refine e_ret_block ?_
                    refine e_ret_then ?_
                    refine e_ret_then ?_
                    refine e_ret_block ?_
                    refine e_ret_then ?_
                    refine e_ret1 Try.results45 (.tmp rfl .nil) (fun w hm => ⟨?_, hm.since⟩)
                    first
                    | exact congrArg Value.bool (ceq_no (Or.imp_right (fun hx => by omega) hN)).symm
                    | (rw [ceq_sub hN.1, hl, hl2, ← hphi.2.2, ceqL_no (by omega) (by omega) hE]; done)
                    | (rw [ceq_sub hN.1, hl, hl2, ← hphi.2.2, List.drop_eq_nil_of_le (by simp; omega), List.drop_eq_nil_of_le (by simp; omega)]; rfl)
                    )
              · skip
                have hE := h_27
                first
                  | (exfalso; omega)
                  | (
                    refine c_cond_f rfl ?_
                    refine c_skip ?_
                    refine e_norm_block ?_
                    refine e_next ?_
                    refine c_region ?_
                    refine r_val .none rfl (p_add rfl rfl (by omega)) ?_
                    refine r_val .none rfl (p_move rfl) ?_
                    refine r_nil ?_
                    refine e_round (k + 1) ⟨⟨by omega, hphi.2.1, by rw [ceqL_yes (by omega) (by omega) hE]; exact hphi.2.2⟩, by omega⟩ rfl ⟨rfl, rfl, rfl, rfl, trivial⟩ (.keep (fun _ _ h => h) (.keep (fun _ _ h => h) (.nil)))
                    )
              )
        · skip
          first
            | (exfalso; omega)
            | (
              refine c_cond_f rfl ?_
              refine c_exit ?_
              refine e_exit_then ?_
              refine e_exit_then ?_
              refine e_exit_block ?_
              refine e_next ?_
              refine c_seq ?_
              refine c_region ?_
              refine r_val .none rfl (p_assign rfl) ?_
              refine r_nil ?_
              refine e_next ?_
              refine c_ret ?_
              refine e_ret1 Try.results45 (.tmp rfl .nil) (fun w hm => ⟨?_, hm.since⟩)
              first
              | exact congrArg Value.bool (ceq_no (Or.imp_right (fun hx => by omega) hN)).symm
              | (rw [ceq_sub hN.1, hl, hl2, ← hphi.2.2, ceqL_no (by omega) (by omega) hE]; done)
              | (rw [ceq_sub hN.1, hl, hl2, ← hphi.2.2, List.drop_eq_nil_of_le (by simp; omega), List.drop_eq_nil_of_le (by simp; omega)]; rfl)
              )
        )
theorem c_rsame4_n : ∀ n, RsameIs n
  | 0 => fun c c2 sv sv2 G w hz _ _ _ => absurd hz (by have := size_subs c; omega)
  | n + 1 => fun c c2 sv sv2 G w hz hs hs2 hG => c_rsame4_s n (c_rsame4_n n) c sv c2 sv2 hz hs hs2 w hG
theorem c_rsame4 (c c2 : CT) (sv sv2 : Value) {G : Ghost} (hs : Rs G sv c.subs) (hs2 : Rs G sv2 c2.subs) (w : World) (hG : Has G w) : Calls Try.prog 45 #[Value.agg #[Value.int .i64 c.h.k, Value.int .i64 (vi c.h.v0), Value.int .i64 c.h.n0, Value.int .i64 (vi c.h.v1), Value.int .i64 c.h.n1, Value.int .i64 (vi c.h.v2), Value.int .i64 c.h.n2, sv], Value.agg #[Value.int .i64 c2.h.k, Value.int .i64 (vi c2.h.v0), Value.int .i64 c2.h.n0, Value.int .i64 (vi c2.h.v1), Value.int .i64 c2.h.n1, Value.int .i64 (vi c2.h.v2), Value.int .i64 c2.h.n2, sv2]] w (Ret fun r w' => r = Value.bool (ceq c c2) ∧ Since nX w w') := c_rsame4_n _ c c2 sv sv2 G w (Nat.le_refl _) hs hs2 hG
theorem c_rsame6 (v v2 : Value) (l l2 : List CT) {G : Ghost} (hs : Rs G v l) (hs2 : Rs G v2 l2) (w : World) (hG : Has G w) :
    Calls Try.prog 16 #[v, v2] w (Ret fun r w' => r = Value.bool (ceqL l l2) ∧ Since nX w w') := by
  refine enter (args := [_, _]) (X := nX) (G := G) (l := [(0, v), (1, v2)]) Try.func16 rfl Try.ntmps16 hG ⟨rfl, rfl, trivial⟩ (Nat.le_of_ble_eq_true rfl) ?_
  obtain ⟨rs, hr, hp, rfl⟩ := hs.inv
  obtain ⟨rs2, hr2, hp2, rfl⟩ := hs2.inv
  have hbd := hr.bound
  have hbd2 := hr2.bound
  refine c_seq ?_
  refine c_region ?_
  refine r_val .none rfl (p_assign rfl) ?_
  refine r_nil ?_
  refine e_next ?_
  refine c_seq ?_
  refine c_seq ?_
  refine c_region ?_
  refine r_val .none rfl (p_move rfl) ?_
  refine r_val .none rfl (p_leng Try.underlying29 rfl hr) ?_
  have bd_1 := (hr).bound
  refine r_val .none rfl (p_move rfl) ?_
  refine r_val .none rfl (p_leng Try.underlying29 rfl hr2) ?_
  have bd_2 := (hr2).bound
  refine r_val .none rfl (p_ne rfl rfl) ?_
  refine r_nil ?_
  refine e_next ?_
  refine c_splitd (d := 10) rfl (fun h_3 => ?_) (fun h_3 => ?_)
  · skip
    first
      | (exfalso; omega)
      | (
        refine c_cond_t rfl ?_
        refine c_seq ?_
        refine c_region ?_
        refine r_val .none rfl (p_assign rfl) ?_
        refine r_nil ?_
        refine e_next ?_
        refine c_ret ?_
        refine e_ret_then ?_
        refine e_ret1 Try.results16 (.tmp rfl .nil) (fun w hm => ⟨?_, hm.since⟩)
        first
        | (rw [ceqL_len (by simp; omega)])
        | (rw [← hphi.2.2, ceqL_no (by omega) (by omega) hE])
        | (rw [← hphi.2.2, List.drop_eq_nil_of_le (by simp; omega), List.drop_eq_nil_of_le (by simp; omega)]; rfl)
        )
  · skip
    first
      | (exfalso; omega)
      | (
        refine c_cond_f rfl ?_
        refine c_skip ?_
        refine e_next ?_
        refine c_seq ?_
        refine c_seq ?_
        refine c_region ?_
        refine r_val .none rfl (p_move rfl) ?_
        refine r_val .none rfl (p_leng Try.underlying29 rfl hr) ?_
        have bd_4 := (hr).bound
        refine r_val .none rfl (p_move rfl) ?_
        refine r_nil ?_
        refine e_next ?_
        refine c_block ?_
        refine c_name (d := 0) rfl (fun u_5 hu_5 => ?_)
        refine c_name (d := 1) rfl (fun u_6 hu_6 => ?_)
        refine c_name (d := 12) rfl (fun u_7 hu_7 => ?_)
        refine c_loop (σ := Nat) (fun k => [(13, Value.int .i64 (k : Nat)), (0, u_5), (1, u_6), (12, u_7)]) (fun k => []) (fun _ => _) (fun k => k ≤ rs.length ∧ rs.length = rs2.length ∧ ceqL ((rs.map Prod.fst).drop k) ((rs2.map Prod.fst).drop k) = ceqL (rs.map Prod.fst) (rs2.map Prod.fst)) (fun k => rs.length - k) (0) ⟨Nat.zero_le _, by omega, rfl⟩ rfl ⟨rfl, rfl, rfl, rfl, trivial⟩ (.nil) (fun k hphi => ?_)
        subst hu_5
        subst hu_6
        subst hu_7
        refine c_seq ?_
        refine c_region ?_
        refine r_val .none rfl (p_lt rfl rfl) ?_
        refine r_nil ?_
        refine e_next ?_
        refine c_seq ?_
        refine c_splitd (d := 14) rfl (fun h_8 => ?_) (fun h_8 => ?_)
        · skip
          first
            | (exfalso; omega)
            | (
              refine c_cond_t rfl ?_
              refine c_skip ?_
              refine e_next ?_
              refine c_seq ?_
              refine c_block ?_
              refine c_seq ?_
              refine c_region ?_
              refine r_val .none rfl (p_move rfl) ?_
              refine r_val .none rfl (p_assign rfl) ?_
              refine r_nil ?_
              refine e_next ?_
              refine c_seq ?_
              refine c_region_q mixed (by kernel_rfl) ?_
              refine q_val .none rfl (p_move rfl) ?_
              refine q_val .none rfl (p_move rfl) ?_
              refine q_iaddr_g .none rfl Try.underlying29 sz44 rfl hr rfl (by first | exact of_decide_eq_true rfl | omega) (fun p_10 o_11 R_9 => ?_)
              have hc_12 := hp _ (getD_mem (i := k) (d := d0) (by omega))
              refine q_val .none rfl (p_ldga0 Try.underlying44 rfl sz44 rfl R_9 (by first | exact of_decide_eq_true rfl | omega) (rfl : _ = Value.agg #[_, _, _, _, _, _, _, _])) ?_
              refine q_val .none rfl (p_move rfl) ?_
              refine q_val .none rfl (p_move rfl) ?_
              refine q_iaddr_g .none rfl Try.underlying29 sz44 rfl hr2 rfl (by first | exact of_decide_eq_true rfl | omega) (fun p_14 o_15 R_13 => ?_)
              have hc_16 := hp2 _ (getD_mem (i := k) (d := d0) (by omega))
              refine q_val .none rfl (p_ldga0 Try.underlying44 rfl sz44 rfl R_13 (by first | exact of_decide_eq_true rfl | omega) (rfl : _ = Value.agg #[_, _, _, _, _, _, _, _])) ?_
              refine q_call (vs := [_, _]) .none rfl cl45 rfl (fun w hw => c_rsame4 (rs.getD k d0).1 _ _ _ hc_12 hc_16 w hw) ?_
              refine q_val .none rfl (p_not rfl) ?_
              refine q_nil ?_
              refine e_next ?_
              refine c_splitn (d := 25) rfl (fun h_17 => ?_) (fun h_17 => ?_)
              · skip
                have hE := h_17
                first
                  | (exfalso; omega)
                  | (
                    refine c_cond_t rfl ?_
                    refine c_seq ?_
                    refine c_region ?_
                    refine r_val .none rfl (p_assign rfl) ?_
                    refine r_nil ?_
                    refine e_next ?_
                    refine c_ret ?_
                    refine e_ret_block ?_
                    refine e_ret_then ?_
                    refine e_ret_then ?_
                    refine e_ret_block ?_
                    refine e_ret_then ?_
                    refine e_ret1 Try.results16 (.tmp rfl .nil) (fun w hm => ⟨?_, hm.since⟩)
                    first
                    | (rw [ceqL_len (by simp; omega)])
                    | (rw [← hphi.2.2, ceqL_no (by omega) (by omega) hE])
                    | (rw [← hphi.2.2, List.drop_eq_nil_of_le (by simp; omega), List.drop_eq_nil_of_le (by simp; omega)]; rfl)
                    )
              · skip
                have hE := h_17
                first
                  | (exfalso; omega)
                  | (
                    refine c_cond_f rfl ?_
                    refine c_skip ?_
                    refine e_norm_block ?_
                    refine e_next ?_
                    refine c_region ?_
                    refine r_val .none rfl (p_add rfl rfl (by omega)) ?_
                    refine r_val .none rfl (p_move rfl) ?_
                    refine r_nil ?_
                    refine e_round (k + 1) ⟨⟨by omega, hphi.2.1, by rw [ceqL_yes (by omega) (by omega) hE]; exact hphi.2.2⟩, by omega⟩ rfl ⟨rfl, rfl, rfl, rfl, trivial⟩ (.nil)
                    )
              )
        · skip
          first
            | (exfalso; omega)
            | (
              refine c_cond_f rfl ?_
              refine c_exit ?_
              refine e_exit_then ?_
              refine e_exit_then ?_
              refine e_exit_block ?_
              refine e_next ?_
              refine c_seq ?_
              refine c_region ?_
              refine r_val .none rfl (p_assign rfl) ?_
              refine r_nil ?_
              refine e_next ?_
              refine c_ret ?_
              refine e_ret1 Try.results16 (.tmp rfl .nil) (fun w hm => ⟨?_, hm.since⟩)
              first
              | (rw [ceqL_len (by simp; omega)])
              | (rw [← hphi.2.2, ceqL_no (by omega) (by omega) hE])
              | (rw [← hphi.2.2, List.drop_eq_nil_of_le (by simp; omega), List.drop_eq_nil_of_le (by simp; omega)]; rfl)
              )
        )
theorem c_own6 (v : Value) (l : List CT) {G : Ghost} (hsz : sizeL l ≤ 1000) (hs : Cs G v l) (w : World) (hG : Has G w) :
    Calls Try.prog 17 #[v] w (Ret fun r w' => ∃ G', GNew w nX G G' ∧ Has G' w' ∧ SlL G' r 1 cI 0 (ownC l) ∧ Since nX w w') := by
  refine enter (args := [_]) (X := nX) (G := G) (l := [(0, v)]) Try.func17 rfl Try.ntmps17 hG ⟨rfl, trivial⟩ (Nat.le_of_ble_eq_true rfl) ?_
  obtain ⟨rs, hr, hp, rfl⟩ := hs.inv
  have hbd := hr.bound
  have hll := sizeL_len (rs.map Prod.fst)
  rw [List.length_map] at hll
  refine c_seq ?_
  refine c_region ?_
  refine r_val .none rfl (p_assign rfl) ?_
  refine r_nil ?_
  refine e_next ?_
  refine c_seq ?_
  refine c_region ?_
  refine r_val .none rfl (p_assign rfl) ?_
  refine r_nil ?_
  refine e_next ?_
  refine c_seq ?_
  refine c_region ?_
  refine r_val .none rfl (p_assign rfl) ?_
  refine r_nil ?_
  refine e_next ?_
  refine c_seq ?_
  refine c_seq ?_
  refine c_region ?_
  refine r_val .none rfl (p_move rfl) ?_
  refine r_val .none rfl (p_leng Try.underlying22 rfl hr) ?_
  have bd_1 := (hr).bound
  refine r_val .none rfl (p_move rfl) ?_
  refine r_nil ?_
  refine e_next ?_
  refine c_block ?_
  refine c_nilrow 3 1 ?_
  refine c_name (d := 2) rfl (fun u_2 hu_2 => ?_)
  refine c_name (d := 7) rfl (fun u_3 hu_3 => ?_)
  refine c_name (d := 8) rfl (fun u_4 hu_4 => ?_)
  refine c_loop (σ := Nat × Value) (fun s => [(9, Value.int .i64 (s.1 : Nat)), (4, Value.int .i64 (sizeL ((rs.map Prod.fst).take s.1) : Nat)), (3, s.2), (2, u_2), (7, u_3), (8, u_4)]) (fun s => [rowA (s.2) 3 1 ((ownCTo (rs.map Prod.fst) s.1)).length (((ownCTo (rs.map Prod.fst) s.1)).flatMap cI)]) (fun _ => _) (fun s => s.1 ≤ rs.length) (fun s => rs.length - s.1) ((0, _)) (Nat.zero_le _) rfl ⟨rfl, rfl, rfl, rfl, rfl, rfl, trivial⟩ (.keep (fun _ _ h => rowA_nil rfl _ _ h) (.nil)) (fun s hphi => ?_)
  subst hu_2
  subst hu_3
  subst hu_4
  obtain ⟨k, v⟩ := s
  dsimp only at hphi ⊢
  refine c_row1 (k := 0) rfl (fun ov => ?_)
  refine c_rowlen (k := 0) rfl (fun l63 => ?_)
  refine c_seq ?_
  refine c_region ?_
  refine r_val .none rfl (p_lt rfl rfl) ?_
  refine r_nil ?_
  refine e_next ?_
  refine c_seq ?_
  refine c_splitd (d := 10) rfl (fun h_5 => ?_) (fun h_5 => ?_)
  · skip
    first
      | (exfalso; omega)
      | (
        refine c_cond_t rfl ?_
        refine c_skip ?_
        refine e_next ?_
        refine c_seq ?_
        refine c_block ?_
        refine c_seq ?_
        refine c_region ?_
        refine r_iaddr_g .none rfl Try.underlying22 sz38 rfl hr rfl (by first | exact of_decide_eq_true rfl | omega) (fun p_7 o_8 R_6 => ?_)
        have hc_9 := hp _ (getD_mem (i := k) (d := d0) (by omega))
        have hz3 : size (rs.getD k d0).1 ≤ 1000 := Nat.le_trans (sizeL_mem (List.mem_map.2 ⟨_, getD_mem (i := k) (d := d0) (by omega), rfl⟩)) hsz
        refine r_val .none rfl (p_ldga0 Try.underlying38 rfl sz38 rfl R_6 (by first | exact of_decide_eq_true rfl | omega) (rfl : _ = Value.agg #[_, _, _, _, _, _, _, _])) ?_
        have hst := sizeL_take (rs := rs) (k := k) (by omega)
        have hst2 := sizeL_take_le (rs.map Prod.fst) (k + 1)
        refine r_alloc .none rfl zr38 (IsRow.lit _) (fun b_1 => ?_)
        refine r_stw (k := 0) .none sz38 rfl rfl (IsRow.lit _) (one_lit rfl (all_cons rfl (all_cons rfl (all_cons rfl (all_cons rfl (all_cons rfl (all_cons rfl (all_cons rfl (all_cons (hc_9).one rfl))))))))) rfl ?_
        refine r_nil ?_
        refine e_next ?_
        refine c_seq ?_
        refine c_region ?_
        refine r_val .none rfl (p_move rfl) ?_
        refine r_val .none rfl (p_ldw (k := 0) Try.underlying38 rfl sz38 rfl rfl (rfl : _ = Value.agg #[_, _, _, _, _, _, _, _])) ?_
        refine r_call (vs := [_]) .none rfl cl46 rfl (fun w hw => c_size (rs.getD k d0).1 _ hz3 hc_9 w hw) ?_
        refine r_val .none rfl (p_add rfl rfl (by omega)) ?_
        refine r_val .none rfl (p_assign rfl) ?_
        refine r_nil ?_
        refine e_next ?_
        refine c_region ?_
        refine r_val .none rfl (p_move rfl) ?_
        refine r_val .none rfl (p_move rfl) ?_
        refine r_val .none rfl (p_sub rfl rfl (by omega)) ?_
        refine r_bslice (vs := [(0, Value.int _ _)]) (c := #[_]) .none rfl Try.underlying32 el3 rfl rfl rfl (bs3_10i2 _ _) (IsRow.lit _) (fun b_2 => ?_)
        refine r_append (k := 2) (k2 := 0) .none rfl Try.underlying32 el3 rfl (by decide) rfl rfl rfl rfl rfl (one_lit rfl rfl) (by rw [ownCTo_len]; simp only [maxLen]; omega) (by rw [ownCTo_len]; omega) (fun v_10 => ?_)
        refine r_row1 (k := 2) rfl (fun o_11 => ?_)
        refine r_val .none rfl (p_assign rfl) ?_
        refine r_nil ?_
        refine e_norm_block ?_
        refine e_next ?_
        refine c_region ?_
        refine r_val .none rfl (p_add rfl rfl (by omega)) ?_
        refine r_val .none rfl (p_move rfl) ?_
        refine r_nil ?_
        refine e_round ((k + 1, _)) ⟨by dsimp only; omega, by dsimp only; omega⟩ rfl ⟨rfl, (congrArg (fun z => some (Value.int .i64 z)) (by rw [hst]; omega)), rfl, rfl, rfl, rfl, trivial⟩ (.drop (.drop (.keep (fun _ _ h => rowA_snoc (ownCTo_succ _ _) rfl rfl (by rw [hst]; exact congrArg (fun z => [Value.int .i64 z]) (by omega)) _ _ h) (.nil))))
        )
  · skip
    first
      | (exfalso; omega)
      | (
        refine c_cond_f rfl ?_
        refine c_exit ?_
        refine e_exit_then ?_
        refine e_exit_then ?_
        refine e_exit_block ?_
        refine e_next ?_
        refine c_seq ?_
        refine c_region ?_
        refine r_val .none rfl (p_move rfl) ?_
        refine r_val .none rfl (p_assign rfl) ?_
        refine r_nil ?_
        refine e_next ?_
        refine c_ret ?_
        refine e_freeze (k := 0) rfl (fun G_12 hn_13 hs_14 => ?_)
        replace hr := hr.mono hn_13.le
        replace hp := fun p hm0 => (hp p hm0).mono hn_13.le
        refine e_ret1 Try.results17 (.tmp rfl .nil) (fun w hm => ⟨_, hn_13, hm.has, ?_, hm.since⟩)
        rw [show ownC (rs.map Prod.fst) = ownCTo (rs.map Prod.fst) k by unfold ownC ownCTo; rw [show (rs.map Prod.fst).length = k by simp; omega]]
        exact SlL.of 0 (fun _ => rfl) rfl hs_14
        )
end Go.Proofs.Ytoflaphnlfggkaa

/- Walks: what Go functions of this chapter come to, each as a function on plain data; no condition but those that each theorem names. Printed by a program of this work (gen.py). -/
namespace Go.Proofs.Ytoflaphnlfggkaa
open Go.Gx Go.Gx.T4 Go.Gx.T3 Go.Gx.T6 Go.Gx.T8 Go.Gx.T4 Go.Gx.T3 Go.Gx.T8 Go.Gx.T4 Go.Gx.T3
theorem cl14 : Callable Try.prog 14 := callable Try.func14 (by kernel_rfl) rfl
theorem bs29_10s3 (a0 : Option Addr) (a1 a2 : Nat) : Instr.fill (fun i => some (i * 1, 1)) ((Array.range (1 * 1)).map ((Value.slice none 0 0).cells[· % (Value.slice none 0 0).cells.size]!)) [(0, Value.slice a0 a1 a2)] = some #[Value.slice a0 a1 a2] := by
  kernel_rfl
theorem el29 : ElemIs Try.prog 29 1 24 (Value.slice none 0 0) := by
  unfold ElemIs
  kernel_rfl
def RchIs (n : Nat) : Prop := ∀ (va vl : Value) (es : List (CT × Value)) (l : List CT) (G : Ghost) (F : Nat → Prop) (w : World), SizeOf.sizeOf l ≤ n → es.length + sizeL l ≤ 1000 → (∀ p ∈ es, Rs G p.2 p.1.subs) → Rs G vl l → Has G w → (rowA va 44 8 es.length (es.flatMap rvC)).holds w F → (∀ b, F b → G b = none) → Calls Try.prog 14 #[va, vl] w (Ret fun r w' => ∃ G', GNew w F G G' ∧ Has G' w' ∧ Ls (fun G v l => Rs G v l) ([] : List CT) G' r (chains (es.map Prod.fst) l) ∧ KeptG (rowA va 44 8 es.length (es.flatMap rvC)) F G' w w')
theorem c_rch_s (n : Nat) (ih : RchIs n) (va vl : Value) (es : List (CT × Value)) (l : List CT) {G : Ghost} {F : Nat → Prop} (hz : SizeOf.sizeOf l ≤ n + 1) (hsz : es.length + sizeL l ≤ 1000) (hes : ∀ p ∈ es, Rs G p.2 p.1.subs) (hs : Rs G vl l) (w : World) (hG : Has G w) (hA : (rowA va 44 8 es.length (es.flatMap rvC)).holds w F) (hFG : ∀ b, F b → G b = none) :
    Calls Try.prog 14 #[va, vl] w (Ret fun r w' => ∃ G', GNew w F G G' ∧ Has G' w' ∧ Ls (fun G v l => Rs G v l) ([] : List CT) G' r (chains (es.map Prod.fst) l) ∧ KeptG (rowA va 44 8 es.length (es.flatMap rvC)) F G' w w') := by
  refine enterO (args := [_, _]) (G := G) (A := rowA va 44 8 es.length (es.flatMap rvC)) (l := [(0, va), (1, vl)]) Try.func14 rfl Try.ntmps14 hG hA hFG ⟨rfl, rfl, trivial⟩ (Nat.le_of_ble_eq_true rfl) ?_
  obtain ⟨rs, hr, hp, rfl⟩ := hs.inv
  have hbd := hr.bound
  refine c_seq ?_
  refine c_region ?_
  refine r_val .none rfl (p_assign rfl) ?_
  refine r_nil ?_
  refine e_next ?_
  refine c_seq ?_
  refine c_region ?_
  refine r_val .none rfl (p_assign rfl) ?_
  refine r_nil ?_
  refine e_next ?_
  refine c_seq ?_
  refine c_seq ?_
  refine c_region ?_
  refine r_val .none rfl (p_move rfl) ?_
  refine r_val .none rfl (p_leng Try.underlying29 rfl hr) ?_
  have bd_1 := (hr).bound
  refine r_val .none rfl (p_move rfl) ?_
  refine r_nil ?_
  refine e_next ?_
  refine c_block ?_
  refine c_nilrow 29 1 ?_
  refine c_name (d := 0) rfl (fun u_2 hu_2 => ?_)
  refine c_name (d := 1) rfl (fun u_3 hu_3 => ?_)
  refine c_name (d := 4) rfl (fun u_4 hu_4 => ?_)
  refine c_name (d := 9) rfl (fun u_5 hu_5 => ?_)
  refine c_name (d := 10) rfl (fun u_6 hu_6 => ?_)
  refine c_nameL (k := 1) rfl (fun A_7 hA_7 => ?_)
  refine c_loop (σ := Nat × Value × List (List CT × Value) × Ghost) (fun s => [(11, Value.int .i64 (s.1 : Nat)), (5, s.2.1), (0, u_2), (1, u_3), (4, u_4), (9, u_5), (10, u_6)]) (fun s => [rowA (s.2.1) 29 1 (s.2.2.1).length ((s.2.2.1).flatMap lC), A_7]) (fun s => s.2.2.2) (fun s => s.1 ≤ rs.length ∧ s.2.2.1.map Prod.fst = chains (es.map Prod.fst) ((rs.map Prod.fst).take s.1) ∧ RhC s.2.2.2 s.2.2.1 ∧ GNew w F G s.2.2.2) (fun s => rs.length - s.1) ((0, _, [], _)) ⟨Nat.zero_le _, by simp [chains], by simp [RhC], GNew.refl _ _ _⟩ rfl ⟨rfl, rfl, rfl, rfl, rfl, rfl, rfl, trivial⟩ (.keep (fun _ _ h => rowA_nil rfl _ _ h) (.keep (fun _ _ h => h) (.nil))) (fun s hphi => ?_)
  subst hu_2
  subst hu_3
  subst hu_4
  subst hu_5
  subst hu_6
  subst hA_7
  obtain ⟨k, v, z, H⟩ := s
  obtain ⟨hk, hzq, hzc, hgn⟩ := hphi
  dsimp only at hk hzq hzc hgn ⊢
  have hzl : z.length = (chains (es.map Prod.fst) ((rs.map Prod.fst).take k)).length := by have := congrArg List.length hzq; simpa using this
  have hcl := chains_take_le (es.map Prod.fst) rs k
  have hst0 := sizeL_take_le (rs.map Prod.fst) k
  have hll := sizeL_len (rs.map Prod.fst)
  rw [List.length_map] at hll
  have hm9 : (es ++ rs.take k).map Prod.fst = es.map Prod.fst ++ (rs.map Prod.fst).take k := by rw [List.map_append, List.map_take]
  refine c_row1 (k := 0) rfl (fun ov => ?_)
  refine c_rowlen (k := 0) rfl (fun l63 => ?_)
  replace hr := hr.mono hgn.le
  replace hp := fun p hm0 => (hp p hm0).mono hgn.le
  replace hes := fun p hm0 => (hes p hm0).mono hgn.le
  refine c_seq ?_
  refine c_region ?_
  refine r_val .none rfl (p_lt rfl rfl) ?_
  refine r_nil ?_
  refine e_next ?_
  refine c_seq ?_
  refine c_splitd (d := 12) rfl (fun h_8 => ?_) (fun h_8 => ?_)
  · skip
    first
      | (exfalso; omega)
      | (
        refine c_cond_t rfl ?_
        refine c_skip ?_
        refine e_next ?_
        refine c_seq ?_
        refine c_block ?_
        refine c_seq ?_
        refine c_region ?_
        refine r_val .none rfl (p_move rfl) ?_
        refine r_iaddr_g .none rfl Try.underlying29 sz44 rfl hr rfl (by first | exact of_decide_eq_true rfl | omega) (fun p_10 o_11 R_9 => ?_)
        have hc_12 := hp _ (getD_mem (i := k) (d := d0) (by omega))
        have hkl := sizeL_len ((rs.map Prod.fst).take k)
        rw [List.length_take, List.length_map] at hkl
        have hsk := sizeL_take (rs := rs) (k := k) (by omega)
        have hsk2 := sizeL_take_le (rs.map Prod.fst) (k + 1)
        have hsq := size_eq (rs.getD k d0).1
        refine r_val .none rfl (p_ldga0 Try.underlying44 rfl sz44 rfl R_9 (by first | exact of_decide_eq_true rfl | omega) (rfl : _ = Value.agg #[_, _, _, _, _, _, _, _])) ?_
        refine r_alloc .none rfl zr44 (IsRow.lit _) (fun b_1 => ?_)
        refine r_val .none rfl (p_assign rfl) ?_
        refine r_stw (k := 0) .none sz44 rfl rfl (IsRow.lit _) (one_lit rfl (all_cons rfl (all_cons rfl (all_cons rfl (all_cons rfl (all_cons rfl (all_cons rfl (all_cons rfl (all_cons (hc_12).one rfl))))))))) rfl ?_
        refine r_nil ?_
        refine e_next ?_
        refine c_seq ?_
        refine c_region ?_
        refine r_val .none rfl (p_assign rfl) ?_
        refine r_nil ?_
        refine e_next ?_
        refine c_seq ?_
        refine c_region ?_
        refine r_val .none rfl (p_move rfl) ?_
        refine r_val .none rfl (p_move rfl) ?_
        refine r_nilrow 44 8 ?_
        refine r_append_o (k := 0) (k2 := 3) .none rfl Try.underlying29 el44 rfl (by decide) rfl rfl rfl rfl (rv_all hes) (by simp only [maxLen]; omega) (by omega) (fun v_14 => ?_)
        refine r_row1 (k := 0) rfl (fun o_15 => ?_)
        refine r_val .none rfl (p_assign rfl) ?_
        refine r_nil ?_
        refine e_next ?_
        refine c_seq ?_
        refine c_region ?_
        refine r_val .none rfl (p_move rfl) ?_
        refine r_val .none rfl (p_move rfl) ?_
        refine r_val .none rfl (p_move rfl) ?_
        refine r_slice0 (k) .none rfl Try.underlying29 sz44 rfl hr rfl (by first | exact of_decide_eq_true rfl | omega) (fun v_16 hs_17 => ?_)
        have hpt_19 := (Tr.take (by omega) hs_17 hp).1
        refine r_append_g (k := 0) .none rfl Try.underlying29 el44 rfl (by decide) rfl rfl rfl hpt_19 (rv_ones (fun p hm0 => hp p (List.mem_of_mem_take hm0))) (by rw [List.length_take]; simp only [maxLen]; omega) (by rw [List.length_take]; omega) (fun v_20 => ?_)
        refine r_row1 (k := 0) rfl (fun o_21 => ?_)
        refine r_conv (B := rowA v_20 _ 8 (es ++ rs.take k).length ((es ++ rs.take k).flatMap rvC)) (k := 0) rfl (fun _ _ h => rowA_congr (by simp) (by rw [List.nil_append, flat_all (cells := rvC) (fun _ => rfl), List.flatMap_append]) _ _ h) ?_
        refine r_val .none rfl (p_assign rfl) ?_
        refine r_nil ?_
        refine e_next ?_
        refine c_seq ?_
        refine c_seq ?_
        refine c_region ?_
        refine r_val .none rfl (p_field Try.underlying44 rfl sz3 rfl) ?_
        refine r_val .none rfl (p_ld (k := 1) Try.underlying3 rfl rfl rfl (by first | exact of_decide_eq_true rfl | omega) (rfl : _ = Value.int _ _)) ?_
        refine r_val .none rfl (p_eq rfl rfl) ?_
        refine r_nil ?_
        refine e_next ?_
        refine c_splitd (d := 26) rfl (fun h_22 => ?_) (fun h_22 => ?_)
        · skip
          have hk3 := h_22
          first
            | (exfalso; omega)
            | (
              refine c_cond_t rfl ?_
              refine c_region ?_
              refine r_val .none rfl (p_move rfl) ?_
              refine r_val .none rfl (p_move rfl) ?_
              refine r_val .none rfl (p_field Try.underlying44 rfl sz29 rfl) ?_
              refine r_val .none rfl (p_ld (k := 1) Try.underlying29 rfl rfl rfl (by first | exact of_decide_eq_true rfl | omega) rfl) ?_
              refine r_callom (k := 0) (vs := [_, _]) .none rfl cl14 rfl rfl (fun w F hw hA hFG => ih _ _ _ _ _ _ w (Nat.le_of_lt_succ (Nat.lt_of_lt_of_le (sub_size (by omega)) hz)) (by rw [List.length_append, List.length_take]; omega) (fun p hm0 => by rcases List.mem_append.1 hm0 with h | h; exact hes p h; exact hp p (List.mem_of_mem_take h)) hc_12 hw hA hFG) (fun G_23 v_26 hn_24 hr_25 => ?_)
              replace hr := hr.mono hn_24.le
              replace hp := fun p hm0 => (hp p hm0).mono hn_24.le
              replace hes := fun p hm0 => (hes p hm0).mono hn_24.le
              replace hzc := RhC.mono hzc hn_24.le
              replace R_9 := R_9.mono hn_24.le
              replace hc_12 := hc_12.mono hn_24.le
              replace hs_17 := hs_17.mono hn_24.le
              replace hpt_19 := hpt_19.mono hn_24.le
              obtain ⟨u_27z, u_27h, u_27p, u_27q⟩ := hr_25
              rw [hm9] at u_27q
              refine r_append_g (k := 2) .none rfl Try.underlying27 el29 rfl (by decide) rfl rfl rfl u_27h (rv_one1 u_27p) (by have h9 := congrArg List.length u_27q; rw [List.length_map] at h9; have h8 := chains_len (rs.getD k d0).1.subs (es.map Prod.fst ++ (rs.map Prod.fst).take k); simp only [maxLen]; omega) (by have h9 := congrArg List.length u_27q; rw [List.length_map] at h9; have h8 := chains_len (rs.getD k d0).1.subs (es.map Prod.fst ++ (rs.map Prod.fst).take k); omega) (fun v_28 => ?_)
              refine r_row1 (k := 2) rfl (fun o_29 => ?_)
              refine r_conv (B := rowA v_28 _ 1 (z ++ u_27z).length ((z ++ u_27z).flatMap lC)) (k := 2) rfl (fun _ _ h => rowA_congr (by simp) (by rw [flat_all (cells := lC) (fun _ => rfl), List.flatMap_append]) _ _ h) ?_
              refine r_val .none rfl (p_assign rfl) ?_
              refine r_nil ?_
              refine e_next ?_
              refine c_seq ?_
              refine c_region ?_
              refine r_val .none rfl (p_move rfl) ?_
              refine r_val .none rfl (p_ldw (k := 1) Try.underlying44 rfl sz44 rfl rfl (rfl : _ = Value.agg #[_, _, _, _, _, _, _, _])) ?_
              refine r_bslice (vs := [(0, Value.agg #[_, _, _, _, _, _, _, _])]) (c := #[_, _, _, _, _, _, _, _]) .none rfl Try.underlying29 el44 rfl rfl rfl (bs44_10a8 _ _ _ _ _ _ _ _) (IsRow.lit _) (fun b_2 => ?_)
              refine r_append (k := 1) (k2 := 0) .none rfl Try.underlying29 el44 rfl (by decide) rfl rfl rfl rfl rfl (one_lit rfl (all_cons rfl (all_cons rfl (all_cons rfl (all_cons rfl (all_cons rfl (all_cons rfl (all_cons rfl (all_cons (hc_12).one rfl))))))))) (by rw [List.length_append, List.length_take]; simp only [maxLen]; omega) (by rw [List.length_append, List.length_take]; omega) (fun v_30 => ?_)
              refine r_row1 (k := 1) rfl (fun o_31 => ?_)
              refine r_val .none rfl (p_assign rfl) ?_
              refine r_nil ?_
              refine e_next ?_
              refine c_region ?_
              refine r_val .none rfl (p_move rfl) ?_
              refine r_val .none rfl (p_move rfl) ?_
              refine r_freeze (k := 1) rfl (fun G_32 hn_33 hs_34 => ?_)
              replace hr := hr.mono hn_33.le
              replace hp := fun p hm0 => (hp p hm0).mono hn_33.le
              replace hes := fun p hm0 => (hes p hm0).mono hn_33.le
              replace hzc := RhC.mono hzc hn_33.le
              replace R_9 := R_9.mono hn_33.le
              replace hc_12 := hc_12.mono hn_33.le
              replace hs_17 := hs_17.mono hn_33.le
              replace hpt_19 := hpt_19.mono hn_33.le
              replace u_27h := u_27h.mono hn_33.le
              replace u_27p := RhC.mono u_27p hn_33.le
              have hs2 : SlL G_32 v_30 8 rvC d0 ((es ++ rs.take k) ++ [rs.getD k d0]) := SlL.of2 d0 (fun _ => rfl) (by simp [Nat.add_assoc]) (by rw [List.flatMap_append (xs := es ++ rs.take k), List.flatMap_cons, List.flatMap_nil, List.append_nil]; rfl) hs_34
              have hva2 : Rs G_32 v_30 (es.map Prod.fst ++ (rs.map Prod.fst).take k ++ [(rs.getD k d0).1]) := by have h := Tr.mk _ hs2 (fun p hm0 => by rcases List.mem_append.1 hm0 with h | h; rcases List.mem_append.1 h with h | h; exact hes p h; exact hp p (List.mem_of_mem_take h); rw [List.mem_singleton.1 h]; exact hc_12); rw [List.map_append, hm9] at h; exact h
              obtain ⟨a_35, c_36, rfl⟩ := SlG.len hs2
              refine r_bslice (vs := [(0, Value.slice _ _ _)]) (c := #[_]) .none rfl Try.underlying27 el29 rfl rfl rfl (bs29_10s3 _ _ _) (IsRow.lit _) (fun b_3 => ?_)
              refine r_append (k := 3) (k2 := 0) .none rfl Try.underlying27 el29 rfl (by decide) rfl rfl rfl rfl rfl (one_lit rfl rfl) (by first | (simp only [maxLen]; omega) | (have h9 := congrArg List.length u_27q; rw [List.length_map] at h9; have h8 := chains_len (rs.getD k d0).1.subs (es.map Prod.fst ++ (rs.map Prod.fst).take k); rw [List.length_append]; simp only [maxLen]; omega)) (by first | omega | (have h9 := congrArg List.length u_27q; rw [List.length_map] at h9; have h8 := chains_len (rs.getD k d0).1.subs (es.map Prod.fst ++ (rs.map Prod.fst).take k); rw [List.length_append]; omega)) (fun v_37 => ?_)
              refine r_row1 (k := 3) rfl (fun o_38 => ?_)
              refine r_val .none rfl (p_assign rfl) ?_
              refine r_nil ?_
              refine e_norm_block ?_
              refine e_next ?_
              refine c_region ?_
              refine r_val .none rfl (p_add rfl rfl (by omega)) ?_
              refine r_val .none rfl (p_move rfl) ?_
              refine r_nil ?_
              refine e_round ((k + 1, _, (z ++ u_27z) ++ [(es.map Prod.fst ++ (rs.map Prod.fst).take k ++ [(rs.getD k d0).1], Value.slice a_35 ((es ++ rs.take k) ++ [rs.getD k d0]).length c_36)], _)) ⟨⟨by dsimp only; omega, by rw [chains_take (by omega), chain1_ncc hk3, List.map_append, List.map_append, hzq, ← u_27q, List.append_assoc]; rfl, RhC.snoc (RhC.app hzc u_27p) hva2, ((hgn.trans hn_24).trans hn_33)⟩, by dsimp only; omega⟩ rfl ⟨rfl, rfl, rfl, rfl, rfl, rfl, rfl, trivial⟩ (.drop (.drop (.drop (.keep (fun _ _ h => rowA_snoc (l := (z ++ u_27z)) (x := (es.map Prod.fst ++ (rs.map Prod.fst).take k ++ [(rs.getD k d0).1], Value.slice a_35 ((es ++ rs.take k) ++ [rs.getD k d0]).length c_36)) rfl rfl rfl rfl _ _ h) (.keep (fun _ _ h => h) (.nil))))))
              )
        · skip
          have hk3 := h_22
          first
            | (exfalso; omega)
            | (
              refine c_cond_f rfl ?_
              refine c_skip ?_
              refine e_next ?_
              refine c_seq ?_
              refine c_region ?_
              refine r_val .none rfl (p_move rfl) ?_
              refine r_val .none rfl (p_ldw (k := 1) Try.underlying44 rfl sz44 rfl rfl (rfl : _ = Value.agg #[_, _, _, _, _, _, _, _])) ?_
              refine r_bslice (vs := [(0, Value.agg #[_, _, _, _, _, _, _, _])]) (c := #[_, _, _, _, _, _, _, _]) .none rfl Try.underlying29 el44 rfl rfl rfl (bs44_10a8 _ _ _ _ _ _ _ _) (IsRow.lit _) (fun b_4 => ?_)
              refine r_append (k := 1) (k2 := 0) .none rfl Try.underlying29 el44 rfl (by decide) rfl rfl rfl rfl rfl (one_lit rfl (all_cons rfl (all_cons rfl (all_cons rfl (all_cons rfl (all_cons rfl (all_cons rfl (all_cons rfl (all_cons (hc_12).one rfl))))))))) (by rw [List.length_append, List.length_take]; simp only [maxLen]; omega) (by rw [List.length_append, List.length_take]; omega) (fun v_39 => ?_)
              refine r_row1 (k := 1) rfl (fun o_40 => ?_)
              refine r_val .none rfl (p_assign rfl) ?_
              refine r_nil ?_
              refine e_next ?_
              refine c_region ?_
              refine r_val .none rfl (p_move rfl) ?_
              refine r_val .none rfl (p_move rfl) ?_
              refine r_freeze (k := 1) rfl (fun G_41 hn_42 hs_43 => ?_)
              replace hr := hr.mono hn_42.le
              replace hp := fun p hm0 => (hp p hm0).mono hn_42.le
              replace hes := fun p hm0 => (hes p hm0).mono hn_42.le
              replace hzc := RhC.mono hzc hn_42.le
              replace R_9 := R_9.mono hn_42.le
              replace hc_12 := hc_12.mono hn_42.le
              replace hs_17 := hs_17.mono hn_42.le
              replace hpt_19 := hpt_19.mono hn_42.le
              have hs2 : SlL G_41 v_39 8 rvC d0 ((es ++ rs.take k) ++ [rs.getD k d0]) := SlL.of2 d0 (fun _ => rfl) (by simp [Nat.add_assoc]) (by rw [List.flatMap_append (xs := es ++ rs.take k), List.flatMap_cons, List.flatMap_nil, List.append_nil]; rfl) hs_43
              have hva2 : Rs G_41 v_39 (es.map Prod.fst ++ (rs.map Prod.fst).take k ++ [(rs.getD k d0).1]) := by have h := Tr.mk _ hs2 (fun p hm0 => by rcases List.mem_append.1 hm0 with h | h; rcases List.mem_append.1 h with h | h; exact hes p h; exact hp p (List.mem_of_mem_take h); rw [List.mem_singleton.1 h]; exact hc_12); rw [List.map_append, hm9] at h; exact h
              obtain ⟨a_44, c_45, rfl⟩ := SlG.len hs2
              refine r_bslice (vs := [(0, Value.slice _ _ _)]) (c := #[_]) .none rfl Try.underlying27 el29 rfl rfl rfl (bs29_10s3 _ _ _) (IsRow.lit _) (fun b_5 => ?_)
              refine r_append (k := 3) (k2 := 0) .none rfl Try.underlying27 el29 rfl (by decide) rfl rfl rfl rfl rfl (one_lit rfl rfl) (by first | (simp only [maxLen]; omega) | (have h9 := congrArg List.length q; rw [List.length_map] at h9; have h8 := chains_len (rs.getD k d0).1.subs (es.map Prod.fst ++ (rs.map Prod.fst).take k); rw [List.length_append]; simp only [maxLen]; omega)) (by first | omega | (have h9 := congrArg List.length q; rw [List.length_map] at h9; have h8 := chains_len (rs.getD k d0).1.subs (es.map Prod.fst ++ (rs.map Prod.fst).take k); rw [List.length_append]; omega)) (fun v_46 => ?_)
              refine r_row1 (k := 3) rfl (fun o_47 => ?_)
              refine r_val .none rfl (p_assign rfl) ?_
              refine r_nil ?_
              refine e_norm_block ?_
              refine e_next ?_
              refine c_region ?_
              refine r_val .none rfl (p_add rfl rfl (by omega)) ?_
              refine r_val .none rfl (p_move rfl) ?_
              refine r_nil ?_
              refine e_round ((k + 1, _, z ++ [(es.map Prod.fst ++ (rs.map Prod.fst).take k ++ [(rs.getD k d0).1], Value.slice a_44 ((es ++ rs.take k) ++ [rs.getD k d0]).length c_45)], _)) ⟨⟨by dsimp only; omega, by rw [chains_take (by omega), chain1_other hk3, List.map_append, hzq]; rfl, RhC.snoc hzc hva2, (hgn.trans hn_42)⟩, by dsimp only; omega⟩ rfl ⟨rfl, rfl, rfl, rfl, rfl, rfl, rfl, trivial⟩ (.drop (.drop (.drop (.keep (fun _ _ h => rowA_snoc (l := z) (x := (es.map Prod.fst ++ (rs.map Prod.fst).take k ++ [(rs.getD k d0).1], Value.slice a_44 ((es ++ rs.take k) ++ [rs.getD k d0]).length c_45)) rfl rfl rfl rfl _ _ h) (.keep (fun _ _ h => h) (.nil))))))
              )
        )
  · skip
    first
      | (exfalso; omega)
      | (
        refine c_cond_f rfl ?_
        refine c_exit ?_
        refine e_exit_then ?_
        refine e_exit_then ?_
        refine e_exit_block ?_
        refine e_next ?_
        refine c_seq ?_
        refine c_region ?_
        refine r_val .none rfl (p_move rfl) ?_
        refine r_val .none rfl (p_assign rfl) ?_
        refine r_nil ?_
        refine e_next ?_
        refine c_ret ?_
        refine e_freeze (k := 0) rfl (fun G_48 hn_49 hs_50 => ?_)
        replace hr := hr.mono hn_49.le
        replace hp := fun p hm0 => (hp p hm0).mono hn_49.le
        replace hes := fun p hm0 => (hes p hm0).mono hn_49.le
        replace hzc := RhC.mono hzc hn_49.le
        refine e_ret1 Try.results14 (.tmp rfl .nil) (fun w hm => ⟨_, (hgn.trans hn_49), hm.has, ?_, hm.keptG [rowA _ 44 8 es.length (es.flatMap rvC)] (.keep (fun _ _ h => h) (.nil)) _ (fun F' h => starL_one h)⟩)
        rw [show chains (es.map Prod.fst) (rs.map Prod.fst) = z.map Prod.fst by rw [hzq, List.take_of_length_le (by simp; omega)]]
        exact Ls.mk z (SlL.of (([] : List CT), Value.slice none 0 0) (fun _ => rfl) rfl hs_50) hzc
        )
theorem c_rch_n : ∀ n, RchIs n
  | 0 => fun va vl es l G F w hz _ _ _ _ _ _ => absurd hz (by cases l <;> simp)
  | n + 1 => fun va vl es l G F w hz hsz hes hs hG hA hFG => c_rch_s n (c_rch_n n) va vl es l hz hsz hes hs w hG hA hFG
theorem c_rch (va vl : Value) (es : List (CT × Value)) (l : List CT) {G : Ghost} {F : Nat → Prop} (hsz : es.length + sizeL l ≤ 1000) (hes : ∀ p ∈ es, Rs G p.2 p.1.subs) (hs : Rs G vl l) (w : World) (hG : Has G w) (hA : (rowA va 44 8 es.length (es.flatMap rvC)).holds w F) (hFG : ∀ b, F b → G b = none) : Calls Try.prog 14 #[va, vl] w (Ret fun r w' => ∃ G', GNew w F G G' ∧ Has G' w' ∧ Ls (fun G v l => Rs G v l) ([] : List CT) G' r (chains (es.map Prod.fst) l) ∧ KeptG (rowA va 44 8 es.length (es.flatMap rvC)) F G' w w') := c_rch_n _ va vl es l G F w (Nat.le_refl _) hsz hes hs hG hA hFG
end Go.Proofs.Ytoflaphnlfggkaa

/-
  DERIVED: THE SHELF's CONTRACTS AT THIS DUMP, IN PLAIN WORDS (tools/lay-plain.mjs out of 'TryShelf.lean', which tools/lay-shelf.mjs wrote): THE SAME DECLARATIONS UNDER THE SAME NAMES: 'import', 'namespace', 'open', 'def', 'theorem' AND NOTHING ELSE: no command of the shelf's: FOR A HAND-IN. Each laying: the table of numbers ('.._ren') and one theorem, a field a fact of the dump's own or the kernel's comparison; each contract: ONE APPLICATION.
-/
namespace Go.Proofs
open Go.Shelf
def Try.lays128_ren : Go.Shelf.Ren := ⟨fun | 128 => 83 | n => n, fun | 51 => 134 | 3 => 3 | 4 => 4 | 46 => 121 | 5 => 5 | 9 => 9 | n => n, fun | n => n⟩
theorem Try.lays128 : Go.Proofs.Lays.n128 Try.prog Try.lays128_ren := {
  mixed := by kernel_rfl
  f128 := Try.func83.trans (congrArg some (by kernel_rfl))
  t3 := Try.underlying3
  a3 := Try.isAgg3
  z3 := Try.sizeOf3
  v3 := Try.zeroValue3
  t4 := Try.underlying4
  a4 := Try.isAgg4
  z4 := Try.sizeOf4
  v4 := Try.zeroValue4
  t5 := Try.underlying5
  a5 := Try.isAgg5
  z5 := Try.sizeOf5
  v5 := Try.zeroValue5
  t9 := Try.underlying9
  a9 := Try.isAgg9
  z9 := Try.sizeOf9
  v9 := Try.zeroValue9
  t46 := Try.underlying121
  a46 := Try.isAgg121
  z46 := Try.sizeOf121
  v46 := Try.zeroValue121
  t51 := Try.underlying134
  a51 := Try.isAgg134
  z51 := Try.sizeOf134
  v51 := Try.zeroValue134 }
/-- bits.Len32: "Len32 returns the minimum number of bits required to represent x; the result is 0 for x == 0.": IT RETURNS 'Lib.bitLen x'; the world is as it was. ('h0', 'h1': x is a uint32.) (LAID: no walk: one application.) -/
theorem Try.bits_Len32 (x : Int) (w : World) (h0 : 0 ≤ x) (h1 : x ≤ 4294967295) :
    Calls Try.prog 83 #[.int .u32 x] w fun e w' => e = .returned (.int .i64 (Lib.bitLen x.toNat)) ∧ w' = w := Any.bits_Len32 Try.lays128 x w h0 h1
def Try.lays125_ren : Go.Shelf.Ren := ⟨fun | 125 => 72 | 128 => 83 | 129 => 84 | n => n, fun | 46 => 121 | 3 => 3 | 51 => 134 | 53 => 136 | 4 => 4 | 5 => 5 | 9 => 9 | n => n, fun | n => n⟩
theorem Try.lays125 : Go.Proofs.Lays.n125 Try.prog Try.lays125_ren := {
  mixed := by kernel_rfl
  f125 := Try.func72.trans (congrArg some (by kernel_rfl))
  f128 := Try.func83.trans (congrArg some (by kernel_rfl))
  f129 := Try.func84.trans (congrArg some (by kernel_rfl))
  t3 := Try.underlying3
  a3 := Try.isAgg3
  z3 := Try.sizeOf3
  v3 := Try.zeroValue3
  t4 := Try.underlying4
  a4 := Try.isAgg4
  z4 := Try.sizeOf4
  v4 := Try.zeroValue4
  t5 := Try.underlying5
  a5 := Try.isAgg5
  z5 := Try.sizeOf5
  v5 := Try.zeroValue5
  t9 := Try.underlying9
  a9 := Try.isAgg9
  z9 := Try.sizeOf9
  v9 := Try.zeroValue9
  t46 := Try.underlying121
  a46 := Try.isAgg121
  z46 := Try.sizeOf121
  v46 := Try.zeroValue121
  t51 := Try.underlying134
  a51 := Try.isAgg134
  z51 := Try.sizeOf134
  v51 := Try.zeroValue134
  t53 := Try.underlying136
  a53 := Try.isAgg136
  z53 := Try.sizeOf136
  v53 := Try.zeroValue136 }
/-- bits.Len: "Len returns the minimum number of bits required to represent x; the result is 0 for x == 0.": IT RETURNS 'Lib.bitLen x'; the world is as it was. (A uint has 64 bits in the model.) ITS CALLEE bits.Len64 IS MET BY ITS OWN CONTRACT OFF THE SHELF (lay that first). (LAID: no walk: one application.) -/
theorem Try.bits_Len (x : Int) (w : World) (h0 : 0 ≤ x) (h1 : x ≤ 18446744073709551615) :
    Calls Try.prog 72 #[.int .u64 x] w fun e w' => e = .returned (.int .i64 (Lib.bitLen x.toNat)) ∧ w' = w := Any.bits_Len Try.lays125 x w h0 h1
def Try.lays215_ren : Go.Shelf.Ren := ⟨fun | 215 => 73 | n => n, fun | 3 => 3 | 4 => 4 | n => n, fun | n => n⟩
theorem Try.lays215 : Go.Proofs.Lays.n215 Try.prog Try.lays215_ren := {
  mixed := by kernel_rfl
  f215 := Try.func73.trans (congrArg some (by kernel_rfl))
  t3 := Try.underlying3
  a3 := Try.isAgg3
  z3 := Try.sizeOf3
  v3 := Try.zeroValue3
  t4 := Try.underlying4
  a4 := Try.isAgg4
  z4 := Try.sizeOf4
  v4 := Try.zeroValue4 }
open Go.RowKit in
/-- cmp.isNaN at int: 'x != x': false. (LAID: no walk: one application.) -/
theorem Try.cmp_isNaN_int (x : Int) (w : World) :
    Calls Try.prog 73 #[.int .i64 x] w fun e w' => e = .returned (.bool false) ∧ w' = w := Any.cmp_isNaN_int Try.lays215 x w
def Try.lays122_ren : Go.Shelf.Ren := ⟨fun | 122 => 64 | 215 => 73 | n => n, fun | 3 => 3 | 4 => 4 | n => n, fun | n => n⟩
theorem Try.lays122 : Go.Proofs.Lays.n122 Try.prog Try.lays122_ren := {
  mixed := by kernel_rfl
  f122 := Try.func64.trans (congrArg some (by kernel_rfl))
  f215 := Try.func73.trans (congrArg some (by kernel_rfl))
  t3 := Try.underlying3
  a3 := Try.isAgg3
  z3 := Try.sizeOf3
  v3 := Try.zeroValue3
  t4 := Try.underlying4
  a4 := Try.isAgg4
  z4 := Try.sizeOf4
  v4 := Try.zeroValue4 }
open Go.RowKit in
/-- cmp.Compare at int: "Compare returns -1 if x is less than y, 0 if x equals y, +1 if x is greater than y.": IT RETURNS 'Lib.compareInt x y'; the world is as it was. (LAID: no walk: one application.) -/
theorem Try.cmp_Compare_int (x y : Int) (w : World) :
    Calls Try.prog 64 #[.int .i64 x, .int .i64 y] w fun e w' => e = .returned (.int .i64 (Lib.compareInt x y)) ∧ w' = w := Any.cmp_Compare_int Try.lays122 x y w
def Try.lays129_ren : Go.Shelf.Ren := ⟨fun | 129 => 84 | n => n, fun | 53 => 136 | 3 => 3 | 4 => 4 | 46 => 121 | 5 => 5 | 9 => 9 | n => n, fun | n => n⟩
theorem Try.lays129 : Go.Proofs.Lays.n129 Try.prog Try.lays129_ren := {
  mixed := by kernel_rfl
  f129 := Try.func84.trans (congrArg some (by kernel_rfl))
  t3 := Try.underlying3
  a3 := Try.isAgg3
  z3 := Try.sizeOf3
  v3 := Try.zeroValue3
  t4 := Try.underlying4
  a4 := Try.isAgg4
  z4 := Try.sizeOf4
  v4 := Try.zeroValue4
  t5 := Try.underlying5
  a5 := Try.isAgg5
  z5 := Try.sizeOf5
  v5 := Try.zeroValue5
  t9 := Try.underlying9
  a9 := Try.isAgg9
  z9 := Try.sizeOf9
  v9 := Try.zeroValue9
  t46 := Try.underlying121
  a46 := Try.isAgg121
  z46 := Try.sizeOf121
  v46 := Try.zeroValue121
  t53 := Try.underlying136
  a53 := Try.isAgg136
  z53 := Try.sizeOf136
  v53 := Try.zeroValue136 }
/-- bits.Len64: "Len64 returns the minimum number of bits required to represent x; the result is 0 for x == 0.": IT RETURNS 'Lib.bitLen x'; the world is as it was. ('h0', 'h1': x is a uint64.) (LAID: no walk: one application.) -/
theorem Try.bits_Len64 (x : Int) (w : World) (h0 : 0 ≤ x) (h1 : x ≤ 18446744073709551615) :
    Calls Try.prog 84 #[.int .u64 x] w fun e w' => e = .returned (.int .i64 (Lib.bitLen x.toNat)) ∧ w' = w := Any.bits_Len64 Try.lays129 x w h0 h1
def Try.laysNm237_ren : Go.Shelf.Ren := ⟨fun | 37 => 73 | n => n, fun | 3 => 3 | 4 => 4 | n => n, fun | n => n⟩
theorem Try.laysNm237 : Go.Proofs.Lays2.n37 Try.prog Try.laysNm237_ren := {
  mixed := by kernel_rfl
  f37 := Try.func73.trans (congrArg some (by kernel_rfl))
  t3 := Try.underlying3
  a3 := Try.isAgg3
  z3 := Try.sizeOf3
  v3 := Try.zeroValue3
  t4 := Try.underlying4
  a4 := Try.isAgg4
  z4 := Try.sizeOf4
  v4 := Try.zeroValue4 }
open Go.RowKit Go.Lib in
/-- cmp.isNaN[int]: 'x != x': false. (LAID: no walk: one application.) -/
theorem Try.cmp_isNaN_int2 (x : Int) (w : World) :
    Calls Try.prog 73 #[.int .i64 x] w fun e w' => e = .returned (.bool false) ∧ w' = w := Any.cmp_isNaN_int2 Try.laysNm237 x w
def Try.sortP_ren : Go.Shelf.Ren := ⟨fun | 6 => 62 | 15 => 72 | 14 => 71 | 28 => 83 | 29 => 84 | 20 => 75 | 21 => 76 | 22 => 77 | 23 => 78 | 24 => 79 | 25 => 80 | 26 => 81 | 27 => 82 | 46 => 85 | 47 => 86 | 48 => 87 | 49 => 88 | 50 => 89 | 57 => 90 | n => n, fun | 22 => 81 | 24 => 84 | 25 => 112 | 3 => 3 | 39 => 121 | 0 => 0 | 53 => 134 | 55 => 136 | 4 => 4 | 46 => 127 | 45 => 126 | 50 => 131 | 5 => 5 | 9 => 9 | 66 => 137 | 70 => 76 | 76 => 142 | 77 => 143 | n => n, fun | n => n⟩
theorem Try.sortP : Go.Proofs.SlLaysF0.n6 Try.prog Try.sortP_ren := {
  mixed := by kernel_rfl
  f6 := ⟨Try.f62.name, by decide, Try.func62.trans (congrArg some (by kernel_rfl))⟩
  f14 := ⟨Try.f71.name, by decide, Try.func71.trans (congrArg some (by kernel_rfl))⟩
  f15 := Try.func72.trans (congrArg some (by kernel_rfl))
  f20 := ⟨Try.f75.name, by decide, Try.func75.trans (congrArg some (by kernel_rfl))⟩
  f21 := ⟨Try.f76.name, by decide, Try.func76.trans (congrArg some (by kernel_rfl))⟩
  f22 := ⟨Try.f77.name, by decide, Try.func77.trans (congrArg some (by kernel_rfl))⟩
  f23 := ⟨Try.f78.name, by decide, Try.func78.trans (congrArg some (by kernel_rfl))⟩
  f24 := ⟨Try.f79.name, by decide, Try.func79.trans (congrArg some (by kernel_rfl))⟩
  f25 := ⟨Try.f80.name, by decide, Try.func80.trans (congrArg some (by kernel_rfl))⟩
  f26 := ⟨Try.f81.name, by decide, Try.func81.trans (congrArg some (by kernel_rfl))⟩
  f27 := ⟨Try.f82.name, by decide, Try.func82.trans (congrArg some (by kernel_rfl))⟩
  f28 := Try.func83.trans (congrArg some (by kernel_rfl))
  f29 := Try.func84.trans (congrArg some (by kernel_rfl))
  f46 := ⟨Try.f85.name, by decide, Try.func85.trans (congrArg some (by kernel_rfl))⟩
  f47 := Try.func86.trans (congrArg some (by kernel_rfl))
  f48 := Try.func87.trans (congrArg some (by kernel_rfl))
  f49 := ⟨Try.f88.name, by decide, Try.func88.trans (congrArg some (by kernel_rfl))⟩
  f50 := ⟨Try.f89.name, by decide, Try.func89.trans (congrArg some (by kernel_rfl))⟩
  f57 := ⟨Try.f90.name, by decide, Try.func90.trans (congrArg some (by kernel_rfl))⟩
  t0 := Try.underlying0
  a0 := Try.isAgg0
  z0 := Try.sizeOf0
  v0 := Try.zeroValue0
  t3 := Try.underlying3
  a3 := Try.isAgg3
  z3 := Try.sizeOf3
  v3 := Try.zeroValue3
  t4 := Try.underlying4
  a4 := Try.isAgg4
  z4 := Try.sizeOf4
  v4 := Try.zeroValue4
  t5 := Try.underlying5
  a5 := Try.isAgg5
  z5 := Try.sizeOf5
  v5 := Try.zeroValue5
  t9 := Try.underlying9
  a9 := Try.isAgg9
  z9 := Try.sizeOf9
  v9 := Try.zeroValue9
  t22 := Try.underlying81
  a22 := Try.isAgg81
  z22 := Try.sizeOf81
  v22 := Try.zeroValue81
  t25 := Try.underlying112
  a25 := Try.isAgg112
  z25 := Try.sizeOf112
  v25 := Try.zeroValue112
  t39 := Try.underlying121
  a39 := Try.isAgg121
  z39 := Try.sizeOf121
  v39 := Try.zeroValue121
  t45 := Try.underlying126
  a45 := Try.isAgg126
  z45 := Try.sizeOf126
  v45 := Try.zeroValue126
  t46 := Try.underlying127
  a46 := Try.isAgg127
  z46 := Try.sizeOf127
  v46 := Try.zeroValue127
  t50 := Try.underlying131
  a50 := Try.isAgg131
  z50 := Try.sizeOf131
  v50 := Try.zeroValue131
  t53 := Try.underlying134
  a53 := Try.isAgg134
  z53 := Try.sizeOf134
  v53 := Try.zeroValue134
  t55 := Try.underlying136
  a55 := Try.isAgg136
  z55 := Try.sizeOf136
  v55 := Try.zeroValue136
  t66 := Try.underlying137
  a66 := Try.isAgg137
  z66 := Try.sizeOf137
  v66 := Try.zeroValue137
  t70 := Try.underlying76
  a70 := Try.isAgg76
  z70 := Try.sizeOf76
  v70 := Try.zeroValue76
  t76 := Try.underlying142
  a76 := Try.isAgg142
  z76 := Try.sizeOf142
  v76 := Try.zeroValue142
  t77 := Try.underlying143
  a77 := Try.isAgg143
  z77 := Try.sizeOf143
  v77 := Try.zeroValue143 }
end Go.Proofs

/- Walks: what Go functions of this chapter come to, each as a function on plain data; no condition but those that each theorem names. Printed by a program of this work (gen.py). -/
namespace Go.Proofs.Ytoflaphnlfggkaa
open Go.Gx Go.Gx.T4 Go.Gx.T3 Go.Gx.T6 Go.Gx.T8 Go.Gx.T4 Go.Gx.T3 Go.Gx.T8 Go.Gx.T4 Go.Gx.T3
theorem sz84 : SzIs Try.prog 84 3 := by
  unfold SzIs
  kernel_rfl
theorem cl60 : Callable Try.prog 60 := callable Try.func60 (by kernel_rfl) rfl
theorem cl61 : Callable Try.prog 61 := callable Try.func61 (by kernel_rfl) rfl
theorem cl62 : Callable Try.prog 62 := callable Try.func62 (by kernel_rfl) rfl
theorem cl66 : Callable Try.prog 66 := callable Try.func66 (by kernel_rfl) rfl
theorem bl84_0i1_1i1_2i1 (x0 : Int) (x1 : Int) (x2 : Int) : Program.built Try.prog 84 [(0, Value.int .i64 x0), (1, Value.int .i64 x1), (2, Value.int .i64 x2)] = some #[Value.int .i64 x0, Value.int .i64 x1, Value.int .i64 x2] := by
  kernel_rfl
theorem bs84_10a3 (a0 a1 a2 : Value) : Instr.fill (fun i => some (i * 3, 3)) ((Array.range (1 * 3)).map ((Value.agg #[Value.int .i64 0, Value.int .i64 0, Value.int .i64 0]).cells[· % (Value.agg #[Value.int .i64 0, Value.int .i64 0, Value.int .i64 0]).cells.size]!)) [(0, Value.agg #[a0, a1, a2])] = some #[a0, a1, a2] := by
  kernel_rfl
theorem el84 : ElemIs Try.prog 84 3 24 (Value.agg #[Value.int .i64 0, Value.int .i64 0, Value.int .i64 0]) := by
  unfold ElemIs
  kernel_rfl
theorem c_bnd1 (x : PL) (b : Bool) (n : Int) (p : Nat) {G : Ghost} (hR : RowAt G p 0 2 (at_ [Value.bool b, Value.int .i64 n])) (w : World) (hG : Has G w) :
    Calls Try.prog 61 #[Value.agg #[Value.int .i64 x.1, Value.int .i64 x.2.1, Value.int .i64 x.2.2], Value.pointer (some ⟨p, 0, none⟩)] w (Ret fun r w' => r = Value.bool (isV n x) ∧ Since nX w w') := by
  refine enter (args := [_, _]) (X := nX) (G := G) (l := [(0, Value.agg #[Value.int .i64 x.1, Value.int .i64 x.2.1, Value.int .i64 x.2.2]), (1, Value.pointer (some ⟨p, 0, none⟩))]) Try.func61 rfl Try.ntmps61 hG ⟨rfl, rfl, trivial⟩ (Nat.le_of_ble_eq_true rfl) ?_
  refine c_seq ?_
  refine c_region ?_
  refine r_box .none rfl rfl (IsRow.lit _) (fun b_1 => ?_)
  refine r_val .none rfl (p_assign rfl) ?_
  refine r_nil ?_
  refine e_next ?_
  refine c_seq ?_
  refine c_region ?_
  refine r_val .none rfl (p_field Try.underlying84 rfl sz3 rfl) ?_
  refine r_val .none rfl (p_ld (k := 0) Try.underlying3 rfl rfl rfl (by first | exact of_decide_eq_true rfl | omega) (rfl : _ = Value.int _ _)) ?_
  refine r_val .none rfl (p_field Try.underlying35 rfl sz3 rfl) ?_
  refine r_val .none rfl (p_ldg (j := 1) Try.underlying3 rfl rfl hR (by first | exact of_decide_eq_true rfl | omega) (rfl : _ = Value.int _ _)) ?_
  refine r_val .none rfl (p_eq rfl rfl) ?_
  refine r_val .none rfl (p_assign rfl) ?_
  refine r_nil ?_
  refine e_next ?_
  refine c_ret ?_
  refine e_ret1 Try.results61 (.tmp rfl .nil) (fun w hm => ⟨?_, hm.since⟩)
  rfl
theorem c_idxP (v : Value) (zs : List (PL)) (g : Nat) (cv : Value) (pf : PL → Bool) {G : Ghost} (hr : SlL G v 3 tC t0 zs) (hcg : Callable Try.prog g) (hcl : ∀ (x : PL) (w : World), Has G w → Calls Try.prog g #[Value.agg #[Value.int .i64 x.1, Value.int .i64 x.2.1, Value.int .i64 x.2.2], cv] w (Ret fun r w' => r = Value.bool (pf x) ∧ Since nX w w')) (w : World) (hG : Has G w) :
    Calls Try.prog 66 #[v, Value.func (.func g) #[] #[cv]] w (Ret fun r w' => r = Value.int .i64 (idxF pf zs 0) ∧ Since nX w w') := by
  refine enter (args := [_, _]) (X := nX) (G := G) (l := [(0, v), (1, Value.func (.func g) #[] #[cv])]) Try.func66 rfl Try.ntmps66 hG ⟨rfl, rfl, trivial⟩ (Nat.le_of_ble_eq_true rfl) ?_
  have hbd := hr.bound
  refine c_seq ?_
  refine c_region ?_
  refine r_val .none rfl (p_assign rfl) ?_
  refine r_nil ?_
  refine e_next ?_
  refine c_seq ?_
  refine c_seq ?_
  refine c_region ?_
  refine r_val .none rfl (p_move rfl) ?_
  refine r_val .none rfl (p_leng Try.underlying81 rfl hr) ?_
  have bd_1 := (hr).bound
  refine r_val .none rfl (p_move rfl) ?_
  refine r_nil ?_
  refine e_next ?_
  refine c_block ?_
  refine c_name (d := 0) rfl (fun u_2 hu_2 => ?_)
  refine c_name (d := 1) rfl (fun u_3 hu_3 => ?_)
  refine c_name (d := 7) rfl (fun u_4 hu_4 => ?_)
  refine c_loop (σ := Nat) (fun k => [(8, Value.int .i64 (k : Nat)), (0, u_2), (1, u_3), (7, u_4)]) (fun k => []) (fun _ => _) (fun k => k ≤ zs.length ∧ idxF pf (zs.drop k) k = idxF pf zs 0) (fun k => zs.length - k) (0) ⟨Nat.zero_le _, rfl⟩ rfl ⟨rfl, rfl, rfl, rfl, trivial⟩ (.nil) (fun k hphi => ?_)
  subst hu_2
  subst hu_3
  subst hu_4
  refine c_seq ?_
  refine c_region ?_
  refine r_val .none rfl (p_lt rfl rfl) ?_
  refine r_nil ?_
  refine e_next ?_
  refine c_seq ?_
  refine c_splitd (d := 9) rfl (fun h_5 => ?_) (fun h_5 => ?_)
  · skip
    first
      | (exfalso; omega)
      | (
        refine c_cond_t rfl ?_
        refine c_skip ?_
        refine e_next ?_
        refine c_seq ?_
        refine c_block ?_
        refine c_seq ?_
        refine c_region ?_
        refine r_val .none rfl (p_move rfl) ?_
        refine r_val .none rfl (p_assign rfl) ?_
        refine r_nil ?_
        refine e_next ?_
        refine c_seq ?_
        refine c_region ?_
        refine r_val .none rfl (p_move rfl) ?_
        refine r_val .none rfl (p_move rfl) ?_
        refine r_val .none rfl (p_move rfl) ?_
        refine r_iaddr_g .none rfl Try.underlying81 sz84 rfl hr rfl (by first | exact of_decide_eq_true rfl | omega) (fun p_7 o_8 R_6 => ?_)
        refine r_val .none rfl (p_ldga0 Try.underlying84 rfl sz84 rfl R_6 (by first | exact of_decide_eq_true rfl | omega) (rfl : _ = Value.agg #[_, _, _])) ?_
        refine r_fun (cs := [_]) .none rfl ?_
        refine r_call (vs := [_, _]) .none rfl hcg rfl (fun w hw => hcl (zs.getD k t0) w hw) ?_
        refine r_nil ?_
        refine e_next ?_
        refine c_split (d := 16) rfl (fun h_9 => ?_) (fun h_9 => ?_)
        · skip
          have hE := h_9
          first
            | (exfalso; omega)
            | (
              refine c_cond_t rfl ?_
              refine c_seq ?_
              refine c_region ?_
              refine r_val .none rfl (p_move rfl) ?_
              refine r_val .none rfl (p_assign rfl) ?_
              refine r_nil ?_
              refine e_next ?_
              refine c_ret ?_
              refine e_ret_block ?_
              refine e_ret_then ?_
              refine e_ret_then ?_
              refine e_ret_block ?_
              refine e_ret_then ?_
              refine e_ret1 Try.results66 (.tmp rfl .nil) (fun w hm => ⟨?_, hm.since⟩)
              first
              | (rw [← hphi.2, idxF_yes (d := t0) (by omega) hE])
              | (rw [← hphi.2, List.drop_eq_nil_of_le (by omega)]; rfl)
              )
        · skip
          have hE := h_9
          first
            | (exfalso; omega)
            | (
              refine c_cond_f rfl ?_
              refine c_skip ?_
              refine e_norm_block ?_
              refine e_next ?_
              refine c_region ?_
              refine r_val .none rfl (p_add rfl rfl (by omega)) ?_
              refine r_val .none rfl (p_move rfl) ?_
              refine r_nil ?_
              refine e_round (k + 1) ⟨⟨by omega, by rw [← hphi.2, idxF_no (d := t0) (by omega) hE]⟩, by omega⟩ rfl ⟨rfl, rfl, rfl, rfl, trivial⟩ (.nil)
              )
        )
  · skip
    first
      | (exfalso; omega)
      | (
        refine c_cond_f rfl ?_
        refine c_exit ?_
        refine e_exit_then ?_
        refine e_exit_then ?_
        refine e_exit_block ?_
        refine e_next ?_
        refine c_seq ?_
        refine c_region ?_
        refine r_val .none rfl (p_assign rfl) ?_
        refine r_nil ?_
        refine e_next ?_
        refine c_ret ?_
        refine e_ret1 Try.results66 (.tmp rfl .nil) (fun w hm => ⟨?_, hm.since⟩)
        first
        | (rw [← hphi.2, idxF_yes (d := t0) (by omega) hE])
        | (rw [← hphi.2, List.drop_eq_nil_of_le (by omega)]; rfl)
        )
theorem c_ctnP (v : Value) (zs : List (PL)) (g : Nat) (cv : Value) (pf : PL → Bool) {G : Ghost} (hr : SlL G v 3 tC t0 zs) (hcg : Callable Try.prog g) (hcl : ∀ (x : PL) (w : World), Has G w → Calls Try.prog g #[Value.agg #[Value.int .i64 x.1, Value.int .i64 x.2.1, Value.int .i64 x.2.2], cv] w (Ret fun r w' => r = Value.bool (pf x) ∧ Since nX w w')) (w : World) (hG : Has G w) :
    Calls Try.prog 60 #[v, Value.func (.func g) #[] #[cv]] w (Ret fun r w' => r = Value.bool (decide (0 ≤ idxF pf zs 0)) ∧ Since nX w w') := by
  refine enter (args := [_, _]) (X := nX) (G := G) (l := [(0, v), (1, Value.func (.func g) #[] #[cv])]) Try.func60 rfl Try.ntmps60 hG ⟨rfl, rfl, trivial⟩ (Nat.le_of_ble_eq_true rfl) ?_
  refine c_seq ?_
  refine c_region ?_
  refine r_val .none rfl (p_assign rfl) ?_
  refine r_nil ?_
  refine e_next ?_
  refine c_seq ?_
  refine c_region ?_
  refine r_val .none rfl (p_move rfl) ?_
  refine r_val .none rfl (p_move rfl) ?_
  refine r_call (vs := [_, _]) .none rfl cl66 rfl (fun w hw => c_idxP _ _ _ _ _ hr hcg hcl w hw) ?_
  refine r_val .none rfl (p_ge rfl rfl) ?_
  refine r_val .none rfl (p_assign rfl) ?_
  refine r_nil ?_
  refine e_next ?_
  refine c_ret ?_
  refine e_ret1 Try.results60 (.tmp rfl .nil) (fun w hm => ⟨?_, hm.since⟩)
  rfl
theorem clos63 (x y : PL) (W : World) : Calls Try.prog 63 #[Value.agg #[.int .i64 x.1, .int .i64 x.2.1, .int .i64 x.2.2], Value.agg #[.int .i64 y.1, .int .i64 y.2.1, .int .i64 y.2.2]] W fun e w' => e = .returned (.int .i64 (Lib.compareInt x.1 y.1)) ∧ ∃ q os', w' = Go.Sort.grow (W.drewN q) os' := by
  have hcon := fun W' => Try.cmp_Compare_int x.1 y.1 W'
  generalize Lib.compareInt x.1 y.1 = r at hcon ⊢
  go_enter Try.func63, Try.ntmps63
  go_wp2_with (go_at_call 64; refine (hcon _).mono ?_; rintro e w' ⟨rfl, rfl⟩)
  go_ret
  exact ⟨rfl, 0, _, by rw [Go.Sort.alloc_eq_grow, Go.Sort.alloc_eq_grow, Go.Sort.grow_grow]; rfl⟩
theorem ltP_of : Go.Proofs.ltOf (fun x y : PL => Lib.compareInt x.1 y.1) = ltP := by
  funext x y
  unfold Go.Proofs.ltOf Lib.compareInt ltP
  by_cases h1 : x.1 < y.1
  · simp [h1]
  · by_cases h2 : y.1 < x.1 <;> simp [h1, h2]
theorem ltP_swo : Go.Sort.SWO ltP where
  irrefl x := by simp [ltP]
  trans x y z h1 h2 := by simp [ltP] at *; omega
  ntrans x y z h1 h2 := by simp [ltP] at *; omega
theorem sortPC : SortFC Try.prog 62 63 tC 3 ltP := by
  intro blk cap zs w hH hblk hlen
  have eg : ∀ args w, (callFunc 63 args).run Try.prog w = .ok (.enter 63 args) w := enters_of Try.func63 (by kernel_rfl) rfl
  have h := AnyQ.slices_SortFunc Try.sortP 3 Try.isAgg84 Try.sizeOf84 tC (fun _ => rfl) (fun x v hv => by simp [tC] at hv; rcases hv with rfl | rfl | rfl <;> rfl) (fun x y => Lib.compareInt x.1 y.1) (ltP_of ▸ ltP_swo) 63 #[] blk 0 cap zs.toArray w eg (fun _ _ _ _ x y => clos63 x y _) hH hblk (by simpa using hlen)
  rw [ltP_of] at h
  exact h
theorem sortPN : SortFN Try.prog 62 63 := fun p cap w => AnyF.slices_SortFunc_none Try.sortP p cap _ w
theorem c_bnd (v : Value) (l : List CT) {G : Ghost} (hsz : l.length ≤ 1000) (hs : Cs G v l) (w : World) (hG : Has G w) :
    Calls Try.prog 41 #[v] w (Ret fun r w' => ∃ G', GNew w nX G G' ∧ Has G' w' ∧ (∃ zs, zs.Perm (places l 0 []) ∧ zs.Pairwise (fun a b => ltP b a = false) ∧ SlL G' r 3 tC t0 zs) ∧ Since nX w w') := by
  refine enter (args := [_]) (X := nX) (G := G) (l := [(0, v)]) Try.func41 rfl Try.ntmps41 hG ⟨rfl, trivial⟩ (Nat.le_of_ble_eq_true rfl) ?_
  obtain ⟨rs, hr, hp, rfl⟩ := hs.inv
  have hbd := hr.bound
  rw [List.length_map] at hsz
  refine c_seq ?_
  refine c_region ?_
  refine r_val .none rfl (p_assign rfl) ?_
  refine r_nil ?_
  refine e_next ?_
  refine c_seq ?_
  refine c_region ?_
  refine r_val .none rfl (p_assign rfl) ?_
  refine r_nil ?_
  refine e_next ?_
  refine c_seq ?_
  refine c_region ?_
  refine r_val .none rfl (p_assign rfl) ?_
  refine r_nil ?_
  refine e_next ?_
  refine c_seq ?_
  refine c_seq ?_
  refine c_region ?_
  refine r_val .none rfl (p_move rfl) ?_
  refine r_val .none rfl (p_leng Try.underlying22 rfl hr) ?_
  have bd_1 := (hr).bound
  refine r_val .none rfl (p_move rfl) ?_
  refine r_nil ?_
  refine e_next ?_
  refine c_block ?_
  refine c_nilrow 84 3 ?_
  refine c_name (d := 2) rfl (fun u_2 hu_2 => ?_)
  refine c_name (d := 9) rfl (fun u_3 hu_3 => ?_)
  refine c_name (d := 10) rfl (fun u_4 hu_4 => ?_)
  refine c_loop (σ := Nat × Value × Ghost) (fun s => [(11, Value.int .i64 (s.1 : Nat)), (4, Value.int .i64 (posN ((rs.map Prod.fst).take s.1) : Nat)), (3, s.2.1), (2, u_2), (9, u_3), (10, u_4)]) (fun s => [rowA (s.2.1) 84 3 ((places ((rs.map Prod.fst).take s.1) 0 [])).length (((places ((rs.map Prod.fst).take s.1) 0 [])).flatMap tC)]) (fun s => s.2.2) (fun s => s.1 ≤ rs.length ∧ GNew w nX G s.2.2) (fun s => rs.length - s.1) ((0, _, _)) ⟨Nat.zero_le _, GNew.refl _ _ _⟩ rfl ⟨rfl, rfl, rfl, rfl, rfl, rfl, trivial⟩ (.keep (fun _ _ h => rowA_nil rfl _ _ h) (.nil)) (fun s hphi => ?_)
  subst hu_2
  subst hu_3
  subst hu_4
  obtain ⟨k, v, H⟩ := s
  obtain ⟨hk, hgn⟩ := hphi
  dsimp only at hk hgn ⊢
  have hpn := posN_len (rs.map Prod.fst |>.take k)
  rw [List.length_take, List.length_map] at hpn
  have hpl := places_len ((rs.map Prod.fst).take k) 0 []
  rw [List.length_take, List.length_map] at hpl
  refine c_row1 (k := 0) rfl (fun ov => ?_)
  refine c_rowlen (k := 0) rfl (fun l63 => ?_)
  replace hr := hr.mono hgn.le
  replace hp := fun p hm0 => (hp p hm0).mono hgn.le
  refine c_seq ?_
  refine c_region ?_
  refine r_val .none rfl (p_lt rfl rfl) ?_
  refine r_nil ?_
  refine e_next ?_
  refine c_seq ?_
  refine c_splitd (d := 12) rfl (fun h_5 => ?_) (fun h_5 => ?_)
  · skip
    first
      | (exfalso; omega)
      | (
        refine c_cond_t rfl ?_
        refine c_skip ?_
        refine e_next ?_
        refine c_seq ?_
        refine c_block ?_
        refine c_seq ?_
        refine c_region ?_
        refine r_iaddr_g .none rfl Try.underlying22 sz38 rfl hr rfl (by first | exact of_decide_eq_true rfl | omega) (fun p_7 o_8 R_6 => ?_)
        have hc_9 := hp _ (getD_mem (i := k) (d := d0) (by omega))
        refine r_val .none rfl (p_ldga0 Try.underlying38 rfl sz38 rfl R_6 (by first | exact of_decide_eq_true rfl | omega) (rfl : _ = Value.agg #[_, _, _, _, _, _, _, _])) ?_
        refine r_alloc .none rfl zr38 (IsRow.lit _) (fun b_1 => ?_)
        refine r_stw (k := 0) .none sz38 rfl rfl (IsRow.lit _) (one_lit rfl (all_cons rfl (all_cons rfl (all_cons rfl (all_cons rfl (all_cons rfl (all_cons rfl (all_cons rfl (all_cons (hc_9).one rfl))))))))) rfl ?_
        refine r_nil ?_
        refine e_next ?_
        refine c_seq ?_
        refine c_seq ?_
        refine c_region ?_
        refine r_val .none rfl (p_field Try.underlying38 rfl sz3 rfl) ?_
        refine r_val .none rfl (p_ld (k := 0) Try.underlying3 rfl rfl rfl (by first | exact of_decide_eq_true rfl | omega) (rfl : _ = Value.int _ _)) ?_
        refine r_val .none rfl (p_ne rfl rfl) ?_
        refine r_nil ?_
        refine e_next ?_
        refine c_splitd (d := 17) rfl (fun h_10 => ?_) (fun h_10 => ?_)
        · skip
          have hk1 : ¬ (rs.getD k d0).1.h.k = 1 := h_10
          first
            | (exfalso; omega)
            | (
              refine c_cond_t rfl ?_
              refine c_exit ?_
              refine e_exit_then ?_
              refine e_exit_block ?_
              refine e_next ?_
              refine c_region ?_
              refine r_val .none rfl (p_add rfl rfl (by omega)) ?_
              refine r_val .none rfl (p_move rfl) ?_
              refine r_nil ?_
              refine e_round ((k + 1, _, _)) ⟨⟨by dsimp only; omega, hgn⟩, by dsimp only; omega⟩ rfl ⟨rfl, (congrArg (fun z => some (Value.int .i64 z)) (by rw [map_take (d := d0) (by omega), posN_append]; simp only [posN]; first | (rw [if_pos hk1]; omega) | (rw [if_neg hk1]; omega))), rfl, rfl, rfl, rfl, trivial⟩ (.drop (.keep (fun _ _ h => rowA_congr (by rw [map_take (d := d0) (by omega), places_snoc]; first | (rw [if_pos hk1, Int.zero_add]; done) | (rw [if_neg hk1]; done)) (by rw [map_take (d := d0) (by omega), places_snoc]; first | (rw [if_pos hk1, Int.zero_add]; done) | (rw [if_neg hk1]; done)) _ _ h) (.nil)))
              )
        · skip
          have hk1 := Decidable.not_not.1 h_10
          first
            | (exfalso; omega)
            | (
              refine c_cond_f rfl ?_
              refine c_skip ?_
              refine e_next ?_
              refine c_seq ?_
              refine c_seq ?_
              refine c_region ?_
              refine r_val .none rfl (p_field Try.underlying38 rfl sz36 rfl) ?_
              refine r_val .none rfl (p_lda (k := 0) Try.underlying36 rfl sz36 rfl rfl (by first | exact of_decide_eq_true rfl | omega) (rfl : _ = Value.agg #[_, _, _, _, _, _])) ?_
              refine r_val .none rfl (p_move rfl) ?_
              refine r_nil ?_
              refine e_next ?_
              refine c_block ?_
              refine c_name (d := 2) rfl (fun u_11 hu_11 => ?_)
              refine c_name (d := 4) rfl (fun u_12 hu_12 => ?_)
              refine c_name (d := 6) rfl (fun u_13 hu_13 => ?_)
              refine c_name (d := 9) rfl (fun u_14 hu_14 => ?_)
              refine c_name (d := 10) rfl (fun u_15 hu_15 => ?_)
              refine c_name (d := 11) rfl (fun u_16 hu_16 => ?_)
              refine c_name (d := 12) rfl (fun u_17 hu_17 => ?_)
              refine c_name (d := 13) rfl (fun u_18 hu_18 => ?_)
              refine c_name (d := 14) rfl (fun u_19 hu_19 => ?_)
              refine c_name (d := 15) rfl (fun u_20 hu_20 => ?_)
              refine c_name (d := 16) rfl (fun u_21 hu_21 => ?_)
              refine c_name (d := 17) rfl (fun u_22 hu_22 => ?_)
              refine c_name (d := 18) rfl (fun u_23 hu_23 => ?_)
              refine c_name (d := 19) rfl (fun u_24 hu_24 => ?_)
              refine c_nameL (k := 0) rfl (fun A_25 hA_25 => ?_)
              refine c_loop (σ := Nat × Value × Ghost) (fun s => [(20, Value.int .i64 (s.1 : Nat)), (3, s.2.1), (2, u_11), (4, u_12), (6, u_13), (9, u_14), (10, u_15), (11, u_16), (12, u_17), (13, u_18), (14, u_19), (15, u_20), (16, u_21), (17, u_22), (18, u_23), (19, u_24)]) (fun s => [A_25, rowA (s.2.1) 84 3 ((plTo (rs.getD k d0).1.h (posN ((rs.map Prod.fst).take k)) (places ((rs.map Prod.fst).take k) 0 []) s.1)).length (((plTo (rs.getD k d0).1.h (posN ((rs.map Prod.fst).take k)) (places ((rs.map Prod.fst).take k) 0 []) s.1)).flatMap tC)]) (fun s => s.2.2) (fun s => s.1 ≤ 3 ∧ GNew w nX H s.2.2) (fun s => 3 - s.1) ((0, _, _)) ⟨Nat.zero_le _, GNew.refl _ _ _⟩ rfl ⟨rfl, rfl, rfl, rfl, rfl, rfl, rfl, rfl, rfl, rfl, rfl, rfl, rfl, rfl, rfl, rfl, trivial⟩ (.keep (fun _ _ h => h) (.keep (fun _ _ h => h) (.nil))) (fun s hphi => ?_)
              subst hu_11
              subst hu_12
              subst hu_13
              subst hu_14
              subst hu_15
              subst hu_16
              subst hu_17
              subst hu_18
              subst hu_19
              subst hu_20
              subst hu_21
              subst hu_22
              subst hu_23
              subst hu_24
              subst hA_25
              obtain ⟨f, v, H2⟩ := s
              obtain ⟨hf, hgn2⟩ := hphi
              dsimp only at hf hgn2 ⊢
              have hpt := plTo_len (rs.getD k d0).1.h (posN ((rs.map Prod.fst).take k)) (places ((rs.map Prod.fst).take k) 0 []) f
              refine c_row1 (k := 1) rfl (fun ov => ?_)
              refine c_rowlen (k := 1) rfl (fun l63 => ?_)
              replace hr := hr.mono hgn2.le
              replace hp := fun p hm0 => (hp p hm0).mono hgn2.le
              replace R_6 := R_6.mono hgn2.le
              replace hc_9 := hc_9.mono hgn2.le
              obtain rfl | rfl | rfl | rfl : f = 0 ∨ f = 1 ∨ f = 2 ∨ f = 3 := by omega
              · skip
                refine c_seq ?_
                refine c_region ?_
                refine r_val .none rfl (p_lt rfl rfl) ?_
                refine r_say (d := 21) (v := Value.bool true) rfl ?_
                refine r_nil ?_
                refine e_next ?_
                refine c_seq ?_
                refine c_cond_t rfl ?_
                refine c_skip ?_
                refine e_next ?_
                refine c_seq ?_
                refine c_block ?_
                refine c_seq ?_
                refine c_region ?_
                refine r_val .none rfl (p_move rfl) ?_
                refine r_val .none rfl (p_indexa (k := 0) Try.underlying36 Try.underlying35 rfl sz35 rfl (IsRow.lit _) rfl rfl (by first | exact of_decide_eq_true rfl | omega) (rfl : _ = Value.agg #[_, _])) ?_
                refine r_alloc .none rfl zr35 (IsRow.lit _) (fun b_2 => ?_)
                refine r_val .none rfl (p_assign rfl) ?_
                refine r_stw (k := 0) .none sz35 rfl rfl (IsRow.lit _) (one_lit rfl rfl) rfl ?_
                refine r_nil ?_
                refine e_next ?_
                refine c_seq ?_
                refine c_region ?_
                refine r_freezeX (k := 0) rfl (fun G_26 hn_27 hR_28 => ?_)
                replace hr := hr.mono hn_27.le
                replace hp := fun p hm0 => (hp p hm0).mono hn_27.le
                replace R_6 := R_6.mono hn_27.le
                replace hc_9 := hc_9.mono hn_27.le
                have hR_29 : RowAt G_26 b_2 0 2 (at_ [Value.bool (vF (rs.getD k d0).1.h 0), Value.int .i64 (nF (rs.getD k d0).1.h 0)]) := RowAt.congr hR_28 (fun i hi => by match i, hi with | 0, _ => rfl | 1, _ => rfl)
                refine r_val .none rfl (p_field Try.underlying35 rfl sz4 rfl) ?_
                refine r_val .none rfl (p_ldg (j := 0) Try.underlying4 rfl rfl hR_29 (by first | exact of_decide_eq_true rfl | omega) (rfl : _ = Value.bool _)) ?_
                refine r_val .none rfl (p_move rfl) ?_
                refine' r_and (c := 26) (d := 31) [_, _, _, _, _] rfl (fun h_30 Q_31 hQ_32 => ?_) (fun h_30 Q_31 hQ_32 => ?_) ?_
                rotate_left 1
                · skip
                  refine r_val (.some rfl rfl) rfl (p_move rfl) ?_
                  refine r_val (.some rfl rfl) rfl (p_mkfunc (vs := [_]) rfl) ?_
                  refine r_callr (k := 1) (vs := [_, _]) (.some rfl rfl) rfl cl60 rfl rfl (fun w G_34 hw hle_35 hs_36 => c_ctnP _ _ _ _ _ (SlL.of t0 (fun _ => rfl) rfl hs_36) cl61 (fun x w hw => c_bnd1 x _ _ _ (hR_29.mono hle_35) w hw) w hw) ?_
                  refine r_val (.some rfl rfl) rfl (p_not rfl) ?_
                  refine r_val .none rfl (p_pick_t rfl rfl) ?_
                  refine r_nil (e_fin (d := 31) hQ_32 rfl (by repeat (first | exact .refl | refine .put rfl ?_ | refine .say rfl ?_ | refine .say2 rfl (by first | assumption | simp_all) ?_)))
                · skip
                  repeat (first | refine r_skip rfl (.no rfl rfl) ?_ | refine r_skip rfl (.un rfl rfl) ?_)
                  refine r_val (by first | exact .none | exact .some rfl rfl) rfl (p_pick_f rfl rfl) ?_
                  refine r_nil (e_fin (d := 31) hQ_32 rfl (by repeat (first | exact .refl | refine .put rfl ?_ | refine .say rfl ?_ | refine .say2 rfl (by first | assumption | simp_all) ?_)))
                refine r_nil ?_
                refine e_next ?_
                refine c_split (d := 31) rfl (fun h_37 => ?_) (fun h_37 => ?_)
                · skip
                  try simp only [norms] at h_37
                  have hb := h_37
                  first
                    | (exfalso; omega)
                    | (
                      refine c_cond_t rfl ?_
                      refine c_region ?_
                      refine r_val .none rfl (p_move rfl) ?_
                      refine r_val .none rfl (p_field Try.underlying35 rfl sz3 rfl) ?_
                      refine r_val .none rfl (p_ldg (j := 1) Try.underlying3 rfl rfl hR_29 (by first | exact of_decide_eq_true rfl | omega) (rfl : _ = Value.int _ _)) ?_
                      refine r_val .none rfl (p_move rfl) ?_
                      refine r_val .none rfl (p_move rfl) ?_
                      refine r_val .none rfl (p_build (vs := [(0, Value.int _ _), (1, Value.int _ _), (2, Value.int _ _)]) rfl (bl84_0i1_1i1_2i1 _ _ _)) ?_
                      refine r_bslice (vs := [(0, Value.agg #[_, _, _])]) (c := #[_, _, _]) .none rfl Try.underlying81 el84 rfl rfl rfl (bs84_10a3 _ _ _) (IsRow.lit _) (fun b_3 => ?_)
                      refine r_append (k := 2) (k2 := 0) .none rfl Try.underlying81 el84 rfl (by decide) rfl rfl rfl rfl rfl (one_lit rfl rfl) (by simp only [maxLen]; simp at hpl; omega) (by simp at hpl; omega) (fun v_38 => ?_)
                      refine r_row1 (k := 2) rfl (fun o_39 => ?_)
                      refine r_val .none rfl (p_assign rfl) ?_
                      refine r_nil ?_
                      refine e_norm_block ?_
                      refine e_next ?_
                      refine c_region ?_
                      refine r_val .none rfl (p_add rfl rfl (by omega)) ?_
                      refine r_val .none rfl (p_move rfl) ?_
                      refine r_nil ?_
                      refine e_round ((1, _, _)) ⟨⟨Nat.le_of_ble_eq_true rfl, (hgn2.trans hn_27)⟩, Nat.le_of_ble_eq_true rfl⟩ rfl ⟨rfl, rfl, rfl, rfl, rfl, rfl, rfl, rfl, rfl, rfl, rfl, rfl, rfl, rfl, rfl, rfl, trivial⟩ (.drop (.keep (fun _ _ h => h) (.keep (fun _ _ h => rowA_snoc (l := plTo (rs.getD k d0).1.h (posN ((rs.map Prod.fst).take k)) (places ((rs.map Prod.fst).take k) 0 []) 0) (x := (nF (rs.getD k d0).1.h 0, ((posN ((rs.map Prod.fst).take k) : Nat) : Int), (0 : Int))) (by show pl1 _ _ _ 0 = _; unfold pl1; exact if_pos (by first | exact hb | simpa using hb)) rfl rfl rfl _ _ h) (.nil))))
                      )
                · skip
                  try simp only [norms] at h_37
                  have hb := h_37
                  first
                    | (exfalso; omega)
                    | (
                      refine c_cond_f rfl ?_
                      refine c_skip ?_
                      refine e_norm_block ?_
                      refine e_next ?_
                      refine c_region ?_
                      refine r_val .none rfl (p_add rfl rfl (by omega)) ?_
                      refine r_val .none rfl (p_move rfl) ?_
                      refine r_nil ?_
                      refine e_round ((1, _, _)) ⟨⟨Nat.le_of_ble_eq_true rfl, (hgn2.trans hn_27)⟩, Nat.le_of_ble_eq_true rfl⟩ rfl ⟨rfl, rfl, rfl, rfl, rfl, rfl, rfl, rfl, rfl, rfl, rfl, rfl, rfl, rfl, rfl, rfl, trivial⟩ (.keep (fun _ _ h => h) (.keep (fun _ _ h => rowA_same (by show pl1 _ _ _ 0 = _; unfold pl1; exact if_neg (fun hx => hb.elim (fun h1 => by first | exact h1 hx.1 | (have h3 := h1.symm.trans hx.1; cases h3)) (fun h1 => hx.2 (by first | exact h1 | exact of_decide_eq_true h1 | simpa using h1)))) _ _ h) (.nil)))
                      )
              · skip
                refine c_seq ?_
                refine c_region ?_
                refine r_val .none rfl (p_lt rfl rfl) ?_
                refine r_say (d := 21) (v := Value.bool true) rfl ?_
                refine r_nil ?_
                refine e_next ?_
                refine c_seq ?_
                refine c_cond_t rfl ?_
                refine c_skip ?_
                refine e_next ?_
                refine c_seq ?_
                refine c_block ?_
                refine c_seq ?_
                refine c_region ?_
                refine r_val .none rfl (p_move rfl) ?_
                refine r_val .none rfl (p_indexa (k := 1) Try.underlying36 Try.underlying35 rfl sz35 rfl (IsRow.lit _) rfl rfl (by first | exact of_decide_eq_true rfl | omega) (rfl : _ = Value.agg #[_, _])) ?_
                refine r_alloc .none rfl zr35 (IsRow.lit _) (fun b_4 => ?_)
                refine r_val .none rfl (p_assign rfl) ?_
                refine r_stw (k := 0) .none sz35 rfl rfl (IsRow.lit _) (one_lit rfl rfl) rfl ?_
                refine r_nil ?_
                refine e_next ?_
                refine c_seq ?_
                refine c_region ?_
                refine r_freezeX (k := 0) rfl (fun G_40 hn_41 hR_42 => ?_)
                replace hr := hr.mono hn_41.le
                replace hp := fun p hm0 => (hp p hm0).mono hn_41.le
                replace R_6 := R_6.mono hn_41.le
                replace hc_9 := hc_9.mono hn_41.le
                have hR_43 : RowAt G_40 b_4 0 2 (at_ [Value.bool (vF (rs.getD k d0).1.h 1), Value.int .i64 (nF (rs.getD k d0).1.h 1)]) := RowAt.congr hR_42 (fun i hi => by match i, hi with | 0, _ => rfl | 1, _ => rfl)
                refine r_val .none rfl (p_field Try.underlying35 rfl sz4 rfl) ?_
                refine r_val .none rfl (p_ldg (j := 0) Try.underlying4 rfl rfl hR_43 (by first | exact of_decide_eq_true rfl | omega) (rfl : _ = Value.bool _)) ?_
                refine r_val .none rfl (p_move rfl) ?_
                refine' r_and (c := 26) (d := 31) [_, _, _, _, _] rfl (fun h_44 Q_45 hQ_46 => ?_) (fun h_44 Q_45 hQ_46 => ?_) ?_
                rotate_left 1
                · skip
                  refine r_val (.some rfl rfl) rfl (p_move rfl) ?_
                  refine r_val (.some rfl rfl) rfl (p_mkfunc (vs := [_]) rfl) ?_
                  refine r_callr (k := 1) (vs := [_, _]) (.some rfl rfl) rfl cl60 rfl rfl (fun w G_48 hw hle_49 hs_50 => c_ctnP _ _ _ _ _ (SlL.of t0 (fun _ => rfl) rfl hs_50) cl61 (fun x w hw => c_bnd1 x _ _ _ (hR_43.mono hle_49) w hw) w hw) ?_
                  refine r_val (.some rfl rfl) rfl (p_not rfl) ?_
                  refine r_val .none rfl (p_pick_t rfl rfl) ?_
                  refine r_nil (e_fin (d := 31) hQ_46 rfl (by repeat (first | exact .refl | refine .put rfl ?_ | refine .say rfl ?_ | refine .say2 rfl (by first | assumption | simp_all) ?_)))
                · skip
                  repeat (first | refine r_skip rfl (.no rfl rfl) ?_ | refine r_skip rfl (.un rfl rfl) ?_)
                  refine r_val (by first | exact .none | exact .some rfl rfl) rfl (p_pick_f rfl rfl) ?_
                  refine r_nil (e_fin (d := 31) hQ_46 rfl (by repeat (first | exact .refl | refine .put rfl ?_ | refine .say rfl ?_ | refine .say2 rfl (by first | assumption | simp_all) ?_)))
                refine r_nil ?_
                refine e_next ?_
                refine c_split (d := 31) rfl (fun h_51 => ?_) (fun h_51 => ?_)
                · skip
                  try simp only [norms] at h_51
                  have hb := h_51
                  first
                    | (exfalso; omega)
                    | (
                      refine c_cond_t rfl ?_
                      refine c_region ?_
                      refine r_val .none rfl (p_move rfl) ?_
                      refine r_val .none rfl (p_field Try.underlying35 rfl sz3 rfl) ?_
                      refine r_val .none rfl (p_ldg (j := 1) Try.underlying3 rfl rfl hR_43 (by first | exact of_decide_eq_true rfl | omega) (rfl : _ = Value.int _ _)) ?_
                      refine r_val .none rfl (p_move rfl) ?_
                      refine r_val .none rfl (p_move rfl) ?_
                      refine r_val .none rfl (p_build (vs := [(0, Value.int _ _), (1, Value.int _ _), (2, Value.int _ _)]) rfl (bl84_0i1_1i1_2i1 _ _ _)) ?_
                      refine r_bslice (vs := [(0, Value.agg #[_, _, _])]) (c := #[_, _, _]) .none rfl Try.underlying81 el84 rfl rfl rfl (bs84_10a3 _ _ _) (IsRow.lit _) (fun b_5 => ?_)
                      refine r_append (k := 2) (k2 := 0) .none rfl Try.underlying81 el84 rfl (by decide) rfl rfl rfl rfl rfl (one_lit rfl rfl) (by simp only [maxLen]; simp at hpl; omega) (by simp at hpl; omega) (fun v_52 => ?_)
                      refine r_row1 (k := 2) rfl (fun o_53 => ?_)
                      refine r_val .none rfl (p_assign rfl) ?_
                      refine r_nil ?_
                      refine e_norm_block ?_
                      refine e_next ?_
                      refine c_region ?_
                      refine r_val .none rfl (p_add rfl rfl (by omega)) ?_
                      refine r_val .none rfl (p_move rfl) ?_
                      refine r_nil ?_
                      refine e_round ((2, _, _)) ⟨⟨Nat.le_of_ble_eq_true rfl, (hgn2.trans hn_41)⟩, Nat.le_of_ble_eq_true rfl⟩ rfl ⟨rfl, rfl, rfl, rfl, rfl, rfl, rfl, rfl, rfl, rfl, rfl, rfl, rfl, rfl, rfl, rfl, trivial⟩ (.drop (.keep (fun _ _ h => h) (.keep (fun _ _ h => rowA_snoc (l := plTo (rs.getD k d0).1.h (posN ((rs.map Prod.fst).take k)) (places ((rs.map Prod.fst).take k) 0 []) 1) (x := (nF (rs.getD k d0).1.h 1, ((posN ((rs.map Prod.fst).take k) : Nat) : Int), (1 : Int))) (by show pl1 _ _ _ 1 = _; unfold pl1; exact if_pos (by first | exact hb | simpa using hb)) rfl rfl rfl _ _ h) (.nil))))
                      )
                · skip
                  try simp only [norms] at h_51
                  have hb := h_51
                  first
                    | (exfalso; omega)
                    | (
                      refine c_cond_f rfl ?_
                      refine c_skip ?_
                      refine e_norm_block ?_
                      refine e_next ?_
                      refine c_region ?_
                      refine r_val .none rfl (p_add rfl rfl (by omega)) ?_
                      refine r_val .none rfl (p_move rfl) ?_
                      refine r_nil ?_
                      refine e_round ((2, _, _)) ⟨⟨Nat.le_of_ble_eq_true rfl, (hgn2.trans hn_41)⟩, Nat.le_of_ble_eq_true rfl⟩ rfl ⟨rfl, rfl, rfl, rfl, rfl, rfl, rfl, rfl, rfl, rfl, rfl, rfl, rfl, rfl, rfl, rfl, trivial⟩ (.keep (fun _ _ h => h) (.keep (fun _ _ h => rowA_same (by show pl1 _ _ _ 1 = _; unfold pl1; exact if_neg (fun hx => hb.elim (fun h1 => by first | exact h1 hx.1 | (have h3 := h1.symm.trans hx.1; cases h3)) (fun h1 => hx.2 (by first | exact h1 | exact of_decide_eq_true h1 | simpa using h1)))) _ _ h) (.nil)))
                      )
              · skip
                refine c_seq ?_
                refine c_region ?_
                refine r_val .none rfl (p_lt rfl rfl) ?_
                refine r_say (d := 21) (v := Value.bool true) rfl ?_
                refine r_nil ?_
                refine e_next ?_
                refine c_seq ?_
                refine c_cond_t rfl ?_
                refine c_skip ?_
                refine e_next ?_
                refine c_seq ?_
                refine c_block ?_
                refine c_seq ?_
                refine c_region ?_
                refine r_val .none rfl (p_move rfl) ?_
                refine r_val .none rfl (p_indexa (k := 2) Try.underlying36 Try.underlying35 rfl sz35 rfl (IsRow.lit _) rfl rfl (by first | exact of_decide_eq_true rfl | omega) (rfl : _ = Value.agg #[_, _])) ?_
                refine r_alloc .none rfl zr35 (IsRow.lit _) (fun b_6 => ?_)
                refine r_val .none rfl (p_assign rfl) ?_
                refine r_stw (k := 0) .none sz35 rfl rfl (IsRow.lit _) (one_lit rfl rfl) rfl ?_
                refine r_nil ?_
                refine e_next ?_
                refine c_seq ?_
                refine c_region ?_
                refine r_freezeX (k := 0) rfl (fun G_54 hn_55 hR_56 => ?_)
                replace hr := hr.mono hn_55.le
                replace hp := fun p hm0 => (hp p hm0).mono hn_55.le
                replace R_6 := R_6.mono hn_55.le
                replace hc_9 := hc_9.mono hn_55.le
                have hR_57 : RowAt G_54 b_6 0 2 (at_ [Value.bool (vF (rs.getD k d0).1.h 2), Value.int .i64 (nF (rs.getD k d0).1.h 2)]) := RowAt.congr hR_56 (fun i hi => by match i, hi with | 0, _ => rfl | 1, _ => rfl)
                refine r_val .none rfl (p_field Try.underlying35 rfl sz4 rfl) ?_
                refine r_val .none rfl (p_ldg (j := 0) Try.underlying4 rfl rfl hR_57 (by first | exact of_decide_eq_true rfl | omega) (rfl : _ = Value.bool _)) ?_
                refine r_val .none rfl (p_move rfl) ?_
                refine' r_and (c := 26) (d := 31) [_, _, _, _, _] rfl (fun h_58 Q_59 hQ_60 => ?_) (fun h_58 Q_59 hQ_60 => ?_) ?_
                rotate_left 1
                · skip
                  refine r_val (.some rfl rfl) rfl (p_move rfl) ?_
                  refine r_val (.some rfl rfl) rfl (p_mkfunc (vs := [_]) rfl) ?_
                  refine r_callr (k := 1) (vs := [_, _]) (.some rfl rfl) rfl cl60 rfl rfl (fun w G_62 hw hle_63 hs_64 => c_ctnP _ _ _ _ _ (SlL.of t0 (fun _ => rfl) rfl hs_64) cl61 (fun x w hw => c_bnd1 x _ _ _ (hR_57.mono hle_63) w hw) w hw) ?_
                  refine r_val (.some rfl rfl) rfl (p_not rfl) ?_
                  refine r_val .none rfl (p_pick_t rfl rfl) ?_
                  refine r_nil (e_fin (d := 31) hQ_60 rfl (by repeat (first | exact .refl | refine .put rfl ?_ | refine .say rfl ?_ | refine .say2 rfl (by first | assumption | simp_all) ?_)))
                · skip
                  repeat (first | refine r_skip rfl (.no rfl rfl) ?_ | refine r_skip rfl (.un rfl rfl) ?_)
                  refine r_val (by first | exact .none | exact .some rfl rfl) rfl (p_pick_f rfl rfl) ?_
                  refine r_nil (e_fin (d := 31) hQ_60 rfl (by repeat (first | exact .refl | refine .put rfl ?_ | refine .say rfl ?_ | refine .say2 rfl (by first | assumption | simp_all) ?_)))
                refine r_nil ?_
                refine e_next ?_
                refine c_split (d := 31) rfl (fun h_65 => ?_) (fun h_65 => ?_)
                · skip
                  try simp only [norms] at h_65
                  have hb := h_65
                  first
                    | (exfalso; omega)
                    | (
                      refine c_cond_t rfl ?_
                      refine c_region ?_
                      refine r_val .none rfl (p_move rfl) ?_
                      refine r_val .none rfl (p_field Try.underlying35 rfl sz3 rfl) ?_
                      refine r_val .none rfl (p_ldg (j := 1) Try.underlying3 rfl rfl hR_57 (by first | exact of_decide_eq_true rfl | omega) (rfl : _ = Value.int _ _)) ?_
                      refine r_val .none rfl (p_move rfl) ?_
                      refine r_val .none rfl (p_move rfl) ?_
                      refine r_val .none rfl (p_build (vs := [(0, Value.int _ _), (1, Value.int _ _), (2, Value.int _ _)]) rfl (bl84_0i1_1i1_2i1 _ _ _)) ?_
                      refine r_bslice (vs := [(0, Value.agg #[_, _, _])]) (c := #[_, _, _]) .none rfl Try.underlying81 el84 rfl rfl rfl (bs84_10a3 _ _ _) (IsRow.lit _) (fun b_7 => ?_)
                      refine r_append (k := 2) (k2 := 0) .none rfl Try.underlying81 el84 rfl (by decide) rfl rfl rfl rfl rfl (one_lit rfl rfl) (by simp only [maxLen]; simp at hpl; omega) (by simp at hpl; omega) (fun v_66 => ?_)
                      refine r_row1 (k := 2) rfl (fun o_67 => ?_)
                      refine r_val .none rfl (p_assign rfl) ?_
                      refine r_nil ?_
                      refine e_norm_block ?_
                      refine e_next ?_
                      refine c_region ?_
                      refine r_val .none rfl (p_add rfl rfl (by omega)) ?_
                      refine r_val .none rfl (p_move rfl) ?_
                      refine r_nil ?_
                      refine e_round ((3, _, _)) ⟨⟨Nat.le_of_ble_eq_true rfl, (hgn2.trans hn_55)⟩, Nat.le_of_ble_eq_true rfl⟩ rfl ⟨rfl, rfl, rfl, rfl, rfl, rfl, rfl, rfl, rfl, rfl, rfl, rfl, rfl, rfl, rfl, rfl, trivial⟩ (.drop (.keep (fun _ _ h => h) (.keep (fun _ _ h => rowA_snoc (l := plTo (rs.getD k d0).1.h (posN ((rs.map Prod.fst).take k)) (places ((rs.map Prod.fst).take k) 0 []) 2) (x := (nF (rs.getD k d0).1.h 2, ((posN ((rs.map Prod.fst).take k) : Nat) : Int), (2 : Int))) (by show pl1 _ _ _ 2 = _; unfold pl1; exact if_pos (by first | exact hb | simpa using hb)) rfl rfl rfl _ _ h) (.nil))))
                      )
                · skip
                  try simp only [norms] at h_65
                  have hb := h_65
                  first
                    | (exfalso; omega)
                    | (
                      refine c_cond_f rfl ?_
                      refine c_skip ?_
                      refine e_norm_block ?_
                      refine e_next ?_
                      refine c_region ?_
                      refine r_val .none rfl (p_add rfl rfl (by omega)) ?_
                      refine r_val .none rfl (p_move rfl) ?_
                      refine r_nil ?_
                      refine e_round ((3, _, _)) ⟨⟨Nat.le_of_ble_eq_true rfl, (hgn2.trans hn_55)⟩, Nat.le_of_ble_eq_true rfl⟩ rfl ⟨rfl, rfl, rfl, rfl, rfl, rfl, rfl, rfl, rfl, rfl, rfl, rfl, rfl, rfl, rfl, rfl, trivial⟩ (.keep (fun _ _ h => h) (.keep (fun _ _ h => rowA_same (by show pl1 _ _ _ 2 = _; unfold pl1; exact if_neg (fun hx => hb.elim (fun h1 => by first | exact h1 hx.1 | (have h3 := h1.symm.trans hx.1; cases h3)) (fun h1 => hx.2 (by first | exact h1 | exact of_decide_eq_true h1 | simpa using h1)))) _ _ h) (.nil)))
                      )
              · skip
                refine c_seq ?_
                refine c_region ?_
                refine r_val .none rfl (p_lt rfl rfl) ?_
                refine r_say (d := 21) (v := Value.bool false) rfl ?_
                refine r_nil ?_
                refine e_next ?_
                refine c_seq ?_
                refine c_cond_f rfl ?_
                refine c_exit ?_
                refine e_exit_then ?_
                refine e_exit_then ?_
                refine e_exit_block ?_
                refine e_next ?_
                refine c_region ?_
                refine r_val .none rfl (p_move rfl) ?_
                refine r_val .none rfl (p_add rfl rfl (by omega)) ?_
                refine r_val .none rfl (p_assign rfl) ?_
                refine r_nil ?_
                refine e_norm_block ?_
                refine e_next ?_
                refine c_region ?_
                refine r_val .none rfl (p_add rfl rfl (by omega)) ?_
                refine r_val .none rfl (p_move rfl) ?_
                refine r_nil ?_
                refine e_round ((k + 1, _, _)) ⟨⟨by dsimp only; omega, (hgn.trans hgn2)⟩, by dsimp only; omega⟩ rfl ⟨rfl, (congrArg (fun z => some (Value.int .i64 z)) (by rw [map_take (d := d0) (by omega), posN_append]; simp only [posN]; first | (rw [if_pos hk1]; omega) | (rw [if_neg hk1]; omega))), rfl, rfl, rfl, rfl, trivial⟩ (.drop (.keep (fun _ _ h => rowA_congr (by rw [map_take (d := d0) (by omega), places_snoc]; first | (rw [if_pos hk1, Int.zero_add]; done) | (rw [if_neg hk1]; done)) (by rw [map_take (d := d0) (by omega), places_snoc]; first | (rw [if_pos hk1, Int.zero_add]; done) | (rw [if_neg hk1]; done)) _ _ h) (.nil)))
              )
        )
  · skip
    first
      | (exfalso; omega)
      | (
        refine c_cond_f rfl ?_
        refine c_exit ?_
        refine e_exit_then ?_
        refine e_exit_then ?_
        refine e_exit_block ?_
        refine e_next ?_
        refine c_seq ?_
        refine c_region ?_
        refine r_val .none rfl (p_move rfl) ?_
        refine r_sortf (k := 0) .none rfl cl62 rfl rfl (fun _ => rfl) sortPC sortPN (by have h9 := places_len ((rs.map Prod.fst).take k) 0 []; simp at h9; omega) (fun z_68 z_68p z_68s => ?_)
        refine r_nil ?_
        refine e_next ?_
        refine c_seq ?_
        refine c_region ?_
        refine r_val .none rfl (p_move rfl) ?_
        refine r_val .none rfl (p_assign rfl) ?_
        refine r_nil ?_
        refine e_next ?_
        refine c_ret ?_
        refine e_freeze (k := 0) rfl (fun G_69 hn_70 hs_71 => ?_)
        replace hr := hr.mono hn_70.le
        replace hp := fun p hm0 => (hp p hm0).mono hn_70.le
        refine e_ret1 Try.results41 (.tmp rfl .nil) (fun w hm => ⟨_, (hgn.trans hn_70), hm.has, ?_, hm.since⟩)
        exact ⟨z_68, by rw [show rs.map Prod.fst = (rs.map Prod.fst).take k by rw [List.take_of_length_le (by simp; omega)]]; exact z_68p, z_68s, SlL.of t0 (fun _ => rfl) rfl hs_71⟩
        )
end Go.Proofs.Ytoflaphnlfggkaa
