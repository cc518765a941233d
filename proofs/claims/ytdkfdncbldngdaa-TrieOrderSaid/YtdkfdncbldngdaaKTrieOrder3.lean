/- Texts of this work, laid together: a logic of steps, plain laws, and walks of Go functions, each without a condition but those that its theorems name. -/
import Derived.Test.YtdkfdncbldngdaaKTrieOrder2
import Derived.Test.YtdkfdncbldngdaaRows
import Derived.Maps.RangeRun
import Derived.Sort.Row
import Derived.Sort.Grow
import Derived.Shelf.Slices.CompactI
import Derived.Shelf.SlIterI.Nil
import Derived.Shelf.SlSortCmp.WholeK
/- Walks: what Go functions of this chapter come to, each as a function on plain data; no condition but those that each theorem names. Printed by a program of this work (gen.py). -/
namespace Go.Proofs.Ytdkfdncbldngdaa
open Go.Gx Go.Gx.T3 Go.Gx.T4 Go.Gx.T3 Go.Gx.T8 Go.Gx.T4 Go.Gx.T3
theorem sz29 : SzIs Try.prog 29 1 := by
 unfold SzIs
 kernel_rfl
theorem sz46 : SzIs Try.prog 46 3 := by
 unfold SzIs
 kernel_rfl
theorem sz88 : SzIs Try.prog 88 1 := by
 unfold SzIs
 kernel_rfl
theorem sz90 : SzIs Try.prog 90 6 := by
 unfold SzIs
 kernel_rfl
theorem zr90 : ZeroIs Try.prog 90 (Value.agg #[Value.int .i64 0, Value.int .i64 0, Value.int .i64 0, Value.int .i64 0, Value.slice none 0 0, Value.slice none 0 0]) := by
 unfold ZeroIs
 kernel_rfl
theorem lf82 : leafT Try.prog 9 82 = some [3, 3] := by
 kernel_rfl
theorem ef82 : eqT Try.prog 9 82 = true := by
 kernel_rfl
theorem eg82 : Try.prog.eqGuardType Try.prog.depth 82 = false := by
 kernel_rfl
theorem cl30 : Callable Try.prog 30 := callable Try.func30 (by kernel_rfl) rfl
theorem cl59 : Callable Try.prog 59 := callable Try.func59 (by kernel_rfl) rfl
theorem bl90_0i1 (x0 : Int) : Program.built Try.prog 90 [(0, Value.int .i64 x0)] = some #[Value.int .i64 x0, Value.int .i64 0, Value.int .i64 0, Value.int .i64 0, Value.slice none 0 0, Value.slice none 0 0] := by
 kernel_rfl
theorem bl96_0i1_1i1_2i1 (x0 : Int) (x1 : Int) (x2 : Int) : Program.built Try.prog 96 [(0, Value.int .i64 x0), (1, Value.int .i64 x1), (2, Value.int .i64 x2)] = some #[Value.int .i64 x0, Value.int .i64 x1, Value.int .i64 x2] := by
 kernel_rfl
theorem bs90_10a6 (a0 a1 a2 a3 a4 a5 : Value) : Instr.fill (fun i => some (i * 6, 6)) ((Array.range (1 * 6)).map ((Value.agg #[Value.int .i64 0, Value.int .i64 0, Value.int .i64 0, Value.int .i64 0, Value.slice none 0 0, Value.slice none 0 0]).cells[· % (Value.agg #[Value.int .i64 0, Value.int .i64 0, Value.int .i64 0, Value.int .i64 0, Value.slice none 0 0, Value.slice none 0 0]).cells.size]!)) [(0, Value.agg #[a0, a1, a2, a3, a4, a5])] = some #[a0, a1, a2, a3, a4, a5] := by
 kernel_rfl
theorem bs96_10a3 (a0 a1 a2 : Value) : Instr.fill (fun i => some (i * 3, 3)) ((Array.range (1 * 3)).map ((Value.agg #[Value.int .i64 0, Value.int .i64 0, Value.int .i64 0]).cells[· % (Value.agg #[Value.int .i64 0, Value.int .i64 0, Value.int .i64 0]).cells.size]!)) [(0, Value.agg #[a0, a1, a2])] = some #[a0, a1, a2] := by
 kernel_rfl
theorem el90 : ElemIs Try.prog 90 6 80 (Value.agg #[Value.int .i64 0, Value.int .i64 0, Value.int .i64 0, Value.int .i64 0, Value.slice none 0 0, Value.slice none 0 0]) := by
 unfold ElemIs
 kernel_rfl
theorem el96 : ElemIs Try.prog 96 3 24 (Value.agg #[Value.int .i64 0, Value.int .i64 0, Value.int .i64 0]) := by
 unfold ElemIs
 kernel_rfl
def OfIs (n : Nat) : Prop := ∀ (c : CT) (sv va : Value) (l : List CT) (G : Ghost) (w : World), SizeOf.sizeOf c ≤ n → l.length + size c ≤ 1000 → Rs G sv c.subs → Rs G va l → Has G w → Calls Try.prog 30 #[va, Value.agg #[Value.int .i64 c.h.k, Value.int .i64 (vi c.h.v0), Value.int .i64 c.h.n0, Value.int .i64 (vi c.h.v1), Value.int .i64 c.h.n1, Value.int .i64 (vi c.h.v2), Value.int .i64 c.h.n2, sv]] w (Ret fun r w' => ∃ G', GNew w nX G G' ∧ Has G' w' ∧ (∃ tv uv, r = Value.agg #[Value.int .i64 (stepOf l c).h.k, Value.int .i64 (stepOf l c).h.k0, Value.int .i64 (stepOf l c).h.k1, Value.int .i64 (stepOf l c).h.k2, tv, uv] ∧ SlL G' tv 3 tC t0 (stepOf l c).h.ts ∧ Ss G' uv (stepOf l c).subs) ∧ Since nX w w')
theorem c_of_s (n : Nat) (ih : OfIs n) (c : CT) (sv : Value) (va : Value) (l : List CT) {G : Ghost} (hz : SizeOf.sizeOf c ≤ n + 1) (hch : l.length + size c ≤ 1000) (hs : Rs G sv c.subs) (hs2 : Rs G va l) (w : World) (hG : Has G w) :
  Calls Try.prog 30 #[va, Value.agg #[Value.int .i64 c.h.k, Value.int .i64 (vi c.h.v0), Value.int .i64 c.h.n0, Value.int .i64 (vi c.h.v1), Value.int .i64 c.h.n1, Value.int .i64 (vi c.h.v2), Value.int .i64 c.h.n2, sv]] w (Ret fun r w' => ∃ G', GNew w nX G G' ∧ Has G' w' ∧ (∃ tv uv, r = Value.agg #[Value.int .i64 (stepOf l c).h.k, Value.int .i64 (stepOf l c).h.k0, Value.int .i64 (stepOf l c).h.k1, Value.int .i64 (stepOf l c).h.k2, tv, uv] ∧ SlL G' tv 3 tC t0 (stepOf l c).h.ts ∧ Ss G' uv (stepOf l c).subs) ∧ Since nX w w') := by
 refine enter (args := [_, _]) (X := nX) (G := G) (l := [(0, va), (1, Value.agg #[Value.int .i64 c.h.k, Value.int .i64 (vi c.h.v0), Value.int .i64 c.h.n0, Value.int .i64 (vi c.h.v1), Value.int .i64 c.h.n1, Value.int .i64 (vi c.h.v2), Value.int .i64 c.h.n2, sv])]) Try.func30 rfl Try.ntmps30 hG ⟨rfl, rfl, trivial⟩ (Nat.le_of_ble_eq_true rfl) ?_
 obtain ⟨rs, hr, hp, hl⟩ := hs.inv
 have hlen : c.subs.length = rs.length := by rw [hl]; simp
 have hbd := hr.bound
 have hrl := size_len hl (Nat.le_refl (size c))
 obtain ⟨rc, hrc, hpc, hlc⟩ := hs2.inv
 have hcl : l.length = rc.length := by rw [hlc]; simp
 refine c_seq ?_
 refine c_region ?_
 refine r_box .none rfl rfl (IsRow.lit _) (fun b_1 => ?_)
 refine r_alloc .none rfl zr90 (IsRow.lit _) (fun b_2 => ?_)
 refine r_nil ?_
 refine e_next ?_
 refine c_seq ?_
 refine c_region ?_
 refine r_val .none rfl (p_field Try.underlying85 rfl sz3 rfl) ?_
 refine r_val .none rfl (p_ld (k := 1) Try.underlying3 rfl rfl rfl (by first | exact of_decide_eq_true rfl | omega) (rfl : _ = Value.int _ _)) ?_
 refine r_val .none rfl (p_build (vs := [(0, Value.int _ _)]) rfl (bl90_0i1 _)) ?_
 refine r_alloc .none rfl zr90 (IsRow.lit _) (fun b_3 => ?_)
 refine r_stw (k := 0) .none sz90 rfl rfl (IsRow.lit _) (one_lit rfl rfl) rfl ?_
 refine r_nil ?_
 refine e_next ?_
 refine c_seq ?_
 refine c_seq ?_
 refine c_region ?_
 refine r_val .none rfl (p_field Try.underlying85 rfl sz3 rfl) ?_
 refine r_val .none rfl (p_ld (k := 2) Try.underlying3 rfl rfl rfl (by first | exact of_decide_eq_true rfl | omega) (rfl : _ = Value.int _ _)) ?_
 refine r_val .none rfl (p_eq rfl rfl) ?_
 refine r_nil ?_
 refine e_next ?_
 refine c_splitd (d := 18) rfl (fun h_1 => ?_) (fun h_1 => ?_)
 ·
  first
   | (exfalso; omega)
   | (
    refine c_cond_t rfl ?_
    refine c_seq ?_
    refine c_seq ?_
    refine c_region ?_
    refine r_val .none rfl (p_field Try.underlying85 rfl sz31 rfl) ?_
    refine r_val .none rfl (p_ld (k := 2) Try.underlying31 rfl rfl rfl (by first | exact of_decide_eq_true rfl | omega) rfl) ?_
    refine r_val .none rfl (p_leng Try.underlying31 rfl hr) ?_
    have bd_2 := (hr).bound
    refine r_val .none rfl (p_move rfl) ?_
    refine r_nil ?_
    refine e_next ?_
    refine c_block ?_
    refine c_nilrow 90 6 ?_
    refine c_name (d := 0) rfl (fun u_3 hu_3 => ?_)
    refine c_name (d := 3) rfl (fun u_4 hu_4 => ?_)
    refine c_name (d := 4) rfl (fun u_5 hu_5 => ?_)
    refine c_name (d := 5) rfl (fun u_6 hu_6 => ?_)
    refine c_name (d := 20) rfl (fun u_7 hu_7 => ?_)
    refine c_name (d := 21) rfl (fun u_8 hu_8 => ?_)
    refine c_nameL (k := 2) rfl (fun A_9 hA_9 => ?_)
    refine c_nameL (k := 3) rfl (fun A_10 hA_10 => ?_)
    refine c_loop (σ := Nat × Value × List SVal × Ghost) (fun s => [(22, Value.int .i64 (s.1 : Nat)), (0, u_3), (3, u_4), (4, u_5), (5, u_6), (20, u_7), (21, u_8)]) (fun s => [rowA (s.2.1) 90 6 (s.2.2.1).length ((s.2.2.1).flatMap sC), box b_3 6 90 (at_ [.int .i64 c.h.k, .int .i64 0, .int .i64 0, .int .i64 0, .slice none 0 0, s.2.1]), A_9, A_10]) (fun s => s.2.2.2) (fun s => s.1 ≤ rs.length ∧ s.2.2.1.map Prod.fst = stepsOf l ((rs.map Prod.fst).take s.1) ∧ (∀ p ∈ s.2.2.1, SlL s.2.2.2 p.2.1 3 tC t0 p.1.h.ts) ∧ (∀ p ∈ s.2.2.1, Ss s.2.2.2 p.2.2 p.1.subs) ∧ GNew w nX G s.2.2.2) (fun s => rs.length - s.1) ((0, _, [], _)) ⟨Nat.zero_le _, rfl, by simp, by simp, GNew.refl _ _ _⟩ rfl ⟨rfl, rfl, rfl, rfl, rfl, rfl, rfl, trivial⟩ (.keep (fun _ _ h => rowA_nil rfl _ _ h) (.keep (fun _ _ h => box_congr (fun i hi => by match i, hi with | 0, _ => rfl | 1, _ => rfl | 2, _ => rfl | 3, _ => rfl | 4, _ => rfl | 5, _ => rfl) _ _ h) (.keep (fun _ _ h => h) (.keep (fun _ _ h => h) (.nil))))) (fun s hphi => ?_)
    subst hu_3
    subst hu_4
    subst hu_5
    subst hu_6
    subst hu_7
    subst hu_8
    subst hA_9
    subst hA_10
    obtain ⟨k, v, qs, H⟩ := s
    obtain ⟨hk, hq, hqt, hqs, hgn⟩ := hphi
    dsimp only at hk hq hqt hqs hgn ⊢
    have hql : qs.length ≤ k := (by have := congrArg List.length hq; rw [stepsOf_len] at this; simp at this; omega)
    refine c_row1 (k := 0) rfl (fun ov => ?_)
    refine c_rowlen (k := 0) rfl (fun l63 => ?_)
    replace hrc := hrc.mono hgn.le
    replace hp := fun p hm0 => (hp p hm0).mono hgn.le
    replace hr := hr.mono hgn.le
    replace hpc := fun p hm0 => (hpc p hm0).mono hgn.le
    replace hs2 := hs2.mono hgn.le
    refine c_seq ?_
    refine c_region ?_
    refine r_val .none rfl (p_lt rfl rfl) ?_
    refine r_nil ?_
    refine e_next ?_
    refine c_seq ?_
    refine c_splitd (d := 23) rfl (fun h_11 => ?_) (fun h_11 => ?_)
    ·
     first
      | (exfalso; omega)
      | (
       refine c_cond_t rfl ?_
       refine c_skip ?_
       refine e_next ?_
       refine c_seq ?_
       refine c_block ?_
       refine c_seq ?_
       refine c_region ?_
       refine r_val .none rfl (p_move rfl) ?_
       refine r_iaddr_g .none rfl Try.underlying31 sz85 rfl hr rfl (by first | exact of_decide_eq_true rfl | omega) (fun p_13 o_14 R_12 => ?_)
       have hc_15 := hp _ (getD_mem (i := k) (d := d0) (by omega))
       have hz5 : (l ++ ((rs.map Prod.fst).take k)).length + size (rs.getD k d0).1 ≤ 1000 := by have h1 := sizeL_take (rs := rs) (k := k) (by omega); have h2 := sizeL_take_le (rs.map Prod.fst) (k + 1); have h3 := sizeL_len ((rs.map Prod.fst).take k); have h4 := size_eq c; rw [hl] at h4; rw [List.length_take, List.length_map] at h3; rw [List.length_append, List.length_take, List.length_map]; omega
       refine r_val .none rfl (p_ldga0 Try.underlying85 rfl sz85 rfl R_12 (by first | exact of_decide_eq_true rfl | omega) (rfl : _ = Value.agg #[_, _, _, _, _, _, _, _])) ?_
       refine r_alloc .none rfl zr85 (IsRow.lit _) (fun b_4 => ?_)
       refine r_val .none rfl (p_assign rfl) ?_
       refine r_stw (k := 0) .none sz85 rfl rfl (IsRow.lit _) (one_lit rfl (all_cons rfl (all_cons rfl (all_cons rfl (all_cons rfl (all_cons rfl (all_cons rfl (all_cons rfl (all_cons (hc_15).one rfl))))))))) rfl ?_
       refine r_nil ?_
       refine e_next ?_
       refine c_seq ?_
       refine c_region ?_
       refine r_val .none rfl (p_assign rfl) ?_
       refine r_nil ?_
       refine e_next ?_
       refine c_seq ?_
       refine c_region ?_
       refine r_val .none rfl (p_move rfl) ?_
       refine r_val .none rfl (p_move rfl) ?_
       refine r_nilrow 85 8 ?_
       refine r_append_g (k := 0) .none rfl Try.underlying31 el85 rfl (by decide) rfl rfl rfl hrc (rv_ones hpc) (by simp only [maxLen]; omega) (by omega) (fun v_16 => ?_)
       refine r_row1 (k := 0) rfl (fun o_17 => ?_)
       refine r_val .none rfl (p_assign rfl) ?_
       refine r_nil ?_
       refine e_next ?_
       refine c_seq ?_
       refine c_region ?_
       refine r_val .none rfl (p_move rfl) ?_
       refine r_val .none rfl (p_field Try.underlying85 rfl sz31 rfl) ?_
       refine r_val .none rfl (p_ld (k := 5) Try.underlying31 rfl rfl rfl (by first | exact of_decide_eq_true rfl | omega) rfl) ?_
       refine r_val .none rfl (p_move rfl) ?_
       refine r_slice0 (k) .none rfl Try.underlying31 sz85 rfl hr rfl (by first | exact of_decide_eq_true rfl | omega) (fun v_18 hs_19 => ?_)
       have hpt_21 := (Tr.take (by omega) hs_19 hp).1
       refine r_append_g (k := 0) .none rfl Try.underlying31 el85 rfl (by decide) rfl rfl rfl hpt_21 (rv_ones (fun p hm0 => hp p (List.mem_of_mem_take hm0))) (by rw [List.length_take]; simp only [maxLen]; omega) (by rw [List.length_take]; omega) (fun v_22 => ?_)
       refine r_row1 (k := 0) rfl (fun o_23 => ?_)
       refine r_freeze (k := 0) rfl (fun G_24 hn_25 hs_26 => ?_)
       replace hrc := hrc.mono hn_25.le
       replace hp := fun p hm0 => (hp p hm0).mono hn_25.le
       replace hr := hr.mono hn_25.le
       replace hpc := fun p hm0 => (hpc p hm0).mono hn_25.le
       replace hs2 := hs2.mono hn_25.le
       replace hqt := fun p hm0 => (hqt p hm0).mono hn_25.le
       replace hqs := fun p hm0 => (hqs p hm0).mono hn_25.le
       replace R_12 := R_12.mono hn_25.le
       replace hc_15 := hc_15.mono hn_25.le
       replace hs_19 := hs_19.mono hn_25.le
       replace hpt_21 := hpt_21.mono hn_25.le
       have hf_27 : SlL G_24 v_22 8 rvC d0 (rc ++ rs.take k) := SlL.of2 d0 (fun _ => rfl) (by simp) (by rw [List.nil_append, flat_all (cells := rvC) (fun _ => rfl), flat_all (cells := rvC) (fun _ => rfl), List.flatMap_append]) hs_26
       have hT_28 : Rs G_24 v_22 (l ++ ((rs.map Prod.fst).take k)) := by rw [hlc, ← List.map_take, ← List.map_append]; exact Tr.mk _ hf_27 (fun p hm0 => by rcases List.mem_append.1 hm0 with h | h; exact hpc p h; exact hp p (List.mem_of_mem_take h))
       refine r_val .none rfl (p_assign rfl) ?_
       refine r_nil ?_
       refine e_next ?_
       refine c_region_d (fun j => [6, 7, 8].contains j) _ mixed (.keep (fun _ _ h => h) (.keep (fun _ _ h => h) (.keep (fun _ _ h => h) (.keep (fun _ _ h => h) (.keep (fun _ _ h => h) (.nil)))))) ?_
       refine d_val1 0 rfl rfl (by kernel_rfl) (fun j hj => by have h : 8 < j := (Nat.lt_of_lt_of_le (by decide : 8 < 9) hj); simp; omega) .none rfl (p_field Try.underlying90 rfl sz29 rfl) ?_
       refine d_val1 1 rfl rfl (by kernel_rfl) (fun j hj => by have h : 8 < j := (Nat.lt_of_lt_of_le (by decide : 8 < 9) hj); simp; omega) .none rfl (p_ld (k := 2) Try.underlying29 rfl rfl rfl (by first | exact of_decide_eq_true rfl | omega) rfl) ?_
       refine d_val1 2 rfl rfl (by kernel_rfl) (fun j hj => by have h : 8 < j := (Nat.lt_of_lt_of_le (by decide : 8 < 9) hj); simp; omega) .none rfl (p_move rfl) ?_
       refine d_val1 3 rfl rfl (by kernel_rfl) (fun j hj => by have h : 8 < j := (Nat.lt_of_lt_of_le (by decide : 8 < 9) hj); simp; omega) .none rfl (p_ldw (k := 0) Try.underlying85 rfl sz85 rfl rfl (rfl : _ = Value.agg #[_, _, _, _, _, _, _, _])) ?_
       refine d_eff 4 rfl (by kernel_rfl) (fun K_29 hKK_29 hcK_29 => ?_)
       refine r_callm (vs := [_, _]) .none rfl cl30 rfl (fun w hw => ih (rs.getD k d0).1 _ _ _ _ w (size_at hl (by omega) hz) hz5 hc_15 hT_28 hw) (fun G_30 v_33 hn_31 hr_32 => ?_)
       replace hrc := hrc.mono hn_31.le
       replace hp := fun p hm0 => (hp p hm0).mono hn_31.le
       replace hr := hr.mono hn_31.le
       replace hpc := fun p hm0 => (hpc p hm0).mono hn_31.le
       replace hs2 := hs2.mono hn_31.le
       replace hqt := fun p hm0 => (hqt p hm0).mono hn_31.le
       replace hqs := fun p hm0 => (hqs p hm0).mono hn_31.le
       replace R_12 := R_12.mono hn_31.le
       replace hc_15 := hc_15.mono hn_31.le
       replace hs_19 := hs_19.mono hn_31.le
       replace hpt_21 := hpt_21.mono hn_31.le
       replace hT_28 := hT_28.mono hn_31.le
       obtain ⟨u_34a, u_34b, rfl, u_34s, u_34t⟩ := hr_32
       refine r_nil (e_d (i := 4) (brk := (fun j => [6, 7, 8].contains j)) (ph' := true) hKK_29 hcK_29 rfl (fun _ => hn_31.le) (fun _ => .keep (fun _ _ h => h) (.keep (fun _ _ h => h) (.keep (fun _ _ h => h) (.keep (fun _ _ h => h) (.keep (fun _ _ h => h) (.nil)))))) ?_)
       clear hKK_29 hcK_29 K_29
       refine d_eff 5 rfl (by kernel_rfl) (fun K_35 hKK_35 hcK_35 => ?_)
       refine r_bslice (vs := [(0, Value.agg #[_, _, _, _, _, _])]) (c := #[_, _, _, _, _, _]) .none rfl Try.underlying29 el90 rfl rfl rfl (bs90_10a6 _ _ _ _ _ _) (IsRow.lit _) (fun b_5 => ?_)
       refine r_nil (e_d (i := 5) (brk := (fun j => [6, 7, 8].contains j)) (ph' := true) hKK_35 hcK_35 rfl (fun _ => hn_31.le) (fun _ => .drop (.keep (fun _ _ h => h) (.keep (fun _ _ h => h) (.keep (fun _ _ h => h) (.keep (fun _ _ h => h) (.keep (fun _ _ h => h) (.nil))))))) ?_)
       clear hKK_35 hcK_35 K_35
       refine d_eff 6 rfl (by kernel_rfl) (fun K_36 hKK_36 hcK_36 => ?_)
       refine r_append (k := 2) (k2 := 0) .none rfl Try.underlying29 el90 rfl (by decide) rfl rfl rfl rfl rfl (one_lit rfl (all_cons rfl (all_cons rfl (all_cons rfl (all_cons rfl (all_cons (u_34s).one (all_cons (u_34t).one rfl))))))) (by simp only [maxLen]; omega) (by omega) (fun v_37 => ?_)
       refine r_row1 (k := 2) rfl (fun o_38 => ?_)
       refine r_nil (e_d (i := 6) (brk := (fun j => [6, 7, 8].contains j)) (ph' := false) hKK_36 hcK_36 rfl (fun h => by cases h) (fun h => by cases h) ?_)
       clear hKK_36 hcK_36 K_36
       refine d_val2 7 rfl rfl (by kernel_rfl) .none rfl (fun _ => p_field Try.underlying90 rfl sz29 rfl) ?_
       refine d_eff 8 rfl (by kernel_rfl) (fun K_39 hKK_39 hcK_39 => ?_)
       refine r_st (k := 3) .none sz29 rfl rfl o_38 rfl (by first | exact of_decide_eq_true rfl | omega) ?_
       refine r_nil (e_d (i := 8) (brk := (fun j => [6, 7, 8].contains j)) (ph' := false) hKK_39 hcK_39 rfl (fun h => by cases h) (fun h => by cases h) ?_)
       clear hKK_39 hcK_39 K_39
       refine d_nil (by kernel_rfl) ?_
       refine e_norm_block ?_
       refine e_next ?_
       refine c_region ?_
       refine r_val .none rfl (p_add rfl rfl (by omega)) ?_
       refine r_val .none rfl (p_move rfl) ?_
       refine r_nil ?_
       refine e_round ((k + 1, _, qs ++ [(stepOf (l ++ ((rs.map Prod.fst).take k)) (rs.getD k d0).1, u_34a, u_34b)], _)) ⟨⟨by dsimp only; omega, by rw [stepsOf_take (by omega), List.map_append, hq]; rfl, (fun p hp' => by rcases List.mem_append.1 hp' with h | h; exact hqt p h; rw [List.mem_singleton.1 h]; exact u_34s), (fun p hp' => by rcases List.mem_append.1 hp' with h | h; exact hqs p h; rw [List.mem_singleton.1 h]; exact u_34t), ((hgn.trans hn_25).trans hn_31)⟩, by dsimp only; omega⟩ rfl ⟨rfl, rfl, rfl, rfl, rfl, rfl, rfl, trivial⟩ (.drop (.drop (.keep (fun _ _ h => rowA_snoc (l := qs) (x := (stepOf (l ++ ((rs.map Prod.fst).take k)) (rs.getD k d0).1, u_34a, u_34b)) rfl rfl rfl rfl _ _ h) (.keep (fun _ _ h => box_congr (fun i hi => by match i, hi with | 0, _ => rfl | 1, _ => rfl | 2, _ => rfl | 3, _ => rfl | 4, _ => rfl | 5, _ => rfl) _ _ h) (.keep (fun _ _ h => h) (.keep (fun _ _ h => h) (.nil)))))))
       )
    ·
     first
      | (exfalso; omega)
      | (
       refine c_cond_f rfl ?_
       refine c_exit ?_
       refine e_exit_then ?_
       refine e_exit_then ?_
       refine e_exit_block ?_
       refine e_next ?_
       refine c_seq ?_
       refine c_region ?_
       refine r_val .none rfl (p_ldw (k := 1) Try.underlying90 rfl sz90 rfl rfl (rfl : _ = Value.agg #[_, _, _, _, _, _])) ?_
       refine r_stw (k := 2) .none sz90 rfl rfl (IsRow.lit _) (one_lit rfl (all_cons rfl (all_cons rfl (all_cons rfl (all_cons rfl (all_cons rfl (all_cons ov rfl))))))) rfl ?_
       refine r_nil ?_
       refine e_next ?_
       refine c_ret ?_
       refine e_ret_then ?_
       refine e_freeze (k := 0) rfl (fun G_40 hn_41 hs_42 => ?_)
       replace hrc := hrc.mono hn_41.le
       replace hp := fun p hm0 => (hp p hm0).mono hn_41.le
       replace hr := hr.mono hn_41.le
       replace hpc := fun p hm0 => (hpc p hm0).mono hn_41.le
       replace hs2 := hs2.mono hn_41.le
       replace hqt := fun p hm0 => (hqt p hm0).mono hn_41.le
       replace hqs := fun p hm0 => (hqs p hm0).mono hn_41.le
       refine e_ret1 Try.results30 (.cell (k := 1) rfl Try.underlying90 rfl sz90 rfl (rfl : _ = Value.agg #[_, _, _, _, _, _]) .nil) (fun w hm => ⟨_, (hgn.trans hn_41), hm.has, ?_, hm.since⟩)
       have hk2 : k = rs.length := by omega
       rw [stepOf_ncc (by omega)]
       refine ⟨_, _, rfl, SlG.nil _ _ _, ?_⟩
       show Ss _ _ (stepsOf l c.subs)
       rw [show stepsOf l c.subs = qs.map Prod.fst by rw [hq, hl, List.take_of_length_le (by simp; omega)]]
       exact Ss.mk qs (SlL.of s0 (fun _ => rfl) rfl hs_42) hqt hqs
       )
    )
 ·
  first
   | (exfalso; omega)
   | (
    refine c_cond_f rfl ?_
    refine c_skip ?_
    refine e_next ?_
    refine c_seq ?_
    refine c_seq ?_
    refine c_region ?_
    refine r_val .none rfl (p_assign rfl) ?_
    refine r_nil ?_
    refine e_next ?_
    refine c_block ?_
    refine c_nilrow 96 3 ?_
    refine c_name (d := 0) rfl (fun u_43 hu_43 => ?_)
    refine c_name (d := 3) rfl (fun u_44 hu_44 => ?_)
    refine c_name (d := 4) rfl (fun u_45 hu_45 => ?_)
    refine c_name (d := 5) rfl (fun u_46 hu_46 => ?_)
    refine c_nameL (k := 2) rfl (fun A_47 hA_47 => ?_)
    refine c_nameL (k := 3) rfl (fun A_48 hA_48 => ?_)
    refine c_loop (σ := Nat × Value) (fun s => [(9, Value.int .i64 (s.1 : Nat)), (0, u_43), (3, u_44), (4, u_45), (5, u_46)]) (fun s => [rowA (s.2) 96 3 ((testsTo l c.h s.1)).length (((testsTo l c.h s.1)).flatMap tC), box b_3 6 90 (at_ [.int .i64 c.h.k, .int .i64 (keyTo c.h s.1 0), .int .i64 (keyTo c.h s.1 1), .int .i64 (keyTo c.h s.1 2), s.2, .slice none 0 0]), A_47, A_48]) (fun _ => _) (fun s => s.1 ≤ 3) (fun s => 3 - s.1) ((0, _)) (by omega) rfl ⟨rfl, rfl, rfl, rfl, rfl, trivial⟩ (.keep (fun _ _ h => rowA_nil rfl _ _ h) (.keep (fun _ _ h => box_congr (fun i hi => by match i, hi with | 0, _ => rfl | 1, _ => rfl | 2, _ => rfl | 3, _ => rfl | 4, _ => rfl | 5, _ => rfl) _ _ h) (.keep (fun _ _ h => h) (.keep (fun _ _ h => h) (.nil))))) (fun s hphi => ?_)
    subst hu_43
    subst hu_44
    subst hu_45
    subst hu_46
    subst hA_47
    subst hA_48
    obtain ⟨f, v⟩ := s
    dsimp only at hphi ⊢
    refine c_row1 (k := 0) rfl (fun ov => ?_)
    refine c_rowlen (k := 0) rfl (fun l63 => ?_)
    obtain rfl | rfl | rfl | rfl : f = 0 ∨ f = 1 ∨ f = 2 ∨ f = 3 := by omega
    ·
     refine c_seq ?_
     refine c_seq ?_
     refine c_region ?_
     refine r_val .none rfl (p_move rfl) ?_
     refine r_val .none rfl (p_lt rfl rfl) ?_
     refine r_say (d := 47) (v := Value.bool true) rfl ?_
     refine r_nil ?_
     refine e_next ?_
     refine c_cond_t rfl ?_
     refine c_skip ?_
     refine e_next ?_
     refine c_seq ?_
     refine c_block ?_
     refine c_seq ?_
     refine c_seq ?_
     refine c_region ?_
     refine r_val .none rfl (p_move rfl) ?_
     refine r_val .none rfl (p_field Try.underlying85 rfl sz83 rfl) ?_
     refine r_val .none rfl (p_iaddr (k := 0) Try.underlying83 sz82 rfl rfl (by first | exact of_decide_eq_true rfl | omega)) ?_
     refine r_val .none rfl (p_field Try.underlying82 rfl sz3 rfl) ?_
     refine r_val .none rfl (p_ld (k := 3) Try.underlying3 rfl rfl rfl (by first | exact of_decide_eq_true rfl | omega) (rfl : _ = Value.int _ _)) ?_
     refine r_val .none rfl (p_eq rfl rfl) ?_
     refine r_nil ?_
     refine e_next ?_
     refine c_splitd (d := 55) rfl (fun h_49 => ?_) (fun h_49 => ?_)
     ·
      have hv : vF c.h 0 = false := vF_no h_49
      first
       | (exfalso; omega)
       | (
        refine c_cond_t rfl ?_
        refine c_seq ?_
        refine c_region ?_
        refine r_val .none rfl (p_move rfl) ?_
        refine r_val .none rfl (p_move rfl) ?_
        refine r_val .none rfl (p_field Try.underlying85 rfl sz83 rfl) ?_
        refine r_val .none rfl (p_iaddr (k := 0) Try.underlying83 sz82 rfl rfl (by first | exact of_decide_eq_true rfl | omega)) ?_
        refine r_val .none rfl (p_field Try.underlying82 rfl sz3 rfl) ?_
        refine r_val .none rfl (p_ld (k := 3) Try.underlying3 rfl rfl rfl (by first | exact of_decide_eq_true rfl | omega) (rfl : _ = Value.int _ _)) ?_
        refine r_val .none rfl (p_field Try.underlying90 rfl sz46 rfl) ?_
        refine r_val .none rfl (p_iaddr (k := 0) Try.underlying46 sz3 rfl rfl (by first | exact of_decide_eq_true rfl | omega)) ?_
        refine r_st (k := 1) .none sz3 rfl rfl rfl rfl (by first | exact of_decide_eq_true rfl | omega) ?_
        refine r_nil ?_
        refine e_next ?_
        refine c_exit ?_
        refine e_exit_then ?_
        refine e_exit_block ?_
        refine e_next ?_
        refine c_region ?_
        refine r_val .none rfl (p_move rfl) ?_
        refine r_val .none rfl (p_add rfl rfl (by omega)) ?_
        refine r_val .none rfl (p_assign rfl) ?_
        refine r_nil ?_
        refine e_round ((1, _)) ⟨Nat.le_of_ble_eq_true rfl, Nat.le_of_ble_eq_true rfl⟩ rfl ⟨rfl, rfl, rfl, rfl, rfl, trivial⟩ (.keep (fun _ _ h => rowA_same (by show testsTo l c.h (0 + 1) = _; rw [testsTo_succ, (by first | exact T1 (by assumption) | exact T4 (by assumption) (by assumption) (dup0 _) : testF l c.h 0 = []), List.append_nil]) _ _ h) (.keep (fun _ _ h => box_congr (fun i hi => by match i, hi with | 0, _ => rfl | 1, _ => exact (by first | exact congrArg (Value.int .i64) (key_set (h := c.h) (f := 0) (by assumption)).symm | exact congrArg (Value.int .i64) ((show keyTo c.h 0 0 = 0 by simp [keyTo]).trans (key_not (h := c.h) (f := 0) (by assumption)).symm)) | 2, _ => exact congrArg (Value.int .i64) (key_else (h := c.h) (f := 0) (i := 1) (by decide)).symm | 3, _ => exact congrArg (Value.int .i64) (key_else (h := c.h) (f := 0) (i := 2) (by decide)).symm | 4, _ => rfl | 5, _ => rfl) _ _ h) (.keep (fun _ _ h => h) (.keep (fun _ _ h => h) (.nil)))))
        )
     ·
      have hv : vF c.h 0 = true := vF_yes h_49
      first
       | (exfalso; omega)
       | (
        refine c_cond_f rfl ?_
        refine c_skip ?_
        refine e_next ?_
        refine c_seq ?_
        refine c_region ?_
        refine r_val .none rfl (p_move rfl) ?_
        refine r_val .none rfl (p_move rfl) ?_
        refine r_val .none rfl (p_field Try.underlying85 rfl sz83 rfl) ?_
        refine r_val .none rfl (p_iaddr (k := 0) Try.underlying83 sz82 rfl rfl (by first | exact of_decide_eq_true rfl | omega)) ?_
        refine r_val .none rfl (p_field Try.underlying82 rfl sz3 rfl) ?_
        refine r_val .none rfl (p_ld (k := 3) Try.underlying3 rfl rfl rfl (by first | exact of_decide_eq_true rfl | omega) (rfl : _ = Value.int _ _)) ?_
        refine r_call (vs := [_, _]) .none rfl cl59 rfl (fun w hw => c_bound _ _ _ hs2 w hw) ?_
        refine r_val .none rfl (p_move rfl) ?_
        refine r_val .none rfl (p_extract rfl rfl) ?_
        refine r_val .none rfl (p_extract rfl rfl) ?_
        refine r_alloc .none rfl zr119 (IsRow.lit _) (fun b_6 => ?_)
        refine r_stw (k := 0) .none sz119 rfl rfl (IsRow.lit _) (one_lit rfl rfl) rfl ?_
        refine r_val .none rfl (p_assign rfl) ?_
        refine r_nil ?_
        refine e_next ?_
        refine c_seq ?_
        refine c_seq ?_
        refine c_region ?_
        refine r_val .none rfl (p_move rfl) ?_
        refine r_nil ?_
        refine e_next ?_
        refine c_split (d := 74) rfl (fun h_50 => ?_) (fun h_50 => ?_)
        ·
         have hb : (bound (nF c.h 0) l 0).isSome = true := h_50
         first
          | (exfalso; omega)
          | (
           refine c_cond_t rfl ?_
           refine c_seq ?_
           refine c_region ?_
           refine r_val .none rfl (p_field Try.underlying90 rfl sz88 rfl) ?_
           refine r_val .none rfl (p_ld (k := 2) Try.underlying88 rfl rfl rfl (by first | exact of_decide_eq_true rfl | omega) rfl) ?_
           refine r_val .none rfl (p_move rfl) ?_
           refine r_val .none rfl (p_field Try.underlying119 rfl sz3 rfl) ?_
           refine r_val .none rfl (p_ld (k := 0) Try.underlying3 rfl rfl rfl (by first | exact of_decide_eq_true rfl | omega) (rfl : _ = Value.int _ _)) ?_
           refine r_val .none rfl (p_field Try.underlying119 rfl sz3 rfl) ?_
           refine r_val .none rfl (p_ld (k := 0) Try.underlying3 rfl rfl rfl (by first | exact of_decide_eq_true rfl | omega) (rfl : _ = Value.int _ _)) ?_
           refine r_val .none rfl (p_build (vs := [(0, Value.int _ _), (1, Value.int _ _), (2, Value.int _ _)]) rfl (bl96_0i1_1i1_2i1 _ _ _)) ?_
           refine r_bslice (vs := [(0, Value.agg #[_, _, _])]) (c := #[_, _, _]) .none rfl Try.underlying88 el96 rfl rfl rfl (bs96_10a3 _ _ _) (IsRow.lit _) (fun b_7 => ?_)
           refine r_append (k := 2) (k2 := 0) .none rfl Try.underlying88 el96 rfl (by decide) rfl rfl rfl rfl rfl (one_lit rfl rfl) (by have q0 := testsTo_len l c.h 0; have q1 := testsTo_len l c.h 1; have q2 := testsTo_len l c.h 2; simp only [maxLen]; omega) (by have q0 := testsTo_len l c.h 0; have q1 := testsTo_len l c.h 1; have q2 := testsTo_len l c.h 2; omega) (fun v_51 => ?_)
           refine r_row1 (k := 2) rfl (fun o_52 => ?_)
           refine r_val .none rfl (p_field Try.underlying90 rfl sz88 rfl) ?_
           refine r_st (k := 3) .none sz88 rfl rfl o_52 rfl (by first | exact of_decide_eq_true rfl | omega) ?_
           refine r_nil ?_
           refine e_next ?_
           refine c_exit ?_
           refine e_exit_then ?_
           refine e_exit_block ?_
           refine e_next ?_
           refine c_region ?_
           refine r_val .none rfl (p_move rfl) ?_
           refine r_val .none rfl (p_add rfl rfl (by omega)) ?_
           refine r_val .none rfl (p_assign rfl) ?_
           refine r_nil ?_
           refine e_round ((1, _)) ⟨Nat.le_of_ble_eq_true rfl, Nat.le_of_ble_eq_true rfl⟩ rfl ⟨rfl, rfl, rfl, rfl, rfl, trivial⟩ (.drop (.drop (.keep (fun _ _ h => rowA_snoc (x := (((0 : Nat) : Int), ((bound (nF c.h 0) l 0).getD (0, 0)).1, ((bound (nF c.h 0) l 0).getD (0, 0)).2)) (by show testsTo l c.h (0 + 1) = _; rw [testsTo_succ, T2 (by assumption) (by assumption)]) rfl rfl rfl _ _ h) (.keep (fun _ _ h => box_congr (fun i hi => by match i, hi with | 0, _ => rfl | 1, _ => exact (by first | exact congrArg (Value.int .i64) (key_set (h := c.h) (f := 0) (by assumption)).symm | exact congrArg (Value.int .i64) ((show keyTo c.h 0 0 = 0 by simp [keyTo]).trans (key_not (h := c.h) (f := 0) (by assumption)).symm)) | 2, _ => exact congrArg (Value.int .i64) (key_else (h := c.h) (f := 0) (i := 1) (by decide)).symm | 3, _ => exact congrArg (Value.int .i64) (key_else (h := c.h) (f := 0) (i := 2) (by decide)).symm | 4, _ => rfl | 5, _ => rfl) _ _ h) (.keep (fun _ _ h => h) (.keep (fun _ _ h => h) (.nil)))))))
           )
        ·
         have hb : (bound (nF c.h 0) l 0).isSome = false := h_50
         first
          | (exfalso; omega)
          | (
           refine c_cond_f rfl ?_
           refine c_skip ?_
           refine e_next ?_
           refine c_seq ?_
           refine c_region ?_
           refine r_val .none rfl (p_assign rfl) ?_
           refine r_nil ?_
           refine e_next ?_
           refine c_block ?_
           refine c_unroll 3 ?_
           refine l_round (n := 2) ?_
           refine c_seq ?_
           refine c_seq ?_
           refine c_region ?_
           refine r_val .none rfl (p_move rfl) ?_
           refine r_val .none rfl (p_move rfl) ?_
           refine r_val .none rfl (p_lt rfl rfl) ?_
           refine r_say (d := 88) (v := Value.bool false) rfl ?_
           refine r_nil ?_
           refine e_next ?_
           refine c_cond_f rfl ?_
           refine c_exit ?_
           refine e_exit_then ?_
           refine e_exit_then ?_
           refine e_exit_block ?_
           refine e_norm_block ?_
           refine e_next ?_
           refine c_region ?_
           refine r_val .none rfl (p_move rfl) ?_
           refine r_val .none rfl (p_add rfl rfl (by omega)) ?_
           refine r_val .none rfl (p_assign rfl) ?_
           refine r_nil ?_
           refine e_round ((1, _)) ⟨Nat.le_of_ble_eq_true rfl, Nat.le_of_ble_eq_true rfl⟩ rfl ⟨rfl, rfl, rfl, rfl, rfl, trivial⟩ (.drop (.keep (fun _ _ h => rowA_same (by show testsTo l c.h (0 + 1) = _; rw [testsTo_succ, (by first | exact T1 (by assumption) | exact T4 (by assumption) (by assumption) (dup0 _) : testF l c.h 0 = []), List.append_nil]) _ _ h) (.keep (fun _ _ h => box_congr (fun i hi => by match i, hi with | 0, _ => rfl | 1, _ => exact (by first | exact congrArg (Value.int .i64) (key_set (h := c.h) (f := 0) (by assumption)).symm | exact congrArg (Value.int .i64) ((show keyTo c.h 0 0 = 0 by simp [keyTo]).trans (key_not (h := c.h) (f := 0) (by assumption)).symm)) | 2, _ => exact congrArg (Value.int .i64) (key_else (h := c.h) (f := 0) (i := 1) (by decide)).symm | 3, _ => exact congrArg (Value.int .i64) (key_else (h := c.h) (f := 0) (i := 2) (by decide)).symm | 4, _ => rfl | 5, _ => rfl) _ _ h) (.keep (fun _ _ h => h) (.keep (fun _ _ h => h) (.nil))))))
           )
        )
    ·
     refine c_seq ?_
     refine c_seq ?_
     refine c_region ?_
     refine r_val .none rfl (p_move rfl) ?_
     refine r_val .none rfl (p_lt rfl rfl) ?_
     refine r_say (d := 47) (v := Value.bool true) rfl ?_
     refine r_nil ?_
     refine e_next ?_
     refine c_cond_t rfl ?_
     refine c_skip ?_
     refine e_next ?_
     refine c_seq ?_
     refine c_block ?_
     refine c_seq ?_
     refine c_seq ?_
     refine c_region ?_
     refine r_val .none rfl (p_move rfl) ?_
     refine r_val .none rfl (p_field Try.underlying85 rfl sz83 rfl) ?_
     refine r_val .none rfl (p_iaddr (k := 1) Try.underlying83 sz82 rfl rfl (by first | exact of_decide_eq_true rfl | omega)) ?_
     refine r_val .none rfl (p_field Try.underlying82 rfl sz3 rfl) ?_
     refine r_val .none rfl (p_ld (k := 3) Try.underlying3 rfl rfl rfl (by first | exact of_decide_eq_true rfl | omega) (rfl : _ = Value.int _ _)) ?_
     refine r_val .none rfl (p_eq rfl rfl) ?_
     refine r_nil ?_
     refine e_next ?_
     refine c_splitd (d := 55) rfl (fun h_53 => ?_) (fun h_53 => ?_)
     ·
      have hv : vF c.h 1 = false := vF_no h_53
      first
       | (exfalso; omega)
       | (
        refine c_cond_t rfl ?_
        refine c_seq ?_
        refine c_region ?_
        refine r_val .none rfl (p_move rfl) ?_
        refine r_val .none rfl (p_move rfl) ?_
        refine r_val .none rfl (p_field Try.underlying85 rfl sz83 rfl) ?_
        refine r_val .none rfl (p_iaddr (k := 1) Try.underlying83 sz82 rfl rfl (by first | exact of_decide_eq_true rfl | omega)) ?_
        refine r_val .none rfl (p_field Try.underlying82 rfl sz3 rfl) ?_
        refine r_val .none rfl (p_ld (k := 3) Try.underlying3 rfl rfl rfl (by first | exact of_decide_eq_true rfl | omega) (rfl : _ = Value.int _ _)) ?_
        refine r_val .none rfl (p_field Try.underlying90 rfl sz46 rfl) ?_
        refine r_val .none rfl (p_iaddr (k := 1) Try.underlying46 sz3 rfl rfl (by first | exact of_decide_eq_true rfl | omega)) ?_
        refine r_st (k := 1) .none sz3 rfl rfl rfl rfl (by first | exact of_decide_eq_true rfl | omega) ?_
        refine r_nil ?_
        refine e_next ?_
        refine c_exit ?_
        refine e_exit_then ?_
        refine e_exit_block ?_
        refine e_next ?_
        refine c_region ?_
        refine r_val .none rfl (p_move rfl) ?_
        refine r_val .none rfl (p_add rfl rfl (by omega)) ?_
        refine r_val .none rfl (p_assign rfl) ?_
        refine r_nil ?_
        refine e_round ((2, _)) ⟨Nat.le_of_ble_eq_true rfl, Nat.le_of_ble_eq_true rfl⟩ rfl ⟨rfl, rfl, rfl, rfl, rfl, trivial⟩ (.keep (fun _ _ h => rowA_same (by show testsTo l c.h (1 + 1) = _; rw [testsTo_succ, (by first | exact T1 (by assumption) | exact T4 (by assumption) (by assumption) (dup1_no (by assumption)) : testF l c.h 1 = []), List.append_nil]) _ _ h) (.keep (fun _ _ h => box_congr (fun i hi => by match i, hi with | 0, _ => rfl | 1, _ => exact congrArg (Value.int .i64) (key_else (h := c.h) (f := 1) (i := 0) (by decide)).symm | 2, _ => exact (by first | exact congrArg (Value.int .i64) (key_set (h := c.h) (f := 1) (by assumption)).symm | exact congrArg (Value.int .i64) ((show keyTo c.h 1 1 = 0 by simp [keyTo]).trans (key_not (h := c.h) (f := 1) (by assumption)).symm)) | 3, _ => exact congrArg (Value.int .i64) (key_else (h := c.h) (f := 1) (i := 2) (by decide)).symm | 4, _ => rfl | 5, _ => rfl) _ _ h) (.keep (fun _ _ h => h) (.keep (fun _ _ h => h) (.nil)))))
        )
     ·
      have hv : vF c.h 1 = true := vF_yes h_53
      first
       | (exfalso; omega)
       | (
        refine c_cond_f rfl ?_
        refine c_skip ?_
        refine e_next ?_
        refine c_seq ?_
        refine c_region ?_
        refine r_val .none rfl (p_move rfl) ?_
        refine r_val .none rfl (p_move rfl) ?_
        refine r_val .none rfl (p_field Try.underlying85 rfl sz83 rfl) ?_
        refine r_val .none rfl (p_iaddr (k := 1) Try.underlying83 sz82 rfl rfl (by first | exact of_decide_eq_true rfl | omega)) ?_
        refine r_val .none rfl (p_field Try.underlying82 rfl sz3 rfl) ?_
        refine r_val .none rfl (p_ld (k := 3) Try.underlying3 rfl rfl rfl (by first | exact of_decide_eq_true rfl | omega) (rfl : _ = Value.int _ _)) ?_
        refine r_call (vs := [_, _]) .none rfl cl59 rfl (fun w hw => c_bound _ _ _ hs2 w hw) ?_
        refine r_val .none rfl (p_move rfl) ?_
        refine r_val .none rfl (p_extract rfl rfl) ?_
        refine r_val .none rfl (p_extract rfl rfl) ?_
        refine r_alloc .none rfl zr119 (IsRow.lit _) (fun b_8 => ?_)
        refine r_stw (k := 0) .none sz119 rfl rfl (IsRow.lit _) (one_lit rfl rfl) rfl ?_
        refine r_val .none rfl (p_assign rfl) ?_
        refine r_nil ?_
        refine e_next ?_
        refine c_seq ?_
        refine c_seq ?_
        refine c_region ?_
        refine r_val .none rfl (p_move rfl) ?_
        refine r_nil ?_
        refine e_next ?_
        refine c_split (d := 74) rfl (fun h_54 => ?_) (fun h_54 => ?_)
        ·
         have hb : (bound (nF c.h 1) l 0).isSome = true := h_54
         first
          | (exfalso; omega)
          | (
           refine c_cond_t rfl ?_
           refine c_seq ?_
           refine c_region ?_
           refine r_val .none rfl (p_field Try.underlying90 rfl sz88 rfl) ?_
           refine r_val .none rfl (p_ld (k := 2) Try.underlying88 rfl rfl rfl (by first | exact of_decide_eq_true rfl | omega) rfl) ?_
           refine r_val .none rfl (p_move rfl) ?_
           refine r_val .none rfl (p_field Try.underlying119 rfl sz3 rfl) ?_
           refine r_val .none rfl (p_ld (k := 0) Try.underlying3 rfl rfl rfl (by first | exact of_decide_eq_true rfl | omega) (rfl : _ = Value.int _ _)) ?_
           refine r_val .none rfl (p_field Try.underlying119 rfl sz3 rfl) ?_
           refine r_val .none rfl (p_ld (k := 0) Try.underlying3 rfl rfl rfl (by first | exact of_decide_eq_true rfl | omega) (rfl : _ = Value.int _ _)) ?_
           refine r_val .none rfl (p_build (vs := [(0, Value.int _ _), (1, Value.int _ _), (2, Value.int _ _)]) rfl (bl96_0i1_1i1_2i1 _ _ _)) ?_
           refine r_bslice (vs := [(0, Value.agg #[_, _, _])]) (c := #[_, _, _]) .none rfl Try.underlying88 el96 rfl rfl rfl (bs96_10a3 _ _ _) (IsRow.lit _) (fun b_9 => ?_)
           refine r_append (k := 2) (k2 := 0) .none rfl Try.underlying88 el96 rfl (by decide) rfl rfl rfl rfl rfl (one_lit rfl rfl) (by have q0 := testsTo_len l c.h 0; have q1 := testsTo_len l c.h 1; have q2 := testsTo_len l c.h 2; simp only [maxLen]; omega) (by have q0 := testsTo_len l c.h 0; have q1 := testsTo_len l c.h 1; have q2 := testsTo_len l c.h 2; omega) (fun v_55 => ?_)
           refine r_row1 (k := 2) rfl (fun o_56 => ?_)
           refine r_val .none rfl (p_field Try.underlying90 rfl sz88 rfl) ?_
           refine r_st (k := 3) .none sz88 rfl rfl o_56 rfl (by first | exact of_decide_eq_true rfl | omega) ?_
           refine r_nil ?_
           refine e_next ?_
           refine c_exit ?_
           refine e_exit_then ?_
           refine e_exit_block ?_
           refine e_next ?_
           refine c_region ?_
           refine r_val .none rfl (p_move rfl) ?_
           refine r_val .none rfl (p_add rfl rfl (by omega)) ?_
           refine r_val .none rfl (p_assign rfl) ?_
           refine r_nil ?_
           refine e_round ((2, _)) ⟨Nat.le_of_ble_eq_true rfl, Nat.le_of_ble_eq_true rfl⟩ rfl ⟨rfl, rfl, rfl, rfl, rfl, trivial⟩ (.drop (.drop (.keep (fun _ _ h => rowA_snoc (x := (((1 : Nat) : Int), ((bound (nF c.h 1) l 0).getD (0, 0)).1, ((bound (nF c.h 1) l 0).getD (0, 0)).2)) (by show testsTo l c.h (1 + 1) = _; rw [testsTo_succ, T2 (by assumption) (by assumption)]) rfl rfl rfl _ _ h) (.keep (fun _ _ h => box_congr (fun i hi => by match i, hi with | 0, _ => rfl | 1, _ => exact congrArg (Value.int .i64) (key_else (h := c.h) (f := 1) (i := 0) (by decide)).symm | 2, _ => exact (by first | exact congrArg (Value.int .i64) (key_set (h := c.h) (f := 1) (by assumption)).symm | exact congrArg (Value.int .i64) ((show keyTo c.h 1 1 = 0 by simp [keyTo]).trans (key_not (h := c.h) (f := 1) (by assumption)).symm)) | 3, _ => exact congrArg (Value.int .i64) (key_else (h := c.h) (f := 1) (i := 2) (by decide)).symm | 4, _ => rfl | 5, _ => rfl) _ _ h) (.keep (fun _ _ h => h) (.keep (fun _ _ h => h) (.nil)))))))
           )
        ·
         have hb : (bound (nF c.h 1) l 0).isSome = false := h_54
         first
          | (exfalso; omega)
          | (
           refine c_cond_f rfl ?_
           refine c_skip ?_
           refine e_next ?_
           refine c_seq ?_
           refine c_region ?_
           refine r_val .none rfl (p_assign rfl) ?_
           refine r_nil ?_
           refine e_next ?_
           refine c_block ?_
           refine c_unroll 3 ?_
           refine l_round (n := 2) ?_
           refine c_seq ?_
           refine c_seq ?_
           refine c_region ?_
           refine r_val .none rfl (p_move rfl) ?_
           refine r_val .none rfl (p_move rfl) ?_
           refine r_val .none rfl (p_lt rfl rfl) ?_
           refine r_say (d := 88) (v := Value.bool true) rfl ?_
           refine r_nil ?_
           refine e_next ?_
           refine c_cond_t rfl ?_
           refine c_skip ?_
           refine e_next ?_
           refine c_seq ?_
           refine c_block ?_
           refine c_seq ?_
           refine c_region_q mixed (by kernel_rfl) ?_
           refine q_val .none rfl (p_move rfl) ?_
           refine q_val .none rfl (p_field Try.underlying85 rfl sz83 rfl) ?_
           refine q_val .none rfl (p_iaddr (k := 0) Try.underlying83 sz82 rfl rfl (by first | exact of_decide_eq_true rfl | omega)) ?_
           refine q_val .none rfl (p_lda (k := 4) Try.underlying82 rfl sz82 rfl rfl (by first | exact of_decide_eq_true rfl | omega) (rfl : _ = Value.agg #[_, _])) ?_
           refine q_val .none rfl (p_move rfl) ?_
           refine q_val .none rfl (p_field Try.underlying85 rfl sz83 rfl) ?_
           refine q_val .none rfl (p_iaddr (k := 1) Try.underlying83 sz82 rfl rfl (by first | exact of_decide_eq_true rfl | omega)) ?_
           refine q_val .none rfl (p_lda (k := 4) Try.underlying82 rfl sz82 rfl rfl (by first | exact of_decide_eq_true rfl | omega) (rfl : _ = Value.agg #[_, _])) ?_
           refine q_val .none rfl (p_eqa rfl rfl (eq_flat Try.underlying82 rfl lf82 ef82 eg82 (.cons (.int Try.underlying3) (.cons (.int Try.underlying3) (.nil))) (.cons (.int Try.underlying3) (.cons (.int Try.underlying3) (.nil))))) ?_
           refine q_nil ?_
           refine e_next ?_
           refine c_split (d := 99) rfl (fun h_57 => ?_) (fun h_57 => ?_)
           ·
            first | have s0 : sameF c.h 0 1 = true := (same_cs c.h 0 1).symm.trans h_57 | have s1 : sameF c.h 1 1 = true := (same_cs c.h 1 1).symm.trans h_57
            first
             | (exfalso; omega)
             | (
              refine c_cond_t rfl ?_
              refine c_seq ?_
              refine c_region ?_
              refine r_val .none rfl (p_field Try.underlying90 rfl sz88 rfl) ?_
              refine r_val .none rfl (p_ld (k := 2) Try.underlying88 rfl rfl rfl (by first | exact of_decide_eq_true rfl | omega) rfl) ?_
              refine r_val .none rfl (p_move rfl) ?_
              refine r_val .none rfl (p_move rfl) ?_
              refine r_val .none rfl (p_build (vs := [(0, Value.int _ _), (1, Value.int _ _), (2, Value.int _ _)]) rfl (bl96_0i1_1i1_2i1 _ _ _)) ?_
              refine r_bslice (vs := [(0, Value.agg #[_, _, _])]) (c := #[_, _, _]) .none rfl Try.underlying88 el96 rfl rfl rfl (bs96_10a3 _ _ _) (IsRow.lit _) (fun b_10 => ?_)
              refine r_append (k := 2) (k2 := 0) .none rfl Try.underlying88 el96 rfl (by decide) rfl rfl rfl rfl rfl (one_lit rfl rfl) (by have q0 := testsTo_len l c.h 0; have q1 := testsTo_len l c.h 1; have q2 := testsTo_len l c.h 2; simp only [maxLen]; omega) (by have q0 := testsTo_len l c.h 0; have q1 := testsTo_len l c.h 1; have q2 := testsTo_len l c.h 2; omega) (fun v_58 => ?_)
              refine r_row1 (k := 2) rfl (fun o_59 => ?_)
              refine r_val .none rfl (p_field Try.underlying90 rfl sz88 rfl) ?_
              refine r_st (k := 3) .none sz88 rfl rfl o_59 rfl (by first | exact of_decide_eq_true rfl | omega) ?_
              refine r_nil ?_
              refine e_next ?_
              refine c_exit ?_
              refine e_exit_past rfl ?_
              refine e_exit_then ?_
              refine e_exit_then ?_
              refine e_exit_block ?_
              refine e_norm_block ?_
              refine e_next ?_
              refine c_region ?_
              refine r_val .none rfl (p_move rfl) ?_
              refine r_val .none rfl (p_add rfl rfl (by omega)) ?_
              refine r_val .none rfl (p_assign rfl) ?_
              refine r_nil ?_
              refine e_round ((2, _)) ⟨Nat.le_of_ble_eq_true rfl, Nat.le_of_ble_eq_true rfl⟩ rfl ⟨rfl, rfl, rfl, rfl, rfl, trivial⟩ (.drop (.drop (.keep (fun _ _ h => rowA_snoc (x := (((1 : Nat) : Int), -1, 0)) (by show testsTo l c.h (1 + 1) = _; rw [testsTo_succ, T3 (by assumption) (by assumption) (dup1_yes (by assumption))]) rfl rfl rfl _ _ h) (.keep (fun _ _ h => box_congr (fun i hi => by match i, hi with | 0, _ => rfl | 1, _ => exact congrArg (Value.int .i64) (key_else (h := c.h) (f := 1) (i := 0) (by decide)).symm | 2, _ => exact (by first | exact congrArg (Value.int .i64) (key_set (h := c.h) (f := 1) (by assumption)).symm | exact congrArg (Value.int .i64) ((show keyTo c.h 1 1 = 0 by simp [keyTo]).trans (key_not (h := c.h) (f := 1) (by assumption)).symm)) | 3, _ => exact congrArg (Value.int .i64) (key_else (h := c.h) (f := 1) (i := 2) (by decide)).symm | 4, _ => rfl | 5, _ => rfl) _ _ h) (.keep (fun _ _ h => h) (.keep (fun _ _ h => h) (.nil)))))))
              )
           ·
            first | have s0 : sameF c.h 0 1 = false := (same_cs c.h 0 1).symm.trans h_57 | have s1 : sameF c.h 1 1 = false := (same_cs c.h 1 1).symm.trans h_57
            first
             | (exfalso; omega)
             | (
              refine c_cond_f rfl ?_
              refine c_skip ?_
              refine e_norm_block ?_
              refine e_next ?_
              refine c_region ?_
              refine r_val .none rfl (p_move rfl) ?_
              refine r_val .none rfl (p_add rfl rfl (by omega)) ?_
              refine r_val .none rfl (p_assign rfl) ?_
              refine r_nil ?_
              refine e_again ?_
              refine l_round (n := 1) ?_
              refine c_seq ?_
              refine c_seq ?_
              refine c_region ?_
              refine r_val .none rfl (p_move rfl) ?_
              refine r_val .none rfl (p_move rfl) ?_
              refine r_val .none rfl (p_lt rfl rfl) ?_
              refine r_say (d := 88) (v := Value.bool false) rfl ?_
              refine r_nil ?_
              refine e_next ?_
              refine c_cond_f rfl ?_
              refine c_exit ?_
              refine e_exit_then ?_
              refine e_exit_then ?_
              refine e_exit_block ?_
              refine e_norm_block ?_
              refine e_next ?_
              refine c_region ?_
              refine r_val .none rfl (p_move rfl) ?_
              refine r_val .none rfl (p_add rfl rfl (by omega)) ?_
              refine r_val .none rfl (p_assign rfl) ?_
              refine r_nil ?_
              refine e_round ((2, _)) ⟨Nat.le_of_ble_eq_true rfl, Nat.le_of_ble_eq_true rfl⟩ rfl ⟨rfl, rfl, rfl, rfl, rfl, trivial⟩ (.drop (.keep (fun _ _ h => rowA_same (by show testsTo l c.h (1 + 1) = _; rw [testsTo_succ, (by first | exact T1 (by assumption) | exact T4 (by assumption) (by assumption) (dup1_no (by assumption)) : testF l c.h 1 = []), List.append_nil]) _ _ h) (.keep (fun _ _ h => box_congr (fun i hi => by match i, hi with | 0, _ => rfl | 1, _ => exact congrArg (Value.int .i64) (key_else (h := c.h) (f := 1) (i := 0) (by decide)).symm | 2, _ => exact (by first | exact congrArg (Value.int .i64) (key_set (h := c.h) (f := 1) (by assumption)).symm | exact congrArg (Value.int .i64) ((show keyTo c.h 1 1 = 0 by simp [keyTo]).trans (key_not (h := c.h) (f := 1) (by assumption)).symm)) | 3, _ => exact congrArg (Value.int .i64) (key_else (h := c.h) (f := 1) (i := 2) (by decide)).symm | 4, _ => rfl | 5, _ => rfl) _ _ h) (.keep (fun _ _ h => h) (.keep (fun _ _ h => h) (.nil))))))
              )
           )
        )
    ·
     refine c_seq ?_
     refine c_seq ?_
     refine c_region ?_
     refine r_val .none rfl (p_move rfl) ?_
     refine r_val .none rfl (p_lt rfl rfl) ?_
     refine r_say (d := 47) (v := Value.bool true) rfl ?_
     refine r_nil ?_
     refine e_next ?_
     refine c_cond_t rfl ?_
     refine c_skip ?_
     refine e_next ?_
     refine c_seq ?_
     refine c_block ?_
     refine c_seq ?_
     refine c_seq ?_
     refine c_region ?_
     refine r_val .none rfl (p_move rfl) ?_
     refine r_val .none rfl (p_field Try.underlying85 rfl sz83 rfl) ?_
     refine r_val .none rfl (p_iaddr (k := 2) Try.underlying83 sz82 rfl rfl (by first | exact of_decide_eq_true rfl | omega)) ?_
     refine r_val .none rfl (p_field Try.underlying82 rfl sz3 rfl) ?_
     refine r_val .none rfl (p_ld (k := 3) Try.underlying3 rfl rfl rfl (by first | exact of_decide_eq_true rfl | omega) (rfl : _ = Value.int _ _)) ?_
     refine r_val .none rfl (p_eq rfl rfl) ?_
     refine r_nil ?_
     refine e_next ?_
     refine c_splitd (d := 55) rfl (fun h_60 => ?_) (fun h_60 => ?_)
     ·
      have hv : vF c.h 2 = false := vF_no h_60
      first
       | (exfalso; omega)
       | (
        refine c_cond_t rfl ?_
        refine c_seq ?_
        refine c_region ?_
        refine r_val .none rfl (p_move rfl) ?_
        refine r_val .none rfl (p_move rfl) ?_
        refine r_val .none rfl (p_field Try.underlying85 rfl sz83 rfl) ?_
        refine r_val .none rfl (p_iaddr (k := 2) Try.underlying83 sz82 rfl rfl (by first | exact of_decide_eq_true rfl | omega)) ?_
        refine r_val .none rfl (p_field Try.underlying82 rfl sz3 rfl) ?_
        refine r_val .none rfl (p_ld (k := 3) Try.underlying3 rfl rfl rfl (by first | exact of_decide_eq_true rfl | omega) (rfl : _ = Value.int _ _)) ?_
        refine r_val .none rfl (p_field Try.underlying90 rfl sz46 rfl) ?_
        refine r_val .none rfl (p_iaddr (k := 2) Try.underlying46 sz3 rfl rfl (by first | exact of_decide_eq_true rfl | omega)) ?_
        refine r_st (k := 1) .none sz3 rfl rfl rfl rfl (by first | exact of_decide_eq_true rfl | omega) ?_
        refine r_nil ?_
        refine e_next ?_
        refine c_exit ?_
        refine e_exit_then ?_
        refine e_exit_block ?_
        refine e_next ?_
        refine c_region ?_
        refine r_val .none rfl (p_move rfl) ?_
        refine r_val .none rfl (p_add rfl rfl (by omega)) ?_
        refine r_val .none rfl (p_assign rfl) ?_
        refine r_nil ?_
        refine e_round ((3, _)) ⟨Nat.le_of_ble_eq_true rfl, Nat.le_of_ble_eq_true rfl⟩ rfl ⟨rfl, rfl, rfl, rfl, rfl, trivial⟩ (.keep (fun _ _ h => rowA_same (by show testsTo l c.h (2 + 1) = _; rw [testsTo_succ, (by first | exact T1 (by assumption) | exact T4 (by assumption) (by assumption) (dup2_no (by assumption) (by assumption)) : testF l c.h 2 = []), List.append_nil]) _ _ h) (.keep (fun _ _ h => box_congr (fun i hi => by match i, hi with | 0, _ => rfl | 1, _ => exact congrArg (Value.int .i64) (key_else (h := c.h) (f := 2) (i := 0) (by decide)).symm | 2, _ => exact congrArg (Value.int .i64) (key_else (h := c.h) (f := 2) (i := 1) (by decide)).symm | 3, _ => exact (by first | exact congrArg (Value.int .i64) (key_set (h := c.h) (f := 2) (by assumption)).symm | exact congrArg (Value.int .i64) ((show keyTo c.h 2 2 = 0 by simp [keyTo]).trans (key_not (h := c.h) (f := 2) (by assumption)).symm)) | 4, _ => rfl | 5, _ => rfl) _ _ h) (.keep (fun _ _ h => h) (.keep (fun _ _ h => h) (.nil)))))
        )
     ·
      have hv : vF c.h 2 = true := vF_yes h_60
      first
       | (exfalso; omega)
       | (
        refine c_cond_f rfl ?_
        refine c_skip ?_
        refine e_next ?_
        refine c_seq ?_
        refine c_region ?_
        refine r_val .none rfl (p_move rfl) ?_
        refine r_val .none rfl (p_move rfl) ?_
        refine r_val .none rfl (p_field Try.underlying85 rfl sz83 rfl) ?_
        refine r_val .none rfl (p_iaddr (k := 2) Try.underlying83 sz82 rfl rfl (by first | exact of_decide_eq_true rfl | omega)) ?_
        refine r_val .none rfl (p_field Try.underlying82 rfl sz3 rfl) ?_
        refine r_val .none rfl (p_ld (k := 3) Try.underlying3 rfl rfl rfl (by first | exact of_decide_eq_true rfl | omega) (rfl : _ = Value.int _ _)) ?_
        refine r_call (vs := [_, _]) .none rfl cl59 rfl (fun w hw => c_bound _ _ _ hs2 w hw) ?_
        refine r_val .none rfl (p_move rfl) ?_
        refine r_val .none rfl (p_extract rfl rfl) ?_
        refine r_val .none rfl (p_extract rfl rfl) ?_
        refine r_alloc .none rfl zr119 (IsRow.lit _) (fun b_11 => ?_)
        refine r_stw (k := 0) .none sz119 rfl rfl (IsRow.lit _) (one_lit rfl rfl) rfl ?_
        refine r_val .none rfl (p_assign rfl) ?_
        refine r_nil ?_
        refine e_next ?_
        refine c_seq ?_
        refine c_seq ?_
        refine c_region ?_
        refine r_val .none rfl (p_move rfl) ?_
        refine r_nil ?_
        refine e_next ?_
        refine c_split (d := 74) rfl (fun h_61 => ?_) (fun h_61 => ?_)
        ·
         have hb : (bound (nF c.h 2) l 0).isSome = true := h_61
         first
          | (exfalso; omega)
          | (
           refine c_cond_t rfl ?_
           refine c_seq ?_
           refine c_region ?_
           refine r_val .none rfl (p_field Try.underlying90 rfl sz88 rfl) ?_
           refine r_val .none rfl (p_ld (k := 2) Try.underlying88 rfl rfl rfl (by first | exact of_decide_eq_true rfl | omega) rfl) ?_
           refine r_val .none rfl (p_move rfl) ?_
           refine r_val .none rfl (p_field Try.underlying119 rfl sz3 rfl) ?_
           refine r_val .none rfl (p_ld (k := 0) Try.underlying3 rfl rfl rfl (by first | exact of_decide_eq_true rfl | omega) (rfl : _ = Value.int _ _)) ?_
           refine r_val .none rfl (p_field Try.underlying119 rfl sz3 rfl) ?_
           refine r_val .none rfl (p_ld (k := 0) Try.underlying3 rfl rfl rfl (by first | exact of_decide_eq_true rfl | omega) (rfl : _ = Value.int _ _)) ?_
           refine r_val .none rfl (p_build (vs := [(0, Value.int _ _), (1, Value.int _ _), (2, Value.int _ _)]) rfl (bl96_0i1_1i1_2i1 _ _ _)) ?_
           refine r_bslice (vs := [(0, Value.agg #[_, _, _])]) (c := #[_, _, _]) .none rfl Try.underlying88 el96 rfl rfl rfl (bs96_10a3 _ _ _) (IsRow.lit _) (fun b_12 => ?_)
           refine r_append (k := 2) (k2 := 0) .none rfl Try.underlying88 el96 rfl (by decide) rfl rfl rfl rfl rfl (one_lit rfl rfl) (by have q0 := testsTo_len l c.h 0; have q1 := testsTo_len l c.h 1; have q2 := testsTo_len l c.h 2; simp only [maxLen]; omega) (by have q0 := testsTo_len l c.h 0; have q1 := testsTo_len l c.h 1; have q2 := testsTo_len l c.h 2; omega) (fun v_62 => ?_)
           refine r_row1 (k := 2) rfl (fun o_63 => ?_)
           refine r_val .none rfl (p_field Try.underlying90 rfl sz88 rfl) ?_
           refine r_st (k := 3) .none sz88 rfl rfl o_63 rfl (by first | exact of_decide_eq_true rfl | omega) ?_
           refine r_nil ?_
           refine e_next ?_
           refine c_exit ?_
           refine e_exit_then ?_
           refine e_exit_block ?_
           refine e_next ?_
           refine c_region ?_
           refine r_val .none rfl (p_move rfl) ?_
           refine r_val .none rfl (p_add rfl rfl (by omega)) ?_
           refine r_val .none rfl (p_assign rfl) ?_
           refine r_nil ?_
           refine e_round ((3, _)) ⟨Nat.le_of_ble_eq_true rfl, Nat.le_of_ble_eq_true rfl⟩ rfl ⟨rfl, rfl, rfl, rfl, rfl, trivial⟩ (.drop (.drop (.keep (fun _ _ h => rowA_snoc (x := (((2 : Nat) : Int), ((bound (nF c.h 2) l 0).getD (0, 0)).1, ((bound (nF c.h 2) l 0).getD (0, 0)).2)) (by show testsTo l c.h (2 + 1) = _; rw [testsTo_succ, T2 (by assumption) (by assumption)]) rfl rfl rfl _ _ h) (.keep (fun _ _ h => box_congr (fun i hi => by match i, hi with | 0, _ => rfl | 1, _ => exact congrArg (Value.int .i64) (key_else (h := c.h) (f := 2) (i := 0) (by decide)).symm | 2, _ => exact congrArg (Value.int .i64) (key_else (h := c.h) (f := 2) (i := 1) (by decide)).symm | 3, _ => exact (by first | exact congrArg (Value.int .i64) (key_set (h := c.h) (f := 2) (by assumption)).symm | exact congrArg (Value.int .i64) ((show keyTo c.h 2 2 = 0 by simp [keyTo]).trans (key_not (h := c.h) (f := 2) (by assumption)).symm)) | 4, _ => rfl | 5, _ => rfl) _ _ h) (.keep (fun _ _ h => h) (.keep (fun _ _ h => h) (.nil)))))))
           )
        ·
         have hb : (bound (nF c.h 2) l 0).isSome = false := h_61
         first
          | (exfalso; omega)
          | (
           refine c_cond_f rfl ?_
           refine c_skip ?_
           refine e_next ?_
           refine c_seq ?_
           refine c_region ?_
           refine r_val .none rfl (p_assign rfl) ?_
           refine r_nil ?_
           refine e_next ?_
           refine c_block ?_
           refine c_unroll 3 ?_
           refine l_round (n := 2) ?_
           refine c_seq ?_
           refine c_seq ?_
           refine c_region ?_
           refine r_val .none rfl (p_move rfl) ?_
           refine r_val .none rfl (p_move rfl) ?_
           refine r_val .none rfl (p_lt rfl rfl) ?_
           refine r_say (d := 88) (v := Value.bool true) rfl ?_
           refine r_nil ?_
           refine e_next ?_
           refine c_cond_t rfl ?_
           refine c_skip ?_
           refine e_next ?_
           refine c_seq ?_
           refine c_block ?_
           refine c_seq ?_
           refine c_region_q mixed (by kernel_rfl) ?_
           refine q_val .none rfl (p_move rfl) ?_
           refine q_val .none rfl (p_field Try.underlying85 rfl sz83 rfl) ?_
           refine q_val .none rfl (p_iaddr (k := 0) Try.underlying83 sz82 rfl rfl (by first | exact of_decide_eq_true rfl | omega)) ?_
           refine q_val .none rfl (p_lda (k := 4) Try.underlying82 rfl sz82 rfl rfl (by first | exact of_decide_eq_true rfl | omega) (rfl : _ = Value.agg #[_, _])) ?_
           refine q_val .none rfl (p_move rfl) ?_
           refine q_val .none rfl (p_field Try.underlying85 rfl sz83 rfl) ?_
           refine q_val .none rfl (p_iaddr (k := 2) Try.underlying83 sz82 rfl rfl (by first | exact of_decide_eq_true rfl | omega)) ?_
           refine q_val .none rfl (p_lda (k := 4) Try.underlying82 rfl sz82 rfl rfl (by first | exact of_decide_eq_true rfl | omega) (rfl : _ = Value.agg #[_, _])) ?_
           refine q_val .none rfl (p_eqa rfl rfl (eq_flat Try.underlying82 rfl lf82 ef82 eg82 (.cons (.int Try.underlying3) (.cons (.int Try.underlying3) (.nil))) (.cons (.int Try.underlying3) (.cons (.int Try.underlying3) (.nil))))) ?_
           refine q_nil ?_
           refine e_next ?_
           refine c_split (d := 99) rfl (fun h_64 => ?_) (fun h_64 => ?_)
           ·
            first | have s0 : sameF c.h 0 2 = true := (same_cs c.h 0 2).symm.trans h_64 | have s1 : sameF c.h 1 2 = true := (same_cs c.h 1 2).symm.trans h_64
            first
             | (exfalso; omega)
             | (
              refine c_cond_t rfl ?_
              refine c_seq ?_
              refine c_region ?_
              refine r_val .none rfl (p_field Try.underlying90 rfl sz88 rfl) ?_
              refine r_val .none rfl (p_ld (k := 2) Try.underlying88 rfl rfl rfl (by first | exact of_decide_eq_true rfl | omega) rfl) ?_
              refine r_val .none rfl (p_move rfl) ?_
              refine r_val .none rfl (p_move rfl) ?_
              refine r_val .none rfl (p_build (vs := [(0, Value.int _ _), (1, Value.int _ _), (2, Value.int _ _)]) rfl (bl96_0i1_1i1_2i1 _ _ _)) ?_
              refine r_bslice (vs := [(0, Value.agg #[_, _, _])]) (c := #[_, _, _]) .none rfl Try.underlying88 el96 rfl rfl rfl (bs96_10a3 _ _ _) (IsRow.lit _) (fun b_13 => ?_)
              refine r_append (k := 2) (k2 := 0) .none rfl Try.underlying88 el96 rfl (by decide) rfl rfl rfl rfl rfl (one_lit rfl rfl) (by have q0 := testsTo_len l c.h 0; have q1 := testsTo_len l c.h 1; have q2 := testsTo_len l c.h 2; simp only [maxLen]; omega) (by have q0 := testsTo_len l c.h 0; have q1 := testsTo_len l c.h 1; have q2 := testsTo_len l c.h 2; omega) (fun v_65 => ?_)
              refine r_row1 (k := 2) rfl (fun o_66 => ?_)
              refine r_val .none rfl (p_field Try.underlying90 rfl sz88 rfl) ?_
              refine r_st (k := 3) .none sz88 rfl rfl o_66 rfl (by first | exact of_decide_eq_true rfl | omega) ?_
              refine r_nil ?_
              refine e_next ?_
              refine c_exit ?_
              refine e_exit_past rfl ?_
              refine e_exit_then ?_
              refine e_exit_then ?_
              refine e_exit_block ?_
              refine e_norm_block ?_
              refine e_next ?_
              refine c_region ?_
              refine r_val .none rfl (p_move rfl) ?_
              refine r_val .none rfl (p_add rfl rfl (by omega)) ?_
              refine r_val .none rfl (p_assign rfl) ?_
              refine r_nil ?_
              refine e_round ((3, _)) ⟨Nat.le_of_ble_eq_true rfl, Nat.le_of_ble_eq_true rfl⟩ rfl ⟨rfl, rfl, rfl, rfl, rfl, trivial⟩ (.drop (.drop (.keep (fun _ _ h => rowA_snoc (x := (((2 : Nat) : Int), -1, 0)) (by show testsTo l c.h (2 + 1) = _; rw [testsTo_succ, T3 (by assumption) (by assumption) (dup2_0 (by assumption))]) rfl rfl rfl _ _ h) (.keep (fun _ _ h => box_congr (fun i hi => by match i, hi with | 0, _ => rfl | 1, _ => exact congrArg (Value.int .i64) (key_else (h := c.h) (f := 2) (i := 0) (by decide)).symm | 2, _ => exact congrArg (Value.int .i64) (key_else (h := c.h) (f := 2) (i := 1) (by decide)).symm | 3, _ => exact (by first | exact congrArg (Value.int .i64) (key_set (h := c.h) (f := 2) (by assumption)).symm | exact congrArg (Value.int .i64) ((show keyTo c.h 2 2 = 0 by simp [keyTo]).trans (key_not (h := c.h) (f := 2) (by assumption)).symm)) | 4, _ => rfl | 5, _ => rfl) _ _ h) (.keep (fun _ _ h => h) (.keep (fun _ _ h => h) (.nil)))))))
              )
           ·
            first | have s0 : sameF c.h 0 2 = false := (same_cs c.h 0 2).symm.trans h_64 | have s1 : sameF c.h 1 2 = false := (same_cs c.h 1 2).symm.trans h_64
            first
             | (exfalso; omega)
             | (
              refine c_cond_f rfl ?_
              refine c_skip ?_
              refine e_norm_block ?_
              refine e_next ?_
              refine c_region ?_
              refine r_val .none rfl (p_move rfl) ?_
              refine r_val .none rfl (p_add rfl rfl (by omega)) ?_
              refine r_val .none rfl (p_assign rfl) ?_
              refine r_nil ?_
              refine e_again ?_
              refine l_round (n := 1) ?_
              refine c_seq ?_
              refine c_seq ?_
              refine c_region ?_
              refine r_val .none rfl (p_move rfl) ?_
              refine r_val .none rfl (p_move rfl) ?_
              refine r_val .none rfl (p_lt rfl rfl) ?_
              refine r_say (d := 88) (v := Value.bool true) rfl ?_
              refine r_nil ?_
              refine e_next ?_
              refine c_cond_t rfl ?_
              refine c_skip ?_
              refine e_next ?_
              refine c_seq ?_
              refine c_block ?_
              refine c_seq ?_
              refine c_region_q mixed (by kernel_rfl) ?_
              refine q_val .none rfl (p_move rfl) ?_
              refine q_val .none rfl (p_field Try.underlying85 rfl sz83 rfl) ?_
              refine q_val .none rfl (p_iaddr (k := 1) Try.underlying83 sz82 rfl rfl (by first | exact of_decide_eq_true rfl | omega)) ?_
              refine q_val .none rfl (p_lda (k := 4) Try.underlying82 rfl sz82 rfl rfl (by first | exact of_decide_eq_true rfl | omega) (rfl : _ = Value.agg #[_, _])) ?_
              refine q_val .none rfl (p_move rfl) ?_
              refine q_val .none rfl (p_field Try.underlying85 rfl sz83 rfl) ?_
              refine q_val .none rfl (p_iaddr (k := 2) Try.underlying83 sz82 rfl rfl (by first | exact of_decide_eq_true rfl | omega)) ?_
              refine q_val .none rfl (p_lda (k := 4) Try.underlying82 rfl sz82 rfl rfl (by first | exact of_decide_eq_true rfl | omega) (rfl : _ = Value.agg #[_, _])) ?_
              refine q_val .none rfl (p_eqa rfl rfl (eq_flat Try.underlying82 rfl lf82 ef82 eg82 (.cons (.int Try.underlying3) (.cons (.int Try.underlying3) (.nil))) (.cons (.int Try.underlying3) (.cons (.int Try.underlying3) (.nil))))) ?_
              refine q_nil ?_
              refine e_next ?_
              refine c_split (d := 99) rfl (fun h_67 => ?_) (fun h_67 => ?_)
              ·
               first | have s0 : sameF c.h 0 2 = true := (same_cs c.h 0 2).symm.trans h_67 | have s1 : sameF c.h 1 2 = true := (same_cs c.h 1 2).symm.trans h_67
               first
                | (exfalso; omega)
                | (
                 refine c_cond_t rfl ?_
                 refine c_seq ?_
                 refine c_region ?_
                 refine r_val .none rfl (p_field Try.underlying90 rfl sz88 rfl) ?_
                 refine r_val .none rfl (p_ld (k := 2) Try.underlying88 rfl rfl rfl (by first | exact of_decide_eq_true rfl | omega) rfl) ?_
                 refine r_val .none rfl (p_move rfl) ?_
                 refine r_val .none rfl (p_move rfl) ?_
                 refine r_val .none rfl (p_build (vs := [(0, Value.int _ _), (1, Value.int _ _), (2, Value.int _ _)]) rfl (bl96_0i1_1i1_2i1 _ _ _)) ?_
                 refine r_bslice (vs := [(0, Value.agg #[_, _, _])]) (c := #[_, _, _]) .none rfl Try.underlying88 el96 rfl rfl rfl (bs96_10a3 _ _ _) (IsRow.lit _) (fun b_14 => ?_)
                 refine r_append (k := 2) (k2 := 0) .none rfl Try.underlying88 el96 rfl (by decide) rfl rfl rfl rfl rfl (one_lit rfl rfl) (by have q0 := testsTo_len l c.h 0; have q1 := testsTo_len l c.h 1; have q2 := testsTo_len l c.h 2; simp only [maxLen]; omega) (by have q0 := testsTo_len l c.h 0; have q1 := testsTo_len l c.h 1; have q2 := testsTo_len l c.h 2; omega) (fun v_68 => ?_)
                 refine r_row1 (k := 2) rfl (fun o_69 => ?_)
                 refine r_val .none rfl (p_field Try.underlying90 rfl sz88 rfl) ?_
                 refine r_st (k := 3) .none sz88 rfl rfl o_69 rfl (by first | exact of_decide_eq_true rfl | omega) ?_
                 refine r_nil ?_
                 refine e_next ?_
                 refine c_exit ?_
                 refine e_exit_past rfl ?_
                 refine e_exit_then ?_
                 refine e_exit_then ?_
                 refine e_exit_block ?_
                 refine e_norm_block ?_
                 refine e_next ?_
                 refine c_region ?_
                 refine r_val .none rfl (p_move rfl) ?_
                 refine r_val .none rfl (p_add rfl rfl (by omega)) ?_
                 refine r_val .none rfl (p_assign rfl) ?_
                 refine r_nil ?_
                 refine e_round ((3, _)) ⟨Nat.le_of_ble_eq_true rfl, Nat.le_of_ble_eq_true rfl⟩ rfl ⟨rfl, rfl, rfl, rfl, rfl, trivial⟩ (.drop (.drop (.keep (fun _ _ h => rowA_snoc (x := (((2 : Nat) : Int), -1, 1)) (by show testsTo l c.h (2 + 1) = _; rw [testsTo_succ, T3 (by assumption) (by assumption) (dup2_1 (by assumption) (by assumption))]) rfl rfl rfl _ _ h) (.keep (fun _ _ h => box_congr (fun i hi => by match i, hi with | 0, _ => rfl | 1, _ => exact congrArg (Value.int .i64) (key_else (h := c.h) (f := 2) (i := 0) (by decide)).symm | 2, _ => exact congrArg (Value.int .i64) (key_else (h := c.h) (f := 2) (i := 1) (by decide)).symm | 3, _ => exact (by first | exact congrArg (Value.int .i64) (key_set (h := c.h) (f := 2) (by assumption)).symm | exact congrArg (Value.int .i64) ((show keyTo c.h 2 2 = 0 by simp [keyTo]).trans (key_not (h := c.h) (f := 2) (by assumption)).symm)) | 4, _ => rfl | 5, _ => rfl) _ _ h) (.keep (fun _ _ h => h) (.keep (fun _ _ h => h) (.nil)))))))
                 )
              ·
               first | have s0 : sameF c.h 0 2 = false := (same_cs c.h 0 2).symm.trans h_67 | have s1 : sameF c.h 1 2 = false := (same_cs c.h 1 2).symm.trans h_67
               first
                | (exfalso; omega)
                | (
                 refine c_cond_f rfl ?_
                 refine c_skip ?_
                 refine e_norm_block ?_
                 refine e_next ?_
                 refine c_region ?_
                 refine r_val .none rfl (p_move rfl) ?_
                 refine r_val .none rfl (p_add rfl rfl (by omega)) ?_
                 refine r_val .none rfl (p_assign rfl) ?_
                 refine r_nil ?_
                 refine e_again ?_
                 refine l_round (n := 0) ?_
                 refine c_seq ?_
                 refine c_seq ?_
                 refine c_region ?_
                 refine r_val .none rfl (p_move rfl) ?_
                 refine r_val .none rfl (p_move rfl) ?_
                 refine r_val .none rfl (p_lt rfl rfl) ?_
                 refine r_say (d := 88) (v := Value.bool false) rfl ?_
                 refine r_nil ?_
                 refine e_next ?_
                 refine c_cond_f rfl ?_
                 refine c_exit ?_
                 refine e_exit_then ?_
                 refine e_exit_then ?_
                 refine e_exit_block ?_
                 refine e_norm_block ?_
                 refine e_next ?_
                 refine c_region ?_
                 refine r_val .none rfl (p_move rfl) ?_
                 refine r_val .none rfl (p_add rfl rfl (by omega)) ?_
                 refine r_val .none rfl (p_assign rfl) ?_
                 refine r_nil ?_
                 refine e_round ((3, _)) ⟨Nat.le_of_ble_eq_true rfl, Nat.le_of_ble_eq_true rfl⟩ rfl ⟨rfl, rfl, rfl, rfl, rfl, trivial⟩ (.drop (.keep (fun _ _ h => rowA_same (by show testsTo l c.h (2 + 1) = _; rw [testsTo_succ, (by first | exact T1 (by assumption) | exact T4 (by assumption) (by assumption) (dup2_no (by assumption) (by assumption)) : testF l c.h 2 = []), List.append_nil]) _ _ h) (.keep (fun _ _ h => box_congr (fun i hi => by match i, hi with | 0, _ => rfl | 1, _ => exact congrArg (Value.int .i64) (key_else (h := c.h) (f := 2) (i := 0) (by decide)).symm | 2, _ => exact congrArg (Value.int .i64) (key_else (h := c.h) (f := 2) (i := 1) (by decide)).symm | 3, _ => exact (by first | exact congrArg (Value.int .i64) (key_set (h := c.h) (f := 2) (by assumption)).symm | exact congrArg (Value.int .i64) ((show keyTo c.h 2 2 = 0 by simp [keyTo]).trans (key_not (h := c.h) (f := 2) (by assumption)).symm)) | 4, _ => rfl | 5, _ => rfl) _ _ h) (.keep (fun _ _ h => h) (.keep (fun _ _ h => h) (.nil))))))
                 )
              )
           )
        )
    ·
     refine c_seq ?_
     refine c_seq ?_
     refine c_region ?_
     refine r_val .none rfl (p_move rfl) ?_
     refine r_val .none rfl (p_lt rfl rfl) ?_
     refine r_say (d := 47) (v := Value.bool false) rfl ?_
     refine r_nil ?_
     refine e_next ?_
     refine c_cond_f rfl ?_
     refine c_exit ?_
     refine e_exit_then ?_
     refine e_exit_then ?_
     refine e_exit_block ?_
     refine e_next ?_
     refine c_seq ?_
     refine c_region ?_
     refine r_val .none rfl (p_ldw (k := 1) Try.underlying90 rfl sz90 rfl rfl (rfl : _ = Value.agg #[_, _, _, _, _, _])) ?_
     refine r_stw (k := 2) .none sz90 rfl rfl (IsRow.lit _) (one_lit rfl (all_cons rfl (all_cons rfl (all_cons rfl (all_cons rfl (all_cons ov (all_cons rfl rfl))))))) rfl ?_
     refine r_nil ?_
     refine e_next ?_
     refine c_ret ?_
     refine e_freeze (k := 0) rfl (fun G_70 hn_71 hs_72 => ?_)
     replace hrc := hrc.mono hn_71.le
     replace hp := fun p hm0 => (hp p hm0).mono hn_71.le
     replace hr := hr.mono hn_71.le
     replace hpc := fun p hm0 => (hpc p hm0).mono hn_71.le
     replace hs2 := hs2.mono hn_71.le
     refine e_ret1 Try.results30 (.cell (k := 1) rfl Try.underlying90 rfl sz90 rfl (rfl : _ = Value.agg #[_, _, _, _, _, _]) .nil) (fun w hm => ⟨_, hn_71, hm.has, ?_, hm.since⟩)
     rw [stepOf_other (by omega)]
     exact ⟨_, _, rfl, SlL.of t0 (fun _ => rfl) rfl hs_72, Ss.nil⟩
    )
theorem c_of_n : ∀ n, OfIs n
 | 0 => fun c sv va l G w hz hch hs hs2 hG => absurd hz (by have := size_subs c; omega)
 | n + 1 => fun c sv va l G w hz hch hs hs2 hG => c_of_s n (c_of_n n) c sv va l hz hch hs hs2 w hG
theorem c_of (c : CT) (sv va : Value) (l : List CT) {G : Ghost} (hch : l.length + size c ≤ 1000) (hs : Rs G sv c.subs) (hs2 : Rs G va l) (w : World) (hG : Has G w) : Calls Try.prog 30 #[va, Value.agg #[Value.int .i64 c.h.k, Value.int .i64 (vi c.h.v0), Value.int .i64 c.h.n0, Value.int .i64 (vi c.h.v1), Value.int .i64 c.h.n1, Value.int .i64 (vi c.h.v2), Value.int .i64 c.h.n2, sv]] w (Ret fun r w' => ∃ G', GNew w nX G G' ∧ Has G' w' ∧ (∃ tv uv, r = Value.agg #[Value.int .i64 (stepOf l c).h.k, Value.int .i64 (stepOf l c).h.k0, Value.int .i64 (stepOf l c).h.k1, Value.int .i64 (stepOf l c).h.k2, tv, uv] ∧ SlL G' tv 3 tC t0 (stepOf l c).h.ts ∧ Ss G' uv (stepOf l c).subs) ∧ Since nX w w') := c_of_n _ c sv va l G w (Nat.le_refl _) hch hs hs2 hG
end Go.Proofs.Ytdkfdncbldngdaa

/- Walks: what Go functions of this chapter come to, each as a function on plain data; no condition but those that each theorem names. Printed by a program of this work (gen.py). -/
namespace Go.Proofs.Ytdkfdncbldngdaa
open Go.Gx Go.Gx.T3 Go.Gx.T4 Go.Gx.T3 Go.Gx.T8 Go.Gx.T4 Go.Gx.T3
theorem sz48 : SzIs Try.prog 48 1 := by
 unfold SzIs
 kernel_rfl
theorem sz50 : SzIs Try.prog 50 6 := by
 unfold SzIs
 kernel_rfl
theorem sz96 : SzIs Try.prog 96 3 := by
 unfold SzIs
 kernel_rfl
theorem zr50 : ZeroIs Try.prog 50 (Value.agg #[Value.int .i64 0, Value.int .i64 0, Value.int .i64 0, Value.int .i64 0, Value.slice none 0 0, Value.slice none 0 0]) := by
 unfold ZeroIs
 kernel_rfl
theorem zr96 : ZeroIs Try.prog 96 (Value.agg #[Value.int .i64 0, Value.int .i64 0, Value.int .i64 0]) := by
 unfold ZeroIs
 kernel_rfl
theorem cl13 : Callable Try.prog 13 := callable Try.func13 (by kernel_rfl) rfl
theorem bl50_0i1_1a3_3s3 (x0 : Int) (x1 : Value) (x2 : Value) (x3 : Value) (x4 : Option Addr) (x5 : Nat) (x6 : Nat) : Program.built Try.prog 50 [(0, Value.int .i64 x0), (1, Value.agg #[x1, x2, x3]), (3, Value.slice x4 x5 x6)] = some #[Value.int .i64 x0, x1, x2, x3, Value.slice none 0 0, Value.slice x4 x5 x6] := by
 kernel_rfl
theorem bl52_0i1_1i1_2i1 (x0 : Int) (x1 : Int) (x2 : Int) : Program.built Try.prog 52 [(0, Value.int .i64 x0), (1, Value.int .i64 x1), (2, Value.int .i64 x2)] = some #[Value.int .i64 x0, Value.int .i64 x1, Value.int .i64 x2] := by
 kernel_rfl
theorem bs50_10a6 (a0 a1 a2 a3 a4 a5 : Value) : Instr.fill (fun i => some (i * 6, 6)) ((Array.range (1 * 6)).map ((Value.agg #[Value.int .i64 0, Value.int .i64 0, Value.int .i64 0, Value.int .i64 0, Value.slice none 0 0, Value.slice none 0 0]).cells[· % (Value.agg #[Value.int .i64 0, Value.int .i64 0, Value.int .i64 0, Value.int .i64 0, Value.slice none 0 0, Value.slice none 0 0]).cells.size]!)) [(0, Value.agg #[a0, a1, a2, a3, a4, a5])] = some #[a0, a1, a2, a3, a4, a5] := by
 kernel_rfl
theorem bs52_10a3 (a0 a1 a2 : Value) : Instr.fill (fun i => some (i * 3, 3)) ((Array.range (1 * 3)).map ((Value.agg #[Value.int .i64 0, Value.int .i64 0, Value.int .i64 0]).cells[· % (Value.agg #[Value.int .i64 0, Value.int .i64 0, Value.int .i64 0]).cells.size]!)) [(0, Value.agg #[a0, a1, a2])] = some #[a0, a1, a2] := by
 kernel_rfl
theorem el50 : ElemIs Try.prog 50 6 80 (Value.agg #[Value.int .i64 0, Value.int .i64 0, Value.int .i64 0, Value.int .i64 0, Value.slice none 0 0, Value.slice none 0 0]) := by
 unfold ElemIs
 kernel_rfl
theorem el52 : ElemIs Try.prog 52 3 24 (Value.agg #[Value.int .i64 0, Value.int .i64 0, Value.int .i64 0]) := by
 unfold ElemIs
 kernel_rfl
def StepsIs (n : Nat) : Prop := ∀ (v : Value) (l : List ST) (G : Ghost) (w : World), SizeOf.sizeOf l ≤ n → sszL l ≤ 5000 → Ss G v l → Has G w → Calls Try.prog 13 #[v] w (Ret fun r w' => ∃ G', GNew w nX G G' ∧ Has G' w' ∧ Ss G' r l ∧ Since nX w w')
theorem c_compile (v : Value) (l : List CT) {G : Ghost} (hsz : sizeL l ≤ 1000) (hs : Rs G v l) (w : World) (hG : Has G w) :
  Calls Try.prog 10 #[v] w (Ret fun r w' => ∃ G', GNew w nX G G' ∧ Has G' w' ∧ Ss G' r (stepsOf [] l) ∧ Since nX w w') := by
 refine enter (args := [_]) (X := nX) (G := G) (l := [(0, v)]) Try.func10 rfl Try.ntmps10 hG ⟨rfl, trivial⟩ (Nat.le_of_ble_eq_true rfl) ?_
 obtain ⟨rs, hr, hp, rfl⟩ := hs.inv
 have hbd := hr.bound
 have hll := sizeL_len (rs.map Prod.fst)
 rw [List.length_map] at hll
 refine c_seq ?_
 refine c_region ?_
 refine r_val .none rfl (p_assign rfl) ?_
 refine r_nil ?_
 refine e_next ?_
 refine c_seq ?_
 refine c_region ?_
 refine r_val .none rfl (p_assign rfl) ?_
 refine r_nil ?_
 refine e_next ?_
 refine c_seq ?_
 refine c_seq ?_
 refine c_region ?_
 refine r_val .none rfl (p_move rfl) ?_
 refine r_val .none rfl (p_leng Try.underlying31 rfl hr) ?_
 have bd_1 := (hr).bound
 refine r_val .none rfl (p_move rfl) ?_
 refine r_nil ?_
 refine e_next ?_
 refine c_block ?_
 refine c_nilrow 90 6 ?_
 refine c_name (d := 0) rfl (fun u_2 hu_2 => ?_)
 refine c_name (d := 2) rfl (fun u_3 hu_3 => ?_)
 refine c_name (d := 6) rfl (fun u_4 hu_4 => ?_)
 refine c_name (d := 7) rfl (fun u_5 hu_5 => ?_)
 refine c_loop (σ := Nat × Value × List SVal × Ghost) (fun s => [(8, Value.int .i64 (s.1 : Nat)), (3, s.2.1), (0, u_2), (2, u_3), (6, u_4), (7, u_5)]) (fun s => [rowA (s.2.1) 90 6 (s.2.2.1).length ((s.2.2.1).flatMap sC)]) (fun s => s.2.2.2) (fun s => s.1 ≤ rs.length ∧ s.2.2.1.map Prod.fst = stepsOf [] ((rs.map Prod.fst).take s.1) ∧ (∀ p ∈ s.2.2.1, SlL s.2.2.2 p.2.1 3 tC t0 p.1.h.ts) ∧ (∀ p ∈ s.2.2.1, Ss s.2.2.2 p.2.2 p.1.subs) ∧ GNew w nX G s.2.2.2) (fun s => rs.length - s.1) ((0, _, [], _)) ⟨Nat.zero_le _, rfl, by simp, by simp, GNew.refl _ _ _⟩ rfl ⟨rfl, rfl, rfl, rfl, rfl, rfl, trivial⟩ (.keep (fun _ _ h => rowA_nil rfl _ _ h) (.nil)) (fun s hphi => ?_)
 subst hu_2
 subst hu_3
 subst hu_4
 subst hu_5
 obtain ⟨k, v, qs, H⟩ := s
 obtain ⟨hk, hq, hqt, hqs, hgn⟩ := hphi
 dsimp only at hk hq hqt hqs hgn ⊢
 have hql : qs.length ≤ k := (by have := congrArg List.length hq; rw [stepsOf_len] at this; simp at this; omega)
 replace hr := hr.mono hgn.le
 replace hp := fun p hm0 => (hp p hm0).mono hgn.le
 refine c_seq ?_
 refine c_region ?_
 refine r_val .none rfl (p_lt rfl rfl) ?_
 refine r_nil ?_
 refine e_next ?_
 refine c_seq ?_
 refine c_splitd (d := 9) rfl (fun h_6 => ?_) (fun h_6 => ?_)
 ·
  first
   | (exfalso; omega)
   | (
    refine c_cond_t rfl ?_
    refine c_skip ?_
    refine e_next ?_
    refine c_seq ?_
    refine c_block ?_
    refine c_seq ?_
    refine c_region ?_
    refine r_val .none rfl (p_move rfl) ?_
    refine r_iaddr_g .none rfl Try.underlying31 sz85 rfl hr rfl (by first | exact of_decide_eq_true rfl | omega) (fun p_8 o_9 R_7 => ?_)
    have hc_10 := hp _ (getD_mem (i := k) (d := d0) (by omega))
    have hz6 : ((rs.map Prod.fst).take k).length + size (rs.getD k d0).1 ≤ 1000 := by have h1 := sizeL_take (rs := rs) (k := k) (by omega); have h2 := sizeL_take_le (rs.map Prod.fst) (k + 1); have h3 := sizeL_len ((rs.map Prod.fst).take k); omega
    refine r_val .none rfl (p_ldga0 Try.underlying85 rfl sz85 rfl R_7 (by first | exact of_decide_eq_true rfl | omega) (rfl : _ = Value.agg #[_, _, _, _, _, _, _, _])) ?_
    refine r_alloc .none rfl zr85 (IsRow.lit _) (fun b_1 => ?_)
    refine r_val .none rfl (p_assign rfl) ?_
    refine r_stw (k := 0) .none sz85 rfl rfl (IsRow.lit _) (one_lit rfl (all_cons rfl (all_cons rfl (all_cons rfl (all_cons rfl (all_cons rfl (all_cons rfl (all_cons rfl (all_cons (hc_10).one rfl))))))))) rfl ?_
    refine r_nil ?_
    refine e_next ?_
    refine c_region_d (fun _ => false) _ mixed (.keep (fun _ _ h => h) (.drop (.nil))) ?_
    refine d_val1 0 rfl rfl (by kernel_rfl) (fun _ _ => rfl) .none rfl (p_move rfl) ?_
    refine d_val1 1 rfl rfl (by kernel_rfl) (fun _ _ => rfl) .none rfl (p_move rfl) ?_
    refine d_val1 2 rfl rfl (by kernel_rfl) (fun _ _ => rfl) .none rfl (p_move rfl) ?_
    refine d_slice0 3 k rfl rfl (by kernel_rfl) (fun _ _ => rfl) .none rfl Try.underlying31 sz85 rfl hr rfl (by first | exact of_decide_eq_true rfl | omega) (fun v_11 hs_12 => ?_)
    have hT_14 := Tr.take2 (by omega) hs_12 hp
    refine d_val1 4 rfl rfl (by kernel_rfl) (fun _ _ => rfl) .none rfl (p_ldw (k := 0) Try.underlying85 rfl sz85 rfl rfl (rfl : _ = Value.agg #[_, _, _, _, _, _, _, _])) ?_
    refine d_eff 5 rfl (by kernel_rfl) (fun K_15 hKK_15 hcK_15 => ?_)
    refine r_callm (vs := [_, _]) .none rfl cl30 rfl (fun w hw => c_of (rs.getD k d0).1 _ _ _ hz6 hc_10 hT_14 w hw) (fun G_16 v_19 hn_17 hr_18 => ?_)
    replace hr := hr.mono hn_17.le
    replace hp := fun p hm0 => (hp p hm0).mono hn_17.le
    replace hqt := fun p hm0 => (hqt p hm0).mono hn_17.le
    replace hqs := fun p hm0 => (hqs p hm0).mono hn_17.le
    replace R_7 := R_7.mono hn_17.le
    replace hc_10 := hc_10.mono hn_17.le
    replace hs_12 := hs_12.mono hn_17.le
    replace hT_14 := hT_14.mono hn_17.le
    obtain ⟨u_20a, u_20b, rfl, u_20s, u_20t⟩ := hr_18
    refine r_nil (e_d (i := 5) (brk := (fun _ => false)) (ph' := true) hKK_15 hcK_15 rfl (fun _ => hn_17.le) (fun _ => .keep (fun _ _ h => h) (.drop (.nil))) ?_)
    clear hKK_15 hcK_15 K_15
    refine d_eff 6 rfl (by kernel_rfl) (fun K_21 hKK_21 hcK_21 => ?_)
    refine r_bslice (vs := [(0, Value.agg #[_, _, _, _, _, _])]) (c := #[_, _, _, _, _, _]) .none rfl Try.underlying29 el90 rfl rfl rfl (bs90_10a6 _ _ _ _ _ _) (IsRow.lit _) (fun b_2 => ?_)
    refine r_nil (e_d (i := 6) (brk := (fun _ => false)) (ph' := true) hKK_21 hcK_21 rfl (fun _ => hn_17.le) (fun _ => .drop (.keep (fun _ _ h => h) (.drop (.nil)))) ?_)
    clear hKK_21 hcK_21 K_21
    refine d_eff 7 rfl (by kernel_rfl) (fun K_22 hKK_22 hcK_22 => ?_)
    refine r_append (k := 2) (k2 := 0) .none rfl Try.underlying29 el90 rfl (by decide) rfl rfl rfl rfl rfl (one_lit rfl (all_cons rfl (all_cons rfl (all_cons rfl (all_cons rfl (all_cons (u_20s).one (all_cons (u_20t).one rfl))))))) (by simp only [maxLen]; omega) (by omega) (fun v_23 => ?_)
    refine r_row1 (k := 2) rfl (fun o_24 => ?_)
    refine r_nil (e_d (i := 7) (brk := (fun _ => false)) (ph' := true) hKK_22 hcK_22 rfl (fun _ => hn_17.le) (fun _ => .drop (.keep (fun _ _ h => h) (.drop (.nil)))) ?_)
    clear hKK_22 hcK_22 K_22
    refine d_val1 8 rfl rfl (by kernel_rfl) (fun _ _ => rfl) .none rfl (p_assign rfl) ?_
    refine d_nil (by kernel_rfl) ?_
    refine e_norm_block ?_
    refine e_next ?_
    refine c_region ?_
    refine r_val .none rfl (p_add rfl rfl (by omega)) ?_
    refine r_val .none rfl (p_move rfl) ?_
    refine r_nil ?_
    refine e_round ((k + 1, _, qs ++ [(stepOf ((rs.map Prod.fst).take k) (rs.getD k d0).1, u_20a, u_20b)], _)) ⟨⟨by dsimp only; omega, by rw [stepsOf_take (by omega), List.map_append, hq, List.nil_append]; rfl, (fun p hp' => by rcases List.mem_append.1 hp' with h | h; exact hqt p h; rw [List.mem_singleton.1 h]; exact u_20s), (fun p hp' => by rcases List.mem_append.1 hp' with h | h; exact hqs p h; rw [List.mem_singleton.1 h]; exact u_20t), (hgn.trans hn_17)⟩, by dsimp only; omega⟩ rfl ⟨rfl, rfl, rfl, rfl, rfl, rfl, trivial⟩ (.drop (.drop (.keep (fun _ _ h => rowA_snoc (l := qs) (x := (stepOf ((rs.map Prod.fst).take k) (rs.getD k d0).1, u_20a, u_20b)) rfl rfl rfl rfl _ _ h) (.nil))))
    )
 ·
  first
   | (exfalso; omega)
   | (
    refine c_cond_f rfl ?_
    refine c_exit ?_
    refine e_exit_then ?_
    refine e_exit_then ?_
    refine e_exit_block ?_
    refine e_next ?_
    refine c_seq ?_
    refine c_region ?_
    refine r_val .none rfl (p_move rfl) ?_
    refine r_val .none rfl (p_assign rfl) ?_
    refine r_nil ?_
    refine e_next ?_
    refine c_ret ?_
    refine e_freeze (k := 0) rfl (fun G_25 hn_26 hs_27 => ?_)
    replace hr := hr.mono hn_26.le
    replace hp := fun p hm0 => (hp p hm0).mono hn_26.le
    replace hqt := fun p hm0 => (hqt p hm0).mono hn_26.le
    replace hqs := fun p hm0 => (hqs p hm0).mono hn_26.le
    refine e_ret1 Try.results10 (.tmp rfl .nil) (fun w hm => ⟨_, (hgn.trans hn_26), hm.has, ?_, hm.since⟩)
    rw [show stepsOf [] (rs.map Prod.fst) = qs.map Prod.fst by rw [hq, List.take_of_length_le (by simp; omega)]]
    exact Ss.mk qs (SlL.of s0 (fun _ => rfl) rfl hs_27) hqt hqs
    )
theorem c_steps_s (n : Nat) (ih : StepsIs n) (v : Value) (l : List ST) {G : Ghost} (hz : SizeOf.sizeOf l ≤ n + 1) (hsz : sszL l ≤ 5000) (hs : Ss G v l) (w : World) (hG : Has G w) :
  Calls Try.prog 13 #[v] w (Ret fun r w' => ∃ G', GNew w nX G G' ∧ Has G' w' ∧ Ss G' r l ∧ Since nX w w') := by
 refine enter (args := [_]) (X := nX) (G := G) (l := [(0, v)]) Try.func13 rfl Try.ntmps13 hG ⟨rfl, trivial⟩ (Nat.le_of_ble_eq_true rfl) ?_
 obtain ⟨rs, hr, hrt, hp, hl⟩ := hs.inv
 have hbd := hr.bound
 have hll := sszL_len l
 have hlr : l.length = rs.length := by rw [hl]; simp
 refine c_seq ?_
 refine c_region ?_
 refine r_val .none rfl (p_assign rfl) ?_
 refine r_nil ?_
 refine e_next ?_
 refine c_seq ?_
 refine c_region ?_
 refine r_val .none rfl (p_assign rfl) ?_
 refine r_nil ?_
 refine e_next ?_
 refine c_seq ?_
 refine c_seq ?_
 refine c_region ?_
 refine r_val .none rfl (p_move rfl) ?_
 refine r_val .none rfl (p_leng Try.underlying29 rfl hr) ?_
 have bd_1 := (hr).bound
 refine r_val .none rfl (p_move rfl) ?_
 refine r_nil ?_
 refine e_next ?_
 refine c_block ?_
 refine c_nilrow 50 6 ?_
 refine c_name (d := 2) rfl (fun u_2 hu_2 => ?_)
 refine c_name (d := 9) rfl (fun u_3 hu_3 => ?_)
 refine c_name (d := 10) rfl (fun u_4 hu_4 => ?_)
 refine c_loop (σ := Nat × Value × List SVal × Ghost) (fun s => [(11, Value.int .i64 (s.1 : Nat)), (3, s.2.1), (2, u_2), (9, u_3), (10, u_4)]) (fun s => [rowA (s.2.1) 50 6 (s.2.2.1).length ((s.2.2.1).flatMap sC)]) (fun s => s.2.2.2) (fun s => s.1 ≤ rs.length ∧ s.2.2.1.map Prod.fst = (rs.map Prod.fst).take s.1 ∧ (∀ p ∈ s.2.2.1, SlL s.2.2.2 p.2.1 3 tC t0 p.1.h.ts) ∧ (∀ p ∈ s.2.2.1, Ss s.2.2.2 p.2.2 p.1.subs) ∧ GNew w nX G s.2.2.2) (fun s => rs.length - s.1) ((0, _, [], _)) ⟨Nat.zero_le _, rfl, by simp, by simp, GNew.refl _ _ _⟩ rfl ⟨rfl, rfl, rfl, rfl, rfl, trivial⟩ (.keep (fun _ _ h => rowA_nil rfl _ _ h) (.nil)) (fun s hphi => ?_)
 subst hu_2
 subst hu_3
 subst hu_4
 obtain ⟨k, v, qs, H⟩ := s
 obtain ⟨hk, hq, hqt, hqs, hgn⟩ := hphi
 dsimp only at hk hq hqt hqs hgn ⊢
 have hql : qs.length ≤ k := (by have := congrArg List.length hq; simp at this; omega)
 replace hr := hr.mono hgn.le
 replace hrt := fun p hm0 => (hrt p hm0).mono hgn.le
 replace hp := fun p hm0 => (hp p hm0).mono hgn.le
 refine c_seq ?_
 refine c_region ?_
 refine r_val .none rfl (p_lt rfl rfl) ?_
 refine r_nil ?_
 refine e_next ?_
 refine c_seq ?_
 refine c_splitd (d := 12) rfl (fun h_5 => ?_) (fun h_5 => ?_)
 ·
  first
   | (exfalso; omega)
   | (
    refine c_cond_t rfl ?_
    refine c_skip ?_
    refine e_next ?_
    refine c_seq ?_
    refine c_block ?_
    refine c_seq ?_
    refine c_region ?_
    refine r_iaddr_g .none rfl Try.underlying29 sz90 rfl hr rfl (by first | exact of_decide_eq_true rfl | omega) (fun p_7 o_8 R_6 => ?_)
    have ht_9 := hrt _ (getD_mem (i := k) (d := s0) (by omega))
    have hc_10 := hp _ (getD_mem (i := k) (d := s0) (by omega))
    have hz7 := Nat.le_trans (sszL_mem (by rw [hl]; exact sv_mem (k := k) (by omega))) hsz
    rw [ssz_eq] at hz7
    refine r_val .none rfl (p_ldga0 Try.underlying90 rfl sz90 rfl R_6 (by first | exact of_decide_eq_true rfl | omega) (rfl : _ = Value.agg #[_, _, _, _, _, _])) ?_
    refine r_alloc .none rfl zr90 (IsRow.lit _) (fun b_1 => ?_)
    refine r_stw (k := 0) .none sz90 rfl rfl (IsRow.lit _) (one_lit rfl (all_cons rfl (all_cons rfl (all_cons rfl (all_cons rfl (all_cons (ht_9).one (all_cons (hc_10).one rfl))))))) rfl ?_
    refine r_nil ?_
    refine e_next ?_
    refine c_seq ?_
    refine c_region_d (fun _ => false) _ mixed (.keep (fun _ _ h => h) (.keep (fun _ _ h => h) (.nil))) ?_
    refine d_val1 0 rfl rfl (by kernel_rfl) (fun _ _ => rfl) .none rfl (p_field Try.underlying90 rfl sz3 rfl) ?_
    refine d_val1 1 rfl rfl (by kernel_rfl) (fun _ _ => rfl) .none rfl (p_ld (k := 0) Try.underlying3 rfl rfl rfl (by first | exact of_decide_eq_true rfl | omega) (rfl : _ = Value.int _ _)) ?_
    refine d_val1 2 rfl rfl (by kernel_rfl) (fun _ _ => rfl) .none rfl (p_field Try.underlying90 rfl sz46 rfl) ?_
    refine d_val1 3 rfl rfl (by kernel_rfl) (fun _ _ => rfl) .none rfl (p_lda (k := 0) Try.underlying46 rfl sz46 rfl rfl (by first | exact of_decide_eq_true rfl | omega) (rfl : _ = Value.agg #[_, _, _])) ?_
    refine d_val1 4 rfl rfl (by kernel_rfl) (fun _ _ => rfl) .none rfl (p_field Try.underlying90 rfl sz29 rfl) ?_
    refine d_val1 5 rfl rfl (by kernel_rfl) (fun _ _ => rfl) .none rfl (p_ld (k := 0) Try.underlying29 rfl rfl rfl (by first | exact of_decide_eq_true rfl | omega) rfl) ?_
    refine d_eff2 6 8 rfl rfl (by kernel_rfl) (fun K_11 hKK_11 hcK_11 => ?_) (fun K_11 hKK_11 hcK_11 => ?_)
    ·
     refine r_callm (vs := [_]) .none rfl cl13 rfl (fun w hw => ih _ _ _ w (sv_at hl (by omega) hz) (by omega) hc_10 hw) (fun G_12 v_15 hn_13 hr_14 => ?_)
     replace hr := hr.mono hn_13.le
     replace hrt := fun p hm0 => (hrt p hm0).mono hn_13.le
     replace hp := fun p hm0 => (hp p hm0).mono hn_13.le
     replace hqt := fun p hm0 => (hqt p hm0).mono hn_13.le
     replace hqs := fun p hm0 => (hqs p hm0).mono hn_13.le
     replace R_6 := R_6.mono hn_13.le
     replace ht_9 := ht_9.mono hn_13.le
     replace hc_10 := hc_10.mono hn_13.le
     have u_16 := hr_14
     refine r_nil (e_d (i := 6) (brk := (fun _ => false)) (ph' := true) hKK_11 hcK_11 rfl (fun _ => hn_13.le) (fun _ => .keep (fun _ _ h => h) (.keep (fun _ _ h => h) (.nil))) ?_)
     clear hKK_11 hcK_11 K_11
     obtain ⟨a_17, c_18, rfl⟩ := Ss.len u_16
     refine d_val1 7 rfl rfl (by kernel_rfl) (fun _ _ => rfl) .none rfl (p_build (vs := [(0, Value.int _ _), (1, Value.agg #[_, _, _]), (3, Value.slice _ _ _)]) rfl (bl50_0i1_1a3_3s3 _ _ _ _ _ _ _)) ?_
     refine d_eff 8 rfl (by kernel_rfl) (fun K_19 hKK_19 hcK_19 => ?_)
     refine r_alloc .none rfl zr50 (IsRow.lit _) (fun b_2 => ?_)
     refine r_nil (e_d (i := 8) (brk := (fun _ => false)) (ph' := true) hKK_19 hcK_19 rfl (fun _ => hn_13.le) (fun _ => .drop (.keep (fun _ _ h => h) (.keep (fun _ _ h => h) (.nil)))) ?_)
     clear hKK_19 hcK_19 K_19
     refine d_eff 9 rfl (by kernel_rfl) (fun K_20 hKK_20 hcK_20 => ?_)
     refine r_stw (k := 0) .none sz50 rfl rfl (IsRow.lit _) (one_lit rfl (all_cons rfl (all_cons rfl (all_cons rfl (all_cons rfl (all_cons rfl (all_cons (u_16).one rfl))))))) rfl ?_
     refine r_nil (e_d (i := 9) (brk := (fun _ => false)) (ph' := true) hKK_20 hcK_20 rfl (fun _ => hn_13.le) (fun _ => .drop (.keep (fun _ _ h => h) (.keep (fun _ _ h => h) (.nil)))) ?_)
     clear hKK_20 hcK_20 K_20
     refine d_nil (by kernel_rfl) ?_
     refine e_next ?_
     refine c_seq ?_
     refine c_seq ?_
     refine c_region ?_
     refine r_val .none rfl (p_field Try.underlying90 rfl sz88 rfl) ?_
     refine r_val .none rfl (p_ld (k := 1) Try.underlying88 rfl rfl rfl (by first | exact of_decide_eq_true rfl | omega) rfl) ?_
     refine r_val .none rfl (p_leng Try.underlying88 rfl ht_9) ?_
     have bd_21 := (ht_9).bound
     refine r_val .none rfl (p_move rfl) ?_
     refine r_nil ?_
     refine e_next ?_
     refine c_block ?_
     refine c_nilrow 52 3 ?_
     refine c_name (d := 2) rfl (fun u_22 hu_22 => ?_)
     refine c_name (d := 3) rfl (fun u_23 hu_23 => ?_)
     refine c_name (d := 5) rfl (fun u_24 hu_24 => ?_)
     refine c_name (d := 6) rfl (fun u_25 hu_25 => ?_)
     refine c_name (d := 9) rfl (fun u_26 hu_26 => ?_)
     refine c_name (d := 10) rfl (fun u_27 hu_27 => ?_)
     refine c_name (d := 11) rfl (fun u_28 hu_28 => ?_)
     refine c_name (d := 12) rfl (fun u_29 hu_29 => ?_)
     refine c_name (d := 13) rfl (fun u_30 hu_30 => ?_)
     refine c_name (d := 14) rfl (fun u_31 hu_31 => ?_)
     refine c_name (d := 15) rfl (fun u_32 hu_32 => ?_)
     refine c_name (d := 16) rfl (fun u_33 hu_33 => ?_)
     refine c_name (d := 17) rfl (fun u_34 hu_34 => ?_)
     refine c_name (d := 18) rfl (fun u_35 hu_35 => ?_)
     refine c_name (d := 19) rfl (fun u_36 hu_36 => ?_)
     refine c_name (d := 20) rfl (fun u_37 hu_37 => ?_)
     refine c_name (d := 21) rfl (fun u_38 hu_38 => ?_)
     refine c_name (d := 22) rfl (fun u_39 hu_39 => ?_)
     refine c_name (d := 23) rfl (fun u_40 hu_40 => ?_)
     refine c_name (d := 24) rfl (fun u_41 hu_41 => ?_)
     refine c_name (d := 25) rfl (fun u_42 hu_42 => ?_)
     refine c_nameL (k := 2) rfl (fun A_43 hA_43 => ?_)
     refine c_nameL (k := 3) rfl (fun A_44 hA_44 => ?_)
     refine c_loop (σ := Nat × Value) (fun s => [(26, Value.int .i64 (s.1 : Nat)), (2, u_22), (3, u_23), (5, u_24), (6, u_25), (9, u_26), (10, u_27), (11, u_28), (12, u_29), (13, u_30), (14, u_31), (15, u_32), (16, u_33), (17, u_34), (18, u_35), (19, u_36), (20, u_37), (21, u_38), (22, u_39), (23, u_40), (24, u_41), (25, u_42)]) (fun s => [rowA (s.2) 52 3 (((rs.getD k s0).1.h.ts.take s.1)).length ((((rs.getD k s0).1.h.ts.take s.1)).flatMap tC), box b_2 6 50 (at_ [.int .i64 (rs.getD k s0).1.h.k, .int .i64 (rs.getD k s0).1.h.k0, .int .i64 (rs.getD k s0).1.h.k1, .int .i64 (rs.getD k s0).1.h.k2, s.2, (.slice a_17 (rs.getD k s0).1.subs.length c_18)]), A_43, A_44]) (fun _ => _) (fun s => s.1 ≤ (rs.getD k s0).1.h.ts.length) (fun s => (rs.getD k s0).1.h.ts.length - s.1) ((0, _)) (Nat.zero_le _) rfl ⟨rfl, rfl, rfl, rfl, rfl, rfl, rfl, rfl, rfl, rfl, rfl, rfl, rfl, rfl, rfl, rfl, rfl, rfl, rfl, rfl, rfl, rfl, trivial⟩ (.keep (fun _ _ h => rowA_nil rfl _ _ h) (.keep (fun _ _ h => box_congr (fun i hi => by match i, hi with | 0, _ => rfl | 1, _ => rfl | 2, _ => rfl | 3, _ => rfl | 4, _ => rfl | 5, _ => rfl) _ _ h) (.keep (fun _ _ h => h) (.keep (fun _ _ h => h) (.nil))))) (fun s hphi => ?_)
     subst hu_22
     subst hu_23
     subst hu_24
     subst hu_25
     subst hu_26
     subst hu_27
     subst hu_28
     subst hu_29
     subst hu_30
     subst hu_31
     subst hu_32
     subst hu_33
     subst hu_34
     subst hu_35
     subst hu_36
     subst hu_37
     subst hu_38
     subst hu_39
     subst hu_40
     subst hu_41
     subst hu_42
     subst hA_43
     subst hA_44
     obtain ⟨j, u⟩ := s
     dsimp only at hphi ⊢
     refine c_row1 (k := 0) rfl (fun ov => ?_)
     refine c_rowlen (k := 0) rfl (fun l63 => ?_)
     refine c_seq ?_
     refine c_region ?_
     refine r_val .none rfl (p_lt rfl rfl) ?_
     refine r_nil ?_
     refine e_next ?_
     refine c_seq ?_
     refine c_splitd (d := 27) rfl (fun h_45 => ?_) (fun h_45 => ?_)
     ·
      first
       | (exfalso; omega)
       | (
        refine c_cond_t rfl ?_
        refine c_skip ?_
        refine e_next ?_
        refine c_seq ?_
        refine c_block ?_
        refine c_seq ?_
        refine c_region ?_
        refine r_iaddr_g .none rfl Try.underlying88 sz96 rfl ht_9 rfl (by first | exact of_decide_eq_true rfl | omega) (fun p_47 o_48 R_46 => ?_)
        refine r_val .none rfl (p_ldga0 Try.underlying96 rfl sz96 rfl R_46 (by first | exact of_decide_eq_true rfl | omega) (rfl : _ = Value.agg #[_, _, _])) ?_
        refine r_alloc .none rfl zr96 (IsRow.lit _) (fun b_3 => ?_)
        refine r_stw (k := 0) .none sz96 rfl rfl (IsRow.lit _) (one_lit rfl rfl) rfl ?_
        refine r_nil ?_
        refine e_next ?_
        refine c_region ?_
        refine r_val .none rfl (p_field Try.underlying50 rfl sz48 rfl) ?_
        refine r_val .none rfl (p_ld (k := 2) Try.underlying48 rfl rfl rfl (by first | exact of_decide_eq_true rfl | omega) rfl) ?_
        refine r_val .none rfl (p_field Try.underlying96 rfl sz3 rfl) ?_
        refine r_val .none rfl (p_ld (k := 0) Try.underlying3 rfl rfl rfl (by first | exact of_decide_eq_true rfl | omega) (rfl : _ = Value.int _ _)) ?_
        refine r_val .none rfl (p_field Try.underlying96 rfl sz3 rfl) ?_
        refine r_val .none rfl (p_ld (k := 0) Try.underlying3 rfl rfl rfl (by first | exact of_decide_eq_true rfl | omega) (rfl : _ = Value.int _ _)) ?_
        refine r_val .none rfl (p_field Try.underlying96 rfl sz3 rfl) ?_
        refine r_val .none rfl (p_ld (k := 0) Try.underlying3 rfl rfl rfl (by first | exact of_decide_eq_true rfl | omega) (rfl : _ = Value.int _ _)) ?_
        refine r_val .none rfl (p_build (vs := [(0, Value.int _ _), (1, Value.int _ _), (2, Value.int _ _)]) rfl (bl52_0i1_1i1_2i1 _ _ _)) ?_
        refine r_bslice (vs := [(0, Value.agg #[_, _, _])]) (c := #[_, _, _]) .none rfl Try.underlying48 el52 rfl rfl rfl (bs52_10a3 _ _ _) (IsRow.lit _) (fun b_4 => ?_)
        refine r_append (k := 2) (k2 := 0) .none rfl Try.underlying48 el52 rfl (by decide) rfl rfl rfl rfl rfl (one_lit rfl rfl) (by rw [List.length_take]; simp only [maxLen]; omega) (by rw [List.length_take]; omega) (fun v_49 => ?_)
        refine r_row1 (k := 2) rfl (fun o_50 => ?_)
        refine r_val .none rfl (p_field Try.underlying50 rfl sz48 rfl) ?_
        refine r_st (k := 3) .none sz48 rfl rfl o_50 rfl (by first | exact of_decide_eq_true rfl | omega) ?_
        refine r_nil ?_
        refine e_norm_block ?_
        refine e_next ?_
        refine c_region ?_
        refine r_val .none rfl (p_add rfl rfl (by omega)) ?_
        refine r_val .none rfl (p_move rfl) ?_
        refine r_nil ?_
        refine e_round ((j + 1, _)) ⟨by dsimp only; omega, by dsimp only; omega⟩ rfl ⟨rfl, rfl, rfl, rfl, rfl, rfl, rfl, rfl, rfl, rfl, rfl, rfl, rfl, rfl, rfl, rfl, rfl, rfl, rfl, rfl, rfl, rfl, trivial⟩ (.drop (.drop (.keep (fun _ _ h => rowA_snoc (ts_next (by omega)) rfl rfl rfl _ _ h) (.keep (fun _ _ h => box_congr (fun i hi => by match i, hi with | 0, _ => rfl | 1, _ => rfl | 2, _ => rfl | 3, _ => rfl | 4, _ => rfl | 5, _ => rfl) _ _ h) (.keep (fun _ _ h => h) (.keep (fun _ _ h => h) (.nil)))))))
        )
     ·
      first
       | (exfalso; omega)
       | (
        refine c_cond_f rfl ?_
        refine c_exit ?_
        refine e_exit_then ?_
        refine e_exit_then ?_
        refine e_exit_block ?_
        refine e_next ?_
        refine c_region ?_
        have hj2 : (rs.getD k s0).1.h.ts.take j = (rs.getD k s0).1.h.ts := List.take_of_length_le (by omega)
        refine r_freeze (k := 0) rfl (fun G_51 hn_52 hs_53 => ?_)
        replace hr := hr.mono hn_52.le
        replace hrt := fun p hm0 => (hrt p hm0).mono hn_52.le
        replace hp := fun p hm0 => (hp p hm0).mono hn_52.le
        replace hqt := fun p hm0 => (hqt p hm0).mono hn_52.le
        replace hqs := fun p hm0 => (hqs p hm0).mono hn_52.le
        replace R_6 := R_6.mono hn_52.le
        replace ht_9 := ht_9.mono hn_52.le
        replace hc_10 := hc_10.mono hn_52.le
        replace u_16 := u_16.mono hn_52.le
        have hts_54 : SlL G_51 u 3 tC t0 (rs.getD k s0).1.h.ts := SlL.of2 t0 (fun _ => rfl) (by rw [hj2]) (by rw [hj2]) hs_53
        refine r_val .none rfl (p_move rfl) ?_
        refine r_val .none rfl (p_ldw (k := 0) Try.underlying50 rfl sz50 rfl rfl (rfl : _ = Value.agg #[_, _, _, _, _, _])) ?_
        refine r_bslice (vs := [(0, Value.agg #[_, _, _, _, _, _])]) (c := #[_, _, _, _, _, _]) .none rfl Try.underlying35 el50 rfl rfl rfl (bs50_10a6 _ _ _ _ _ _) (IsRow.lit _) (fun b_5 => ?_)
        refine r_append (k := 3) (k2 := 0) .none rfl Try.underlying35 el50 rfl (by decide) rfl rfl rfl rfl rfl (one_lit rfl (all_cons rfl (all_cons rfl (all_cons rfl (all_cons rfl (all_cons (hts_54).one (all_cons (u_16).one rfl))))))) (by simp only [maxLen]; omega) (by omega) (fun v_55 => ?_)
        refine r_row1 (k := 3) rfl (fun o_56 => ?_)
        refine r_val .none rfl (p_assign rfl) ?_
        refine r_nil ?_
        refine e_norm_block ?_
        refine e_next ?_
        refine c_region ?_
        refine r_val .none rfl (p_add rfl rfl (by omega)) ?_
        refine r_val .none rfl (p_move rfl) ?_
        refine r_nil ?_
        refine e_round ((k + 1, _, qs ++ [((rs.getD k s0).1, u, (.slice a_17 (rs.getD k s0).1.subs.length c_18))], _)) ⟨⟨by dsimp only; omega, by rw [sv_take (by omega), List.map_append, hq]; rfl, (fun p hp' => by rcases List.mem_append.1 hp' with h | h; exact hqt p h; rw [List.mem_singleton.1 h]; exact hts_54), (fun p hp' => by rcases List.mem_append.1 hp' with h | h; exact hqs p h; rw [List.mem_singleton.1 h]; exact u_16), ((hgn.trans hn_13).trans hn_52)⟩, by dsimp only; omega⟩ rfl ⟨rfl, rfl, rfl, rfl, rfl, trivial⟩ (.drop (.drop (.drop (.keep (fun _ _ h => rowA_snoc (l := qs) (x := ((rs.getD k s0).1, u, (.slice a_17 (rs.getD k s0).1.subs.length c_18))) rfl rfl rfl rfl _ _ h) (.nil)))))
        )
    ·
     refine r_alloc .none rfl zr50 (IsRow.lit _) (fun b_6 => ?_)
     refine r_nil (e_d (i := 8) (brk := (fun _ => false)) (ph' := true) hKK_11 hcK_11 rfl (fun _ => GLe.refl _) (fun _ => .drop (.keep (fun _ _ h => h) (.keep (fun _ _ h => h) (.nil)))) ?_)
     clear hKK_11 hcK_11 K_11
     refine d_eff 6 rfl (by kernel_rfl) (fun K_57 hKK_57 hcK_57 => ?_)
     refine r_callm (vs := [_]) .none rfl cl13 rfl (fun w hw => ih _ _ _ w (sv_at hl (by omega) hz) (by omega) hc_10 hw) (fun G_58 v_61 hn_59 hr_60 => ?_)
     replace hr := hr.mono hn_59.le
     replace hrt := fun p hm0 => (hrt p hm0).mono hn_59.le
     replace hp := fun p hm0 => (hp p hm0).mono hn_59.le
     replace hqt := fun p hm0 => (hqt p hm0).mono hn_59.le
     replace hqs := fun p hm0 => (hqs p hm0).mono hn_59.le
     replace R_6 := R_6.mono hn_59.le
     replace ht_9 := ht_9.mono hn_59.le
     replace hc_10 := hc_10.mono hn_59.le
     have u_62 := hr_60
     refine r_nil (e_d (i := 6) (brk := (fun _ => false)) (ph' := true) hKK_57 hcK_57 rfl (fun _ => hn_59.le) (fun _ => .drop (.keep (fun _ _ h => h) (.keep (fun _ _ h => h) (.nil)))) ?_)
     clear hKK_57 hcK_57 K_57
     obtain ⟨a_63, c_64, rfl⟩ := Ss.len u_62
     refine d_val1 7 rfl rfl (by kernel_rfl) (fun _ _ => rfl) .none rfl (p_build (vs := [(0, Value.int _ _), (1, Value.agg #[_, _, _]), (3, Value.slice _ _ _)]) rfl (bl50_0i1_1a3_3s3 _ _ _ _ _ _ _)) ?_
     refine d_eff 9 rfl (by kernel_rfl) (fun K_65 hKK_65 hcK_65 => ?_)
     refine r_stw (k := 0) .none sz50 rfl rfl (IsRow.lit _) (one_lit rfl (all_cons rfl (all_cons rfl (all_cons rfl (all_cons rfl (all_cons rfl (all_cons (u_62).one rfl))))))) rfl ?_
     refine r_nil (e_d (i := 9) (brk := (fun _ => false)) (ph' := true) hKK_65 hcK_65 rfl (fun _ => hn_59.le) (fun _ => .drop (.keep (fun _ _ h => h) (.keep (fun _ _ h => h) (.nil)))) ?_)
     clear hKK_65 hcK_65 K_65
     refine d_nil (by kernel_rfl) ?_
     refine e_next ?_
     refine c_seq ?_
     refine c_seq ?_
     refine c_region ?_
     refine r_val .none rfl (p_field Try.underlying90 rfl sz88 rfl) ?_
     refine r_val .none rfl (p_ld (k := 1) Try.underlying88 rfl rfl rfl (by first | exact of_decide_eq_true rfl | omega) rfl) ?_
     refine r_val .none rfl (p_leng Try.underlying88 rfl ht_9) ?_
     have bd_66 := (ht_9).bound
     refine r_val .none rfl (p_move rfl) ?_
     refine r_nil ?_
     refine e_next ?_
     refine c_block ?_
     refine c_nilrow 52 3 ?_
     refine c_name (d := 2) rfl (fun u_67 hu_67 => ?_)
     refine c_name (d := 3) rfl (fun u_68 hu_68 => ?_)
     refine c_name (d := 5) rfl (fun u_69 hu_69 => ?_)
     refine c_name (d := 6) rfl (fun u_70 hu_70 => ?_)
     refine c_name (d := 9) rfl (fun u_71 hu_71 => ?_)
     refine c_name (d := 10) rfl (fun u_72 hu_72 => ?_)
     refine c_name (d := 11) rfl (fun u_73 hu_73 => ?_)
     refine c_name (d := 12) rfl (fun u_74 hu_74 => ?_)
     refine c_name (d := 13) rfl (fun u_75 hu_75 => ?_)
     refine c_name (d := 14) rfl (fun u_76 hu_76 => ?_)
     refine c_name (d := 15) rfl (fun u_77 hu_77 => ?_)
     refine c_name (d := 16) rfl (fun u_78 hu_78 => ?_)
     refine c_name (d := 17) rfl (fun u_79 hu_79 => ?_)
     refine c_name (d := 18) rfl (fun u_80 hu_80 => ?_)
     refine c_name (d := 19) rfl (fun u_81 hu_81 => ?_)
     refine c_name (d := 20) rfl (fun u_82 hu_82 => ?_)
     refine c_name (d := 21) rfl (fun u_83 hu_83 => ?_)
     refine c_name (d := 22) rfl (fun u_84 hu_84 => ?_)
     refine c_name (d := 23) rfl (fun u_85 hu_85 => ?_)
     refine c_name (d := 24) rfl (fun u_86 hu_86 => ?_)
     refine c_name (d := 25) rfl (fun u_87 hu_87 => ?_)
     refine c_nameL (k := 2) rfl (fun A_88 hA_88 => ?_)
     refine c_nameL (k := 3) rfl (fun A_89 hA_89 => ?_)
     refine c_loop (σ := Nat × Value) (fun s => [(26, Value.int .i64 (s.1 : Nat)), (2, u_67), (3, u_68), (5, u_69), (6, u_70), (9, u_71), (10, u_72), (11, u_73), (12, u_74), (13, u_75), (14, u_76), (15, u_77), (16, u_78), (17, u_79), (18, u_80), (19, u_81), (20, u_82), (21, u_83), (22, u_84), (23, u_85), (24, u_86), (25, u_87)]) (fun s => [rowA (s.2) 52 3 (((rs.getD k s0).1.h.ts.take s.1)).length ((((rs.getD k s0).1.h.ts.take s.1)).flatMap tC), box b_6 6 50 (at_ [.int .i64 (rs.getD k s0).1.h.k, .int .i64 (rs.getD k s0).1.h.k0, .int .i64 (rs.getD k s0).1.h.k1, .int .i64 (rs.getD k s0).1.h.k2, s.2, (.slice a_63 (rs.getD k s0).1.subs.length c_64)]), A_88, A_89]) (fun _ => _) (fun s => s.1 ≤ (rs.getD k s0).1.h.ts.length) (fun s => (rs.getD k s0).1.h.ts.length - s.1) ((0, _)) (Nat.zero_le _) rfl ⟨rfl, rfl, rfl, rfl, rfl, rfl, rfl, rfl, rfl, rfl, rfl, rfl, rfl, rfl, rfl, rfl, rfl, rfl, rfl, rfl, rfl, rfl, trivial⟩ (.keep (fun _ _ h => rowA_nil rfl _ _ h) (.keep (fun _ _ h => box_congr (fun i hi => by match i, hi with | 0, _ => rfl | 1, _ => rfl | 2, _ => rfl | 3, _ => rfl | 4, _ => rfl | 5, _ => rfl) _ _ h) (.keep (fun _ _ h => h) (.keep (fun _ _ h => h) (.nil))))) (fun s hphi => ?_)
     subst hu_67
     subst hu_68
     subst hu_69
     subst hu_70
     subst hu_71
     subst hu_72
     subst hu_73
     subst hu_74
     subst hu_75
     subst hu_76
     subst hu_77
     subst hu_78
     subst hu_79
     subst hu_80
     subst hu_81
     subst hu_82
     subst hu_83
     subst hu_84
     subst hu_85
     subst hu_86
     subst hu_87
     subst hA_88
     subst hA_89
     obtain ⟨j, u⟩ := s
     dsimp only at hphi ⊢
     refine c_row1 (k := 0) rfl (fun ov => ?_)
     refine c_rowlen (k := 0) rfl (fun l63 => ?_)
     refine c_seq ?_
     refine c_region ?_
     refine r_val .none rfl (p_lt rfl rfl) ?_
     refine r_nil ?_
     refine e_next ?_
     refine c_seq ?_
     refine c_splitd (d := 27) rfl (fun h_90 => ?_) (fun h_90 => ?_)
     ·
      first
       | (exfalso; omega)
       | (
        refine c_cond_t rfl ?_
        refine c_skip ?_
        refine e_next ?_
        refine c_seq ?_
        refine c_block ?_
        refine c_seq ?_
        refine c_region ?_
        refine r_iaddr_g .none rfl Try.underlying88 sz96 rfl ht_9 rfl (by first | exact of_decide_eq_true rfl | omega) (fun p_92 o_93 R_91 => ?_)
        refine r_val .none rfl (p_ldga0 Try.underlying96 rfl sz96 rfl R_91 (by first | exact of_decide_eq_true rfl | omega) (rfl : _ = Value.agg #[_, _, _])) ?_
        refine r_alloc .none rfl zr96 (IsRow.lit _) (fun b_7 => ?_)
        refine r_stw (k := 0) .none sz96 rfl rfl (IsRow.lit _) (one_lit rfl rfl) rfl ?_
        refine r_nil ?_
        refine e_next ?_
        refine c_region ?_
        refine r_val .none rfl (p_field Try.underlying50 rfl sz48 rfl) ?_
        refine r_val .none rfl (p_ld (k := 2) Try.underlying48 rfl rfl rfl (by first | exact of_decide_eq_true rfl | omega) rfl) ?_
        refine r_val .none rfl (p_field Try.underlying96 rfl sz3 rfl) ?_
        refine r_val .none rfl (p_ld (k := 0) Try.underlying3 rfl rfl rfl (by first | exact of_decide_eq_true rfl | omega) (rfl : _ = Value.int _ _)) ?_
        refine r_val .none rfl (p_field Try.underlying96 rfl sz3 rfl) ?_
        refine r_val .none rfl (p_ld (k := 0) Try.underlying3 rfl rfl rfl (by first | exact of_decide_eq_true rfl | omega) (rfl : _ = Value.int _ _)) ?_
        refine r_val .none rfl (p_field Try.underlying96 rfl sz3 rfl) ?_
        refine r_val .none rfl (p_ld (k := 0) Try.underlying3 rfl rfl rfl (by first | exact of_decide_eq_true rfl | omega) (rfl : _ = Value.int _ _)) ?_
        refine r_val .none rfl (p_build (vs := [(0, Value.int _ _), (1, Value.int _ _), (2, Value.int _ _)]) rfl (bl52_0i1_1i1_2i1 _ _ _)) ?_
        refine r_bslice (vs := [(0, Value.agg #[_, _, _])]) (c := #[_, _, _]) .none rfl Try.underlying48 el52 rfl rfl rfl (bs52_10a3 _ _ _) (IsRow.lit _) (fun b_8 => ?_)
        refine r_append (k := 2) (k2 := 0) .none rfl Try.underlying48 el52 rfl (by decide) rfl rfl rfl rfl rfl (one_lit rfl rfl) (by rw [List.length_take]; simp only [maxLen]; omega) (by rw [List.length_take]; omega) (fun v_94 => ?_)
        refine r_row1 (k := 2) rfl (fun o_95 => ?_)
        refine r_val .none rfl (p_field Try.underlying50 rfl sz48 rfl) ?_
        refine r_st (k := 3) .none sz48 rfl rfl o_95 rfl (by first | exact of_decide_eq_true rfl | omega) ?_
        refine r_nil ?_
        refine e_norm_block ?_
        refine e_next ?_
        refine c_region ?_
        refine r_val .none rfl (p_add rfl rfl (by omega)) ?_
        refine r_val .none rfl (p_move rfl) ?_
        refine r_nil ?_
        refine e_round ((j + 1, _)) ⟨by dsimp only; omega, by dsimp only; omega⟩ rfl ⟨rfl, rfl, rfl, rfl, rfl, rfl, rfl, rfl, rfl, rfl, rfl, rfl, rfl, rfl, rfl, rfl, rfl, rfl, rfl, rfl, rfl, rfl, trivial⟩ (.drop (.drop (.keep (fun _ _ h => rowA_snoc (ts_next (by omega)) rfl rfl rfl _ _ h) (.keep (fun _ _ h => box_congr (fun i hi => by match i, hi with | 0, _ => rfl | 1, _ => rfl | 2, _ => rfl | 3, _ => rfl | 4, _ => rfl | 5, _ => rfl) _ _ h) (.keep (fun _ _ h => h) (.keep (fun _ _ h => h) (.nil)))))))
        )
     ·
      first
       | (exfalso; omega)
       | (
        refine c_cond_f rfl ?_
        refine c_exit ?_
        refine e_exit_then ?_
        refine e_exit_then ?_
        refine e_exit_block ?_
        refine e_next ?_
        refine c_region ?_
        have hj2 : (rs.getD k s0).1.h.ts.take j = (rs.getD k s0).1.h.ts := List.take_of_length_le (by omega)
        refine r_freeze (k := 0) rfl (fun G_96 hn_97 hs_98 => ?_)
        replace hr := hr.mono hn_97.le
        replace hrt := fun p hm0 => (hrt p hm0).mono hn_97.le
        replace hp := fun p hm0 => (hp p hm0).mono hn_97.le
        replace hqt := fun p hm0 => (hqt p hm0).mono hn_97.le
        replace hqs := fun p hm0 => (hqs p hm0).mono hn_97.le
        replace R_6 := R_6.mono hn_97.le
        replace ht_9 := ht_9.mono hn_97.le
        replace hc_10 := hc_10.mono hn_97.le
        replace u_62 := u_62.mono hn_97.le
        have hts_99 : SlL G_96 u 3 tC t0 (rs.getD k s0).1.h.ts := SlL.of2 t0 (fun _ => rfl) (by rw [hj2]) (by rw [hj2]) hs_98
        refine r_val .none rfl (p_move rfl) ?_
        refine r_val .none rfl (p_ldw (k := 0) Try.underlying50 rfl sz50 rfl rfl (rfl : _ = Value.agg #[_, _, _, _, _, _])) ?_
        refine r_bslice (vs := [(0, Value.agg #[_, _, _, _, _, _])]) (c := #[_, _, _, _, _, _]) .none rfl Try.underlying35 el50 rfl rfl rfl (bs50_10a6 _ _ _ _ _ _) (IsRow.lit _) (fun b_9 => ?_)
        refine r_append (k := 3) (k2 := 0) .none rfl Try.underlying35 el50 rfl (by decide) rfl rfl rfl rfl rfl (one_lit rfl (all_cons rfl (all_cons rfl (all_cons rfl (all_cons rfl (all_cons (hts_99).one (all_cons (u_62).one rfl))))))) (by simp only [maxLen]; omega) (by omega) (fun v_100 => ?_)
        refine r_row1 (k := 3) rfl (fun o_101 => ?_)
        refine r_val .none rfl (p_assign rfl) ?_
        refine r_nil ?_
        refine e_norm_block ?_
        refine e_next ?_
        refine c_region ?_
        refine r_val .none rfl (p_add rfl rfl (by omega)) ?_
        refine r_val .none rfl (p_move rfl) ?_
        refine r_nil ?_
        refine e_round ((k + 1, _, qs ++ [((rs.getD k s0).1, u, (.slice a_63 (rs.getD k s0).1.subs.length c_64))], _)) ⟨⟨by dsimp only; omega, by rw [sv_take (by omega), List.map_append, hq]; rfl, (fun p hp' => by rcases List.mem_append.1 hp' with h | h; exact hqt p h; rw [List.mem_singleton.1 h]; exact hts_99), (fun p hp' => by rcases List.mem_append.1 hp' with h | h; exact hqs p h; rw [List.mem_singleton.1 h]; exact u_62), ((hgn.trans hn_59).trans hn_97)⟩, by dsimp only; omega⟩ rfl ⟨rfl, rfl, rfl, rfl, rfl, trivial⟩ (.drop (.drop (.drop (.keep (fun _ _ h => rowA_snoc (l := qs) (x := ((rs.getD k s0).1, u, (.slice a_63 (rs.getD k s0).1.subs.length c_64))) rfl rfl rfl rfl _ _ h) (.nil)))))
        )
    )
 ·
  first
   | (exfalso; omega)
   | (
    refine c_cond_f rfl ?_
    refine c_exit ?_
    refine e_exit_then ?_
    refine e_exit_then ?_
    refine e_exit_block ?_
    refine e_next ?_
    refine c_seq ?_
    refine c_region ?_
    refine r_val .none rfl (p_move rfl) ?_
    refine r_val .none rfl (p_assign rfl) ?_
    refine r_nil ?_
    refine e_next ?_
    refine c_ret ?_
    refine e_freeze (k := 0) rfl (fun G_102 hn_103 hs_104 => ?_)
    replace hr := hr.mono hn_103.le
    replace hrt := fun p hm0 => (hrt p hm0).mono hn_103.le
    replace hp := fun p hm0 => (hp p hm0).mono hn_103.le
    replace hqt := fun p hm0 => (hqt p hm0).mono hn_103.le
    replace hqs := fun p hm0 => (hqs p hm0).mono hn_103.le
    refine e_ret1 Try.results13 (.tmp rfl .nil) (fun w hm => ⟨_, (hgn.trans hn_103), hm.has, ?_, hm.since⟩)
    rw [show l = qs.map Prod.fst by rw [hq, hl, List.take_of_length_le (by simp; omega)]]
    exact Ss.mk qs (SlL.of s0 (fun _ => rfl) rfl hs_104) hqt hqs
    )
theorem c_steps_n : ∀ n, StepsIs n
 | 0 => fun v l G w hz hsz hs hG => absurd hz (by cases l <;> simp)
 | n + 1 => fun v l G w hz hsz hs hG => c_steps_s n (c_steps_n n) v l hz hsz hs w hG
theorem c_steps (v : Value) (l : List ST) {G : Ghost} (hsz : sszL l ≤ 5000) (hs : Ss G v l) (w : World) (hG : Has G w) : Calls Try.prog 13 #[v] w (Ret fun r w' => ∃ G', GNew w nX G G' ∧ Has G' w' ∧ Ss G' r l ∧ Since nX w w') := c_steps_n _ v l G w (Nat.le_refl _) hsz hs hG
end Go.Proofs.Ytdkfdncbldngdaa

/-
  GX: a range over a map of the call's own that stays as it is meanwhile. Generic in the program.
-/
namespace Go.Gx
open Go.RowKit Go.MapKept

section
variable {κ ν : Type} {ke : κ → Value} {ve : ν → Value}

def ranA (m r : Nat) (ke : κ → Value) (ve : ν → Value) (l lft : List (κ × ν)) : Asrt where
  holds w F := (∃ es clock since c0 seen, MapIs w m ke ve l es clock ∧ w.heap[r]? = some (.mapIter (some m) since seen c0) ∧ (∀ x ∈ es.toList, x.born < since) ∧ since ≤ c0 ∧ since ≤ clock ∧
    (es.toList.filter fun e => !seen.contains e.born).map kv = lft.map (enc ke ve)) ∧ ∀ b, F b ↔ b = m ∨ b = r
  frame := by
    rintro w w' F ⟨⟨es, c, s, c0, se, h1, h2, h3⟩, hF⟩ hk
    exact ⟨⟨es, c, s, c0, se, ⟨by rw [hk m ((hF m).2 (.inl rfl))]; exact h1.heap, h1.st, h1.eq⟩, by rw [hk r ((hF r).2 (.inr rfl))]; exact h2, h3⟩, hF⟩
  dom := by
    rintro w F b ⟨⟨es, c, s, c0, se, h1, h2, _⟩, hF⟩ hb
    rcases (hF b).1 hb with rfl | rfl
    · exact lt_of_heap h1.heap
    · exact lt_of_heap h2

/-- The same, just behind a step that yielded p. -/
def ranE (m r : Nat) (ke : κ → Value) (ve : ν → Value) (l lft : List (κ × ν)) (p : κ × ν) : Asrt where
  holds w F := (∃ es clock since seen, MapIs w m ke ve l es clock ∧ w.heap[r]? = some (.mapIter (some m) since seen clock) ∧ (∀ x ∈ es.toList, x.born < since) ∧ since ≤ clock ∧
    (es.toList.filter fun e => !seen.contains e.born).map kv = lft.map (enc ke ve) ∧ ∃ e ∈ es.toList, ∃ s0 : Array Nat, seen = s0.push e.born ∧ kv e = enc ke ve p) ∧ ∀ b, F b ↔ b = m ∨ b = r
  frame := by
    rintro w w' F ⟨⟨es, c, s, se, h1, h2, h3⟩, hF⟩ hk
    exact ⟨⟨es, c, s, se, ⟨by rw [hk m ((hF m).2 (.inl rfl))]; exact h1.heap, h1.st, h1.eq⟩, by rw [hk r ((hF r).2 (.inr rfl))]; exact h2, h3⟩, hF⟩
  dom := by
    rintro w F b ⟨⟨es, c, s, se, h1, h2, _⟩, hF⟩ hb
    rcases (hF b).1 hb with rfl | rfl
    · exact lt_of_heap h1.heap
    · exact lt_of_heap h2

variable {P : Program} {ops : Array Oper} {Q : Exit → Act → World → Prop} {N : Nat} {X : Nat → Prop} {w0 : World} {G : Ghost} {l : List (Nat × Value)} {L : List Asrt}
variable {rest : List Oper} {d i m r : Nat} {ty : TypeId} {pos : String} {after : Array Edge} {gd : Option (Nat × Bool)} {x : Operand} {T K E : TypeId} {mv lft : List (κ × ν)}

end
end Go.Gx

/-
  GX: a string made of the call's own bytes. Generic in the program.
-/
namespace Go.Gx
open Go.RowKit

def bytesF (n : Nat) (f : Nat → Nat) : ByteArray := ⟨((List.range n).map fun i => UInt8.ofNat (f i)).toArray⟩

section
variable {P : Program} {N : Nat} {X : Nat → Prop} {w0 : World} {G : Ghost} {l : List (Nat × Value)} {L : List Asrt}
variable {d : Nat} {ty : TypeId} {pos : String} {after : Array Edge} {gd : Option (Nat × Bool)} {x : Operand} {T U E E' : TypeId} {b k : Nat} {f : Nat → Value}

end
end Go.Gx

/-
  GX: a row of the call's own is sorted, or its runs are made one, by the library (whose contracts come in as premises). Generic in the program.
-/
namespace Go.Gx
open Go.RowKit Go.Sort

section
variable {α : Type} [Inhabited α]

theorem putRow_heap {enc : α → Value} {w : World} {g n : Nat} {d : Array α} {cur : Array Value} {E : TypeId} {fr : Nat × Nat} (hg : w.heap[g]? = some (.cells cur E fr)) : (putRow enc w g 0 d).heap[g]? = some (.cells (putCells enc 0 d cur) E fr) := by
  show (w.heap.modify g (onCells (putCells enc 0 d)))[g]? = _
  rw [Array.getElem?_modify, if_pos rfl, hg]
  rfl
theorem putRow_other {enc : α → Value} {w : World} {g k : Nat} {d : Array α} (h : k ≠ g) : (putRow enc w g 0 d).heap[k]? = w.heap[k]? := by
  simp [putRow, mapBlock, Array.getElem?_modify, Ne.symm h]

theorem putCells_take {enc : α → Value} {d : Array α} {cur : Array Value} {m : Nat} (hm : m ≤ d.size) (hc : d.size ≤ cur.size) : (putCells enc 0 d cur).toList.take m = ((d.toList.take m).map enc) := by
  apply List.ext_getElem?
  intro i
  by_cases hi : i < m
  · have h1 : i < cur.size := by omega
    have h2 : i < d.size := by omega
    simp [List.getElem?_take, hi, putCells, h1, h2]
  · simp [List.getElem?_take, hi]
end

theorem compact_le (zs : List Int) : (Lib.compact zs).length ≤ zs.length := by
  unfold Lib.compact Lib.compactUpTo
  rw [List.length_map]
  exact Nat.le_trans (List.length_filter_le _ _) (by simp)
abbrev sortI (zs : List Int) : List Int := zs.mergeSort fun x y => decide (x ≤ y)
abbrev cI (z : Int) : List Value := [.int .i64 z]

/-- The library's contract of slices.Sort at []int. -/
def SortC (P : Program) (f : FuncId) : Prop := ∀ (blk off cap : Nat) (zs : List Int) (w : World), Holds (Value.int .i64) w blk off zs.toArray → blk < w.heap.size → zs.length < 4611686018427387904 →
  Calls P f #[.slice (some ⟨blk, off, none⟩) zs.length cap] w fun e w' => e = .returned (.tuple #[]) ∧ ∃ n os, w' = grow (putRow (Value.int .i64) (Sort.ahead w n) blk off (sortI zs).toArray) os
def SortN (P : Program) (f : FuncId) : Prop := ∀ (p : Option Addr) (cap : Nat) (w : World), Calls P f #[.slice p 0 cap] w fun e w' => e = .returned (.tuple #[]) ∧ w' = w
/-- .. and of slices.Compact. -/
def CompC (P : Program) (f : FuncId) : Prop := ∀ (blk off cap : Nat) (zs : List Int) (w : World), Holds (Value.int .i64) w blk off zs.toArray → zs.length ≤ 9223372036854775807 → zs.length ≤ cap →
  Calls P f #[.slice (some ⟨blk, off, none⟩) zs.length cap] w fun e w' => e = .returned (.slice (some ⟨blk, off, none⟩) (Lib.compact zs).length cap) ∧ ∃ q, w' = putRow (Value.int .i64) (Sort.ahead w q) blk off (Lib.compact zs ++ List.replicate (zs.length - (Lib.compact zs).length) 0).toArray
def CompN (P : Program) (f : FuncId) : Prop := ∀ (a : Option Addr) (cap : Nat) (w : World), Calls P f #[.slice a 0 cap] w fun e w' => e = .returned (.slice a 0 cap) ∧ w' = w

theorem cells_ints (zs : List Int) : zs.flatMap cI = zs.map (Value.int .i64) := by
  induction zs with
  | nil => rfl
  | cons z t ih => simp [List.flatMap_cons, ih]

section
variable {P : Program} {ops : Array Oper} {Q : Exit → Act → World → Prop} {N : Nat} {X : Nat → Prop} {w0 : World} {G : Ghost} {l : List (Nat × Value)} {L : List Asrt}
variable {rest : List Oper} {d k n : Nat} {ty : TypeId} {pos : String} {after : Array Edge} {gd : Option (Nat × Bool)} {v : Value} {E : TypeId} {zs : List Int} {f : FuncId} {xs : List Operand} {ats : Array TypeId}

theorem own_holds {w : World} {g cap : Nat} {cur : Array Value} (hg : w.heap[g]? = some (.cells cur E (0, 0))) (hc : cur.size = cap) (hn : zs.length ≤ cap) (ht : cur.toList.take zs.length = zs.map (Value.int .i64)) : Holds (Value.int .i64) w g 0 zs.toArray := by
  intro j hj
  have hj' : j < zs.length := by simpa using hj
  constructor
  · rw [cell_of_row w g (0 + j) cur E (0, 0) hg, Nat.zero_add]
    have h1 := congrArg (fun l => l[j]?) ht
    simp [List.getElem?_take, hj'] at h1
    simp [h1, hj']
  · simp [World.frozen?, hg]

theorem own_after {w : World} {g cap q : Nat} {cur : Array Value} {os : Array Obj} {zs' : List Int} {m : Nat} (hg : w.heap[g]? = some (.cells cur E (0, 0))) (hc : cur.size = cap) (hcm : cap ≤ maxLen) (hz : zs'.length ≤ cap) (hm : m ≤ zs'.length) (hmm : m ≤ maxLen) :
    (rowA (.slice (some ⟨g, 0, none⟩) m cap) E 1 m ((zs'.take m).flatMap cI)).holds (grow (putRow (Value.int .i64) (Sort.ahead w q) g 0 zs'.toArray) os) (fun b => b = g) := by
  have hg' : (Sort.ahead w q).heap[g]? = some (.cells cur E (0, 0)) := hg
  have h1 := putRow_heap (enc := Value.int .i64) (n := 0) (d := zs'.toArray) hg'
  have hlt : g < (putRow (Value.int .i64) (Sort.ahead w q) g 0 zs'.toArray).heap.size := lt_of_heap h1
  refine ⟨⟨?_, .inr ⟨g, cap, putCells (Value.int .i64) 0 zs'.toArray cur, rfl, Nat.zero_le _, ?_, by omega, hcm, ?_, ?_⟩⟩, fun b => ⟨fun h => by subst h; rfl, fun h => by simp [Value.ownBlock] at h; exact h.symm⟩, hmm⟩
  · rw [cells_ints]; simp; omega
  · show ((putRow (Value.int .i64) (Sort.ahead w q) g 0 zs'.toArray).heap ++ os)[g]? = _
    rw [Array.getElem?_append_left hlt]; exact h1
  · simp [putCells, hc]
  · rw [Nat.mul_one, putCells_take (by simpa using hm) (by simp; omega), cells_ints]

theorem since_sort {w : World} {g q : Nat} {os : Array Obj} {zs' : List Int} {F : Nat → Prop} (hF : F g) : Since F w (grow (putRow (Value.int .i64) (Sort.ahead w q) g 0 zs'.toArray) os) := by
  refine ⟨rfl, rfl, rfl, ?_, fun b hb hx => ?_⟩
  · show w.heap.size ≤ (((putRow (Value.int .i64) (Sort.ahead w q) g 0 zs'.toArray).heap ++ os)).size
    have : (putRow (Value.int .i64) (Sort.ahead w q) g 0 zs'.toArray).heap.size = w.heap.size := by
      show (w.heap.modify g _).size = _
      simp
    rw [Array.size_append]; omega
  · have hne : b ≠ g := fun e => hx (e ▸ hF)
    show ((putRow (Value.int .i64) (Sort.ahead w q) g 0 zs'.toArray).heap ++ os)[b]? = _
    have hsz : (putRow (Value.int .i64) (Sort.ahead w q) g 0 zs'.toArray).heap.size = w.heap.size := by
      show (w.heap.modify g _).size = _
      simp
    rw [Array.getElem?_append_left (by omega), putRow_other hne]
    rfl

theorem r_sort (hw : Wt ops l gd) (hd : Nat.blt d N = true) (hf : Callable P f) (hv : evs l xs = some [v]) (hL : L[k]? = some (rowA v E 1 zs.length (zs.flatMap cI))) (hs : SortC P f) (hn : SortN P f) (hlen : zs.length < 4611686018427387904)
    (h : Runs P ops Q N X w0 G rest ((d, .tuple #[]) :: l) (L.set k (rowA v E 1 (sortI zs).length ((sortI zs).flatMap cI)))) : Runs P ops Q N X w0 G (⟨some d, .call ⟨.value (.func f), xs.toArray, ats⟩, ty, pos, after, gd⟩ :: rest) l L := by
  refine Runs.step hw (fun a w hS => ?_)
  show Oper.upon P _ a _ Q _
  rw [run_call hS.fr hv hf, Oper.upon_enter]
  obtain ⟨F, ⟨⟨hlen1, hown⟩, hF, hmax⟩, _, hput⟩ := hS.mem.take hL
  have hsl : (sortI zs).length = zs.length := List.length_mergeSort zs
  by_cases hz : zs.length = 0
  · have hz' : zs = [] := List.eq_nil_of_length_eq_zero hz
    subst hz'
    have e1 : (rowA v E 1 (sortI []).length ((sortI []).flatMap cI)) = rowA v E 1 ([] : List Int).length (([] : List Int).flatMap cI) := by simp [sortI]
    rw [e1, set_same hL] at h
    have hv2 : ∃ p c, v = .slice p 0 c := by
      rcases hown with ⟨rfl, _⟩ | ⟨g, cap, cur, rfl, _⟩
      · exact ⟨_, _, rfl⟩
      · exact ⟨_, _, rfl⟩
    obtain ⟨p, c, rfl⟩ := hv2
    refine (hn p c w).mono (fun e w' hR => ?_)
    obtain ⟨rfl, rfl⟩ := hR
    exact h _ _ ⟨hS.fr.put (by simpa using hd) _, hS.mem⟩
  · rcases hown with ⟨_, h0⟩ | ⟨g, cap, cur, rfl, _, hg, hnc, hcm, hcs, htk⟩
    · exact absurd h0 hz
    · have hcs' : cur.size = cap := by simpa using hcs
      have htk' : cur.toList.take zs.length = zs.map (Value.int .i64) := by rw [← cells_ints]; simpa using htk
      refine (hs g 0 cap zs w (own_holds hg hcs' hnc htk') (lt_of_heap hg) hlen).mono (fun e w' hR => ?_)
      obtain ⟨rfl, q, os, rfl⟩ := hR
      have hFg : F g := (hF g).2 rfl
      refine h _ _ ⟨hS.fr.put (by simpa using hd) _, hput _ _ (fun b => b = g) (since_sort hFg) ?_ (fun b hb => .inl (hb ▸ hFg))⟩
      have h2 := own_after (q := q) (os := os) (zs' := sortI zs) (m := zs.length) hg hcs' hcm (by omega) (by omega) (by omega)
      rw [List.take_of_length_le (by omega)] at h2
      rw [hsl]
      exact h2

theorem r_compact (hw : Wt ops l gd) (hd : Nat.blt d N = true) (hf : Callable P f) (hv : evs l xs = some [v]) (hL : L[k]? = some (rowA v E 1 zs.length (zs.flatMap cI))) (hs : CompC P f) (hn : CompN P f) (hle : (Lib.compact zs).length ≤ zs.length)
    (h : ∀ v', Runs P ops Q N X w0 G rest ((d, v') :: l) (L.set k (rowA v' E 1 (Lib.compact zs).length ((Lib.compact zs).flatMap cI)))) : Runs P ops Q N X w0 G (⟨some d, .call ⟨.value (.func f), xs.toArray, ats⟩, ty, pos, after, gd⟩ :: rest) l L := by
  refine Runs.step hw (fun a w hS => ?_)
  show Oper.upon P _ a _ Q _
  rw [run_call hS.fr hv hf, Oper.upon_enter]
  obtain ⟨F, ⟨⟨hlen1, hown⟩, hF, hmax⟩, _, hput⟩ := hS.mem.take hL
  by_cases hz : zs.length = 0
  · have hz' : zs = [] := List.eq_nil_of_length_eq_zero hz
    subst hz'
    have hc0 : Lib.compact ([] : List Int) = [] := List.eq_nil_of_length_eq_zero (by simpa using hle)
    have h' := h v
    rw [hc0, set_same hL] at h'
    have hv2 : ∃ p c, v = .slice p 0 c := by
      rcases hown with ⟨rfl, _⟩ | ⟨g, cap, cur, rfl, _⟩
      · exact ⟨_, _, rfl⟩
      · exact ⟨_, _, rfl⟩
    obtain ⟨p, c, rfl⟩ := hv2
    refine (hn p c w).mono (fun e w' hR => ?_)
    obtain ⟨rfl, rfl⟩ := hR
    exact h' _ _ ⟨hS.fr.put (by simpa using hd) _, hS.mem⟩
  · rcases hown with ⟨_, h0⟩ | ⟨g, cap, cur, rfl, _, hg, hnc, hcm, hcs, htk⟩
    · exact absurd h0 hz
    · have hcs' : cur.size = cap := by simpa using hcs
      have htk' : cur.toList.take zs.length = zs.map (Value.int .i64) := by rw [← cells_ints]; simpa using htk
      refine (hs g 0 cap zs w (own_holds hg hcs' hnc htk') (by simpa only [maxLen] using hmax) hnc).mono (fun e w' hR => ?_)
      obtain ⟨rfl, q, rfl⟩ := hR
      have hFg : F g := (hF g).2 rfl
      have e0 : ∀ W : World, W = grow W #[] := fun W => (grow_empty W).symm
      rw [e0 (putRow _ _ _ _ _)]
      refine h _ _ _ ⟨hS.fr.put (by simpa using hd) _, hput _ _ (fun b => b = g) (since_sort hFg) ?_ (fun b hb => .inl (hb ▸ hFg))⟩
      have h2 := own_after (q := q) (os := #[]) (zs' := Lib.compact zs ++ List.replicate (zs.length - (Lib.compact zs).length) 0) (m := (Lib.compact zs).length) hg hcs' hcm (by simp; omega) (by simp) (by simp only [maxLen] at *; omega)
      rw [List.take_left' rfl] at h2
      exact h2
end
end Go.Gx

/-
  GX: the keys of a map of the call's own, sorted by the library (its contracts come in as premises). Generic in the program.
-/
namespace Go.Gx
open Go.RowKit Go.Sort Go.Maps
open Go.WideElems (Fit rd rg)

theorem sortI_perm {l l' : List Int} (h : l.Perm l') : sortI l = sortI l' := by
  unfold sortI
  refine List.Perm.eq_of_pairwise (le := fun a b : Int => decide (a ≤ b) = true) (fun a b _ _ h1 h2 => ?_) (List.pairwise_mergeSort (by intro a b c; simp; omega) (by intro a b; simp; omega) l) (List.pairwise_mergeSort (by intro a b c; simp; omega) (by intro a b; simp; omega) l') (((List.mergeSort_perm l _).trans h).trans (List.mergeSort_perm l' _).symm)
  simp at h1 h2; omega

/-- How an element reads, where nothing is asked of it. -/
def R0 : Value → Option (DataW Unit × List MemPlace) := fun _ => some (.nil, [])

section
variable {ν : Type} {P : Program} {K : TypeId}
end

/-- slices.Sorted(maps.Keys(m)): the second call, of what the first one made. -/
def KeysC (P : Program) (f g : FuncId) (K : TypeId) : Prop := ∀ (Bm b nn : Nat) (D0 : DataW Unit) (w : World), w.cell? ⟨Bm, 0, none⟩ = some (.map (some b)) → Bm < w.heap.size → w.ownsMap P K R0 b nn D0 → Maps.size D0 ≤ maxLen → Maps.size D0 * 8 ≤ 140737488355328 →
  Calls P f #[.func (.func g) #[] #[.pointer (some ⟨Bm, 0, none⟩)]] w fun e w' => ∃ (v : Value) (ss : List Int), e = .returned v ∧ ss.Perm (intKeys D0) ∧ w'.ownsRow w.heap.size K 1 v ss.length ((ss.mergeSort fun x y => decide (x ≤ y)).map (Value.int .i64)) ∧ Below w.heap.size w w'

section
variable {P : Program} {ops : Array Oper} {Q : Exit → Act → World → Prop} {N : Nat} {X : Nat → Prop} {w0 : World} {G : Ghost} {l : List (Nat × Value)} {L : List Asrt} {ν : Type}
variable {rest : List Oper} {d i j m Bm : Nat} {ty : TypeId} {pos : String} {after : Array Edge} {gd : Option (Nat × Bool)} {K T : TypeId} {f g : FuncId} {x : Operand} {ats : Array TypeId} {ve : ν → Value} {mv : List (Int × ν)}

theorem Mem.add {w w' : World} {A : Asrt} {F' : Nat → Prop} (h : Mem X w0 G w L) (hs : Since nX w w') (hA : A.holds w' F') (hF : ∀ b, F' b → w.heap.size ≤ b) : Mem X w0 G w' (A :: L) := by
  have h1 := h.call hs
  refine ⟨h1.since, h1.has, F', hA, fun b hb => ⟨.inl (Nat.le_trans h.since.size (hF b hb)), h.has.fresh (hF b hb)⟩, ?_⟩
  refine Sep.keep (h.sep.mono (fun b hb hu => ⟨hu, fun hf => ?_⟩)) (fun b hb _ => hs.block b hb id)
  have := hF b hf
  omega

end
end Go.Gx

/-
  GX: a method that keeps (or changes) its object and hands back memory that stays. Generic in the program.
-/
namespace Go.Gx
open Go.RowKit

theorem Sep.takeU {w : World} : ∀ {L : List Asrt} {U : Nat → Prop} {k : Nat} {A : Asrt}, Sep w L U → L[k]? = some A →
    ∃ F, A.holds w F ∧ (∀ b, F b → U b) ∧
      ∀ (U' : Nat → Prop) (w' : World) (A' : Asrt) (F' : Nat → Prop), (∀ b, b < w.heap.size → U b → ¬ F b → U' b) → A'.holds w' F' → (∀ b, F' b → U' b ∧ (F b ∨ w.heap.size ≤ b)) →
        (∀ b, b < w.heap.size → U b → ¬ F b → w'.heap[b]? = w.heap[b]?) → Sep w' (L.set k A') U'
  | [], _, _, _, _, h => by simp at h
  | A :: L, U, 0, A', ⟨F, h, hs, hL⟩, e => by
    simp at e; subst e
    refine ⟨F, h, hs, fun U' w' A'' F' hu h' hF' hk => ⟨F', h', fun b hb => (hF' b hb).1, ?_⟩⟩
    have hL1 : Sep w L (fun b => (U b ∧ ¬ F b) ∧ (U' b ∧ ¬ F' b)) := Sep.mono hL (fun b hb hub => ⟨hub, hu b hb hub.1 hub.2, fun hf => by
      rcases (hF' b hf).2 with h1 | h1
      · exact hub.2 h1
      · omega⟩)
    have hL3 := Sep.keep (w' := w') hL1 (fun b hb hu => hk b hb hu.1.1 hu.1.2)
    exact Sep.mono hL3 (fun b _ hu => hu.2)
  | A :: L, U, k + 1, A', ⟨F, h, hs, hL⟩, e => by
    simp at e
    obtain ⟨G, hg, hgs, hput⟩ := Sep.takeU hL e
    refine ⟨G, hg, fun b hb => (hgs b hb).1, fun U' w' A'' F' hu h' hF' hk => ?_⟩
    refine ⟨F, A.frame h (fun b hb => hk b (A.dom h hb) (hs b hb) (fun hg' => (hgs b hg').2 hb)), fun b hb => hu b (A.dom h hb) (hs b hb) (fun hg' => (hgs b hg').2 hb), ?_⟩
    exact hput (fun b => U' b ∧ ¬ F b) w' A'' F' (fun b hb hub hng => ⟨hu b hb hub.1 hng, hub.2⟩) h' (fun b hb => by
      obtain ⟨h0, h1⟩ := hF' b hb
      refine ⟨⟨h0, fun hf => ?_⟩, h1⟩
      rcases h1 with h1 | h1
      · exact (hgs b h1).2 hf
      · have := A.dom h hf; omega) (fun b hb hu hg' => hk b hb hu.1 hg')

def KeptG (A : Asrt) (F : Nat → Prop) (G' : Ghost) (w w' : World) : Prop := Since F w w' ∧ ∃ F', A.holds w' F' ∧ (∀ b, F' b → F b ∨ w.heap.size ≤ b) ∧ ∀ b, F' b → G' b = none

section
variable {P : Program} {ops : Array Oper} {Q : Exit → Act → World → Prop} {N : Nat} {X : Nat → Prop} {w0 : World} {G : Ghost} {l : List (Nat × Value)} {L : List Asrt}
variable {rest : List Oper} {d k : Nat} {ty : TypeId} {pos : String} {after : Array Edge} {gd : Option (Nat × Bool)}

theorem Mem.keptG {w : World} {F : Nat → Prop} {Ls : List Asrt} (h : Mem F w0 G w Ls) (Ls' : List Asrt) (hI : Imp Ls Ls') (B : Asrt) (hB : ∀ F', (starL Ls').holds w F' → B.holds w F') : KeptG B F G w0 w := by
  refine ⟨h.since, ?_⟩
  have h1 := (h.imp hI).sep
  rw [show Ls' = Ls' ++ [] by simp] at h1
  obtain ⟨F', h2, h3, _⟩ := Sep.packL Ls' h1
  exact ⟨F', hB F' h2, fun b hb => (h3 b hb).1.symm, fun b hb => (h3 b hb).2⟩

/-- A call that changes one object and hands back memory that stays. -/
theorem r_callom {f : FuncId} {xs : List Operand} {vs : List Value} {ats : Array TypeId} {A B : Asrt} {S : Ghost → Value → Prop} (hw : Wt ops l gd) (hd : Nat.blt d N = true) (hf : Callable P f) (hv : evs l xs = some vs) (hL : L[k]? = some A)
    (hc : ∀ w F, Has G w → A.holds w F → (∀ b, F b → G b = none) → Calls P f vs.toArray w (Ret fun r w' => ∃ G', GNew w F G G' ∧ Has G' w' ∧ S G' r ∧ KeptG B F G' w w'))
    (h : ∀ G' r, GNew w0 X G G' → S G' r → Runs P ops Q N X w0 G' rest ((d, r) :: l) (L.set k B)) : Runs P ops Q N X w0 G (⟨some d, .call ⟨.value (.func f), xs.toArray, ats⟩, ty, pos, after, gd⟩ :: rest) l L := by
  refine Runs.step hw (fun a w hS => ?_)
  show Oper.upon P _ a _ Q _
  rw [run_call hS.fr hv hf, Oper.upon_enter]
  obtain ⟨F, hA, hsub, hput⟩ := hS.mem.sep.takeU hL
  refine (hc w F hS.mem.has hA (fun b hb => (hsub b hb).2)).mono (fun e w' hR => ?_)
  cases e with
  | returned r =>
    obtain ⟨G', hn, hh, hr, hs, F', hB, hF', hFG'⟩ := hR
    have hn' : GNew w0 X G G' := ⟨hn.le, fun b h1 h2 => by
      rcases hn.new b h1 h2 with h3 | h3
      · exact .inl (Nat.le_trans hS.mem.since.size h3)
      · exact (hsub b h3).1⟩
    refine h G' r hn' hr _ _ ⟨hS.fr.put (by simpa using hd) _, ?_, hh, ?_⟩
    · refine ⟨hs.os.trans hS.mem.since.os, hs.tape.trans hS.mem.since.tape, hs.output.trans hS.mem.since.output, Nat.le_trans hS.mem.since.size hs.size, fun i hi hx => ?_⟩
      rw [hs.block i (Nat.lt_of_lt_of_le hi hS.mem.since.size) (fun hf => Or.elim (hsub i hf).1 (fun h1 => by omega) (fun h1 => hx h1))]
      exact hS.mem.since.block i hi hx
    · refine hput (fun b => (w0.heap.size ≤ b ∨ X b) ∧ G' b = none) w' B F' (fun b hb hu hf => ⟨hu.1, ?_⟩) hB (fun b hb => ⟨⟨?_, hFG' b hb⟩, hF' b hb⟩) (fun b hb _ hf => hs.block b hb hf)
      · cases e : G' b with
        | none => rfl
        | some o => rcases hn.new b hu.2 (by rw [e]; simp) with h3 | h3
                    · omega
                    · exact (hf h3).elim
      · rcases hF' b hb with h1 | h1
        · exact (hsub b h1).1
        · exact .inl (Nat.le_trans hS.mem.since.size h1)
  | panicked c => exact hR.elim
  | outgrown => exact hR.elim
end
end Go.Gx

/-
  GX: function values: they are made, and called. Generic in the program.
-/
namespace Go.Gx
open Go.RowKit

section
variable {P : Program} {ops : Array Oper} {Q : Exit → Act → World → Prop} {N : Nat} {X : Nat → Prop} {w0 : World} {G : Ghost} {l : List (Nat × Value)} {L : List Asrt}
variable {rest : List Oper} {ty : TypeId} {pos : String} {after : Array Edge} {gd : Option (Nat × Bool)}

theorem p_mkfunc {f : FuncId} {d : Nat} {xs : List Operand} {vs : List Value} (hv : evs l xs = some vs) : PV P N X w0 G l L ⟨some d, .makeFunc (.func f) #[] xs.toArray, ty, pos, after, gd⟩ (.func (.func f) #[] vs.toArray) := by
  intro a w hS
  have e := evs_eq hS.fr hv
  have h1 : xs.toArray.map a.eval = vs.toArray := by rw [← e]; simp
  simp only [execOp]
  rw [h1]
  simp [Go.Instr.makeFunc]

theorem fun_same {f : FuncId} {dst : Option Nat} {y : Operand} {xs : List Operand} {cs : List Value} {ats : Array TypeId} {a : Act} (hF : Fr N a l) (hy : ev l y = some (.func (.func f) #[] cs.toArray)) :
    execOp a.eval ⟨dst, .call ⟨.value y, xs.toArray, ats⟩, ty, pos, after, gd⟩ = execOp a.eval ⟨dst, .call ⟨.value (.func f), (xs ++ cs.map Operand.const).toArray, ats⟩, ty, pos, after, gd⟩ := by
  have h2 : execOp a.eval ⟨dst, .call ⟨.value (.func f), (xs ++ cs.map Operand.const).toArray, ats⟩, ty, pos, after, gd⟩ = callFunc f (#[] ++ (xs ++ cs.map Operand.const).toArray.map a.eval ++ #[]) := rfl
  have h3 : (Deferred.ofValue (.func (.func f) #[] cs.toArray) (xs.toArray.map a.eval) >>= fun t => invoke t.target t.args) = callFunc f ((#[] ++ xs.toArray.map a.eval) ++ cs.toArray) := rfl
  have h4 : execOp a.eval ⟨dst, .call ⟨.value y, xs.toArray, ats⟩, ty, pos, after, gd⟩ = (Deferred.ofValue (a.eval y) (xs.toArray.map a.eval) >>= fun t => invoke t.target t.args) := rfl
  rw [h2, h4, hF.eval hy, h3]
  have h5 : (List.map a.eval (cs.map Operand.const)) = cs := by
    rw [List.map_map]
    exact (List.map_congr_left (fun x _ => rfl)).trans (List.map_id cs)
  congr 1
  apply Array.toList_inj.1
  simp only [Array.toList_append, List.append_toArray, Array.toList_map, List.map_append, h5]
  simp

/-- A call of a function value is a call of its function with what it has caught behind the arguments. -/
theorem r_fun {f : FuncId} {dst : Option Nat} {y : Operand} {xs : List Operand} {cs : List Value} {ats : Array TypeId} (hw : Wt ops l gd) (hy : ev l y = some (.func (.func f) #[] cs.toArray))
    (h : Runs P ops Q N X w0 G (⟨dst, .call ⟨.value (.func f), (xs ++ cs.map Operand.const).toArray, ats⟩, ty, pos, after, gd⟩ :: rest) l L) :
    Runs P ops Q N X w0 G (⟨dst, .call ⟨.value y, xs.toArray, ats⟩, ty, pos, after, gd⟩ :: rest) l L := by
  intro a w hS
  have h1 := h a w hS
  unfold wpList at h1 ⊢
  rw [if_pos (hw.wanted hS.fr)] at h1 ⊢
  have e := fun_same (ty := ty) (pos := pos) (after := after) (gd := gd) (dst := dst) (xs := xs) (ats := ats) hS.fr hy
  rcases h1 with h1 | ⟨h1, h2⟩
  · left
    show Oper.upon P _ a _ Q _
    rw [e]
    exact h1
  · right
    refine ⟨?_, h2⟩
    simp only [Oper.asks] at h1 ⊢
    rw [e]
    exact h1
end
end Go.Gx

/-
  GX: what closures want: a block that they have caught; a slice held against nil; a row without elements; an object that grows by what is found. Generic in the program.
-/
namespace Go.Gx
open Go.RowKit

section
variable {P : Program} {ops : Array Oper} {Q : Exit → Act → World → Prop} {N : Nat} {X : Nat → Prop} {w0 : World} {G : Ghost} {l : List (Nat × Value)} {L : List Asrt}
variable {rest : List Oper} {d : Nat} {ty : TypeId} {pos : String} {after : Array Edge} {gd : Option (Nat × Bool)} {x y : Operand} {v : Value}

/-- A block of the call's own stays as it is from now on. -/
theorem r_freezeX {k n b E : Nat} {f : Nat → Value} (hL : L[k]? = some (box b n E f))
    (h : ∀ G', GNew w0 X G G' → RowAt G' b 0 n f → Runs P ops Q N X w0 G' rest l (L.eraseIdx k)) : Runs P ops Q N X w0 G rest l L := by
  intro a w hS
  obtain ⟨G', h1, h2, h3⟩ := hS.mem.freezeB (m := 1) (sz := n) hL (by omega) (by omega)
  obtain ⟨_, _, e, _, h4⟩ := h2
  obtain ⟨b', o, e2, h5⟩ := h4 (by omega)
  simp only [Value.slice.injEq] at e
  obtain ⟨rfl, _⟩ := e
  simp only [Option.some.injEq, Addr.mk.injEq] at e2
  obtain ⟨rfl, rfl, _⟩ := e2
  have h6 := h5 0 (by omega)
  simp only [Nat.zero_mul, Nat.add_zero, Nat.zero_add] at h6
  exact h G' h1 h6 a w ⟨hS.fr, h3⟩

theorem eqnil_run {T E : TypeId} {a : Option Addr} {n c n' c' : Nat} (hT : P.underlying T = some (.slice E)) (d : Nat) (w : World) : (Op.equalIn (d + 1) T (.slice a n c) (.slice none n' c')).run P w = .ok a.isNone w := by
  cases a <;> simp [Op.equalIn, run_underlying hT]

/-- '==' between a slice and nil. -/
theorem p_eqnil {T U E : TypeId} {a : Option Addr} {n c n' c' : Nat} (hT : P.underlying T = some (.slice E)) (hx : ev l x = some (.slice a n c)) (hy : ev l y = some (.slice none n' c')) :
    PV P N X w0 G l L ⟨some d, .binOp .eql T x y U, ty, pos, after, gd⟩ (.bool a.isNone) := by
  intro ac w hS
  have e : (Op.equal T (.slice a n c) (.slice none n' c')).run P w = .ok a.isNone w := by
    exact eqnil_run hT 9999 w
  have e2 : (binOp .eql T (.slice a n c) (.slice none n' c')).run P w = .ok (.bool a.isNone) w := by
    have h1 : binOp .eql T (.slice a n c) (.slice none n' c') = (do pure (.bool (← Op.equal T (.slice a n c) (.slice none n' c')))) := rfl
    rw [h1]; simp [e]
  have e3 : (eqGuard .eql T x y (.slice a n c) (.slice none n' c')).run P w = .ok () w := by simp [eqGuard]
  simp only [execOp, hS.fr.eval hx, hS.fr.eval hy]
  simp [e3, e2]

/-- A row without elements. -/
theorem r_bslice0 {T E : TypeId} {sz bytes : Nat} {zv : Value} (hw : Wt ops l gd) (hd : Nat.blt d N = true) (hT : P.underlying T = some (.slice E)) (hE : ElemIs P E sz bytes zv)
    (h : ∀ v, Runs P ops Q N X w0 G rest ((d, v) :: l) (rowA v E sz 0 [] :: L)) :
    Runs P ops Q N X w0 G (⟨some d, .buildSlice T 0 #[], ty, pos, after, gd⟩ :: rest) l L := by
  refine Runs.step hw (fun a w hS => ?_)
  show Oper.upon P _ a _ Q _
  obtain ⟨i, hi, hz, hs, _⟩ := hE.info
  have hr : (execOp a.eval ⟨some d, .buildSlice T 0 #[], ty, pos, after, gd⟩).run P w = .ok (.value (.slice (some ⟨w.heap.size, 0, none⟩) 0 0)) (w.alloc (.cells #[] E)) := by
    have h3 : (sizeOf E).run P w = .ok sz w := by simp [sizeOf, typeInfo, hi, hs]
    simp only [execOp]
    simp [Instr.buildSlice, run_underlying hT, h3, Instr.fill, newRow]
    have h5 : ∀ g : Nat → Value, Array.map g (Array.range 0) = #[] := fun g => Array.ext (by simp) (fun i h1 _ => by simp at h1)
    rw [h5]
  rw [hr, Oper.upon_value]
  refine h _ _ _ ⟨hS.fr.put (by simpa using hd) _, hS.mem.alloc _ _ ⟨⟨by simp, .inr ⟨w.heap.size, 0, #[], rfl, Nat.zero_le _, heap_alloc_new w _, Nat.le_refl _, Nat.zero_le _, by simp, by simp⟩⟩, fun b => ⟨fun h => ?_, fun h => ?_⟩, Nat.zero_le _⟩⟩
  · have : b = w.heap.size := h
    subst this; rfl
  · simp [Value.ownBlock] at h; exact h.symm

/-- A call that changes one object, which is told by what comes of it, and hands back memory that stays. -/
theorem r_callox {τ : Type} {k : Nat} {f : FuncId} {xs : List Operand} {vs : List Value} {ats : Array TypeId} {A : Asrt} {B : τ → Asrt} {S : Ghost → Value → τ → Prop} (hw : Wt ops l gd) (hd : Nat.blt d N = true) (hf : Callable P f) (hv : evs l xs = some vs) (hL : L[k]? = some A)
    (hc : ∀ w F, Has G w → A.holds w F → (∀ b, F b → G b = none) → Calls P f vs.toArray w (Ret fun r w' => ∃ G' z, GNew w F G G' ∧ Has G' w' ∧ S G' r z ∧ KeptG (B z) F G' w w'))
    (h : ∀ G' r z, GNew w0 X G G' → S G' r z → Runs P ops Q N X w0 G' rest ((d, r) :: l) (L.set k (B z))) : Runs P ops Q N X w0 G (⟨some d, .call ⟨.value (.func f), xs.toArray, ats⟩, ty, pos, after, gd⟩ :: rest) l L := by
  refine Runs.step hw (fun a w hS => ?_)
  show Oper.upon P _ a _ Q _
  rw [run_call hS.fr hv hf, Oper.upon_enter]
  obtain ⟨F, hA, hsub, hput⟩ := hS.mem.sep.takeU hL
  refine (hc w F hS.mem.has hA (fun b hb => (hsub b hb).2)).mono (fun e w' hR => ?_)
  cases e with
  | returned r =>
    obtain ⟨G', z, hn, hh, hr, hs, F', hB, hF', hFG'⟩ := hR
    have hn' : GNew w0 X G G' := ⟨hn.le, fun b h1 h2 => by
      rcases hn.new b h1 h2 with h3 | h3
      · exact .inl (Nat.le_trans hS.mem.since.size h3)
      · exact (hsub b h3).1⟩
    refine h G' r z hn' hr _ _ ⟨hS.fr.put (by simpa using hd) _, ?_, hh, ?_⟩
    · refine ⟨hs.os.trans hS.mem.since.os, hs.tape.trans hS.mem.since.tape, hs.output.trans hS.mem.since.output, Nat.le_trans hS.mem.since.size hs.size, fun i hi hx => ?_⟩
      rw [hs.block i (Nat.lt_of_lt_of_le hi hS.mem.since.size) (fun hf => Or.elim (hsub i hf).1 (fun h1 => by omega) (fun h1 => hx h1))]
      exact hS.mem.since.block i hi hx
    · refine hput (fun b => (w0.heap.size ≤ b ∨ X b) ∧ G' b = none) w' (B z) F' (fun b hb hu hf => ⟨hu.1, ?_⟩) hB (fun b hb => ⟨⟨?_, hFG' b hb⟩, hF' b hb⟩) (fun b hb _ hf => hs.block b hb hf)
      · cases e : G' b with
        | none => rfl
        | some o => rcases hn.new b hu.2 (by rw [e]; simp) with h3 | h3
                    · omega
                    · exact (hf h3).elim
      · rcases hF' b hb with h1 | h1
        · exact (hsub b h1).1
        · exact .inl (Nat.le_trans hS.mem.since.size h1)
  | panicked c => exact hR.elim
  | outgrown => exact hR.elim
end

section
variable {P : Program} {ops : Array Oper} {Q : Exit → Act → World → Prop} {N : Nat} {X : Nat → Prop} {w0 : World} {G : Ghost} {l : List (Nat × Value)} {L : List Asrt}
variable {rest : List Oper} {d : Nat} {ty : TypeId} {pos : String} {after : Array Edge} {gd : Option (Nat × Bool)} {x y : Operand} {v u : Value}
/-- An assertion is told in other words. -/
theorem r_conv {k : Nat} {A B : Asrt} (hL : L[k]? = some A) (hI : ∀ w F, A.holds w F → B.holds w F) (h : Runs P ops Q N X w0 G rest l (L.set k B)) : Runs P ops Q N X w0 G rest l L := by
  intro a w hS
  obtain ⟨F, hA, _, hput⟩ := hS.mem.take hL
  exact h a w ⟨hS.fr, hput w B F (Since.refl _ _) (hI w F hA) (fun b hb => .inl hb)⟩

/-- append(out, xs...): xs is a row of the call's own, too. -/
theorem r_append_o {T E : TypeId} {sz n m bytes k k2 : Nat} {zv : Value} {xs ys : List Value} (hw : Wt ops l gd) (hd : Nat.blt d N = true) (hT : P.underlying T = some (.slice E)) (hE : ElemIs P E sz bytes zv) (hz : zv.cells.size = sz) (hsz : 0 < sz)
    (hx : ev l x = some v) (hL : L[k]? = some (rowA v E sz n xs)) (hy : ev l y = some u) (hL2 : L[k2]? = some (rowA u E sz m ys)) (h1 : ∀ z ∈ ys, z.oneCell' = true) (h63 : n + m ≤ maxLen) (hbytes : (n + m) * bytes ≤ 140737488355328)
    (h : ∀ v', Runs P ops Q N X w0 G rest ((d, v') :: l) (L.set k (rowA v' E sz (n + m) (xs ++ ys)))) : Runs P ops Q N X w0 G (⟨some d, .call ⟨.builtin .append, #[x, y], #[T, T]⟩, ty, pos, after, gd⟩ :: rest) l L := by
  obtain ⟨i0, hi0, _, hs0, _⟩ := hE.info
  refine Runs.step hw (fun ac w hS => ?_)
  show Oper.upon P _ ac _ Q _
  obtain ⟨F2, hB, _⟩ := hS.mem.take hL2
  have hB' := hB
  obtain ⟨⟨hlen, hown⟩, _, _⟩ := hB
  rcases hown with ⟨rfl, rfl⟩ | ⟨g, cap, cur, rfl, _, hg, hn, hm, hcs, htk⟩
  · have hys : ys = [] := List.eq_nil_of_length_eq_zero (by simpa using hlen)
    subst hys
    have hsz' : SzIs P E sz := by simp [SzIs, hi0, hs0]
    have h' := h v
    simp only [Nat.add_zero, List.append_nil, set_self hL] at h'
    have hr := p_append_nil (P := P) (N := N) (X := X) (w0 := w0) (G := G) (ty := ty) (pos := pos) (after := after) (gd := gd) (d := d) (c := 0) hT hsz' hx hL hy ac w hS
    rw [hr, Oper.upon_value]
    exact h' _ _ ⟨hS.fr.put (by simpa using hd) v, hS.mem⟩
  · obtain ⟨v', w', hr, hS'⟩ := append_end (ty := ty) (pos := pos) (after := after) (gd := gd) (d := d) (news := ys) hT hE hz hsz hS hL hx hy hlen
      (fun j z hj => by
        have hj2 : j < m * sz := by
          have h5 : j < ys.length := by
            rcases Nat.lt_or_ge j ys.length with h6 | h6
            · exact h6
            · rw [List.getElem?_eq_none h6] at hj; cases hj
          omega
        have h7 := rowA_cell hB' rfl hj2
        rw [addr_add, Nat.zero_add, h7]
        simp [List.getD, hj])
      h1 h63 hbytes hd
    rw [hr, Oper.upon_value]
    exact h v' _ _ hS'
end

/-- A row of a call's own goes out and stays as it is. -/
theorem row_mem {w w' : World} {G : Ghost} {r : Value} {E sz n : Nat} {xs : List Value} (hG : Has G w) (h : Since nX w w' ∧ ∃ F', (rowA r E sz n xs).holds w' F' ∧ ∀ b, F' b → w.heap.size ≤ b) :
    ∃ G', GNew w nX G G' ∧ Has G' w' ∧ SlG G' r n sz (fun i j => xs.getD (i * sz + j) undef) ∧ Since nX w w' := by
  obtain ⟨hs, F', hB, hF⟩ := h
  have h1 : Mem nX w G w [] := ⟨Since.refl _ _, hG, trivial⟩
  have h2 := h1.call hs
  have hm : Mem nX w G w' [rowA r E sz n xs] := ⟨h2.since, h2.has, F', hB, fun b hb => ⟨.inl (hF b hb), hG.fresh (hF b hb)⟩, trivial⟩
  obtain ⟨G', h3, h4, h5⟩ := hm.freeze (k := 0) rfl
  exact ⟨G', h3, h5.has, h4, hs⟩

theorem Mem.pack {X : Nat → Prop} {w0 w : World} {G : Ghost} {Ls L : List Asrt} (h : Mem X w0 G w (Ls ++ L)) : Mem X w0 G w (starL Ls :: L) := by
  obtain ⟨F, h1, h2, h3⟩ := Sep.packL Ls h.sep
  exact ⟨h.since, h.has, F, h1, h2, h3⟩

/-! ### slices of slices -/
section
variable {α : Type}
/-- The cells of an element that is a slice. -/
def lC (p : α × Value) : List Value := [p.2]
/-- The value v is a slice of slices, of which each is what T says. -/
def Ls (T : Ghost → Value → α → Prop) (e : α) (G : Ghost) (v : Value) (l : List α) : Prop := ∃ rs : List (α × Value), SlL G v 1 lC (e, .slice none 0 0) rs ∧ (∀ p ∈ rs, T G p.2 p.1) ∧ l = rs.map Prod.fst
theorem Ls.mk {T : Ghost → Value → α → Prop} {e : α} {G : Ghost} {v : Value} (rs : List (α × Value)) (h : SlL G v 1 lC (e, .slice none 0 0) rs) (hp : ∀ p ∈ rs, T G p.2 p.1) : Ls T e G v (rs.map Prod.fst) := ⟨rs, h, hp, rfl⟩

/-- A variable that holds a row of slices. -/
def outA (T E : TypeId) (p : Nat) (rs : List (α × Value)) : Asrt := exA fun v : Value => starL [box p 1 T (at_ [v]), rowA v E 1 rs.length (rs.flatMap lC)]

section
variable {P : Program} {ops : Array Oper} {Q : Exit → Act → World → Prop} {N : Nat} {X : Nat → Prop} {w0 : World} {G : Ghost} {l : List (Nat × Value)} {L : List Asrt}
variable {rest : List Oper} {T E p : Nat} {rs : List (α × Value)}
theorem r_packout {v : Value} {f : Nat → Value} {n : Nat} {xs : List Value} (hf : f 0 = v) (hn : n = rs.length) (hx : xs = rs.flatMap lC) (h : Runs P ops Q N X w0 G rest l (outA T E p rs :: L)) : Runs P ops Q N X w0 G rest l (rowA v E 1 n xs :: box p 1 T f :: L) := by
  intro a w hS
  subst hn; subst hx
  have h1 : Mem X w0 G w (box p 1 T f :: rowA v E 1 rs.length (rs.flatMap lC) :: L) := by
    obtain ⟨hs, hh, F1, h1, hU1, F2, h2, hU2, hL⟩ := hS.mem
    exact ⟨hs, hh, F2, h2, fun b hb => (hU2 b hb).1, F1, h1, fun b hb => ⟨hU1 b hb, fun h3 => (hU2 b h3).2 hb⟩, hL.mono (fun b _ hb => ⟨⟨hb.1.1, hb.2⟩, hb.1.2⟩)⟩
  have h2 : Mem X w0 G w (box p 1 T (at_ [v]) :: rowA v E 1 rs.length (rs.flatMap lC) :: L) := by
    obtain ⟨hs, hh, F1, h1, hr⟩ := h1
    exact ⟨hs, hh, F1, box_congr (fun i hi => by match i, hi with | 0, _ => exact hf) _ _ h1, hr⟩
  obtain ⟨hs, hh, F, h3, hr⟩ := Mem.pack (Ls := [box p 1 T (at_ [v]), rowA v E 1 rs.length (rs.flatMap lC)]) (L := L) h2
  exact h a w ⟨hS.fr, hs, hh, F, ⟨v, h3⟩, hr⟩
theorem r_unpackout (h : ∀ v : Value, Runs P ops Q N X w0 G rest l (box p 1 T (at_ [v]) :: rowA v E 1 rs.length (rs.flatMap lC) :: L)) : Runs P ops Q N X w0 G rest l (outA T E p rs :: L) := by
  intro a w hS
  obtain ⟨hs, hh, F, ⟨v, h3⟩, hr⟩ := hS.mem
  exact h v a w ⟨hS.fr, Mem.unpack (Ls := [box p 1 T (at_ [v]), rowA v E 1 rs.length (rs.flatMap lC)]) ⟨hs, hh, F, h3, hr⟩⟩
end
end
end Go.Gx

/- Plain laws of chains of conditions; no program in sight. -/
namespace Go.Gx
theorem RowAt.congr {G : Ghost} {b o n : Nat} {f g : Nat → Value} (h : RowAt G b o n f) (e : ∀ i, i < n → f i = g i) : RowAt G b o n g := by
  obtain ⟨c, T, fr, h1, h2⟩ := h
  exact ⟨c, T, fr, h1, fun j hj => by rw [h2 j hj, e j hj]⟩
end Go.Gx
namespace Go.Gx.T6
open Go.Gx Go.Gx.T3 Go.Gx.T4 Go.Gx.T8

theorem nil_rs {α : Type} {G : Ghost} {n c : Nat} {sz : Nat} {cells : α → List Value} {e : α} {rs : List α} (h : SlL G (.slice none n c) sz cells e rs) : rs = [] := by
  obtain ⟨a, cap, e1, _, h2⟩ := h
  simp only [Value.slice.injEq] at e1
  obtain ⟨rfl, _⟩ := e1
  rcases rs with _ | ⟨x, t⟩
  · rfl
  · obtain ⟨_, _, e3, _⟩ := h2 (by simp)
    cases e3

mutual
/-- The chains of what stands in a condition, and its own. -/
def chain1 : List CT → CT → List (List CT)
  | ah, .mk h l => (if h.k = 3 then chains ah l else []) ++ [ah ++ [.mk h l]]
/-- The chains of conditions behind a beginning. -/
def chains : List CT → List CT → List (List CT)
  | _, [] => []
  | ah, c :: t => chain1 ah c ++ chains (ah ++ [c]) t
end
mutual
theorem chain1_len : ∀ (c : CT) (ah : List CT), (chain1 ah c).length ≤ size c
  | .mk h l, ah => by
    have := chains_len l ah
    rw [chain1, size]
    split <;> simp <;> omega
theorem chains_len : ∀ (l : List CT) (ah : List CT), (chains ah l).length ≤ sizeL l
  | [], _ => by simp [chains, sizeL]
  | c :: t, ah => by
    have h1 := chain1_len c ah
    have h2 := chains_len t (ah ++ [c])
    rw [chains, sizeL, List.length_append]; omega
end
/-- What is known of the chains that were found: each is a slice of conditions. -/
abbrev ChC (G : Ghost) (z : List (List CT × Value)) : Prop := ∀ q ∈ z, Cs G q.2 q.1
theorem ChC.mono {G G' : Ghost} {z : List (List CT × Value)} (h : ChC G z) (hle : GLe G G') : ChC G' z := fun q hq => (h q hq).mono hle
theorem ChC.snoc {G : Ghost} {z : List (List CT × Value)} {v : Value} {l : List CT} (h : ChC G z) (hl : Cs G v l) : ChC G (z ++ [(l, v)]) := fun q hq => by
  rcases List.mem_append.1 hq with h1 | h1
  · exact h q h1
  · rw [List.mem_singleton.1 h1]; exact hl

/-! ### alike -/
def hEq (a b : Hd) : Bool := decide (a.k = b.k) && csEq [.bool a.v0, .int .i64 a.n0, .bool a.v1, .int .i64 a.n1, .bool a.v2, .int .i64 a.n2] [.bool b.v0, .int .i64 b.n0, .bool b.v1, .int .i64 b.n1, .bool b.v2, .int .i64 b.n2]
def hRb (a b : Hd) : Bool := csEq [.int .i64 (vi a.v0), .int .i64 a.n0, .int .i64 (vi a.v1), .int .i64 a.n1, .int .i64 (vi a.v2), .int .i64 a.n2] [.int .i64 (vi b.v0), .int .i64 b.n0, .int .i64 (vi b.v1), .int .i64 b.n1, .int .i64 (vi b.v2), .int .i64 b.n2]
theorem hEq_iff (a b : Hd) : hEq a b = true ↔ a = b := by
  obtain ⟨a0, a1, a2, a3, a4, a5, a6⟩ := a
  obtain ⟨b0, b1, b2, b3, b4, b5, b6⟩ := b
  simp [hEq, csEq, cEq]
mutual
def ceq : CT → CT → Bool
  | .mk h l, .mk h' l' => hEq h h' && ceqL l l'
def ceqL : List CT → List CT → Bool
  | [], [] => true
  | c :: t, c' :: t' => ceq c c' && ceqL t t'
  | _, _ => false
end
mutual
theorem ceq_iff : ∀ (a b : CT), ceq a b = true ↔ a = b
  | .mk h l, .mk h' l' => by
    rw [ceq, Bool.and_eq_true, hEq_iff, ceqL_iff l l']
    simp
theorem ceqL_iff : ∀ (l l' : List CT), ceqL l l' = true ↔ l = l'
  | [], [] => by simp [ceqL]
  | [], _ :: _ => by simp [ceqL]
  | _ :: _, [] => by simp [ceqL]
  | c :: t, c' :: t' => by
    rw [ceqL, Bool.and_eq_true, ceq_iff c c', ceqL_iff t t']
    simp
end
/-- The chains that conditions end themselves. -/
def ownC (l : List CT) : List Int := (List.range l.length).map fun i => (sizeL (l.take (i + 1)) : Int) - 1
def ownCTo (l : List CT) (k : Nat) : List Int := (List.range k).map fun i => (sizeL (l.take (i + 1)) : Int) - 1
abbrev RhC (G : Ghost) (z : List (List CT × Value)) : Prop := ∀ q ∈ z, Rs G q.2 q.1
theorem RhC.mono {G G' : Ghost} {z : List (List CT × Value)} (h : RhC G z) (hle : GLe G G') : RhC G' z := fun q hq => (h q hq).mono hle
theorem RhC.snoc {G : Ghost} {z : List (List CT × Value)} {v : Value} {l : List CT} (h : RhC G z) (hl : Rs G v l) : RhC G (z ++ [(l, v)]) := fun q hq => by
  rcases List.mem_append.1 hq with h1 | h1
  · exact h q h1
  · rw [List.mem_singleton.1 h1]; exact hl
theorem RhC.app {G : Ghost} {z z' : List (List CT × Value)} (h : RhC G z) (h' : RhC G z') : RhC G (z ++ z') := fun q hq => by
  rcases List.mem_append.1 hq with h1 | h1
  · exact h q h1
  · exact h' q h1
end Go.Gx.T6

/-
  GX: a row of the call's own is sorted by the library with a function of the program's. Generic in the program.
-/
namespace Go.Gx
open Go.RowKit Go.Sort Go.Proofs

section
variable {α : Type} [Inhabited α]

end

/-- What a call of the library's slices.SortFunc comes to. -/
def SortFC (P : Program) {α : Type} [Inhabited α] (f g : FuncId) (enc : α → List Value) (kk : Nat) (lt : α → α → Bool) : Prop := ∀ (blk cap : Nat) (zs : List α) (w : World), HoldsK enc kk w blk 0 zs.toArray → blk < w.heap.size → zs.length < 4611686018427387904 →
  Calls P f #[.slice (some ⟨blk, 0, none⟩) zs.length cap, .func (.func g) #[] #[]] w fun e w' => e = .returned (.tuple #[]) ∧ ∃ (d' : Array α) (n : Nat) (os : Array Obj), PermIn 0 zs.toArray.size zs.toArray d' ∧ SortedIn lt 0 zs.toArray.size d' ∧ w' = sortWorldK enc kk w blk 0 n d' os
def SortFN (P : Program) (f g : FuncId) : Prop := ∀ (p : Option Addr) (cap : Nat) (w : World), Calls P f #[.slice p 0 cap, .func (.func g) #[] #[]] w fun e w' => e = .returned (.tuple #[]) ∧ w' = w

section
variable {P : Program} {ops : Array Oper} {Q : Exit → Act → World → Prop} {N : Nat} {X : Nat → Prop} {w0 : World} {G : Ghost} {l : List (Nat × Value)} {L : List Asrt}
variable {rest : List Oper} {d k : Nat} {ty : TypeId} {pos : String} {after : Array Edge} {gd : Option (Nat × Bool)} {v : Value} {E : TypeId} {f g : FuncId} {xs : List Operand} {ats : Array TypeId}
variable {α : Type} [Inhabited α] {enc : α → List Value} {kk : Nat} {lt : α → α → Bool} {zs : List α}

end
end Go.Gx

/- Plain laws of places where variables are bound; no program in sight. -/
namespace Go.Gx.T6
open Go.Gx Go.Gx.T3 Go.Gx.T4 Go.Gx.T8

/-- The place of the first one, or -1. -/
def idxF {α : Type} (pf : α → Bool) : List α → Int → Int
  | [], _ => -1
  | x :: t, k => if pf x = true then k else idxF pf t (k + 1)
/-! ### places -/
abbrev PL := Int × Int × Int
def isV (v : Int) (p : PL) : Bool := decide (p.1 = v)
/-- How many Pos there are. -/
def posN : List CT → Nat
  | [] => 0
  | c :: t => (if c.h.k = 1 then 1 else 0) + posN t
def pl1 (h : Hd) (b : Int) (out : List PL) (f : Nat) : List PL := if vF h f = true ∧ ¬ 0 ≤ idxF (isV (nF h f)) out 0 then out ++ [(nF h f, b, (f : Int))] else out
def plTo (h : Hd) (b : Int) (out : List PL) : Nat → List PL
  | 0 => out
  | f + 1 => pl1 h b (plTo h b out f) f
def places : List CT → Int → List PL → List PL
  | [], _, out => out
  | c :: t, b, out => if c.h.k = 1 then places t (b + 1) (plTo c.h b out 3) else places t b out
/-- Whose variables differ. -/
def Once (l : List PL) : Prop := l.Pairwise fun a b => a.1 ≠ b.1
def ltP (a b : PL) : Bool := decide (a.1 < b.1)
end Go.Gx.T6
namespace Go.Gx.T6
open Go.Gx Go.Gx.T3 Go.Gx.T4 Go.Gx.T8
abbrev A6 (n : Int) : CT := .mk ⟨1, false, n, false, 1, true, n⟩ []
abbrev B6 : CT := .mk ⟨3, false, 0, false, 0, false, 0⟩ [A6 2, A6 3]
abbrev L6 : List CT := [A6 1, B6, A6 4]
end Go.Gx.T6

/- Plain laws of chains: their sizes, where they stand; no program in sight. -/
namespace Go.Gx.T6
open Go.Gx Go.Gx.T3 Go.Gx.T4 Go.Gx.T8

theorem sizeL_append (a b : List CT) : sizeL (a ++ b) = sizeL a + sizeL b := by
  induction a with
  | nil => simp [sizeL]
  | cons c t ih => simp only [List.cons_append, sizeL, ih]; omega
mutual
theorem chain1_size : ∀ (c : CT) (ah : List CT), ∀ x ∈ chain1 ah c, sizeL x ≤ sizeL ah + size c
  | .mk h l, ah, x, hx => by
    rw [chain1] at hx
    rcases List.mem_append.1 hx with hx | hx
    · split at hx
      · have := chains_size l ah x hx
        rw [size]; omega
      · cases hx
    · rw [List.mem_singleton.1 hx, sizeL_append]
      simp [sizeL]
theorem chains_size : ∀ (l : List CT) (ah : List CT), ∀ x ∈ chains ah l, sizeL x ≤ sizeL ah + sizeL l
  | [], _, x, hx => by rw [chains] at hx; cases hx
  | c :: t, ah, x, hx => by
    rw [chains] at hx
    rcases List.mem_append.1 hx with hx | hx
    · have := chain1_size c ah x hx
      rw [sizeL]; omega
    · have := chains_size t (ah ++ [c]) x hx
      rw [sizeL_append] at this
      simp only [sizeL] at this ⊢
      omega
end
mutual
/-- Only Ncc have conditions in them. -/
def flatOk : CT → Bool
  | .mk h l => (decide (h.k = 3) || l.isEmpty) && flatOkL l
def flatOkL : List CT → Bool
  | [] => true
  | c :: t => flatOk c && flatOkL t
end
mutual
theorem flat_of_check : ∀ (c : CT) (d : Int), check c d = 0 → flatOk c = true
  | .mk h l, d, hc => by
    rw [check] at hc
    rw [flatOk]
    split at hc
    · omega
    · split at hc
      · rename_i h3
        split at hc
        · omega
        · split at hc
          · omega
          · rw [flat_of_checkL l _ hc, decide_eq_true h3]; rfl
      · split at hc
        · omega
        · split at hc
          · omega
          · rename_i _ _ h4
            have : l = [] := by
              rcases l with _ | ⟨a, b⟩
              · rfl
              · exact absurd (.inr (by simp)) h4
            subst this
            simp [flatOkL]
theorem flat_of_checkL : ∀ (l : List CT) (d : Int), checkL l d = 0 → flatOkL l = true
  | [], _, _ => by rw [flatOkL]
  | c :: t, d, hc => by
    rw [checkL] at hc
    split at hc
    · rename_i h
      rw [flatOkL, flat_of_check c d h, flat_of_checkL t d hc]; rfl
    · rename_i h; exact absurd hc h
end
mutual
theorem chain1_eq : ∀ (c : CT) (ah : List CT), flatOk c = true → (chain1 ah c).length = size c
  | .mk h l, ah, hc => by
    rw [flatOk, Bool.and_eq_true] at hc
    rw [chain1, size]
    split
    · rw [List.length_append, chains_eq l ah hc.2]; simp; omega
    · rename_i h3
      have : l = [] := by
        have h4 := hc.1
        rw [decide_eq_false h3, Bool.false_or] at h4
        simpa using h4
      subst this
      simp [sizeL]
theorem chains_eq : ∀ (l : List CT) (ah : List CT), flatOkL l = true → (chains ah l).length = sizeL l
  | [], _, _ => by simp [chains, sizeL]
  | c :: t, ah, h => by
    rw [flatOkL, Bool.and_eq_true] at h
    rw [chains, List.length_append, chain1_eq c ah h.1, chains_eq t _ h.2, sizeL]
end
/-! ### each but its last condition stands ahead -/
def Ahead (ah : List CT) (cs : List (List CT)) : Prop := ∀ i (hi : i < cs.length), cs[i] ≠ [] ∧ (cs[i].dropLast = ah ∨ ∃ j, ∃ (hj : j < i), cs[j]'(by omega) = cs[i].dropLast)
theorem Ahead.snoc {ah : List CT} {cs : List (List CT)} {c : CT} (h : Ahead ah cs) : Ahead ah (cs ++ [ah ++ [c]]) := by
  intro i hi
  by_cases hlt : i < cs.length
  · have h1 := h i hlt
    rw [List.getElem_append_left hlt]
    refine ⟨h1.1, h1.2.imp id ?_⟩
    rintro ⟨j, hj, e⟩
    exact ⟨j, hj, by rw [List.getElem_append_left (by omega)]; exact e⟩
  · have e : i = cs.length := by simp at hi; omega
    subst e
    simp
theorem Ahead.app {ah : List CT} {cs ds : List (List CT)} {c : CT} (h : Ahead ah (cs ++ [ah ++ [c]])) (h2 : Ahead (ah ++ [c]) ds) : Ahead ah ((cs ++ [ah ++ [c]]) ++ ds) := by
  intro i hi
  by_cases hlt : i < (cs ++ [ah ++ [c]]).length
  · have h1 := h i hlt
    rw [List.getElem_append_left hlt]
    refine ⟨h1.1, h1.2.imp id ?_⟩
    rintro ⟨j, hj, e⟩
    exact ⟨j, hj, by rw [List.getElem_append_left (by omega)]; exact e⟩
  · have hge : (cs ++ [ah ++ [c]]).length ≤ i := by omega
    have h1 := h2 (i - (cs ++ [ah ++ [c]]).length) (by simp at hi hge ⊢; omega)
    rw [List.getElem_append_right hge]
    refine ⟨h1.1, .inr ?_⟩
    rcases h1.2 with e | ⟨j, hj, e⟩
    · refine ⟨cs.length, by simp at hge; omega, ?_⟩
      rw [e]
      rw [List.getElem_append_left (by simp)]
      simp
    · refine ⟨j + (cs ++ [ah ++ [c]]).length, by omega, ?_⟩
      rw [← e, List.getElem_append_right (by omega)]
      congr 1
      omega
mutual
theorem chain1_ahead : ∀ (c : CT) (ah : List CT), ∃ cs, chain1 ah c = cs ++ [ah ++ [c]] ∧ Ahead ah (cs ++ [ah ++ [c]])
  | .mk h l, ah => by
    refine ⟨if h.k = 3 then chains ah l else [], by rw [chain1], Ahead.snoc ?_⟩
    split
    · exact chains_ahead l ah
    · intro i hi; simp at hi
theorem chains_ahead : ∀ (l : List CT) (ah : List CT), Ahead ah (chains ah l)
  | [], _ => by rw [chains]; intro i hi; simp at hi
  | c :: t, ah => by
    obtain ⟨cs, e, h⟩ := chain1_ahead c ah
    rw [chains, e]
    exact Ahead.app h (chains_ahead t (ah ++ [c]))
end
/-- Is a chain the beginning of another? -/
def hadPre (qs : List (List CT)) (x : List CT) (i : Nat) : Bool := decide (x.length = 1) || (qs.take i).any fun y => ceqL y x.dropLast
def foundTo (qs : List (List CT)) (x : List CT) (j : Nat) : Bool := decide (x.length = 1) || (qs.take j).any fun y => ceqL y x.dropLast
end Go.Gx.T6
namespace Go.Gx.T6
open Go.Gx Go.Gx.T3 Go.Gx.T4 Go.Gx.T8
abbrev e6 : List CT × Value := ([], .slice none 0 0)
end Go.Gx.T6
namespace Go.Gx.T6
open Go.Gx Go.Gx.T3 Go.Gx.T4 Go.Gx.T8
end Go.Gx.T6

/-
  GX: results that lie in memory of the call's own alone; parts of arrays. Generic in the program.
-/
namespace Go.Gx
open Go.RowKit

/-- What is known of the memory that was laid since a world. -/
def fr (w0 : World) (G : Ghost) : Ghost := fun b => if w0.heap.size ≤ b then G b else none
theorem RowAt.fr {w0 : World} {G : Ghost} {b o n : Nat} {g : Nat → Value} (h : RowAt G b o n g) (hb : w0.heap.size ≤ b) : RowAt (fr w0 G) b o n g := by
  obtain ⟨c, T, f, h1, h2⟩ := h
  exact ⟨c, T, f, by unfold Gx.fr; rw [if_pos hb]; exact h1, h2⟩
theorem SlG.fr {w0 : World} {G : Ghost} {v : Value} {n sz : Nat} {f : Nat → Nat → Value} (h : SlG G v n sz f) (hv : ∀ b, v.ownBlock = some b → w0.heap.size ≤ b) : SlG (fr w0 G) v n sz f := by
  obtain ⟨a, cap, rfl, hc, hr⟩ := h
  refine ⟨a, cap, rfl, hc, fun hn => ?_⟩
  obtain ⟨b, o, rfl, h2⟩ := hr hn
  exact ⟨b, o, rfl, fun i hi => (h2 i hi).fr (hv b rfl)⟩
theorem RowAt.sub {G : Ghost} {b o n j m : Nat} {g : Nat → Value} (h : RowAt G b o n g) (hj : j + m ≤ n) : RowAt G b (o + j) m (fun i => g (j + i)) := by
  obtain ⟨c, T, f, h1, h2⟩ := h
  exact ⟨c, T, f, h1, fun i hi => by rw [Nat.add_assoc]; exact h2 (j + i) (by omega)⟩

section
variable {P : Program} {ops : Array Oper} {Q : Exit → Act → World → Prop} {N : Nat} {w0 : World} {G : Ghost} {l : List (Nat × Value)} {L : List Asrt}
variable {rest : List Oper} {d : Nat} {ty : TypeId} {pos : String} {after : Array Edge} {gd : Option (Nat × Bool)} {v : Value}

end

section
variable {P : Program} {N : Nat} {X : Nat → Prop} {w0 : World} {G : Ghost} {l : List (Nat × Value)} {L : List Asrt} {d : Nat} {ty : TypeId} {pos : String} {after : Array Edge} {gd : Option (Nat × Bool)} {x y : Operand}
end
end Go.Gx

/- Plain laws of compiled steps: where variables were bound, found in a sorted list of places; steps that are alike; no program in sight. -/
namespace Go.Gx.T8
open Go.Gx Go.Gx.T3 Go.Gx.T4 Go.Gx.T6

/-! ### the first alike term -/
abbrev TT := Bool × Int
def tmC (t : TT) : List Value := [.bool t.1, .int .i64 t.2]
abbrev tt0 : TT := (false, 0)
def terms (h : Hd) : List TT := [(h.v0, h.n0), (h.v1, h.n1), (h.v2, h.n2)]
def sameT (t z : TT) : Bool := csEq (tmC t) (tmC z)
/-- Where the first term ahead of term f stands that is alike; -1: none. -/
def ownG (h : Hd) (f : Nat) : Int := idxF (sameT (vF h f, nF h f)) ((terms h).take f) 0
/-! ### bound, by a list of places -/
def lkP (v : Int) (ps : List PL) : Option (Int × Int) := (ps.find? (isV v)).map Prod.snd
theorem Ss.le {G G' : Ghost} {v : Value} {l : List ST} (h : Ss G v l) (hle : GLe G G') : Ss G' v l := h.mono hle
end Go.Gx.T8
namespace Go.Gx.T8
open Go.Gx Go.Gx.T3 Go.Gx.T4 Go.Gx.T6
end Go.Gx.T8
namespace Go.Gx.T8
open Go.Gx Go.Gx.T3 Go.Gx.T4 Go.Gx.T6
end Go.Gx.T8

/- Plain laws of steps: alike, right, few; no program in sight. -/
namespace Go.Gx.T8
open Go.Gx Go.Gx.T3 Go.Gx.T4 Go.Gx.T6

theorem tC_eq (a b : TD) : csEq (tC a) (tC b) = decide (a = b) := by
  obtain ⟨a0, a1, a2⟩ := a
  obtain ⟨b0, b1, b2⟩ := b
  by_cases h0 : a0 = b0 <;> by_cases h1 : a1 = b1 <;> by_cases h2 : a2 = b2 <;> simp [tC, csEq, cEq, h0, h1, h2]
theorem take_eq_succ {α : Type} {a b : List α} {k : Nat} {d : α} (ha : k < a.length) (hb : k < b.length) (h : a.take k = b.take k) (he : a.getD k d = b.getD k d) : a.take (k + 1) = b.take (k + 1) := by
  rw [List.take_succ_eq_append_getElem ha, List.take_succ_eq_append_getElem hb, h]
  simp [List.getD, List.getElem?_eq_getElem ha, List.getElem?_eq_getElem hb] at he
  rw [he]
theorem ne_of_get {α : Type} {a b : List α} {k : Nat} {d : α} (he : a.getD k d ≠ b.getD k d) : a ≠ b := fun h => he (by rw [h])
theorem ne_of_len {α : Type} {a b : List α} (h : a.length ≠ b.length) : a ≠ b := fun e => h (by rw [e])
def kEq (a b : SH) : Bool := csEq [.int .i64 a.k0, .int .i64 a.k1, .int .i64 a.k2] [.int .i64 b.k0, .int .i64 b.k1, .int .i64 b.k2]
theorem kEq_iff (a b : SH) : kEq a b = true ↔ a.k0 = b.k0 ∧ a.k1 = b.k1 ∧ a.k2 = b.k2 := by simp [kEq, csEq, cEq, and_assoc]
mutual
def seq : ST → ST → Bool
  | .mk h l, .mk h' l' => (decide (h.k = h'.k) && kEq h h') && (decide (h.ts = h'.ts) && seqL l l')
def seqL : List ST → List ST → Bool
  | [], [] => true
  | c :: t, c' :: t' => seq c c' && seqL t t'
  | _, _ => false
end
theorem seq_eq (a b : ST) : seq a b = ((decide (a.h.k = b.h.k) && kEq a.h b.h) && (decide (a.h.ts = b.h.ts) && seqL a.subs b.subs)) := by cases a; cases b; rw [seq]; rfl
theorem seqL_len : ∀ {l l' : List ST}, l.length ≠ l'.length → seqL l l' = false
  | [], [], h => absurd rfl h
  | [], _ :: _, _ => by simp [seqL]
  | _ :: _, [], _ => by simp [seqL]
  | c :: t, c' :: t', h => by rw [seqL, seqL_len (by simpa using h), Bool.and_false]
theorem sv_drop {rs : List SVal} {k : Nat} (hk : k < rs.length) : (rs.map Prod.fst).drop k = (rs.getD k s0).1 :: (rs.map Prod.fst).drop (k + 1) := by
  rw [List.drop_eq_getElem_cons (by simpa using hk)]
  simp [List.getD, List.getElem?_eq_getElem hk]
theorem seqL_no {rs rs2 : List SVal} {k : Nat} (h1 : k < rs.length) (h2 : k < rs2.length) (h : seq (rs.getD k s0).1 (rs2.getD k s0).1 = false) : seqL ((rs.map Prod.fst).drop k) ((rs2.map Prod.fst).drop k) = false := by
  rw [sv_drop h1, sv_drop h2, seqL, h, Bool.false_and]
theorem seqL_yes {rs rs2 : List SVal} {k : Nat} (h1 : k < rs.length) (h2 : k < rs2.length) (h : seq (rs.getD k s0).1 (rs2.getD k s0).1 = true) : seqL ((rs.map Prod.fst).drop (k + 1)) ((rs2.map Prod.fst).drop (k + 1)) = seqL ((rs.map Prod.fst).drop k) ((rs2.map Prod.fst).drop k) := by
  rw [sv_drop h1, sv_drop h2, seqL, h, Bool.true_and]
mutual
theorem seq_iff : ∀ (a b : ST), seq a b = true ↔ a = b
  | .mk h l, .mk h' l' => by
    rw [seq, Bool.and_eq_true, Bool.and_eq_true, Bool.and_eq_true, decide_eq_true_iff, decide_eq_true_iff, kEq_iff, seqL_iff l l']
    obtain ⟨a, b, c, d, e⟩ := h
    obtain ⟨a', b', c', d', e'⟩ := h'
    simp only [ST.mk.injEq, SH.mk.injEq]
    constructor
    · rintro ⟨⟨h1, h2, h3, h4⟩, h5, h6⟩; exact ⟨⟨h1, h2, h3, h4, h5⟩, h6⟩
    · rintro ⟨⟨h1, h2, h3, h4, h5⟩, h6⟩; exact ⟨⟨h1, h2, h3, h4⟩, h5, h6⟩
theorem seqL_iff : ∀ (l l' : List ST), seqL l l' = true ↔ l = l'
  | [], [] => by simp [seqL]
  | [], _ :: _ => by simp [seqL]
  | _ :: _, [] => by simp [seqL]
  | c :: t, c' :: t' => by
    rw [seqL, Bool.and_eq_true, seq_iff c c', seqL_iff t t']
    simp
end
theorem ssz_at {a : ST} {rs : List SVal} {i n : Nat} (h : a.subs = rs.map Prod.fst) (hi : i < rs.length) (hn : SizeOf.sizeOf a ≤ n + 1) : SizeOf.sizeOf (rs.getD i s0).1 ≤ n := by
  have h1 : (rs.getD i s0).1 ∈ a.subs := by rw [h]; exact sv_mem hi
  have h2 := List.sizeOf_lt_of_mem h1
  have h3 : SizeOf.sizeOf a.subs < SizeOf.sizeOf a := by
    cases a with
    | mk h l => simp [ST.subs]; omega
  omega
theorem s_pos (a : ST) : 0 < SizeOf.sizeOf a := by cases a; simp; omega
end Go.Gx.T8
namespace Go.Gx.T8
open Go.Gx Go.Gx.T3 Go.Gx.T4 Go.Gx.T6
abbrev L8 : List CT := [.mk ⟨1, true, 1, false, 4, true, 2⟩ [], .mk ⟨1, true, 2, false, 4, true, 1⟩ []]
abbrev S80 : ST := .mk ⟨1, 0, 4, 0, []⟩ []
abbrev S81 : ST := .mk ⟨1, 0, 4, 0, [(0, 0, 2), (2, 0, 0)]⟩ []
end Go.Gx.T8
namespace Go.Gx.T8
theorem s_subs (a : ST) : SizeOf.sizeOf a.subs < SizeOf.sizeOf a := by
  cases a with
  | mk h l => simp [ST.subs]; omega
end Go.Gx.T8
namespace Go.Gx.T8
open Go.Gx Go.Gx.T3 Go.Gx.T4 Go.Gx.T6
end Go.Gx.T8

/- Walks: what Go functions of this chapter come to, each as a function on plain data; no condition but those that each theorem names. Printed by a program of this work (gen.py). -/
namespace Go.Proofs.Ytdkfdncbldngdaa
open Go.Gx Go.Gx.T4 Go.Gx.T3 Go.Gx.T6 Go.Gx.T8 Go.Gx.T4 Go.Gx.T3 Go.Gx.T8 Go.Gx.T4 Go.Gx.T3 Go.Gx.T8 Go.Gx.T6 Go.Gx.T4 Go.Gx.T3
theorem sz35 : SzIs Try.prog 35 1 := by
 unfold SzIs
 kernel_rfl
theorem sz47 : SzIs Try.prog 47 3 := by
 unfold SzIs
 kernel_rfl
theorem sz52 : SzIs Try.prog 52 3 := by
 unfold SzIs
 kernel_rfl
theorem zr52 : ZeroIs Try.prog 52 (Value.agg #[Value.int .i64 0, Value.int .i64 0, Value.int .i64 0]) := by
 unfold ZeroIs
 kernel_rfl
theorem lf47 : leafT Try.prog 9 47 = some [3, 3, 3] := by
 kernel_rfl
theorem ef47 : eqT Try.prog 9 47 = true := by
 kernel_rfl
theorem lf52 : leafT Try.prog 9 52 = some [3, 3, 3] := by
 kernel_rfl
theorem ef52 : eqT Try.prog 9 52 = true := by
 kernel_rfl
theorem eg47 : Try.prog.eqGuardType Try.prog.depth 47 = false := by
 kernel_rfl
theorem eg52 : Try.prog.eqGuardType Try.prog.depth 52 = false := by
 kernel_rfl
theorem cl37 : Callable Try.prog 37 := callable Try.func37 (by kernel_rfl) rfl
theorem cl62 : Callable Try.prog 62 := callable Try.func62 (by kernel_rfl) rfl
theorem cl73 : Callable Try.prog 73 := callable Try.func73 (by kernel_rfl) rfl
theorem cl74 : Callable Try.prog 74 := callable Try.func74 (by kernel_rfl) rfl
theorem bl90_0i1_1a3 (x0 : Int) (x1 : Value) (x2 : Value) (x3 : Value) : Program.built Try.prog 90 [(0, Value.int .i64 x0), (1, Value.agg #[x1, x2, x3])] = some #[Value.int .i64 x0, x1, x2, x3, Value.slice none 0 0, Value.slice none 0 0] := by
 kernel_rfl
def CsameIs (n : Nat) : Prop := ∀ (c c2 : ST) (ta sb ta2 sb2 : Value) (G : Ghost) (w : World), SizeOf.sizeOf c ≤ n → SlL G ta 3 tC t0 c.h.ts → Ss G sb c.subs → SlL G ta2 3 tC t0 c2.h.ts → Ss G sb2 c2.subs → Has G w → Calls Try.prog 62 #[Value.agg #[Value.int .i64 c.h.k, Value.int .i64 c.h.k0, Value.int .i64 c.h.k1, Value.int .i64 c.h.k2, ta, sb], Value.agg #[Value.int .i64 c2.h.k, Value.int .i64 c2.h.k0, Value.int .i64 c2.h.k1, Value.int .i64 c2.h.k2, ta2, sb2]] w (Ret fun r w' => r = Value.bool (seq c c2) ∧ Since nX w w')
def RsameSIs (n : Nat) : Prop := ∀ (c c2 : ST) (ta sb ta2 sb2 : Value) (G : Ghost) (w : World), SizeOf.sizeOf c ≤ n → SlL G ta 3 tC t0 c.h.ts → Ss G sb c.subs → SlL G ta2 3 tC t0 c2.h.ts → Ss G sb2 c2.subs → Has G w → Calls Try.prog 55 #[Value.agg #[Value.int .i64 c.h.k, Value.int .i64 c.h.k0, Value.int .i64 c.h.k1, Value.int .i64 c.h.k2, ta, sb], Value.agg #[Value.int .i64 c2.h.k, Value.int .i64 c2.h.k0, Value.int .i64 c2.h.k1, Value.int .i64 c2.h.k2, ta2, sb2]] w (Ret fun r w' => r = Value.bool (seq c c2) ∧ Since nX w w')
def SrefIs (n : Nat) : Prop := ∀ (c : ST) (ta sb : Value) (G : Ghost) (w : World), SizeOf.sizeOf c ≤ n → ssz c ≤ 5000 → SlL G ta 3 tC t0 c.h.ts → Ss G sb c.subs → Has G w → Calls Try.prog 37 #[Value.agg #[Value.int .i64 c.h.k, Value.int .i64 c.h.k0, Value.int .i64 c.h.k1, Value.int .i64 c.h.k2, ta, sb]] w (Ret fun r w' => ∃ G', GNew w nX G G' ∧ Has G' w' ∧ (∃ ua ub, r = Value.agg #[Value.int .i64 (c).h.k, Value.int .i64 (c).h.k0, Value.int .i64 (c).h.k1, Value.int .i64 (c).h.k2, ua, ub] ∧ SlL G' ua 3 tC t0 (c).h.ts ∧ Ss G' ub (c).subs) ∧ Since nX w w')
theorem c_eqT (v v2 : Value) (a b : List TD) {G : Ghost} (hr : SlL G v 3 tC t0 a) (hr2 : SlL G v2 3 tC t0 b) (w : World) (hG : Has G w) :
  Calls Try.prog 73 #[v, v2] w (Ret fun r w' => r = Value.bool (decide (a = b)) ∧ Since nX w w') := by
 refine enter (args := [_, _]) (X := nX) (G := G) (l := [(0, v), (1, v2)]) Try.func73 rfl Try.ntmps73 hG ⟨rfl, rfl, trivial⟩ (Nat.le_of_ble_eq_true rfl) ?_
 have hbd := hr.bound
 have hbd2 := hr2.bound
 refine c_seq ?_
 refine c_region ?_
 refine r_val .none rfl (p_assign rfl) ?_
 refine r_nil ?_
 refine e_next ?_
 refine c_seq ?_
 refine c_seq ?_
 refine c_region ?_
 refine r_val .none rfl (p_move rfl) ?_
 refine r_val .none rfl (p_leng Try.underlying48 rfl hr) ?_
 have bd_1 := (hr).bound
 refine r_val .none rfl (p_move rfl) ?_
 refine r_val .none rfl (p_leng Try.underlying48 rfl hr2) ?_
 have bd_2 := (hr2).bound
 refine r_val .none rfl (p_ne rfl rfl) ?_
 refine r_nil ?_
 refine e_next ?_
 refine c_splitd (d := 10) rfl (fun h_3 => ?_) (fun h_3 => ?_)
 ·
  first
   | (exfalso; omega)
   | (
    refine c_cond_t rfl ?_
    refine c_seq ?_
    refine c_region ?_
    refine r_val .none rfl (p_assign rfl) ?_
    refine r_nil ?_
    refine e_next ?_
    refine c_ret ?_
    refine e_ret_then ?_
    refine e_ret1 Try.results73 (.tmp rfl .nil) (fun w hm => ⟨?_, hm.since⟩)
    first
    | exact congrArg Value.bool (decide_eq_false (ne_of_len (by omega))).symm
    | exact congrArg Value.bool (decide_eq_false (ne_of_get hE)).symm
    | (have hk := hphi.2.2; rw [List.take_of_length_le (by omega), List.take_of_length_le (by omega)] at hk; exact congrArg Value.bool (decide_eq_true hk).symm)
    )
 ·
  first
   | (exfalso; omega)
   | (
    refine c_cond_f rfl ?_
    refine c_skip ?_
    refine e_next ?_
    refine c_seq ?_
    refine c_seq ?_
    refine c_region ?_
    refine r_val .none rfl (p_move rfl) ?_
    refine r_val .none rfl (p_leng Try.underlying48 rfl hr) ?_
    have bd_4 := (hr).bound
    refine r_val .none rfl (p_move rfl) ?_
    refine r_nil ?_
    refine e_next ?_
    refine c_block ?_
    refine c_name (d := 0) rfl (fun u_5 hu_5 => ?_)
    refine c_name (d := 1) rfl (fun u_6 hu_6 => ?_)
    refine c_name (d := 12) rfl (fun u_7 hu_7 => ?_)
    refine c_loop (σ := Nat) (fun k => [(13, Value.int .i64 (k : Nat)), (0, u_5), (1, u_6), (12, u_7)]) (fun k => []) (fun _ => _) (fun k => k ≤ a.length ∧ a.length = b.length ∧ a.take k = b.take k) (fun k => a.length - k) (0) ⟨Nat.zero_le _, by omega, rfl⟩ rfl ⟨rfl, rfl, rfl, rfl, trivial⟩ (.nil) (fun k hphi => ?_)
    subst hu_5
    subst hu_6
    subst hu_7
    refine c_seq ?_
    refine c_region ?_
    refine r_val .none rfl (p_lt rfl rfl) ?_
    refine r_nil ?_
    refine e_next ?_
    refine c_seq ?_
    refine c_splitd (d := 14) rfl (fun h_8 => ?_) (fun h_8 => ?_)
    ·
     first
      | (exfalso; omega)
      | (
       refine c_cond_t rfl ?_
       refine c_skip ?_
       refine e_next ?_
       refine c_seq ?_
       refine c_block ?_
       refine c_seq ?_
       refine c_region ?_
       refine r_val .none rfl (p_move rfl) ?_
       refine r_val .none rfl (p_assign rfl) ?_
       refine r_nil ?_
       refine e_next ?_
       refine c_seq ?_
       refine c_region_q mixed (by kernel_rfl) ?_
       refine q_val .none rfl (p_move rfl) ?_
       refine q_val .none rfl (p_move rfl) ?_
       refine q_iaddr_g .none rfl Try.underlying48 sz52 rfl hr rfl (by first | exact of_decide_eq_true rfl | omega) (fun p_10 o_11 R_9 => ?_)
       refine q_val .none rfl (p_ldga0 Try.underlying52 rfl sz52 rfl R_9 (by first | exact of_decide_eq_true rfl | omega) (rfl : _ = Value.agg #[_, _, _])) ?_
       refine q_val .none rfl (p_move rfl) ?_
       refine q_val .none rfl (p_move rfl) ?_
       refine q_iaddr_g .none rfl Try.underlying48 sz52 rfl hr2 rfl (by first | exact of_decide_eq_true rfl | omega) (fun p_13 o_14 R_12 => ?_)
       refine q_val .none rfl (p_ldga0 Try.underlying52 rfl sz52 rfl R_12 (by first | exact of_decide_eq_true rfl | omega) (rfl : _ = Value.agg #[_, _, _])) ?_
       refine q_val .none rfl (p_nea rfl rfl (eq_flat Try.underlying52 rfl lf52 ef52 eg52 (.cons (.int Try.underlying3) (.cons (.int Try.underlying3) (.cons (.int Try.underlying3) (.nil)))) (.cons (.int Try.underlying3) (.cons (.int Try.underlying3) (.cons (.int Try.underlying3) (.nil)))))) ?_
       refine q_nil ?_
       refine e_next ?_
       refine c_splitn (d := 24) rfl (fun h_15 => ?_) (fun h_15 => ?_)
       ·
        have hE : a.getD k t0 ≠ b.getD k t0 := of_decide_eq_false ((tC_eq _ _).symm.trans h_15)
        first
         | (exfalso; omega)
         | (
          refine c_cond_t rfl ?_
          refine c_seq ?_
          refine c_region ?_
          refine r_val .none rfl (p_assign rfl) ?_
          refine r_nil ?_
          refine e_next ?_
          refine c_ret ?_
          refine e_ret_block ?_
          refine e_ret_then ?_
          refine e_ret_then ?_
          refine e_ret_block ?_
          refine e_ret_then ?_
          refine e_ret1 Try.results73 (.tmp rfl .nil) (fun w hm => ⟨?_, hm.since⟩)
          first
          | exact congrArg Value.bool (decide_eq_false (ne_of_len (by omega))).symm
          | exact congrArg Value.bool (decide_eq_false (ne_of_get hE)).symm
          | (have hk := hphi.2.2; rw [List.take_of_length_le (by omega), List.take_of_length_le (by omega)] at hk; exact congrArg Value.bool (decide_eq_true hk).symm)
          )
       ·
        have hE : a.getD k t0 = b.getD k t0 := of_decide_eq_true ((tC_eq _ _).symm.trans h_15)
        first
         | (exfalso; omega)
         | (
          refine c_cond_f rfl ?_
          refine c_skip ?_
          refine e_norm_block ?_
          refine e_next ?_
          refine c_region ?_
          refine r_val .none rfl (p_add rfl rfl (by omega)) ?_
          refine r_val .none rfl (p_move rfl) ?_
          refine r_nil ?_
          refine e_round (k + 1) ⟨⟨by omega, hphi.2.1, take_eq_succ (d := t0) (by omega) (by omega) hphi.2.2 hE⟩, by omega⟩ rfl ⟨rfl, rfl, rfl, rfl, trivial⟩ (.nil)
          )
       )
    ·
     first
      | (exfalso; omega)
      | (
       refine c_cond_f rfl ?_
       refine c_exit ?_
       refine e_exit_then ?_
       refine e_exit_then ?_
       refine e_exit_block ?_
       refine e_next ?_
       refine c_seq ?_
       refine c_region ?_
       refine r_val .none rfl (p_assign rfl) ?_
       refine r_nil ?_
       refine e_next ?_
       refine c_ret ?_
       refine e_ret1 Try.results73 (.tmp rfl .nil) (fun w hm => ⟨?_, hm.since⟩)
       first
       | exact congrArg Value.bool (decide_eq_false (ne_of_len (by omega))).symm
       | exact congrArg Value.bool (decide_eq_false (ne_of_get hE)).symm
       | (have hk := hphi.2.2; rw [List.take_of_length_le (by omega), List.take_of_length_le (by omega)] at hk; exact congrArg Value.bool (decide_eq_true hk).symm)
       )
    )
theorem c_eqfS (n : Nat) (ih : CsameIs n) (v v2 : Value) (l l2 : List ST) {G : Ghost} (hz : ∀ x ∈ l, SizeOf.sizeOf x ≤ n) (hs : Ss G v l) (hs2 : Ss G v2 l2) (w : World) (hG : Has G w) :
  Calls Try.prog 74 #[v, v2, Value.func (.func 62) #[] #[]] w (Ret fun r w' => r = Value.bool (seqL l l2) ∧ Since nX w w') := by
 refine enter (args := [_, _, _]) (X := nX) (G := G) (l := [(0, v), (1, v2), (2, Value.func (.func 62) #[] #[])]) Try.func74 rfl Try.ntmps74 hG ⟨rfl, rfl, rfl, trivial⟩ (Nat.le_of_ble_eq_true rfl) ?_
 obtain ⟨rs, hr, hrt, hrs, hl⟩ := hs.inv
 obtain ⟨rs2, hr2, hrt2, hrs2, hl2⟩ := hs2.inv
 have hbd := hr.bound
 have hbd2 := hr2.bound
 refine c_seq ?_
 refine c_region ?_
 refine r_val .none rfl (p_assign rfl) ?_
 refine r_nil ?_
 refine e_next ?_
 refine c_seq ?_
 refine c_seq ?_
 refine c_region ?_
 refine r_val .none rfl (p_move rfl) ?_
 refine r_val .none rfl (p_leng Try.underlying35 rfl hr) ?_
 have bd_1 := (hr).bound
 refine r_val .none rfl (p_move rfl) ?_
 refine r_val .none rfl (p_leng Try.underlying35 rfl hr2) ?_
 have bd_2 := (hr2).bound
 refine r_val .none rfl (p_ne rfl rfl) ?_
 refine r_nil ?_
 refine e_next ?_
 refine c_splitd (d := 14) rfl (fun h_3 => ?_) (fun h_3 => ?_)
 ·
  first
   | (exfalso; omega)
   | (
    refine c_cond_t rfl ?_
    refine c_seq ?_
    refine c_region ?_
    refine r_val .none rfl (p_assign rfl) ?_
    refine r_nil ?_
    refine e_next ?_
    refine c_ret ?_
    refine e_ret_then ?_
    refine e_ret1 Try.results74 (.tmp rfl .nil) (fun w hm => ⟨?_, hm.since⟩)
    first
    | (rw [hl, hl2, seqL_len (by simp; omega)])
    | (rw [hl, hl2, ← hphi.2.2, seqL_no (by omega) (by omega) hE])
    | (rw [hl, hl2, ← hphi.2.2, List.drop_eq_nil_of_le (by simp; omega), List.drop_eq_nil_of_le (by simp; omega)]; rfl)
    )
 ·
  first
   | (exfalso; omega)
   | (
    refine c_cond_f rfl ?_
    refine c_skip ?_
    refine e_next ?_
    refine c_seq ?_
    refine c_seq ?_
    refine c_region ?_
    refine r_val .none rfl (p_move rfl) ?_
    refine r_val .none rfl (p_leng Try.underlying35 rfl hr) ?_
    have bd_4 := (hr).bound
    refine r_val .none rfl (p_move rfl) ?_
    refine r_nil ?_
    refine e_next ?_
    refine c_block ?_
    refine c_name (d := 1) rfl (fun u_5 hu_5 => ?_)
    refine c_name (d := 2) rfl (fun u_6 hu_6 => ?_)
    refine c_name (d := 15) rfl (fun u_7 hu_7 => ?_)
    refine c_name (d := 16) rfl (fun u_8 hu_8 => ?_)
    refine c_loop (σ := Nat) (fun k => [(17, Value.int .i64 (k : Nat)), (1, u_5), (2, u_6), (15, u_7), (16, u_8)]) (fun k => []) (fun _ => _) (fun k => k ≤ rs.length ∧ rs.length = rs2.length ∧ seqL ((rs.map Prod.fst).drop k) ((rs2.map Prod.fst).drop k) = seqL (rs.map Prod.fst) (rs2.map Prod.fst)) (fun k => rs.length - k) (0) ⟨Nat.zero_le _, by omega, rfl⟩ rfl ⟨rfl, rfl, rfl, rfl, rfl, trivial⟩ (.nil) (fun k hphi => ?_)
    subst hu_5
    subst hu_6
    subst hu_7
    subst hu_8
    refine c_seq ?_
    refine c_region ?_
    refine r_val .none rfl (p_lt rfl rfl) ?_
    refine r_nil ?_
    refine e_next ?_
    refine c_seq ?_
    refine c_splitd (d := 18) rfl (fun h_9 => ?_) (fun h_9 => ?_)
    ·
     first
      | (exfalso; omega)
      | (
       refine c_cond_t rfl ?_
       refine c_skip ?_
       refine e_next ?_
       refine c_seq ?_
       refine c_block ?_
       refine c_seq ?_
       refine c_region ?_
       refine r_val .none rfl (p_move rfl) ?_
       refine r_iaddr_g .none rfl Try.underlying35 sz50 rfl hr rfl (by first | exact of_decide_eq_true rfl | omega) (fun p_11 o_12 R_10 => ?_)
       have ht_13 := hrt _ (getD_mem (i := k) (d := s0) (by omega))
       have hc_14 := hrs _ (getD_mem (i := k) (d := s0) (by omega))
       refine r_val .none rfl (p_ldga0 Try.underlying50 rfl sz50 rfl R_10 (by first | exact of_decide_eq_true rfl | omega) (rfl : _ = Value.agg #[_, _, _, _, _, _])) ?_
       refine r_alloc .none rfl zr50 (IsRow.lit _) (fun b_1 => ?_)
       refine r_val .none rfl (p_assign rfl) ?_
       refine r_stw (k := 0) .none sz50 rfl rfl (IsRow.lit _) (one_lit rfl (all_cons rfl (all_cons rfl (all_cons rfl (all_cons rfl (all_cons (ht_13).one (all_cons (hc_14).one rfl))))))) rfl ?_
       refine r_nil ?_
       refine e_next ?_
       refine c_seq ?_
       refine c_region ?_
       refine r_val .none rfl (p_move rfl) ?_
       refine r_val .none rfl (p_move rfl) ?_
       refine r_iaddr_g .none rfl Try.underlying35 sz50 rfl hr2 rfl (by first | exact of_decide_eq_true rfl | omega) (fun p_16 o_17 R_15 => ?_)
       have ht_18 := hrt2 _ (getD_mem (i := k) (d := s0) (by omega))
       have hc_19 := hrs2 _ (getD_mem (i := k) (d := s0) (by omega))
       refine r_val .none rfl (p_ldga0 Try.underlying50 rfl sz50 rfl R_15 (by first | exact of_decide_eq_true rfl | omega) (rfl : _ = Value.agg #[_, _, _, _, _, _])) ?_
       refine r_alloc .none rfl zr50 (IsRow.lit _) (fun b_2 => ?_)
       refine r_stw (k := 0) .none sz50 rfl rfl (IsRow.lit _) (one_lit rfl (all_cons rfl (all_cons rfl (all_cons rfl (all_cons rfl (all_cons (ht_18).one (all_cons (hc_19).one rfl))))))) rfl ?_
       refine r_nil ?_
       refine e_next ?_
       refine c_seq ?_
       refine c_region ?_
       refine r_val .none rfl (p_move rfl) ?_
       refine r_val .none rfl (p_ldw (k := 1) Try.underlying50 rfl sz50 rfl rfl (rfl : _ = Value.agg #[_, _, _, _, _, _])) ?_
       refine r_val .none rfl (p_ldw (k := 0) Try.underlying50 rfl sz50 rfl rfl (rfl : _ = Value.agg #[_, _, _, _, _, _])) ?_
       refine r_fun (cs := []) .none rfl ?_
       refine r_call (vs := [_, _]) .none rfl cl62 rfl (fun w hw => ih (rs.getD k s0).1 _ _ _ _ _ _ w (hz _ (by rw [hl]; exact sv_mem (k := k) (by omega))) ht_13 hc_14 ht_18 hc_19 hw) ?_
       refine r_val .none rfl (p_not rfl) ?_
       refine r_nil ?_
       refine e_next ?_
       refine c_splitn (d := 30) rfl (fun h_20 => ?_) (fun h_20 => ?_)
       ·
        have hE := h_20
        first
         | (exfalso; omega)
         | (
          refine c_cond_t rfl ?_
          refine c_seq ?_
          refine c_region ?_
          refine r_val .none rfl (p_assign rfl) ?_
          refine r_nil ?_
          refine e_next ?_
          refine c_ret ?_
          refine e_ret_block ?_
          refine e_ret_then ?_
          refine e_ret_then ?_
          refine e_ret_block ?_
          refine e_ret_then ?_
          refine e_ret1 Try.results74 (.tmp rfl .nil) (fun w hm => ⟨?_, hm.since⟩)
          first
          | (rw [hl, hl2, seqL_len (by simp; omega)])
          | (rw [hl, hl2, ← hphi.2.2, seqL_no (by omega) (by omega) hE])
          | (rw [hl, hl2, ← hphi.2.2, List.drop_eq_nil_of_le (by simp; omega), List.drop_eq_nil_of_le (by simp; omega)]; rfl)
          )
       ·
        have hE := h_20
        first
         | (exfalso; omega)
         | (
          refine c_cond_f rfl ?_
          refine c_skip ?_
          refine e_norm_block ?_
          refine e_next ?_
          refine c_region ?_
          refine r_val .none rfl (p_add rfl rfl (by omega)) ?_
          refine r_val .none rfl (p_move rfl) ?_
          refine r_nil ?_
          refine e_round (k + 1) ⟨⟨by omega, hphi.2.1, by rw [seqL_yes (by omega) (by omega) hE]; exact hphi.2.2⟩, by omega⟩ rfl ⟨rfl, rfl, rfl, rfl, rfl, trivial⟩ (.drop (.drop (.nil)))
          )
       )
    ·
     first
      | (exfalso; omega)
      | (
       refine c_cond_f rfl ?_
       refine c_exit ?_
       refine e_exit_then ?_
       refine e_exit_then ?_
       refine e_exit_block ?_
       refine e_next ?_
       refine c_seq ?_
       refine c_region ?_
       refine r_val .none rfl (p_assign rfl) ?_
       refine r_nil ?_
       refine e_next ?_
       refine c_ret ?_
       refine e_ret1 Try.results74 (.tmp rfl .nil) (fun w hm => ⟨?_, hm.since⟩)
       first
       | (rw [hl, hl2, seqL_len (by simp; omega)])
       | (rw [hl, hl2, ← hphi.2.2, seqL_no (by omega) (by omega) hE])
       | (rw [hl, hl2, ← hphi.2.2, List.drop_eq_nil_of_le (by simp; omega), List.drop_eq_nil_of_le (by simp; omega)]; rfl)
       )
    )
theorem c_csame_s (n : Nat) (ih : CsameIs n) (c c2 : ST) (ta sb ta2 sb2 : Value) {G : Ghost} (hz : SizeOf.sizeOf c ≤ n + 1) (ht : SlL G ta 3 tC t0 c.h.ts) (hs : Ss G sb c.subs) (ht2 : SlL G ta2 3 tC t0 c2.h.ts) (hs2 : Ss G sb2 c2.subs) (w : World) (hG : Has G w) :
  Calls Try.prog 62 #[Value.agg #[Value.int .i64 c.h.k, Value.int .i64 c.h.k0, Value.int .i64 c.h.k1, Value.int .i64 c.h.k2, ta, sb], Value.agg #[Value.int .i64 c2.h.k, Value.int .i64 c2.h.k0, Value.int .i64 c2.h.k1, Value.int .i64 c2.h.k2, ta2, sb2]] w (Ret fun r w' => r = Value.bool (seq c c2) ∧ Since nX w w') := by
 refine enter (args := [_, _]) (X := nX) (G := G) (l := [(0, Value.agg #[Value.int .i64 c.h.k, Value.int .i64 c.h.k0, Value.int .i64 c.h.k1, Value.int .i64 c.h.k2, ta, sb]), (1, Value.agg #[Value.int .i64 c2.h.k, Value.int .i64 c2.h.k0, Value.int .i64 c2.h.k1, Value.int .i64 c2.h.k2, ta2, sb2])]) Try.func62 rfl Try.ntmps62 hG ⟨rfl, rfl, trivial⟩ (Nat.le_of_ble_eq_true rfl) ?_
 refine c_seq ?_
 refine c_region ?_
 refine r_box .none rfl rfl (IsRow.lit _) (fun b_1 => ?_)
 refine r_box .none rfl rfl (IsRow.lit _) (fun b_2 => ?_)
 refine r_val .none rfl (p_assign rfl) ?_
 refine r_nil ?_
 refine e_next ?_
 refine c_seq ?_
 refine c_region ?_
 refine r_val .none rfl (p_field Try.underlying50 rfl sz3 rfl) ?_
 refine r_val .none rfl (p_ld (k := 1) Try.underlying3 rfl rfl rfl (by first | exact of_decide_eq_true rfl | omega) (rfl : _ = Value.int _ _)) ?_
 refine r_val .none rfl (p_field Try.underlying50 rfl sz3 rfl) ?_
 refine r_val .none rfl (p_ld (k := 0) Try.underlying3 rfl rfl rfl (by first | exact of_decide_eq_true rfl | omega) (rfl : _ = Value.int _ _)) ?_
 refine r_val .none rfl (p_eq rfl rfl) ?_
 refine r_val .none rfl (p_move rfl) ?_
 refine' r_and (c := 10) (d := 16) [_, _, _, _, _, _] rfl (fun h_1 Q_2 hQ_3 => ?_) (fun h_1 Q_2 hQ_3 => ?_) ?_
 rotate_left 1
 ·
  replace h_1 := of_decide_eq_true h_1
  refine r_val (.some rfl rfl) rfl (p_field Try.underlying50 rfl sz47 rfl) ?_
  refine r_val (.some rfl rfl) rfl (p_lda (k := 1) Try.underlying47 rfl sz47 rfl rfl (by first | exact of_decide_eq_true rfl | omega) (rfl : _ = Value.agg #[_, _, _])) ?_
  refine r_val (.some rfl rfl) rfl (p_field Try.underlying50 rfl sz47 rfl) ?_
  refine r_val (.some rfl rfl) rfl (p_lda (k := 0) Try.underlying47 rfl sz47 rfl rfl (by first | exact of_decide_eq_true rfl | omega) (rfl : _ = Value.agg #[_, _, _])) ?_
  refine r_val (.some rfl rfl) rfl (p_eqa rfl rfl (eq_flat Try.underlying47 rfl lf47 ef47 eg47 (.cons (.int Try.underlying3) (.cons (.int Try.underlying3) (.cons (.int Try.underlying3) (.nil)))) (.cons (.int Try.underlying3) (.cons (.int Try.underlying3) (.cons (.int Try.underlying3) (.nil)))))) ?_
  refine r_val .none rfl (p_pick_t rfl rfl) ?_
  refine r_nil (e_fin (d := 16) hQ_3 rfl (by repeat (first | exact .refl | refine .put rfl ?_ | refine .say rfl ?_ | refine .say2 rfl (by first | assumption | simp_all) ?_)))
 ·
  repeat (first | refine r_skip rfl (.no rfl rfl) ?_ | refine r_skip rfl (.un rfl rfl) ?_)
  refine r_val (by first | exact .none | exact .some rfl rfl) rfl (p_pick_f rfl rfl) ?_
  refine r_nil (e_fin (d := 16) hQ_3 rfl (by repeat (first | exact .refl | refine .put rfl ?_ | refine .say rfl ?_ | refine .say2 rfl (by first | assumption | simp_all) ?_)))
 refine r_val .none rfl (p_move rfl) ?_
 refine' r_and (c := 17) (d := 23) [_, _, _, _, _, _] rfl (fun h_5 Q_6 hQ_7 => ?_) (fun h_5 Q_6 hQ_7 => ?_) ?_
 rotate_left 1
 ·
  try simp only [norms] at h_5
  refine r_val (.some rfl rfl) rfl (p_field Try.underlying50 rfl sz48 rfl) ?_
  refine r_val (.some rfl rfl) rfl (p_ld (k := 1) Try.underlying48 rfl rfl rfl (by first | exact of_decide_eq_true rfl | omega) rfl) ?_
  refine r_val (.some rfl rfl) rfl (p_field Try.underlying50 rfl sz48 rfl) ?_
  refine r_val (.some rfl rfl) rfl (p_ld (k := 0) Try.underlying48 rfl rfl rfl (by first | exact of_decide_eq_true rfl | omega) rfl) ?_
  refine r_call (vs := [_, _]) (.some rfl rfl) rfl cl73 rfl (fun w hw => c_eqT _ _ _ _ ht ht2 w hw) ?_
  refine r_val .none rfl (p_pick_t rfl rfl) ?_
  refine r_nil (e_fin (d := 23) hQ_7 rfl (by repeat (first | exact .refl | refine .put rfl ?_ | refine .say rfl ?_ | refine .say2 rfl (by first | assumption | simp_all) ?_)))
 ·
  repeat (first | refine r_skip rfl (.no rfl rfl) ?_ | refine r_skip rfl (.un rfl rfl) ?_)
  refine r_val (by first | exact .none | exact .some rfl rfl) rfl (p_pick_f rfl rfl) ?_
  refine r_nil (e_fin (d := 23) hQ_7 rfl (by repeat (first | exact .refl | refine .put rfl ?_ | refine .say rfl ?_ | refine .say2 rfl (by first | assumption | simp_all) ?_)))
 refine r_val .none rfl (p_move rfl) ?_
 refine' r_and (c := 24) (d := 30) [_, _, _, _, _, _] rfl (fun h_9 Q_10 hQ_11 => ?_) (fun h_9 Q_10 hQ_11 => ?_) ?_
 rotate_left 1
 ·
  try simp only [norms] at h_9
  refine r_val (.some rfl rfl) rfl (p_field Try.underlying50 rfl sz35 rfl) ?_
  refine r_val (.some rfl rfl) rfl (p_ld (k := 1) Try.underlying35 rfl rfl rfl (by first | exact of_decide_eq_true rfl | omega) rfl) ?_
  refine r_val (.some rfl rfl) rfl (p_field Try.underlying50 rfl sz35 rfl) ?_
  refine r_val (.some rfl rfl) rfl (p_ld (k := 0) Try.underlying35 rfl rfl rfl (by first | exact of_decide_eq_true rfl | omega) rfl) ?_
  refine r_call (vs := [_, _, _]) (.some rfl rfl) rfl cl74 rfl (fun w hw => c_eqfS n ih _ _ _ _ (fun x hx => by have := List.sizeOf_lt_of_mem hx; have := s_subs c; omega) hs hs2 w hw) ?_
  refine r_val .none rfl (p_pick_t rfl rfl) ?_
  refine r_nil (e_fin (d := 30) hQ_11 rfl (by repeat (first | exact .refl | refine .put rfl ?_ | refine .say rfl ?_ | refine .say2 rfl (by first | assumption | simp_all) ?_)))
 ·
  repeat (first | refine r_skip rfl (.no rfl rfl) ?_ | refine r_skip rfl (.un rfl rfl) ?_)
  refine r_val (by first | exact .none | exact .some rfl rfl) rfl (p_pick_f rfl rfl) ?_
  refine r_nil (e_fin (d := 30) hQ_11 rfl (by repeat (first | exact .refl | refine .put rfl ?_ | refine .say rfl ?_ | refine .say2 rfl (by first | assumption | simp_all) ?_)))
 refine r_val .none rfl (p_assign rfl) ?_
 refine r_nil ?_
 refine e_next ?_
 refine c_ret ?_
 refine e_ret1 Try.results62 (.tmp rfl .nil) (fun w hm => ⟨?_, hm.since⟩)
 rw [seq_eq]
 first
 | rfl
 | (show _ = _; congr 1; simp only [Bool.and_assoc]; rfl)
theorem c_csame_n : ∀ n, CsameIs n
 | 0 => fun c c2 ta sb ta2 sb2 G w hz _ _ _ _ _ => absurd hz (by have := s_pos c; omega)
 | n + 1 => fun c c2 ta sb ta2 sb2 G w hz ht hs ht2 hs2 hG => c_csame_s n (c_csame_n n) c c2 ta sb ta2 sb2 hz ht hs ht2 hs2 w hG
theorem c_csame (c c2 : ST) (ta sb ta2 sb2 : Value) {G : Ghost} (ht : SlL G ta 3 tC t0 c.h.ts) (hs : Ss G sb c.subs) (ht2 : SlL G ta2 3 tC t0 c2.h.ts) (hs2 : Ss G sb2 c2.subs) (w : World) (hG : Has G w) : Calls Try.prog 62 #[Value.agg #[Value.int .i64 c.h.k, Value.int .i64 c.h.k0, Value.int .i64 c.h.k1, Value.int .i64 c.h.k2, ta, sb], Value.agg #[Value.int .i64 c2.h.k, Value.int .i64 c2.h.k0, Value.int .i64 c2.h.k1, Value.int .i64 c2.h.k2, ta2, sb2]] w (Ret fun r w' => r = Value.bool (seq c c2) ∧ Since nX w w') := c_csame_n _ c c2 ta sb ta2 sb2 G w (Nat.le_refl _) ht hs ht2 hs2 hG
theorem c_sref_s (n : Nat) (ih : SrefIs n) (c : ST) (ta sb : Value) {G : Ghost} (hz : SizeOf.sizeOf c ≤ n + 1) (hsz : ssz c ≤ 5000) (ht : SlL G ta 3 tC t0 c.h.ts) (hs : Ss G sb c.subs) (w : World) (hG : Has G w) :
  Calls Try.prog 37 #[Value.agg #[Value.int .i64 c.h.k, Value.int .i64 c.h.k0, Value.int .i64 c.h.k1, Value.int .i64 c.h.k2, ta, sb]] w (Ret fun r w' => ∃ G', GNew w nX G G' ∧ Has G' w' ∧ (∃ ua ub, r = Value.agg #[Value.int .i64 (c).h.k, Value.int .i64 (c).h.k0, Value.int .i64 (c).h.k1, Value.int .i64 (c).h.k2, ua, ub] ∧ SlL G' ua 3 tC t0 (c).h.ts ∧ Ss G' ub (c).subs) ∧ Since nX w w') := by
 refine enter (args := [_]) (X := nX) (G := G) (l := [(0, Value.agg #[Value.int .i64 c.h.k, Value.int .i64 c.h.k0, Value.int .i64 c.h.k1, Value.int .i64 c.h.k2, ta, sb])]) Try.func37 rfl Try.ntmps37 hG ⟨rfl, trivial⟩ (Nat.le_of_ble_eq_true rfl) ?_
 obtain ⟨rs, hr, hrt, hrs, hl⟩ := hs.inv
 have hbd := hr.bound
 have hbd2 := ht.bound
 have hsq := ssz_eq c
 have hll := sszL_len c.subs
 have hlr : c.subs.length = rs.length := by rw [hl]; simp
 refine c_seq ?_
 refine c_region ?_
 refine r_box .none rfl rfl (IsRow.lit _) (fun b_1 => ?_)
 refine r_alloc .none rfl zr90 (IsRow.lit _) (fun b_2 => ?_)
 refine r_nil ?_
 refine e_next ?_
 refine c_seq ?_
 refine c_region ?_
 refine r_val .none rfl (p_field Try.underlying50 rfl sz3 rfl) ?_
 refine r_val .none rfl (p_ld (k := 1) Try.underlying3 rfl rfl rfl (by first | exact of_decide_eq_true rfl | omega) (rfl : _ = Value.int _ _)) ?_
 refine r_val .none rfl (p_field Try.underlying50 rfl sz47 rfl) ?_
 refine r_val .none rfl (p_lda (k := 1) Try.underlying47 rfl sz47 rfl rfl (by first | exact of_decide_eq_true rfl | omega) (rfl : _ = Value.agg #[_, _, _])) ?_
 refine r_val .none rfl (p_build (vs := [(0, Value.int _ _), (1, Value.agg #[_, _, _])]) rfl (bl90_0i1_1a3 _ _ _ _)) ?_
 refine r_alloc .none rfl zr90 (IsRow.lit _) (fun b_3 => ?_)
 refine r_stw (k := 0) .none sz90 rfl rfl (IsRow.lit _) (one_lit rfl rfl) rfl ?_
 refine r_nil ?_
 refine e_next ?_
 refine c_seq ?_
 refine c_seq ?_
 refine c_region ?_
 refine r_val .none rfl (p_field Try.underlying50 rfl sz48 rfl) ?_
 refine r_val .none rfl (p_ld (k := 2) Try.underlying48 rfl rfl rfl (by first | exact of_decide_eq_true rfl | omega) rfl) ?_
 refine r_val .none rfl (p_leng Try.underlying48 rfl ht) ?_
 have bd_1 := (ht).bound
 refine r_val .none rfl (p_move rfl) ?_
 refine r_nil ?_
 refine e_next ?_
 refine c_block ?_
 refine c_nilrow 96 3 ?_
 refine c_name (d := 1) rfl (fun u_2 hu_2 => ?_)
 refine c_name (d := 2) rfl (fun u_3 hu_3 => ?_)
 refine c_name (d := 3) rfl (fun u_4 hu_4 => ?_)
 refine c_name (d := 14) rfl (fun u_5 hu_5 => ?_)
 refine c_name (d := 15) rfl (fun u_6 hu_6 => ?_)
 refine c_nameL (k := 2) rfl (fun A_7 hA_7 => ?_)
 refine c_nameL (k := 3) rfl (fun A_8 hA_8 => ?_)
 refine c_loop (σ := Nat × Value) (fun s => [(16, Value.int .i64 (s.1 : Nat)), (1, u_2), (2, u_3), (3, u_4), (14, u_5), (15, u_6)]) (fun s => [rowA (s.2) 96 3 ((c.h.ts.take s.1)).length (((c.h.ts.take s.1)).flatMap tC), box b_3 6 90 (at_ [.int .i64 c.h.k, .int .i64 c.h.k0, .int .i64 c.h.k1, .int .i64 c.h.k2, s.2, .slice none 0 0]), A_7, A_8]) (fun _ => _) (fun s => s.1 ≤ c.h.ts.length) (fun s => c.h.ts.length - s.1) ((0, _)) (Nat.zero_le _) rfl ⟨rfl, rfl, rfl, rfl, rfl, rfl, trivial⟩ (.keep (fun _ _ h => rowA_nil rfl _ _ h) (.keep (fun _ _ h => box_congr (fun i hi => by match i, hi with | 0, _ => rfl | 1, _ => rfl | 2, _ => rfl | 3, _ => rfl | 4, _ => rfl | 5, _ => rfl) _ _ h) (.keep (fun _ _ h => h) (.keep (fun _ _ h => h) (.nil))))) (fun s hphi => ?_)
 subst hu_2
 subst hu_3
 subst hu_4
 subst hu_5
 subst hu_6
 subst hA_7
 subst hA_8
 obtain ⟨j, tv⟩ := s
 dsimp only at hphi ⊢
 refine c_row1 (k := 0) rfl (fun ov => ?_)
 refine c_rowlen (k := 0) rfl (fun l63 => ?_)
 refine c_seq ?_
 refine c_region ?_
 refine r_val .none rfl (p_lt rfl rfl) ?_
 refine r_nil ?_
 refine e_next ?_
 refine c_seq ?_
 refine c_splitd (d := 17) rfl (fun h_9 => ?_) (fun h_9 => ?_)
 ·
  first
   | (exfalso; omega)
   | (
    refine c_cond_t rfl ?_
    refine c_skip ?_
    refine e_next ?_
    refine c_seq ?_
    refine c_block ?_
    refine c_seq ?_
    refine c_region ?_
    refine r_iaddr_g .none rfl Try.underlying48 sz52 rfl ht rfl (by first | exact of_decide_eq_true rfl | omega) (fun p_11 o_12 R_10 => ?_)
    refine r_val .none rfl (p_ldga0 Try.underlying52 rfl sz52 rfl R_10 (by first | exact of_decide_eq_true rfl | omega) (rfl : _ = Value.agg #[_, _, _])) ?_
    refine r_alloc .none rfl zr52 (IsRow.lit _) (fun b_4 => ?_)
    refine r_stw (k := 0) .none sz52 rfl rfl (IsRow.lit _) (one_lit rfl rfl) rfl ?_
    refine r_nil ?_
    refine e_next ?_
    refine c_region ?_
    refine r_val .none rfl (p_field Try.underlying90 rfl sz88 rfl) ?_
    refine r_val .none rfl (p_ld (k := 2) Try.underlying88 rfl rfl rfl (by first | exact of_decide_eq_true rfl | omega) rfl) ?_
    refine r_val .none rfl (p_field Try.underlying52 rfl sz3 rfl) ?_
    refine r_val .none rfl (p_ld (k := 0) Try.underlying3 rfl rfl rfl (by first | exact of_decide_eq_true rfl | omega) (rfl : _ = Value.int _ _)) ?_
    refine r_val .none rfl (p_field Try.underlying52 rfl sz3 rfl) ?_
    refine r_val .none rfl (p_ld (k := 0) Try.underlying3 rfl rfl rfl (by first | exact of_decide_eq_true rfl | omega) (rfl : _ = Value.int _ _)) ?_
    refine r_val .none rfl (p_field Try.underlying52 rfl sz3 rfl) ?_
    refine r_val .none rfl (p_ld (k := 0) Try.underlying3 rfl rfl rfl (by first | exact of_decide_eq_true rfl | omega) (rfl : _ = Value.int _ _)) ?_
    refine r_val .none rfl (p_build (vs := [(0, Value.int _ _), (1, Value.int _ _), (2, Value.int _ _)]) rfl (bl96_0i1_1i1_2i1 _ _ _)) ?_
    refine r_bslice (vs := [(0, Value.agg #[_, _, _])]) (c := #[_, _, _]) .none rfl Try.underlying88 el96 rfl rfl rfl (bs96_10a3 _ _ _) (IsRow.lit _) (fun b_5 => ?_)
    refine r_append (k := 2) (k2 := 0) .none rfl Try.underlying88 el96 rfl (by decide) rfl rfl rfl rfl rfl (one_lit rfl rfl) (by rw [List.length_take]; simp only [maxLen]; omega) (by rw [List.length_take]; omega) (fun v_13 => ?_)
    refine r_row1 (k := 2) rfl (fun o_14 => ?_)
    refine r_val .none rfl (p_field Try.underlying90 rfl sz88 rfl) ?_
    refine r_st (k := 3) .none sz88 rfl rfl o_14 rfl (by first | exact of_decide_eq_true rfl | omega) ?_
    refine r_nil ?_
    refine e_norm_block ?_
    refine e_next ?_
    refine c_region ?_
    refine r_val .none rfl (p_add rfl rfl (by omega)) ?_
    refine r_val .none rfl (p_move rfl) ?_
    refine r_nil ?_
    refine e_round ((j + 1, _)) ⟨by dsimp only; omega, by dsimp only; omega⟩ rfl ⟨rfl, rfl, rfl, rfl, rfl, rfl, trivial⟩ (.drop (.drop (.keep (fun _ _ h => rowA_snoc (ts_next (by omega)) rfl rfl rfl _ _ h) (.keep (fun _ _ h => box_congr (fun i hi => by match i, hi with | 0, _ => rfl | 1, _ => rfl | 2, _ => rfl | 3, _ => rfl | 4, _ => rfl | 5, _ => rfl) _ _ h) (.keep (fun _ _ h => h) (.keep (fun _ _ h => h) (.nil)))))))
    )
 ·
  first
   | (exfalso; omega)
   | (
    refine c_cond_f rfl ?_
    refine c_exit ?_
    refine e_exit_then ?_
    refine e_exit_then ?_
    refine e_exit_block ?_
    refine e_next ?_
    refine c_seq ?_
    refine c_seq ?_
    refine c_region ?_
    have hj2 : c.h.ts.take j = c.h.ts := List.take_of_length_le (by omega)
    refine r_freeze (k := 0) rfl (fun G_15 hn_16 hs_17 => ?_)
    replace ht := ht.mono hn_16.le
    replace hr := hr.mono hn_16.le
    replace hrt := fun p hm0 => (hrt p hm0).mono hn_16.le
    replace hrs := fun p hm0 => (hrs p hm0).mono hn_16.le
    have hts : SlL G_15 tv 3 tC t0 c.h.ts := SlL.of2 t0 (fun _ => rfl) (by rw [hj2]) (by rw [hj2]) hs_17
    refine r_val .none rfl (p_field Try.underlying50 rfl sz35 rfl) ?_
    refine r_val .none rfl (p_ld (k := 2) Try.underlying35 rfl rfl rfl (by first | exact of_decide_eq_true rfl | omega) rfl) ?_
    refine r_val .none rfl (p_leng Try.underlying35 rfl hr) ?_
    have bd_18 := (hr).bound
    refine r_val .none rfl (p_move rfl) ?_
    refine r_nil ?_
    refine e_next ?_
    refine c_block ?_
    refine c_nilrow 90 6 ?_
    refine c_name (d := 2) rfl (fun u_19 hu_19 => ?_)
    refine c_name (d := 3) rfl (fun u_20 hu_20 => ?_)
    refine c_name (d := 34) rfl (fun u_21 hu_21 => ?_)
    refine c_name (d := 35) rfl (fun u_22 hu_22 => ?_)
    refine c_nameL (k := 2) rfl (fun A_23 hA_23 => ?_)
    refine c_nameL (k := 3) rfl (fun A_24 hA_24 => ?_)
    refine c_loop (σ := Nat × Value × List SVal × Ghost) (fun s => [(36, Value.int .i64 (s.1 : Nat)), (2, u_19), (3, u_20), (34, u_21), (35, u_22)]) (fun s => [rowA (s.2.1) 90 6 (s.2.2.1).length ((s.2.2.1).flatMap sC), box b_3 6 90 (at_ [.int .i64 c.h.k, .int .i64 c.h.k0, .int .i64 c.h.k1, .int .i64 c.h.k2, tv, s.2.1]), A_23, A_24]) (fun s => s.2.2.2) (fun s => s.1 ≤ rs.length ∧ s.2.2.1.map Prod.fst = (rs.map Prod.fst).take s.1 ∧ (∀ p ∈ s.2.2.1, SlL s.2.2.2 p.2.1 3 tC t0 p.1.h.ts) ∧ (∀ p ∈ s.2.2.1, Ss s.2.2.2 p.2.2 p.1.subs) ∧ GNew w nX G_15 s.2.2.2) (fun s => rs.length - s.1) ((0, _, [], _)) ⟨Nat.zero_le _, rfl, by simp, by simp, GNew.refl _ _ _⟩ rfl ⟨rfl, rfl, rfl, rfl, rfl, trivial⟩ (.keep (fun _ _ h => rowA_nil rfl _ _ h) (.keep (fun _ _ h => box_congr (fun i hi => by match i, hi with | 0, _ => rfl | 1, _ => rfl | 2, _ => rfl | 3, _ => rfl | 4, _ => rfl | 5, _ => rfl) _ _ h) (.keep (fun _ _ h => h) (.keep (fun _ _ h => h) (.nil))))) (fun s hphi => ?_)
    subst hu_19
    subst hu_20
    subst hu_21
    subst hu_22
    subst hA_23
    subst hA_24
    obtain ⟨k, v, qs, H⟩ := s
    obtain ⟨hk, hq, hqt, hqs, hgn⟩ := hphi
    dsimp only at hk hq hqt hqs hgn ⊢
    have hql : qs.length ≤ k := (by have := congrArg List.length hq; simp at this; omega)
    refine c_row1 (k := 0) rfl (fun ov => ?_)
    refine c_rowlen (k := 0) rfl (fun l63 => ?_)
    replace ht := ht.mono hgn.le
    replace hr := hr.mono hgn.le
    replace hrt := fun p hm0 => (hrt p hm0).mono hgn.le
    replace hrs := fun p hm0 => (hrs p hm0).mono hgn.le
    replace hts := hts.mono hgn.le
    refine c_seq ?_
    refine c_region ?_
    refine r_val .none rfl (p_lt rfl rfl) ?_
    refine r_nil ?_
    refine e_next ?_
    refine c_seq ?_
    refine c_splitd (d := 37) rfl (fun h_25 => ?_) (fun h_25 => ?_)
    ·
     first
      | (exfalso; omega)
      | (
       refine c_cond_t rfl ?_
       refine c_skip ?_
       refine e_next ?_
       refine c_seq ?_
       refine c_block ?_
       refine c_seq ?_
       refine c_region ?_
       refine r_iaddr_g .none rfl Try.underlying35 sz50 rfl hr rfl (by first | exact of_decide_eq_true rfl | omega) (fun p_27 o_28 R_26 => ?_)
       have ht_29 := hrt _ (getD_mem (i := k) (d := s0) (by omega))
       have hc_30 := hrs _ (getD_mem (i := k) (d := s0) (by omega))
       have hz8 : ssz (rs.getD k s0).1 ≤ 5000 := Nat.le_trans (sszL_mem (l := c.subs) (by rw [hl]; exact sv_mem (k := k) (by omega))) (by omega)
       refine r_val .none rfl (p_ldga0 Try.underlying50 rfl sz50 rfl R_26 (by first | exact of_decide_eq_true rfl | omega) (rfl : _ = Value.agg #[_, _, _, _, _, _])) ?_
       refine r_alloc .none rfl zr50 (IsRow.lit _) (fun b_6 => ?_)
       refine r_stw (k := 0) .none sz50 rfl rfl (IsRow.lit _) (one_lit rfl (all_cons rfl (all_cons rfl (all_cons rfl (all_cons rfl (all_cons (ht_29).one (all_cons (hc_30).one rfl))))))) rfl ?_
       refine r_nil ?_
       refine e_next ?_
       refine c_region_d (fun j => [5, 6, 7].contains j) _ mixed (.keep (fun _ _ h => h) (.keep (fun _ _ h => h) (.keep (fun _ _ h => h) (.keep (fun _ _ h => h) (.keep (fun _ _ h => h) (.nil)))))) ?_
       refine d_val1 0 rfl rfl (by kernel_rfl) (fun j hj => by have h : 7 < j := (Nat.lt_of_lt_of_le (by decide : 7 < 8) hj); simp; omega) .none rfl (p_field Try.underlying90 rfl sz29 rfl) ?_
       refine d_val1 1 rfl rfl (by kernel_rfl) (fun j hj => by have h : 7 < j := (Nat.lt_of_lt_of_le (by decide : 7 < 8) hj); simp; omega) .none rfl (p_ld (k := 2) Try.underlying29 rfl rfl rfl (by first | exact of_decide_eq_true rfl | omega) rfl) ?_
       refine d_val1 2 rfl rfl (by kernel_rfl) (fun j hj => by have h : 7 < j := (Nat.lt_of_lt_of_le (by decide : 7 < 8) hj); simp; omega) .none rfl (p_ldw (k := 0) Try.underlying50 rfl sz50 rfl rfl (rfl : _ = Value.agg #[_, _, _, _, _, _])) ?_
       refine d_eff 3 rfl (by kernel_rfl) (fun K_31 hKK_31 hcK_31 => ?_)
       refine r_callm (vs := [_]) .none rfl cl37 rfl (fun w hw => ih (rs.getD k s0).1 _ _ _ w (ssz_at hl (by omega) hz) hz8 ht_29 hc_30 hw) (fun G_32 v_35 hn_33 hr_34 => ?_)
       replace ht := ht.mono hn_33.le
       replace hr := hr.mono hn_33.le
       replace hrt := fun p hm0 => (hrt p hm0).mono hn_33.le
       replace hrs := fun p hm0 => (hrs p hm0).mono hn_33.le
       replace hts := hts.mono hn_33.le
       replace hqt := fun p hm0 => (hqt p hm0).mono hn_33.le
       replace hqs := fun p hm0 => (hqs p hm0).mono hn_33.le
       replace R_26 := R_26.mono hn_33.le
       replace ht_29 := ht_29.mono hn_33.le
       replace hc_30 := hc_30.mono hn_33.le
       obtain ⟨u_36a, u_36b, rfl, u_36s, u_36t⟩ := hr_34
       refine r_nil (e_d (i := 3) (brk := (fun j => [5, 6, 7].contains j)) (ph' := true) hKK_31 hcK_31 rfl (fun _ => hn_33.le) (fun _ => .keep (fun _ _ h => h) (.keep (fun _ _ h => h) (.keep (fun _ _ h => h) (.keep (fun _ _ h => h) (.keep (fun _ _ h => h) (.nil)))))) ?_)
       clear hKK_31 hcK_31 K_31
       refine d_eff 4 rfl (by kernel_rfl) (fun K_37 hKK_37 hcK_37 => ?_)
       refine r_bslice (vs := [(0, Value.agg #[_, _, _, _, _, _])]) (c := #[_, _, _, _, _, _]) .none rfl Try.underlying29 el90 rfl rfl rfl (bs90_10a6 _ _ _ _ _ _) (IsRow.lit _) (fun b_7 => ?_)
       refine r_nil (e_d (i := 4) (brk := (fun j => [5, 6, 7].contains j)) (ph' := true) hKK_37 hcK_37 rfl (fun _ => hn_33.le) (fun _ => .drop (.keep (fun _ _ h => h) (.keep (fun _ _ h => h) (.keep (fun _ _ h => h) (.keep (fun _ _ h => h) (.keep (fun _ _ h => h) (.nil))))))) ?_)
       clear hKK_37 hcK_37 K_37
       refine d_eff 5 rfl (by kernel_rfl) (fun K_38 hKK_38 hcK_38 => ?_)
       refine r_append (k := 2) (k2 := 0) .none rfl Try.underlying29 el90 rfl (by decide) rfl rfl rfl rfl rfl (one_lit rfl (all_cons rfl (all_cons rfl (all_cons rfl (all_cons rfl (all_cons (u_36s).one (all_cons (u_36t).one rfl))))))) (by simp only [maxLen]; omega) (by omega) (fun v_39 => ?_)
       refine r_row1 (k := 2) rfl (fun o_40 => ?_)
       refine r_nil (e_d (i := 5) (brk := (fun j => [5, 6, 7].contains j)) (ph' := false) hKK_38 hcK_38 rfl (fun h => by cases h) (fun h => by cases h) ?_)
       clear hKK_38 hcK_38 K_38
       refine d_val2 6 rfl rfl (by kernel_rfl) .none rfl (fun _ => p_field Try.underlying90 rfl sz29 rfl) ?_
       refine d_eff 7 rfl (by kernel_rfl) (fun K_41 hKK_41 hcK_41 => ?_)
       refine r_st (k := 3) .none sz29 rfl rfl o_40 rfl (by first | exact of_decide_eq_true rfl | omega) ?_
       refine r_nil (e_d (i := 7) (brk := (fun j => [5, 6, 7].contains j)) (ph' := false) hKK_41 hcK_41 rfl (fun h => by cases h) (fun h => by cases h) ?_)
       clear hKK_41 hcK_41 K_41
       refine d_nil (by kernel_rfl) ?_
       refine e_norm_block ?_
       refine e_next ?_
       refine c_region ?_
       refine r_val .none rfl (p_add rfl rfl (by omega)) ?_
       refine r_val .none rfl (p_move rfl) ?_
       refine r_nil ?_
       refine e_round ((k + 1, _, qs ++ [((rs.getD k s0).1, u_36a, u_36b)], _)) ⟨⟨by dsimp only; omega, by rw [sv_take (by omega), List.map_append, hq]; rfl, (fun p hp' => by rcases List.mem_append.1 hp' with h | h; exact hqt p h; rw [List.mem_singleton.1 h]; exact u_36s), (fun p hp' => by rcases List.mem_append.1 hp' with h | h; exact hqs p h; rw [List.mem_singleton.1 h]; exact u_36t), (hgn.trans hn_33)⟩, by dsimp only; omega⟩ rfl ⟨rfl, rfl, rfl, rfl, rfl, trivial⟩ (.drop (.drop (.keep (fun _ _ h => rowA_snoc (l := qs) (x := ((rs.getD k s0).1, u_36a, u_36b)) rfl rfl rfl rfl _ _ h) (.keep (fun _ _ h => box_congr (fun i hi => by match i, hi with | 0, _ => rfl | 1, _ => rfl | 2, _ => rfl | 3, _ => rfl | 4, _ => rfl | 5, _ => rfl) _ _ h) (.keep (fun _ _ h => h) (.keep (fun _ _ h => h) (.nil)))))))
       )
    ·
     first
      | (exfalso; omega)
      | (
       refine c_cond_f rfl ?_
       refine c_exit ?_
       refine e_exit_then ?_
       refine e_exit_then ?_
       refine e_exit_block ?_
       refine e_next ?_
       refine c_seq ?_
       refine c_region ?_
       refine r_val .none rfl (p_ldw (k := 1) Try.underlying90 rfl sz90 rfl rfl (rfl : _ = Value.agg #[_, _, _, _, _, _])) ?_
       refine r_stw (k := 2) .none sz90 rfl rfl (IsRow.lit _) (one_lit rfl (all_cons rfl (all_cons rfl (all_cons rfl (all_cons rfl (all_cons (hts).one (all_cons ov rfl))))))) rfl ?_
       refine r_nil ?_
       refine e_next ?_
       refine c_ret ?_
       refine e_freeze (k := 0) rfl (fun G_42 hn_43 hs_44 => ?_)
       replace ht := ht.mono hn_43.le
       replace hr := hr.mono hn_43.le
       replace hrt := fun p hm0 => (hrt p hm0).mono hn_43.le
       replace hrs := fun p hm0 => (hrs p hm0).mono hn_43.le
       replace hts := hts.mono hn_43.le
       replace hqt := fun p hm0 => (hqt p hm0).mono hn_43.le
       replace hqs := fun p hm0 => (hqs p hm0).mono hn_43.le
       refine e_ret1 Try.results37 (.cell (k := 1) rfl Try.underlying90 rfl sz90 rfl (rfl : _ = Value.agg #[_, _, _, _, _, _]) .nil) (fun w hm => ⟨_, ((hn_16.trans hgn).trans hn_43), hm.has, ?_, hm.since⟩)
       exact ⟨_, _, rfl, hts, by rw [show c.subs = qs.map Prod.fst by rw [hq, hl, List.take_of_length_le (by simp; omega)]]; exact Ss.mk qs (SlL.of s0 (fun _ => rfl) rfl hs_44) hqt hqs⟩
       )
    )
theorem c_sref_n : ∀ n, SrefIs n
 | 0 => fun c ta sb G w hz _ _ _ _ => absurd hz (by have := s_pos c; omega)
 | n + 1 => fun c ta sb G w hz hsz ht hs hG => c_sref_s n (c_sref_n n) c ta sb hz hsz ht hs w hG
theorem c_sref (c : ST) (ta sb : Value) {G : Ghost} (hsz : ssz c ≤ 5000) (ht : SlL G ta 3 tC t0 c.h.ts) (hs : Ss G sb c.subs) (w : World) (hG : Has G w) : Calls Try.prog 37 #[Value.agg #[Value.int .i64 c.h.k, Value.int .i64 c.h.k0, Value.int .i64 c.h.k1, Value.int .i64 c.h.k2, ta, sb]] w (Ret fun r w' => ∃ G', GNew w nX G G' ∧ Has G' w' ∧ (∃ ua ub, r = Value.agg #[Value.int .i64 (c).h.k, Value.int .i64 (c).h.k0, Value.int .i64 (c).h.k1, Value.int .i64 (c).h.k2, ua, ub] ∧ SlL G' ua 3 tC t0 (c).h.ts ∧ Ss G' ub (c).subs) ∧ Since nX w w') := c_sref_n _ c ta sb G w (Nat.le_refl _) hsz ht hs hG
theorem c_srefs (v : Value) (l : List ST) {G : Ghost} (hsz : sszL l ≤ 5000) (hs : Ss G v l) (w : World) (hG : Has G w) :
  Calls Try.prog 17 #[v] w (Ret fun r w' => ∃ G', GNew w nX G G' ∧ Has G' w' ∧ Ss G' r l ∧ Since nX w w') := by
 refine enter (args := [_]) (X := nX) (G := G) (l := [(0, v)]) Try.func17 rfl Try.ntmps17 hG ⟨rfl, trivial⟩ (Nat.le_of_ble_eq_true rfl) ?_
 obtain ⟨rs, hr, hrt, hrs, hl⟩ := hs.inv
 have hbd := hr.bound
 have hll := sszL_len l
 have hlr : l.length = rs.length := by rw [hl]; simp
 refine c_seq ?_
 refine c_region ?_
 refine r_val .none rfl (p_assign rfl) ?_
 refine r_nil ?_
 refine e_next ?_
 refine c_seq ?_
 refine c_region ?_
 refine r_val .none rfl (p_assign rfl) ?_
 refine r_nil ?_
 refine e_next ?_
 refine c_seq ?_
 refine c_seq ?_
 refine c_region ?_
 refine r_val .none rfl (p_move rfl) ?_
 refine r_val .none rfl (p_leng Try.underlying35 rfl hr) ?_
 have bd_1 := (hr).bound
 refine r_val .none rfl (p_move rfl) ?_
 refine r_nil ?_
 refine e_next ?_
 refine c_block ?_
 refine c_nilrow 90 6 ?_
 refine c_name (d := 2) rfl (fun u_2 hu_2 => ?_)
 refine c_name (d := 6) rfl (fun u_3 hu_3 => ?_)
 refine c_name (d := 7) rfl (fun u_4 hu_4 => ?_)
 refine c_loop (σ := Nat × Value × List SVal × Ghost) (fun s => [(8, Value.int .i64 (s.1 : Nat)), (3, s.2.1), (2, u_2), (6, u_3), (7, u_4)]) (fun s => [rowA (s.2.1) 90 6 (s.2.2.1).length ((s.2.2.1).flatMap sC)]) (fun s => s.2.2.2) (fun s => s.1 ≤ rs.length ∧ s.2.2.1.map Prod.fst = (rs.map Prod.fst).take s.1 ∧ (∀ p ∈ s.2.2.1, SlL s.2.2.2 p.2.1 3 tC t0 p.1.h.ts) ∧ (∀ p ∈ s.2.2.1, Ss s.2.2.2 p.2.2 p.1.subs) ∧ GNew w nX G s.2.2.2) (fun s => rs.length - s.1) ((0, _, [], _)) ⟨Nat.zero_le _, rfl, by simp, by simp, GNew.refl _ _ _⟩ rfl ⟨rfl, rfl, rfl, rfl, rfl, trivial⟩ (.keep (fun _ _ h => rowA_nil rfl _ _ h) (.nil)) (fun s hphi => ?_)
 subst hu_2
 subst hu_3
 subst hu_4
 obtain ⟨k, v, qs, H⟩ := s
 obtain ⟨hk, hq, hqt, hqs, hgn⟩ := hphi
 dsimp only at hk hq hqt hqs hgn ⊢
 have hql : qs.length ≤ k := (by have := congrArg List.length hq; simp at this; omega)
 replace hr := hr.mono hgn.le
 replace hrt := fun p hm0 => (hrt p hm0).mono hgn.le
 replace hrs := fun p hm0 => (hrs p hm0).mono hgn.le
 refine c_seq ?_
 refine c_region ?_
 refine r_val .none rfl (p_lt rfl rfl) ?_
 refine r_nil ?_
 refine e_next ?_
 refine c_seq ?_
 refine c_splitd (d := 9) rfl (fun h_5 => ?_) (fun h_5 => ?_)
 ·
  first
   | (exfalso; omega)
   | (
    refine c_cond_t rfl ?_
    refine c_skip ?_
    refine e_next ?_
    refine c_seq ?_
    refine c_block ?_
    refine c_seq ?_
    refine c_region ?_
    refine r_iaddr_g .none rfl Try.underlying35 sz50 rfl hr rfl (by first | exact of_decide_eq_true rfl | omega) (fun p_7 o_8 R_6 => ?_)
    have ht_9 := hrt _ (getD_mem (i := k) (d := s0) (by omega))
    have hc_10 := hrs _ (getD_mem (i := k) (d := s0) (by omega))
    have hz8 : ssz (rs.getD k s0).1 ≤ 5000 := Nat.le_trans (sszL_mem (by rw [hl]; exact sv_mem (k := k) (by omega))) hsz
    refine r_val .none rfl (p_ldga0 Try.underlying50 rfl sz50 rfl R_6 (by first | exact of_decide_eq_true rfl | omega) (rfl : _ = Value.agg #[_, _, _, _, _, _])) ?_
    refine r_alloc .none rfl zr50 (IsRow.lit _) (fun b_1 => ?_)
    refine r_stw (k := 0) .none sz50 rfl rfl (IsRow.lit _) (one_lit rfl (all_cons rfl (all_cons rfl (all_cons rfl (all_cons rfl (all_cons (ht_9).one (all_cons (hc_10).one rfl))))))) rfl ?_
    refine r_nil ?_
    refine e_next ?_
    refine c_region ?_
    refine r_val .none rfl (p_move rfl) ?_
    refine r_val .none rfl (p_ldw (k := 0) Try.underlying50 rfl sz50 rfl rfl (rfl : _ = Value.agg #[_, _, _, _, _, _])) ?_
    refine r_callm (vs := [_]) .none rfl cl37 rfl (fun w hw => c_sref (rs.getD k s0).1 _ _ hz8 ht_9 hc_10 w hw) (fun G_11 v_14 hn_12 hr_13 => ?_)
    replace hr := hr.mono hn_12.le
    replace hrt := fun p hm0 => (hrt p hm0).mono hn_12.le
    replace hrs := fun p hm0 => (hrs p hm0).mono hn_12.le
    replace hqt := fun p hm0 => (hqt p hm0).mono hn_12.le
    replace hqs := fun p hm0 => (hqs p hm0).mono hn_12.le
    replace R_6 := R_6.mono hn_12.le
    replace ht_9 := ht_9.mono hn_12.le
    replace hc_10 := hc_10.mono hn_12.le
    obtain ⟨u_15a, u_15b, rfl, u_15s, u_15t⟩ := hr_13
    refine r_bslice (vs := [(0, Value.agg #[_, _, _, _, _, _])]) (c := #[_, _, _, _, _, _]) .none rfl Try.underlying29 el90 rfl rfl rfl (bs90_10a6 _ _ _ _ _ _) (IsRow.lit _) (fun b_2 => ?_)
    refine r_append (k := 2) (k2 := 0) .none rfl Try.underlying29 el90 rfl (by decide) rfl rfl rfl rfl rfl (one_lit rfl (all_cons rfl (all_cons rfl (all_cons rfl (all_cons rfl (all_cons (u_15s).one (all_cons (u_15t).one rfl))))))) (by simp only [maxLen]; omega) (by omega) (fun v_16 => ?_)
    refine r_row1 (k := 2) rfl (fun o_17 => ?_)
    refine r_val .none rfl (p_assign rfl) ?_
    refine r_nil ?_
    refine e_norm_block ?_
    refine e_next ?_
    refine c_region ?_
    refine r_val .none rfl (p_add rfl rfl (by omega)) ?_
    refine r_val .none rfl (p_move rfl) ?_
    refine r_nil ?_
    refine e_round ((k + 1, _, qs ++ [((rs.getD k s0).1, u_15a, u_15b)], _)) ⟨⟨by dsimp only; omega, by rw [sv_take (by omega), List.map_append, hq]; rfl, (fun p hp' => by rcases List.mem_append.1 hp' with h | h; exact hqt p h; rw [List.mem_singleton.1 h]; exact u_15s), (fun p hp' => by rcases List.mem_append.1 hp' with h | h; exact hqs p h; rw [List.mem_singleton.1 h]; exact u_15t), (hgn.trans hn_12)⟩, by dsimp only; omega⟩ rfl ⟨rfl, rfl, rfl, rfl, rfl, trivial⟩ (.drop (.drop (.keep (fun _ _ h => rowA_snoc (l := qs) (x := ((rs.getD k s0).1, u_15a, u_15b)) rfl rfl rfl rfl _ _ h) (.nil))))
    )
 ·
  first
   | (exfalso; omega)
   | (
    refine c_cond_f rfl ?_
    refine c_exit ?_
    refine e_exit_then ?_
    refine e_exit_then ?_
    refine e_exit_block ?_
    refine e_next ?_
    refine c_seq ?_
    refine c_region ?_
    refine r_val .none rfl (p_move rfl) ?_
    refine r_val .none rfl (p_assign rfl) ?_
    refine r_nil ?_
    refine e_next ?_
    refine c_ret ?_
    refine e_freeze (k := 0) rfl (fun G_18 hn_19 hs_20 => ?_)
    replace hr := hr.mono hn_19.le
    replace hrt := fun p hm0 => (hrt p hm0).mono hn_19.le
    replace hrs := fun p hm0 => (hrs p hm0).mono hn_19.le
    replace hqt := fun p hm0 => (hqt p hm0).mono hn_19.le
    replace hqs := fun p hm0 => (hqs p hm0).mono hn_19.le
    refine e_ret1 Try.results17 (.tmp rfl .nil) (fun w hm => ⟨_, (hgn.trans hn_19), hm.has, ?_, hm.since⟩)
    rw [show l = qs.map Prod.fst by rw [hq, hl, List.take_of_length_le (by simp; omega)]]
    exact Ss.mk qs (SlL.of s0 (fun _ => rfl) rfl hs_20) hqt hqs
    )
end Go.Proofs.Ytdkfdncbldngdaa

/-
  GX: an assertion is brought to the front. Generic in the program.
-/
namespace Go.Gx
theorem Sep.front {w : World} : ∀ {L : List Asrt} {k : Nat} {A : Asrt} {U : Nat → Prop}, L[k]? = some A → Sep w L U → Sep w (A :: L.eraseIdx k) U
  | [], _, _, _, h, _ => by simp at h
  | B :: L, 0, A, U, h, hS => by
    simp at h; subst h; simpa using hS
  | B :: L, k + 1, A, U, h, ⟨F, hB, hF, hL⟩ => by
    simp at h
    obtain ⟨F2, hA, hF2, hR⟩ := Sep.front h hL
    refine ⟨F2, hA, fun b hb => (hF2 b hb).1, ?_⟩
    rw [List.eraseIdx_cons_succ]
    exact ⟨F, hB, fun b hb => ⟨hF b hb, fun h2 => (hF2 b h2).2 hb⟩, hR.mono (fun b _ hb => ⟨⟨hb.1.1, hb.2⟩, hb.1.2⟩)⟩
theorem Mem.front {X : Nat → Prop} {w0 w : World} {G : Ghost} {L : List Asrt} {k : Nat} {A : Asrt} (h : Mem X w0 G w L) (hL : L[k]? = some A) : Mem X w0 G w (A :: L.eraseIdx k) := ⟨h.since, h.has, h.sep.front hL⟩
section
variable {P : Program} {ops : Array Oper} {Q : Exit → Act → World → Prop} {N : Nat} {X : Nat → Prop} {w0 : World} {G : Ghost} {l : List (Nat × Value)} {L : List Asrt} {rest : List Oper} {k : Nat} {A : Asrt}
theorem r_front (hL : L[k]? = some A) (h : Runs P ops Q N X w0 G rest l (A :: L.eraseIdx k)) : Runs P ops Q N X w0 G rest l L := fun a w hS => h a w ⟨hS.fr, hS.mem.front hL⟩
theorem c_front {c : Code} (hL : L[k]? = some A) (h : CRuns P c Q N X w0 G l (A :: L.eraseIdx k)) : CRuns P c Q N X w0 G l L := fun a w hS => h a w ⟨hS.fr, hS.mem.front hL⟩
theorem e_front {e : Exit} (hL : L[k]? = some A) (h : ERuns Q e N X w0 G l (A :: L.eraseIdx k)) : ERuns Q e N X w0 G l L := fun a w hS => h a w ⟨hS.fr, hS.mem.front hL⟩
end
end Go.Gx
namespace Go.Gx
open Go.RowKit
section
variable {P : Program} {N : Nat} {X : Nat → Prop} {w0 : World} {G : Ghost} {l : List (Nat × Value)} {L : List Asrt} {d : Nat} {ty : TypeId} {pos : String} {after : Array Edge} {gd : Option (Nat × Bool)} {x : Operand}
end
end Go.Gx
namespace Go.Gx
open Go.RowKit
section
variable {P : Program} {N : Nat} {X : Nat → Prop} {w0 : World} {G : Ghost} {l : List (Nat × Value)} {L : List Asrt} {d : Nat} {ty : TypeId} {pos : String} {after : Array Edge} {gd : Option (Nat × Bool)} {x : Operand}
/-- A field of a value that is one cell. -/
theorem p_field1 {S : TypeId} {fs : Array Field} {fld : Field} {e : TypeDesc} {j M o : Nat} {c : Array Value} {g : Nat → Value} {u : Value} (hS' : P.underlying S = some (.struct fs)) (hf : fs[j]? = some fld) (hT : P.underlying fld.type = some e) (ha : e.aggB = false) (hm : SzIs P fld.type 1)
    (hx : ev l x = some (.agg c)) (hc : IsRow c M g) (ho : fld.offset = o) (hM : o + 1 ≤ M) (hv : g o = u) : PV P N X w0 G l L ⟨some d, .field S x j, ty, pos, after, gd⟩ u := by
  intro a w hS
  subst ho
  have h1 := hc.get fld.offset (by omega)
  simp only [execOp, hS.fr.eval hx]
  simp [Instr.field, asAgg, run_underlying hS', hf, hm.run, part, run_isAgg hT, ha, h1, ← hv]
end
end Go.Gx

/- Plain laws of chains of steps; no program in sight. -/
namespace Go.Gx.T8
open Go.Gx Go.Gx.T3 Go.Gx.T4 Go.Gx.T6
mutual
/-- The chains of what stands in a step, and its own. -/
def schain1 : List ST → ST → List (List ST)
  | ah, .mk h l => (if h.k = 3 then schains ah l else []) ++ [ah ++ [.mk h l]]
/-- The chains of steps behind a beginning. -/
def schains : List ST → List ST → List (List ST)
  | _, [] => []
  | ah, c :: t => schain1 ah c ++ schains (ah ++ [c]) t
end
theorem schain1_ncc {ah : List ST} {c : ST} (h : c.h.k = 3) : schain1 ah c = schains ah c.subs ++ [ah ++ [c]] := by
  cases c with | mk hd l => have h' : hd.k = 3 := h; rw [schain1, if_pos h']; rfl
theorem schain1_other {ah : List ST} {c : ST} (h : c.h.k ≠ 3) : schain1 ah c = [ah ++ [c]] := by
  cases c with | mk hd l => have h' : hd.k ≠ 3 := h; rw [schain1, if_neg h']; rfl
theorem schains_append (a b : List ST) : ∀ ah, schains ah (a ++ b) = schains ah a ++ schains (ah ++ a) b := by
  induction a with
  | nil => intro ah; simp [schains]
  | cons c t ih => intro ah; simp [schains, ih]
theorem schains_take {rs : List SVal} {k : Nat} {ah : List ST} (hk : k < rs.length) : schains ah ((rs.map Prod.fst).take (k + 1)) = schains ah ((rs.map Prod.fst).take k) ++ schain1 (ah ++ (rs.map Prod.fst).take k) (rs.getD k s0).1 := by
  rw [sv_take hk, schains_append]; simp [schains]
mutual
theorem schain1_len : ∀ (c : ST) (ah : List ST), (schain1 ah c).length ≤ ssz c
  | .mk h l, ah => by
    have := schains_len l ah
    rw [schain1, ssz]
    split <;> simp <;> omega
theorem schains_len : ∀ (l : List ST) (ah : List ST), (schains ah l).length ≤ sszL l
  | [], _ => by simp [schains, sszL]
  | c :: t, ah => by
    have h1 := schain1_len c ah
    have h2 := schains_len t (ah ++ [c])
    rw [schains, sszL, List.length_append]; omega
end
theorem sszL_append (a b : List ST) : sszL (a ++ b) = sszL a + sszL b := by
  induction a with
  | nil => simp [sszL]
  | cons c t ih => simp only [List.cons_append, sszL, ih]; omega
theorem sszL_take {rs : List SVal} {k : Nat} (hk : k < rs.length) : sszL ((rs.map Prod.fst).take (k + 1)) = sszL ((rs.map Prod.fst).take k) + ssz (rs.getD k s0).1 := by
  rw [sv_take hk, sszL_append]; simp [sszL]
theorem sszL_take_le : ∀ (l : List ST) (k : Nat), sszL (l.take k) ≤ sszL l
  | [], k => by simp
  | c :: t, 0 => by simp [sszL]
  | c :: t, k + 1 => by have := sszL_take_le t k; simp only [List.take_succ_cons, sszL]; omega
mutual
theorem schain1_size : ∀ (c : ST) (ah : List ST), ∀ x ∈ schain1 ah c, sszL x ≤ sszL ah + ssz c
  | .mk h l, ah, x, hx => by
    rw [schain1] at hx
    rcases List.mem_append.1 hx with hx | hx
    · split at hx
      · have := schains_size l ah x hx
        rw [ssz]; omega
      · cases hx
    · rw [List.mem_singleton.1 hx, sszL_append]
      simp [sszL]
theorem schains_size : ∀ (l : List ST) (ah : List ST), ∀ x ∈ schains ah l, sszL x ≤ sszL ah + sszL l
  | [], _, x, hx => by rw [schains] at hx; cases hx
  | c :: t, ah, x, hx => by
    rw [schains] at hx
    rcases List.mem_append.1 hx with hx | hx
    · have := schain1_size c ah x hx
      rw [sszL]; omega
    · have := schains_size t (ah ++ [c]) x hx
      rw [sszL_append] at this
      simp only [sszL] at this ⊢
      omega
end
theorem ssub_size {rs : List SVal} {k : Nat} (hk : k < rs.length) : SizeOf.sizeOf (rs.getD k s0).1.subs < SizeOf.sizeOf (rs.map Prod.fst) := by
  have h2 := List.sizeOf_lt_of_mem (sv_mem hk)
  have h3 := s_subs (rs.getD k s0).1
  omega
/-- What is known of chains of steps that were found. -/
abbrev StC (G : Ghost) (z : List (List ST × Value)) : Prop := ∀ q ∈ z, Ss G q.2 q.1
theorem StC.mono {G G' : Ghost} {z : List (List ST × Value)} (h : StC G z) (hle : GLe G G') : StC G' z := fun q hq => (h q hq).mono hle
theorem StC.snoc {G : Ghost} {z : List (List ST × Value)} {v : Value} {l : List ST} (h : StC G z) (hl : Ss G v l) : StC G (z ++ [(l, v)]) := fun q hq => by
  rcases List.mem_append.1 hq with h1 | h1
  · exact h q h1
  · rw [List.mem_singleton.1 h1]; exact hl
theorem StC.app {G : Ghost} {z z' : List (List ST × Value)} (h : StC G z) (h' : StC G z') : StC G (z ++ z') := fun q hq => by
  rcases List.mem_append.1 hq with h1 | h1
  · exact h q h1
  · exact h' q h1
theorem ss_ones {G : Ghost} {rs : List SVal} (hpt : ∀ p ∈ rs, SlL G p.2.1 3 tC t0 p.1.h.ts) (hps : ∀ p ∈ rs, Ss G p.2.2 p.1.subs) : ∀ i, i < rs.length → ∀ j, j < 6 → (at_ (sC (rs.getD i s0)) j).oneCell' = true := by
  intro i hi j hj
  have h1 := SlG.one (hpt _ (getD_mem (d := s0) hi))
  have h2 := (hps _ (getD_mem (d := s0) hi)).one
  match j, hj with
  | 0, _ => rfl
  | 1, _ => rfl
  | 2, _ => rfl
  | 3, _ => rfl
  | 4, _ => exact h1
  | 5, _ => exact h2
theorem ss_all {G : Ghost} {rs : List SVal} (hpt : ∀ p ∈ rs, SlL G p.2.1 3 tC t0 p.1.h.ts) (hps : ∀ p ∈ rs, Ss G p.2.2 p.1.subs) : ∀ u ∈ rs.flatMap sC, u.oneCell' = true := by
  intro u hu
  obtain ⟨p, h1, h2⟩ := List.mem_flatMap.1 hu
  have h3 := SlG.one (hpt p h1)
  have h4 := (hps p h1).one
  simp only [sC, List.mem_cons, List.not_mem_nil, or_false] at h2
  rcases h2 with rfl | rfl | rfl | rfl | rfl | rfl
  all_goals first | rfl | exact h3 | exact h4
theorem ss_one1 {G : Ghost} {z : List (List ST × Value)} (hz : StC G z) : ∀ i, i < z.length → ∀ j, j < 1 → (at_ (lC (z.getD i ([], .slice none 0 0))) j).oneCell' = true := by
  intro i hi j hj
  have h := (hz _ (getD_mem (d := ([], .slice none 0 0)) hi)).one
  match j, hj with
  | 0, _ => exact h
theorem ss_take {G : Ghost} {v : Value} {rs : List SVal} {k : Nat} (hk : k ≤ rs.length) (h : SlG G v k 6 (fun i => at_ (sC (rs.getD i s0)))) : SlL G v 6 sC s0 (rs.take k) := by
  unfold SlL
  rw [List.length_take, Nat.min_eq_left hk]
  refine h.congr fun i hi j _ => ?_
  simp [List.getD, List.getElem?_take, hi]
abbrev es6 : List ST × Value := ([], .slice none 0 0)
theorem schain_small {l : List ST} {qs : List (List ST × Value)} {k m : Nat} (hl : schains [] l = qs.map Prod.fst) (hk : k < qs.length) (hsz : sszL l ≤ m) : sszL (qs.getD k es6).1 ≤ m := by
  have h1 : (qs.getD k es6).1 ∈ schains [] l := by rw [hl]; exact List.mem_map.2 ⟨_, getD_mem hk, rfl⟩
  have := schains_size l [] _ h1
  simp only [sszL] at this
  omega
end Go.Gx.T8

/- Walks: what Go functions of this chapter come to, each as a function on plain data; no condition but those that each theorem names. Printed by a program of this work (gen.py). -/
namespace Go.Proofs.Ytdkfdncbldngdaa
open Go.Gx Go.Gx.T4 Go.Gx.T3 Go.Gx.T6 Go.Gx.T8 Go.Gx.T4 Go.Gx.T3 Go.Gx.T8 Go.Gx.T4 Go.Gx.T3 Go.Gx.T8 Go.Gx.T6 Go.Gx.T4 Go.Gx.T3
theorem sz41 : SzIs Try.prog 41 1 := by
 unfold SzIs
 kernel_rfl
theorem zr41 : ZeroIs Try.prog 41 (Value.slice none 0 0) := by
 unfold ZeroIs
 kernel_rfl
theorem cl61 : Callable Try.prog 61 := callable Try.func61 (by kernel_rfl) rfl
theorem cl72 : Callable Try.prog 72 := callable Try.func72 (by kernel_rfl) rfl
theorem bs35_10s3 (a0 : Option Addr) (a1 a2 : Nat) : Instr.fill (fun i => some (i * 1, 1)) ((Array.range (1 * 1)).map ((Value.slice none 0 0).cells[· % (Value.slice none 0 0).cells.size]!)) [(0, Value.slice a0 a1 a2)] = some #[Value.slice a0 a1 a2] := by
 kernel_rfl
theorem el35 : ElemIs Try.prog 35 1 24 (Value.slice none 0 0) := by
 unfold ElemIs
 kernel_rfl
def GrowSIs (n : Nat) : Prop := ∀ (va vl : Value) (ah l : List ST) (p : Nat) (z0 : List (List ST × Value)) (G : Ghost) (F : Nat → Prop) (w : World), SizeOf.sizeOf l ≤ n → ah.length + sszL l ≤ 1000 → z0.length + sszL l ≤ 9000 → Ss G va ah → Ss G vl l → StC G z0 → Has G w → (outA 41 35 p (z0)).holds w F → (∀ b, F b → G b = none) → Calls Try.prog 61 #[va, vl, Value.pointer (some ⟨p, 0, none⟩)] w (Ret fun r w' => ∃ G' z', GNew w F G G' ∧ Has G' w' ∧ (r = .tuple #[] ∧ z'.map Prod.fst = z0.map Prod.fst ++ schains ah l ∧ StC G' z') ∧ KeptG (outA 41 35 p (z')) F G' w w')
theorem c_cloneS_a (a : Option Addr) (cap : Nat) (rs : List (SVal)) {G : Ghost} (hr : SlL G (Value.slice a rs.length cap) 6 sC s0 rs) (hlen : rs.length ≤ 1000) (hpt : ∀ p ∈ rs, SlL G p.2.1 3 tC t0 p.1.h.ts) (hps : ∀ p ∈ rs, Ss G p.2.2 p.1.subs) (w : World) (hG : Has G w) :
  Calls Try.prog 72 #[Value.slice a rs.length cap] w (Ret fun r w' => Since nX w w' ∧ ∃ F', (rowA r 50 6 (rs).length ((rs).flatMap sC)).holds w' F' ∧ ∀ b, F' b → w.heap.size ≤ b) := by
 refine enter (args := [_]) (X := nX) (G := G) (l := [(0, Value.slice a rs.length cap)]) Try.func72 rfl Try.ntmps72 hG ⟨rfl, trivial⟩ (Nat.le_of_ble_eq_true rfl) ?_
 refine c_seq ?_
 refine c_region ?_
 refine r_val .none rfl (p_assign rfl) ?_
 refine r_nil ?_
 refine e_next ?_
 refine c_seq ?_
 refine c_seq ?_
 refine c_region ?_
 refine r_val .none rfl (p_move rfl) ?_
 refine r_val .none rfl (p_eqnil Try.underlying35 rfl rfl) ?_
 refine r_nil ?_
 refine e_next ?_
 refine c_split (d := 4) rfl (fun h_1 => ?_) (fun h_1 => ?_)
 ·
  have hrs : rs = [] := by cases a with | none => exact nil_rs hr | some x => cases h_1
  refine c_cond_t rfl ?_
  refine c_seq ?_
  refine c_region ?_
  refine r_val .none rfl (p_assign rfl) ?_
  refine r_nilrow 50 6 ?_
  refine r_nil ?_
  refine e_next ?_
  refine c_ret ?_
  refine e_ret_then ?_
  refine e_ret1 Try.results72 (.tmp rfl .nil) (fun w hm => hm.made [rowA (.slice none 0 0) 50 6 (rs).length ((rs).flatMap sC)] (.keep (fun _ _ h => rowA_congr (by rw [hrs]; rfl) (by rw [hrs]; rfl) _ _ h) (.nil)) _ (fun F' h => starL_one h))
 ·
  refine c_cond_f rfl ?_
  refine c_skip ?_
  refine e_next ?_
  refine c_seq ?_
  refine c_region ?_
  refine r_bslice0 .none rfl Try.underlying35 el50 (fun v_2 => ?_)
  refine r_val .none rfl (p_move rfl) ?_
  refine r_append_g (k := 0) .none rfl Try.underlying35 el50 rfl (by decide) rfl rfl rfl hr (fun _ hi _ hj => ss_ones hpt hps _ hi _ hj) (by simp only [maxLen]; omega) (by omega) (fun v_3 => ?_)
  refine r_row1 (k := 0) rfl (fun o_4 => ?_)
  refine r_val .none rfl (p_assign rfl) ?_
  refine r_nil ?_
  refine e_next ?_
  refine c_ret ?_
  refine e_ret1 Try.results72 (.tmp rfl .nil) (fun w hm => hm.made [rowA v_3 50 6 (rs).length ((rs).flatMap sC)] (.keep (fun _ _ h => rowA_congr (by omega) (by rw [flat_all (cells := sC) (fun _ => rfl)]; rfl) _ _ h) (.nil)) _ (fun F' h => starL_one h))
theorem c_cloneS (v : Value) (rs : List (SVal)) {G : Ghost} (hr : SlL G v 6 sC s0 rs) (hlen : rs.length ≤ 1000) (hpt : ∀ p ∈ rs, SlL G p.2.1 3 tC t0 p.1.h.ts) (hps : ∀ p ∈ rs, Ss G p.2.2 p.1.subs) (w : World) (hG : Has G w) : Calls Try.prog 72 #[v] w (Ret fun r w' => Since nX w w' ∧ ∃ F', (rowA r 50 6 (rs).length ((rs).flatMap sC)).holds w' F' ∧ ∀ b, F' b → w.heap.size ≤ b) := by
 obtain ⟨a, cap, rfl⟩ := SlG.len hr
 exact c_cloneS_a a cap rs hr hlen hpt hps w hG
theorem c_growS_s (n : Nat) (ih : GrowSIs n) (va vl : Value) (ah l : List ST) (p : Nat) (z0 : List (List ST × Value)) {G : Ghost} {F : Nat → Prop} (hz : SizeOf.sizeOf l ≤ n + 1) (hsz : ah.length + sszL l ≤ 1000) (hlz : z0.length + sszL l ≤ 9000) (hsa : Ss G va ah) (hs : Ss G vl l) (hz0 : StC G z0) (w : World) (hG : Has G w) (hA : (outA 41 35 p (z0)).holds w F) (hFG : ∀ b, F b → G b = none) :
  Calls Try.prog 61 #[va, vl, Value.pointer (some ⟨p, 0, none⟩)] w (Ret fun r w' => ∃ G' z', GNew w F G G' ∧ Has G' w' ∧ (r = .tuple #[] ∧ z'.map Prod.fst = z0.map Prod.fst ++ schains ah l ∧ StC G' z') ∧ KeptG (outA 41 35 p (z')) F G' w w') := by
 refine enterO (args := [_, _, _]) (G := G) (A := outA 41 35 p (z0)) (l := [(0, va), (1, vl), (2, Value.pointer (some ⟨p, 0, none⟩))]) Try.func61 rfl Try.ntmps61 hG hA hFG ⟨rfl, rfl, rfl, trivial⟩ (Nat.le_of_ble_eq_true rfl) ?_
 obtain ⟨rs, hr, hpt, hps, rfl⟩ := hs.inv
 have hbd := hr.bound
 refine c_seq ?_
 refine c_region ?_
 refine r_val .none rfl (p_move rfl) ?_
 refine r_val .none rfl (p_leng Try.underlying35 rfl hr) ?_
 have bd_1 := (hr).bound
 refine r_val .none rfl (p_move rfl) ?_
 refine r_nil ?_
 refine e_next ?_
 refine c_block ?_
 refine c_name (d := 2) rfl (fun u_2 hu_2 => ?_)
 refine c_name (d := 8) rfl (fun u_3 hu_3 => ?_)
 refine c_name (d := 9) rfl (fun u_4 hu_4 => ?_)
 refine c_loop (σ := Nat × Value × List (List ST × Value) × Ghost) (fun s => [(10, Value.int .i64 (s.1 : Nat)), (0, s.2.1), (2, u_2), (8, u_3), (9, u_4)]) (fun s => [outA 41 35 p (s.2.2.1)]) (fun s => s.2.2.2) (fun s => s.1 ≤ rs.length ∧ Ss s.2.2.2 s.2.1 (ah ++ (rs.map Prod.fst).take s.1) ∧ s.2.2.1.map Prod.fst = z0.map Prod.fst ++ schains ah ((rs.map Prod.fst).take s.1) ∧ StC s.2.2.2 s.2.2.1 ∧ GNew w F G s.2.2.2) (fun s => rs.length - s.1) ((0, _, z0, _)) ⟨Nat.zero_le _, by simpa using hsa, by simp [schains], hz0, GNew.refl _ _ _⟩ rfl ⟨rfl, rfl, rfl, rfl, rfl, trivial⟩ (.keep (fun _ _ h => h) (.nil)) (fun s hphi => ?_)
 subst hu_2
 subst hu_3
 subst hu_4
 obtain ⟨k, v, z, H⟩ := s
 obtain ⟨hk, hva, hzq, hzc, hgn⟩ := hphi
 dsimp only at hk hva hzq hzc hgn ⊢
 obtain ⟨es, ha, hat, hap, hal⟩ := hva.inv
 have hla : es.length = ah.length + k := by have := congrArg List.length hal; simp at this; omega
 have hzl : z.length = z0.length + (schains ah ((rs.map Prod.fst).take k)).length := by have := congrArg List.length hzq; simpa using this
 have hcl := schains_len ((rs.map Prod.fst).take k) ah
 have hst0 := sszL_take_le (rs.map Prod.fst) k
 have hll := sszL_len (rs.map Prod.fst)
 rw [List.length_map] at hll
 replace hsa := hsa.mono hgn.le
 replace hr := hr.mono hgn.le
 replace hpt := fun p hm0 => (hpt p hm0).mono hgn.le
 replace hps := fun p hm0 => (hps p hm0).mono hgn.le
 refine c_seq ?_
 refine c_region ?_
 refine r_val .none rfl (p_lt rfl rfl) ?_
 refine r_nil ?_
 refine e_next ?_
 refine c_seq ?_
 refine c_splitd (d := 11) rfl (fun h_5 => ?_) (fun h_5 => ?_)
 ·
  first
   | (exfalso; omega)
   | (
    refine c_cond_t rfl ?_
    refine c_skip ?_
    refine e_next ?_
    refine c_seq ?_
    refine c_block ?_
    refine c_seq ?_
    refine c_region ?_
    refine r_iaddr_g .none rfl Try.underlying35 sz50 rfl hr rfl (by first | exact of_decide_eq_true rfl | omega) (fun p_7 o_8 R_6 => ?_)
    have ht_9 := hpt _ (getD_mem (i := k) (d := s0) (by omega))
    have hc_10 := hps _ (getD_mem (i := k) (d := s0) (by omega))
    have hkl := sszL_len ((rs.map Prod.fst).take k)
    rw [List.length_take, List.length_map] at hkl
    have hsk := sszL_take (rs := rs) (k := k) (by omega)
    have hsk2 := sszL_take_le (rs.map Prod.fst) (k + 1)
    have hsq := ssz_eq (rs.getD k s0).1
    refine r_val .none rfl (p_ldga0 Try.underlying50 rfl sz50 rfl R_6 (by first | exact of_decide_eq_true rfl | omega) (rfl : _ = Value.agg #[_, _, _, _, _, _])) ?_
    refine r_alloc .none rfl zr50 (IsRow.lit _) (fun b_1 => ?_)
    refine r_stw (k := 0) .none sz50 rfl rfl (IsRow.lit _) (one_lit rfl (all_cons rfl (all_cons rfl (all_cons rfl (all_cons rfl (all_cons (ht_9).one (all_cons (hc_10).one rfl))))))) rfl ?_
    refine r_nil ?_
    refine e_next ?_
    refine c_seq ?_
    refine c_seq ?_
    refine c_region ?_
    refine r_val .none rfl (p_field Try.underlying50 rfl sz3 rfl) ?_
    refine r_val .none rfl (p_ld (k := 0) Try.underlying3 rfl rfl rfl (by first | exact of_decide_eq_true rfl | omega) (rfl : _ = Value.int _ _)) ?_
    refine r_val .none rfl (p_eq rfl rfl) ?_
    refine r_nil ?_
    refine e_next ?_
    refine c_splitd (d := 16) rfl (fun h_11 => ?_) (fun h_11 => ?_)
    ·
     have hk3 := h_11
     first
      | (exfalso; omega)
      | (
       refine c_cond_t rfl ?_
       refine c_region ?_
       refine r_val .none rfl (p_move rfl) ?_
       refine r_val .none rfl (p_field Try.underlying50 rfl sz35 rfl) ?_
       refine r_val .none rfl (p_ld (k := 0) Try.underlying35 rfl rfl rfl (by first | exact of_decide_eq_true rfl | omega) rfl) ?_
       refine r_val .none rfl (p_move rfl) ?_
       refine r_callox (k := 1) (vs := [_, _, _]) .none rfl cl61 rfl rfl (fun w F hw hA hFG => ih _ _ _ _ _ _ _ _ w (Nat.le_of_lt_succ (Nat.lt_of_lt_of_le (ssub_size (by omega)) hz)) (by rw [List.length_append, List.length_take, List.length_map]; omega) (by omega) hva hc_10 hzc hw hA hFG) (fun G_12 v_15 z_17 hn_13 hr_14 => ?_)
       replace hsa := hsa.mono hn_13.le
       replace hr := hr.mono hn_13.le
       replace hpt := fun p hm0 => (hpt p hm0).mono hn_13.le
       replace hps := fun p hm0 => (hps p hm0).mono hn_13.le
       replace ha := ha.mono hn_13.le
       replace hat := fun p hm0 => (hat p hm0).mono hn_13.le
       replace hap := fun p hm0 => (hap p hm0).mono hn_13.le
       replace hva := hva.mono hn_13.le
       replace hzc := StC.mono hzc hn_13.le
       replace R_6 := R_6.mono hn_13.le
       replace ht_9 := ht_9.mono hn_13.le
       replace hc_10 := hc_10.mono hn_13.le
       obtain ⟨-, u_16q, u_16c⟩ := hr_14
       refine r_nil ?_
       refine e_next ?_
       refine c_seq ?_
       refine c_region_d (fun _ => false) _ mixed (.keep (fun _ _ h => h) (.keep (fun _ _ h => h) (.nil))) ?_
       refine d_val1 0 rfl rfl (by kernel_rfl) (fun _ _ => rfl) .none rfl (p_move rfl) ?_
       refine d_val1 2 rfl rfl (by kernel_rfl) (fun _ _ => rfl) .none rfl (p_ldw (k := 0) Try.underlying50 rfl sz50 rfl rfl (rfl : _ = Value.agg #[_, _, _, _, _, _])) ?_
       refine d_eff2 1 3 rfl rfl (by kernel_rfl) (fun K_18 hKK_18 hcK_18 => ?_) (fun K_18 hKK_18 hcK_18 => ?_)
       ·
        refine r_callrow (vs := [_]) .none rfl cl72 rfl (fun w hw => c_cloneS _ es ha (by omega) hat hap w hw) (fun v_19 => ?_)
        refine r_nil (e_d (i := 1) (brk := (fun _ => false)) (ph' := true) hKK_18 hcK_18 rfl (fun _ => GLe.refl _) (fun _ => .drop (.keep (fun _ _ h => h) (.keep (fun _ _ h => h) (.nil)))) ?_)
        clear hKK_18 hcK_18 K_18
        refine d_eff 3 rfl (by kernel_rfl) (fun K_20 hKK_20 hcK_20 => ?_)
        refine r_bslice (vs := [(0, Value.agg #[_, _, _, _, _, _])]) (c := #[_, _, _, _, _, _]) .none rfl Try.underlying35 el50 rfl rfl rfl (bs50_10a6 _ _ _ _ _ _) (IsRow.lit _) (fun b_2 => ?_)
        refine r_nil (e_d (i := 3) (brk := (fun _ => false)) (ph' := true) hKK_20 hcK_20 rfl (fun _ => GLe.refl _) (fun _ => .drop (.drop (.keep (fun _ _ h => h) (.keep (fun _ _ h => h) (.nil))))) ?_)
        clear hKK_20 hcK_20 K_20
        refine d_eff 4 rfl (by kernel_rfl) (fun K_21 hKK_21 hcK_21 => ?_)
        refine r_append (k := 1) (k2 := 0) .none rfl Try.underlying35 el50 rfl (by decide) rfl rfl rfl rfl rfl (one_lit rfl (all_cons rfl (all_cons rfl (all_cons rfl (all_cons rfl (all_cons (ht_9).one (all_cons (hc_10).one rfl))))))) (by simp only [maxLen]; omega) (by omega) (fun v_22 => ?_)
        refine r_row1 (k := 1) rfl (fun o_23 => ?_)
        refine r_nil (e_d (i := 4) (brk := (fun _ => false)) (ph' := true) hKK_21 hcK_21 rfl (fun _ => GLe.refl _) (fun _ => .drop (.drop (.keep (fun _ _ h => h) (.keep (fun _ _ h => h) (.nil))))) ?_)
        clear hKK_21 hcK_21 K_21
        refine d_val1 5 rfl rfl (by kernel_rfl) (fun _ _ => rfl) .none rfl (p_assign rfl) ?_
        refine d_nil (by kernel_rfl) ?_
        refine e_next ?_
        refine c_region ?_
        refine r_freeze (k := 1) rfl (fun G_24 hn_25 hs_26 => ?_)
        replace hsa := hsa.mono hn_25.le
        replace hr := hr.mono hn_25.le
        replace hpt := fun p hm0 => (hpt p hm0).mono hn_25.le
        replace hps := fun p hm0 => (hps p hm0).mono hn_25.le
        replace ha := ha.mono hn_25.le
        replace hat := fun p hm0 => (hat p hm0).mono hn_25.le
        replace hap := fun p hm0 => (hap p hm0).mono hn_25.le
        replace hva := hva.mono hn_25.le
        replace hzc := StC.mono hzc hn_25.le
        replace R_6 := R_6.mono hn_25.le
        replace ht_9 := ht_9.mono hn_25.le
        replace hc_10 := hc_10.mono hn_25.le
        replace u_16c := StC.mono u_16c hn_25.le
        have hs2 : SlL G_24 v_22 6 sC s0 (es ++ [rs.getD k s0]) := SlL.of2 s0 (fun _ => rfl) (by simp) (by rw [List.flatMap_append, List.flatMap_cons, List.flatMap_nil, List.append_nil]; rfl) hs_26
        have ht2 : ∀ p ∈ es ++ [rs.getD k s0], SlL G_24 p.2.1 3 tC t0 p.1.h.ts := fun p hp' => by rcases List.mem_append.1 hp' with h | h; exact hat p h; rw [List.mem_singleton.1 h]; exact ht_9
        have hp2 : ∀ p ∈ es ++ [rs.getD k s0], Ss G_24 p.2.2 p.1.subs := fun p hp' => by rcases List.mem_append.1 hp' with h | h; exact hap p h; rw [List.mem_singleton.1 h]; exact hc_10
        have hva2 : Ss G_24 v_22 (ah ++ (rs.map Prod.fst).take k ++ [(rs.getD k s0).1]) := by have h := Ss.mk _ hs2 ht2 hp2; rw [List.map_append, ← hal] at h; exact h
        refine r_front (k := 2) rfl ?_
        refine r_unpackout (fun ov => ?_)
        refine r_row1 (k := 1) rfl (fun o1 => ?_)
        refine r_val .none rfl (p_move rfl) ?_
        refine r_val .none rfl (p_move rfl) ?_
        refine r_val .none rfl (p_nilcheck rfl) ?_
        refine r_val .none rfl (p_ld (k := 0) Try.underlying41 rfl rfl rfl (by first | exact of_decide_eq_true rfl | omega) rfl) ?_
        refine r_val .none rfl (p_move rfl) ?_
        obtain ⟨a_27, c_28, rfl⟩ := SlG.len hs2
        refine r_bslice (vs := [(0, Value.slice _ _ _)]) (c := #[_]) .none rfl Try.underlying41 el35 rfl rfl rfl (bs35_10s3 _ _ _) (IsRow.lit _) (fun b_3 => ?_)
        refine r_append (k := 2) (k2 := 0) .none rfl Try.underlying41 el35 rfl (by decide) rfl rfl rfl rfl rfl (one_lit rfl rfl) (by first | (simp only [maxLen]; omega) | (have h9 := congrArg List.length u_16q; rw [List.length_append, List.length_map, List.length_map] at h9; have h10 := schains_len (rs.getD k s0).1.subs (ah ++ (rs.map Prod.fst).take k); simp only [maxLen]; omega)) (by first | omega | (have h9 := congrArg List.length u_16q; rw [List.length_append, List.length_map, List.length_map] at h9; have h10 := schains_len (rs.getD k s0).1.subs (ah ++ (rs.map Prod.fst).take k); omega)) (fun v_29 => ?_)
        refine r_row1 (k := 2) rfl (fun o_30 => ?_)
        refine r_val .none rfl (p_nilcheck rfl) ?_
        refine r_st (k := 1) .none sz41 rfl rfl o_30 rfl (by first | exact of_decide_eq_true rfl | omega) ?_
        refine r_front (k := 1) rfl ?_
        refine r_front (k := 2) rfl ?_
        refine r_packout (rs := z_17 ++ [(ah ++ (rs.map Prod.fst).take k ++ [(rs.getD k s0).1], Value.slice a_27 (es ++ [rs.getD k s0]).length c_28)]) rfl (by simp) (by rw [List.flatMap_append]; rfl) ?_
        refine r_nil ?_
        refine e_norm_block ?_
        refine e_next ?_
        refine c_region ?_
        refine r_val .none rfl (p_add rfl rfl (by omega)) ?_
        refine r_val .none rfl (p_move rfl) ?_
        refine r_nil ?_
        refine e_round ((k + 1, _, z_17 ++ [(ah ++ (rs.map Prod.fst).take k ++ [(rs.getD k s0).1], Value.slice a_27 (es ++ [rs.getD k s0]).length c_28)], _)) ⟨⟨by dsimp only; omega, by rw [sv_take (by omega), ← List.append_assoc]; exact hva2, by rw [List.map_append, u_16q, hzq, schains_take (by omega), schain1_ncc hk3, List.append_assoc, List.append_assoc]; rfl, StC.snoc u_16c hva2, ((hgn.trans hn_13).trans hn_25)⟩, by dsimp only; omega⟩ rfl ⟨rfl, rfl, rfl, rfl, rfl, trivial⟩ (.keep (fun _ _ h => h) (.drop (.drop (.drop (.nil)))))
       ·
        refine r_bslice (vs := [(0, Value.agg #[_, _, _, _, _, _])]) (c := #[_, _, _, _, _, _]) .none rfl Try.underlying35 el50 rfl rfl rfl (bs50_10a6 _ _ _ _ _ _) (IsRow.lit _) (fun b_4 => ?_)
        refine r_nil (e_d (i := 3) (brk := (fun _ => false)) (ph' := true) hKK_18 hcK_18 rfl (fun _ => GLe.refl _) (fun _ => .drop (.keep (fun _ _ h => h) (.keep (fun _ _ h => h) (.nil)))) ?_)
        clear hKK_18 hcK_18 K_18
        refine d_eff 1 rfl (by kernel_rfl) (fun K_31 hKK_31 hcK_31 => ?_)
        refine r_callrow (vs := [_]) .none rfl cl72 rfl (fun w hw => c_cloneS _ es ha (by omega) hat hap w hw) (fun v_32 => ?_)
        refine r_nil (e_d (i := 1) (brk := (fun _ => false)) (ph' := true) hKK_31 hcK_31 rfl (fun _ => GLe.refl _) (fun _ => .drop (.drop (.keep (fun _ _ h => h) (.keep (fun _ _ h => h) (.nil))))) ?_)
        clear hKK_31 hcK_31 K_31
        refine d_eff 4 rfl (by kernel_rfl) (fun K_33 hKK_33 hcK_33 => ?_)
        refine r_append (k := 0) (k2 := 1) .none rfl Try.underlying35 el50 rfl (by decide) rfl rfl rfl rfl rfl (one_lit rfl (all_cons rfl (all_cons rfl (all_cons rfl (all_cons rfl (all_cons (ht_9).one (all_cons (hc_10).one rfl))))))) (by simp only [maxLen]; omega) (by omega) (fun v_34 => ?_)
        refine r_row1 (k := 0) rfl (fun o_35 => ?_)
        refine r_nil (e_d (i := 4) (brk := (fun _ => false)) (ph' := true) hKK_33 hcK_33 rfl (fun _ => GLe.refl _) (fun _ => .drop (.drop (.keep (fun _ _ h => h) (.keep (fun _ _ h => h) (.nil))))) ?_)
        clear hKK_33 hcK_33 K_33
        refine d_val1 5 rfl rfl (by kernel_rfl) (fun _ _ => rfl) .none rfl (p_assign rfl) ?_
        refine d_nil (by kernel_rfl) ?_
        refine e_next ?_
        refine c_region ?_
        refine r_freeze (k := 0) rfl (fun G_36 hn_37 hs_38 => ?_)
        replace hsa := hsa.mono hn_37.le
        replace hr := hr.mono hn_37.le
        replace hpt := fun p hm0 => (hpt p hm0).mono hn_37.le
        replace hps := fun p hm0 => (hps p hm0).mono hn_37.le
        replace ha := ha.mono hn_37.le
        replace hat := fun p hm0 => (hat p hm0).mono hn_37.le
        replace hap := fun p hm0 => (hap p hm0).mono hn_37.le
        replace hva := hva.mono hn_37.le
        replace hzc := StC.mono hzc hn_37.le
        replace R_6 := R_6.mono hn_37.le
        replace ht_9 := ht_9.mono hn_37.le
        replace hc_10 := hc_10.mono hn_37.le
        replace u_16c := StC.mono u_16c hn_37.le
        have hs2 : SlL G_36 v_34 6 sC s0 (es ++ [rs.getD k s0]) := SlL.of2 s0 (fun _ => rfl) (by simp) (by rw [List.flatMap_append, List.flatMap_cons, List.flatMap_nil, List.append_nil]; rfl) hs_38
        have ht2 : ∀ p ∈ es ++ [rs.getD k s0], SlL G_36 p.2.1 3 tC t0 p.1.h.ts := fun p hp' => by rcases List.mem_append.1 hp' with h | h; exact hat p h; rw [List.mem_singleton.1 h]; exact ht_9
        have hp2 : ∀ p ∈ es ++ [rs.getD k s0], Ss G_36 p.2.2 p.1.subs := fun p hp' => by rcases List.mem_append.1 hp' with h | h; exact hap p h; rw [List.mem_singleton.1 h]; exact hc_10
        have hva2 : Ss G_36 v_34 (ah ++ (rs.map Prod.fst).take k ++ [(rs.getD k s0).1]) := by have h := Ss.mk _ hs2 ht2 hp2; rw [List.map_append, ← hal] at h; exact h
        refine r_front (k := 2) rfl ?_
        refine r_unpackout (fun ov => ?_)
        refine r_row1 (k := 1) rfl (fun o1 => ?_)
        refine r_val .none rfl (p_move rfl) ?_
        refine r_val .none rfl (p_move rfl) ?_
        refine r_val .none rfl (p_nilcheck rfl) ?_
        refine r_val .none rfl (p_ld (k := 0) Try.underlying41 rfl rfl rfl (by first | exact of_decide_eq_true rfl | omega) rfl) ?_
        refine r_val .none rfl (p_move rfl) ?_
        obtain ⟨a_39, c_40, rfl⟩ := SlG.len hs2
        refine r_bslice (vs := [(0, Value.slice _ _ _)]) (c := #[_]) .none rfl Try.underlying41 el35 rfl rfl rfl (bs35_10s3 _ _ _) (IsRow.lit _) (fun b_5 => ?_)
        refine r_append (k := 2) (k2 := 0) .none rfl Try.underlying41 el35 rfl (by decide) rfl rfl rfl rfl rfl (one_lit rfl rfl) (by first | (simp only [maxLen]; omega) | (have h9 := congrArg List.length u_16q; rw [List.length_append, List.length_map, List.length_map] at h9; have h10 := schains_len (rs.getD k s0).1.subs (ah ++ (rs.map Prod.fst).take k); simp only [maxLen]; omega)) (by first | omega | (have h9 := congrArg List.length u_16q; rw [List.length_append, List.length_map, List.length_map] at h9; have h10 := schains_len (rs.getD k s0).1.subs (ah ++ (rs.map Prod.fst).take k); omega)) (fun v_41 => ?_)
        refine r_row1 (k := 2) rfl (fun o_42 => ?_)
        refine r_val .none rfl (p_nilcheck rfl) ?_
        refine r_st (k := 1) .none sz41 rfl rfl o_42 rfl (by first | exact of_decide_eq_true rfl | omega) ?_
        refine r_front (k := 1) rfl ?_
        refine r_front (k := 2) rfl ?_
        refine r_packout (rs := z_17 ++ [(ah ++ (rs.map Prod.fst).take k ++ [(rs.getD k s0).1], Value.slice a_39 (es ++ [rs.getD k s0]).length c_40)]) rfl (by simp) (by rw [List.flatMap_append]; rfl) ?_
        refine r_nil ?_
        refine e_norm_block ?_
        refine e_next ?_
        refine c_region ?_
        refine r_val .none rfl (p_add rfl rfl (by omega)) ?_
        refine r_val .none rfl (p_move rfl) ?_
        refine r_nil ?_
        refine e_round ((k + 1, _, z_17 ++ [(ah ++ (rs.map Prod.fst).take k ++ [(rs.getD k s0).1], Value.slice a_39 (es ++ [rs.getD k s0]).length c_40)], _)) ⟨⟨by dsimp only; omega, by rw [sv_take (by omega), ← List.append_assoc]; exact hva2, by rw [List.map_append, u_16q, hzq, schains_take (by omega), schain1_ncc hk3, List.append_assoc, List.append_assoc]; rfl, StC.snoc u_16c hva2, ((hgn.trans hn_13).trans hn_37)⟩, by dsimp only; omega⟩ rfl ⟨rfl, rfl, rfl, rfl, rfl, trivial⟩ (.keep (fun _ _ h => h) (.drop (.drop (.drop (.nil)))))
       )
    ·
     have hk3 := h_11
     first
      | (exfalso; omega)
      | (
       refine c_cond_f rfl ?_
       refine c_skip ?_
       refine e_next ?_
       refine c_seq ?_
       refine c_region_d (fun _ => false) _ mixed (.keep (fun _ _ h => h) (.keep (fun _ _ h => h) (.nil))) ?_
       refine d_val1 0 rfl rfl (by kernel_rfl) (fun _ _ => rfl) .none rfl (p_move rfl) ?_
       refine d_val1 2 rfl rfl (by kernel_rfl) (fun _ _ => rfl) .none rfl (p_ldw (k := 0) Try.underlying50 rfl sz50 rfl rfl (rfl : _ = Value.agg #[_, _, _, _, _, _])) ?_
       refine d_eff2 1 3 rfl rfl (by kernel_rfl) (fun K_43 hKK_43 hcK_43 => ?_) (fun K_43 hKK_43 hcK_43 => ?_)
       ·
        refine r_callrow (vs := [_]) .none rfl cl72 rfl (fun w hw => c_cloneS _ es ha (by omega) hat hap w hw) (fun v_44 => ?_)
        refine r_nil (e_d (i := 1) (brk := (fun _ => false)) (ph' := true) hKK_43 hcK_43 rfl (fun _ => GLe.refl _) (fun _ => .drop (.keep (fun _ _ h => h) (.keep (fun _ _ h => h) (.nil)))) ?_)
        clear hKK_43 hcK_43 K_43
        refine d_eff 3 rfl (by kernel_rfl) (fun K_45 hKK_45 hcK_45 => ?_)
        refine r_bslice (vs := [(0, Value.agg #[_, _, _, _, _, _])]) (c := #[_, _, _, _, _, _]) .none rfl Try.underlying35 el50 rfl rfl rfl (bs50_10a6 _ _ _ _ _ _) (IsRow.lit _) (fun b_6 => ?_)
        refine r_nil (e_d (i := 3) (brk := (fun _ => false)) (ph' := true) hKK_45 hcK_45 rfl (fun _ => GLe.refl _) (fun _ => .drop (.drop (.keep (fun _ _ h => h) (.keep (fun _ _ h => h) (.nil))))) ?_)
        clear hKK_45 hcK_45 K_45
        refine d_eff 4 rfl (by kernel_rfl) (fun K_46 hKK_46 hcK_46 => ?_)
        refine r_append (k := 1) (k2 := 0) .none rfl Try.underlying35 el50 rfl (by decide) rfl rfl rfl rfl rfl (one_lit rfl (all_cons rfl (all_cons rfl (all_cons rfl (all_cons rfl (all_cons (ht_9).one (all_cons (hc_10).one rfl))))))) (by simp only [maxLen]; omega) (by omega) (fun v_47 => ?_)
        refine r_row1 (k := 1) rfl (fun o_48 => ?_)
        refine r_nil (e_d (i := 4) (brk := (fun _ => false)) (ph' := true) hKK_46 hcK_46 rfl (fun _ => GLe.refl _) (fun _ => .drop (.drop (.keep (fun _ _ h => h) (.keep (fun _ _ h => h) (.nil))))) ?_)
        clear hKK_46 hcK_46 K_46
        refine d_val1 5 rfl rfl (by kernel_rfl) (fun _ _ => rfl) .none rfl (p_assign rfl) ?_
        refine d_nil (by kernel_rfl) ?_
        refine e_next ?_
        refine c_region ?_
        refine r_freeze (k := 1) rfl (fun G_49 hn_50 hs_51 => ?_)
        replace hsa := hsa.mono hn_50.le
        replace hr := hr.mono hn_50.le
        replace hpt := fun p hm0 => (hpt p hm0).mono hn_50.le
        replace hps := fun p hm0 => (hps p hm0).mono hn_50.le
        replace ha := ha.mono hn_50.le
        replace hat := fun p hm0 => (hat p hm0).mono hn_50.le
        replace hap := fun p hm0 => (hap p hm0).mono hn_50.le
        replace hva := hva.mono hn_50.le
        replace hzc := StC.mono hzc hn_50.le
        replace R_6 := R_6.mono hn_50.le
        replace ht_9 := ht_9.mono hn_50.le
        replace hc_10 := hc_10.mono hn_50.le
        have hs2 : SlL G_49 v_47 6 sC s0 (es ++ [rs.getD k s0]) := SlL.of2 s0 (fun _ => rfl) (by simp) (by rw [List.flatMap_append, List.flatMap_cons, List.flatMap_nil, List.append_nil]; rfl) hs_51
        have ht2 : ∀ p ∈ es ++ [rs.getD k s0], SlL G_49 p.2.1 3 tC t0 p.1.h.ts := fun p hp' => by rcases List.mem_append.1 hp' with h | h; exact hat p h; rw [List.mem_singleton.1 h]; exact ht_9
        have hp2 : ∀ p ∈ es ++ [rs.getD k s0], Ss G_49 p.2.2 p.1.subs := fun p hp' => by rcases List.mem_append.1 hp' with h | h; exact hap p h; rw [List.mem_singleton.1 h]; exact hc_10
        have hva2 : Ss G_49 v_47 (ah ++ (rs.map Prod.fst).take k ++ [(rs.getD k s0).1]) := by have h := Ss.mk _ hs2 ht2 hp2; rw [List.map_append, ← hal] at h; exact h
        refine r_front (k := 2) rfl ?_
        refine r_unpackout (fun ov => ?_)
        refine r_row1 (k := 1) rfl (fun o1 => ?_)
        refine r_val .none rfl (p_move rfl) ?_
        refine r_val .none rfl (p_move rfl) ?_
        refine r_val .none rfl (p_nilcheck rfl) ?_
        refine r_val .none rfl (p_ld (k := 0) Try.underlying41 rfl rfl rfl (by first | exact of_decide_eq_true rfl | omega) rfl) ?_
        refine r_val .none rfl (p_move rfl) ?_
        obtain ⟨a_52, c_53, rfl⟩ := SlG.len hs2
        refine r_bslice (vs := [(0, Value.slice _ _ _)]) (c := #[_]) .none rfl Try.underlying41 el35 rfl rfl rfl (bs35_10s3 _ _ _) (IsRow.lit _) (fun b_7 => ?_)
        refine r_append (k := 2) (k2 := 0) .none rfl Try.underlying41 el35 rfl (by decide) rfl rfl rfl rfl rfl (one_lit rfl rfl) (by first | (simp only [maxLen]; omega) | (have h9 := congrArg List.length q; rw [List.length_append, List.length_map, List.length_map] at h9; have h10 := schains_len (rs.getD k s0).1.subs (ah ++ (rs.map Prod.fst).take k); simp only [maxLen]; omega)) (by first | omega | (have h9 := congrArg List.length q; rw [List.length_append, List.length_map, List.length_map] at h9; have h10 := schains_len (rs.getD k s0).1.subs (ah ++ (rs.map Prod.fst).take k); omega)) (fun v_54 => ?_)
        refine r_row1 (k := 2) rfl (fun o_55 => ?_)
        refine r_val .none rfl (p_nilcheck rfl) ?_
        refine r_st (k := 1) .none sz41 rfl rfl o_55 rfl (by first | exact of_decide_eq_true rfl | omega) ?_
        refine r_front (k := 1) rfl ?_
        refine r_front (k := 2) rfl ?_
        refine r_packout (rs := z ++ [(ah ++ (rs.map Prod.fst).take k ++ [(rs.getD k s0).1], Value.slice a_52 (es ++ [rs.getD k s0]).length c_53)]) rfl (by simp) (by rw [List.flatMap_append]; rfl) ?_
        refine r_nil ?_
        refine e_norm_block ?_
        refine e_next ?_
        refine c_region ?_
        refine r_val .none rfl (p_add rfl rfl (by omega)) ?_
        refine r_val .none rfl (p_move rfl) ?_
        refine r_nil ?_
        refine e_round ((k + 1, _, z ++ [(ah ++ (rs.map Prod.fst).take k ++ [(rs.getD k s0).1], Value.slice a_52 (es ++ [rs.getD k s0]).length c_53)], _)) ⟨⟨by dsimp only; omega, by rw [sv_take (by omega), ← List.append_assoc]; exact hva2, by rw [List.map_append, hzq, schains_take (by omega), schain1_other hk3, List.append_assoc]; rfl, StC.snoc hzc hva2, (hgn.trans hn_50)⟩, by dsimp only; omega⟩ rfl ⟨rfl, rfl, rfl, rfl, rfl, trivial⟩ (.keep (fun _ _ h => h) (.drop (.drop (.drop (.nil)))))
       ·
        refine r_bslice (vs := [(0, Value.agg #[_, _, _, _, _, _])]) (c := #[_, _, _, _, _, _]) .none rfl Try.underlying35 el50 rfl rfl rfl (bs50_10a6 _ _ _ _ _ _) (IsRow.lit _) (fun b_8 => ?_)
        refine r_nil (e_d (i := 3) (brk := (fun _ => false)) (ph' := true) hKK_43 hcK_43 rfl (fun _ => GLe.refl _) (fun _ => .drop (.keep (fun _ _ h => h) (.keep (fun _ _ h => h) (.nil)))) ?_)
        clear hKK_43 hcK_43 K_43
        refine d_eff 1 rfl (by kernel_rfl) (fun K_56 hKK_56 hcK_56 => ?_)
        refine r_callrow (vs := [_]) .none rfl cl72 rfl (fun w hw => c_cloneS _ es ha (by omega) hat hap w hw) (fun v_57 => ?_)
        refine r_nil (e_d (i := 1) (brk := (fun _ => false)) (ph' := true) hKK_56 hcK_56 rfl (fun _ => GLe.refl _) (fun _ => .drop (.drop (.keep (fun _ _ h => h) (.keep (fun _ _ h => h) (.nil))))) ?_)
        clear hKK_56 hcK_56 K_56
        refine d_eff 4 rfl (by kernel_rfl) (fun K_58 hKK_58 hcK_58 => ?_)
        refine r_append (k := 0) (k2 := 1) .none rfl Try.underlying35 el50 rfl (by decide) rfl rfl rfl rfl rfl (one_lit rfl (all_cons rfl (all_cons rfl (all_cons rfl (all_cons rfl (all_cons (ht_9).one (all_cons (hc_10).one rfl))))))) (by simp only [maxLen]; omega) (by omega) (fun v_59 => ?_)
        refine r_row1 (k := 0) rfl (fun o_60 => ?_)
        refine r_nil (e_d (i := 4) (brk := (fun _ => false)) (ph' := true) hKK_58 hcK_58 rfl (fun _ => GLe.refl _) (fun _ => .drop (.drop (.keep (fun _ _ h => h) (.keep (fun _ _ h => h) (.nil))))) ?_)
        clear hKK_58 hcK_58 K_58
        refine d_val1 5 rfl rfl (by kernel_rfl) (fun _ _ => rfl) .none rfl (p_assign rfl) ?_
        refine d_nil (by kernel_rfl) ?_
        refine e_next ?_
        refine c_region ?_
        refine r_freeze (k := 0) rfl (fun G_61 hn_62 hs_63 => ?_)
        replace hsa := hsa.mono hn_62.le
        replace hr := hr.mono hn_62.le
        replace hpt := fun p hm0 => (hpt p hm0).mono hn_62.le
        replace hps := fun p hm0 => (hps p hm0).mono hn_62.le
        replace ha := ha.mono hn_62.le
        replace hat := fun p hm0 => (hat p hm0).mono hn_62.le
        replace hap := fun p hm0 => (hap p hm0).mono hn_62.le
        replace hva := hva.mono hn_62.le
        replace hzc := StC.mono hzc hn_62.le
        replace R_6 := R_6.mono hn_62.le
        replace ht_9 := ht_9.mono hn_62.le
        replace hc_10 := hc_10.mono hn_62.le
        have hs2 : SlL G_61 v_59 6 sC s0 (es ++ [rs.getD k s0]) := SlL.of2 s0 (fun _ => rfl) (by simp) (by rw [List.flatMap_append, List.flatMap_cons, List.flatMap_nil, List.append_nil]; rfl) hs_63
        have ht2 : ∀ p ∈ es ++ [rs.getD k s0], SlL G_61 p.2.1 3 tC t0 p.1.h.ts := fun p hp' => by rcases List.mem_append.1 hp' with h | h; exact hat p h; rw [List.mem_singleton.1 h]; exact ht_9
        have hp2 : ∀ p ∈ es ++ [rs.getD k s0], Ss G_61 p.2.2 p.1.subs := fun p hp' => by rcases List.mem_append.1 hp' with h | h; exact hap p h; rw [List.mem_singleton.1 h]; exact hc_10
        have hva2 : Ss G_61 v_59 (ah ++ (rs.map Prod.fst).take k ++ [(rs.getD k s0).1]) := by have h := Ss.mk _ hs2 ht2 hp2; rw [List.map_append, ← hal] at h; exact h
        refine r_front (k := 2) rfl ?_
        refine r_unpackout (fun ov => ?_)
        refine r_row1 (k := 1) rfl (fun o1 => ?_)
        refine r_val .none rfl (p_move rfl) ?_
        refine r_val .none rfl (p_move rfl) ?_
        refine r_val .none rfl (p_nilcheck rfl) ?_
        refine r_val .none rfl (p_ld (k := 0) Try.underlying41 rfl rfl rfl (by first | exact of_decide_eq_true rfl | omega) rfl) ?_
        refine r_val .none rfl (p_move rfl) ?_
        obtain ⟨a_64, c_65, rfl⟩ := SlG.len hs2
        refine r_bslice (vs := [(0, Value.slice _ _ _)]) (c := #[_]) .none rfl Try.underlying41 el35 rfl rfl rfl (bs35_10s3 _ _ _) (IsRow.lit _) (fun b_9 => ?_)
        refine r_append (k := 2) (k2 := 0) .none rfl Try.underlying41 el35 rfl (by decide) rfl rfl rfl rfl rfl (one_lit rfl rfl) (by first | (simp only [maxLen]; omega) | (have h9 := congrArg List.length q; rw [List.length_append, List.length_map, List.length_map] at h9; have h10 := schains_len (rs.getD k s0).1.subs (ah ++ (rs.map Prod.fst).take k); simp only [maxLen]; omega)) (by first | omega | (have h9 := congrArg List.length q; rw [List.length_append, List.length_map, List.length_map] at h9; have h10 := schains_len (rs.getD k s0).1.subs (ah ++ (rs.map Prod.fst).take k); omega)) (fun v_66 => ?_)
        refine r_row1 (k := 2) rfl (fun o_67 => ?_)
        refine r_val .none rfl (p_nilcheck rfl) ?_
        refine r_st (k := 1) .none sz41 rfl rfl o_67 rfl (by first | exact of_decide_eq_true rfl | omega) ?_
        refine r_front (k := 1) rfl ?_
        refine r_front (k := 2) rfl ?_
        refine r_packout (rs := z ++ [(ah ++ (rs.map Prod.fst).take k ++ [(rs.getD k s0).1], Value.slice a_64 (es ++ [rs.getD k s0]).length c_65)]) rfl (by simp) (by rw [List.flatMap_append]; rfl) ?_
        refine r_nil ?_
        refine e_norm_block ?_
        refine e_next ?_
        refine c_region ?_
        refine r_val .none rfl (p_add rfl rfl (by omega)) ?_
        refine r_val .none rfl (p_move rfl) ?_
        refine r_nil ?_
        refine e_round ((k + 1, _, z ++ [(ah ++ (rs.map Prod.fst).take k ++ [(rs.getD k s0).1], Value.slice a_64 (es ++ [rs.getD k s0]).length c_65)], _)) ⟨⟨by dsimp only; omega, by rw [sv_take (by omega), ← List.append_assoc]; exact hva2, by rw [List.map_append, hzq, schains_take (by omega), schain1_other hk3, List.append_assoc]; rfl, StC.snoc hzc hva2, (hgn.trans hn_62)⟩, by dsimp only; omega⟩ rfl ⟨rfl, rfl, rfl, rfl, rfl, trivial⟩ (.keep (fun _ _ h => h) (.drop (.drop (.drop (.nil)))))
       )
    )
 ·
  first
   | (exfalso; omega)
   | (
    refine c_cond_f rfl ?_
    refine c_exit ?_
    refine e_exit_then ?_
    refine e_exit_then ?_
    refine e_exit_block ?_
    refine e_end0 Try.results61 (fun w hm => ⟨_, z, hgn, hm.has, ⟨rfl, by rw [hzq, List.take_of_length_le (by simp; omega)], hzc⟩, hm.keptG [outA _ _ p z] (.keep (fun _ _ h => h) (.nil)) (outA _ _ p z) (fun F' h => starL_one h)⟩)
    )
theorem c_growS_n : ∀ n, GrowSIs n
 | 0 => fun va vl ah l p z0 G F w hz _ _ _ _ _ _ _ _ => absurd hz (by cases l <;> simp)
 | n + 1 => fun va vl ah l p z0 G F w hz hsz hlz hsa hs hz0 hG hA hFG => c_growS_s n (c_growS_n n) va vl ah l p z0 hz hsz hlz hsa hs hz0 w hG hA hFG
theorem c_growS (va vl : Value) (ah l : List ST) (p : Nat) (z0 : List (List ST × Value)) {G : Ghost} {F : Nat → Prop} (hsz : ah.length + sszL l ≤ 1000) (hlz : z0.length + sszL l ≤ 9000) (hsa : Ss G va ah) (hs : Ss G vl l) (hz0 : StC G z0) (w : World) (hG : Has G w) (hA : (outA 41 35 p (z0)).holds w F) (hFG : ∀ b, F b → G b = none) : Calls Try.prog 61 #[va, vl, Value.pointer (some ⟨p, 0, none⟩)] w (Ret fun r w' => ∃ G' z', GNew w F G G' ∧ Has G' w' ∧ (r = .tuple #[] ∧ z'.map Prod.fst = z0.map Prod.fst ++ schains ah l ∧ StC G' z') ∧ KeptG (outA 41 35 p (z')) F G' w w') := c_growS_n _ va vl ah l p z0 G F w (Nat.le_refl _) hsz hlz hsa hs hz0 hG hA hFG
theorem c_chainsS (v : Value) (l : List ST) {G : Ghost} (hsz : sszL l ≤ 1000) (hs : Ss G v l) (w : World) (hG : Has G w) :
  Calls Try.prog 32 #[v] w (Ret fun r w' => ∃ G', GNew w nX G G' ∧ Has G' w' ∧ Ls (fun G v l => Ss G v l) ([] : List ST) G' r (schains [] l) ∧ Since nX w w') := by
 refine enter (args := [_]) (X := nX) (G := G) (l := [(0, v)]) Try.func32 rfl Try.ntmps32 hG ⟨rfl, trivial⟩ (Nat.le_of_ble_eq_true rfl) ?_
 refine c_seq ?_
 refine c_region ?_
 refine r_val .none rfl (p_assign rfl) ?_
 refine r_nil ?_
 refine e_next ?_
 refine c_seq ?_
 refine c_region ?_
 refine r_alloc .none rfl zr41 (IsRow.lit [_]) (fun b_1 => ?_)
 refine r_nil ?_
 refine e_next ?_
 refine c_seq ?_
 refine c_region ?_
 refine r_val .none rfl (p_move rfl) ?_
 refine r_nilrow 35 1 ?_
 refine r_packout (rs := ([] : List (List ST × Value))) rfl rfl rfl ?_
 refine r_callox (k := 0) (vs := [_, _, _]) .none rfl cl61 rfl rfl (fun w F hw hA hFG => c_growS _ _ [] _ _ [] (by simp; omega) (by simp; omega) Ss.nil hs (by simp [StC]) w hw hA hFG) (fun G_1 v_4 z_6 hn_2 hr_3 => ?_)
 replace hs := hs.mono hn_2.le
 obtain ⟨-, u_5q, u_5c⟩ := hr_3
 refine r_nil ?_
 refine e_next ?_
 refine c_seq ?_
 refine c_region ?_
 refine r_unpackout (fun ov => ?_)
 refine r_row1 (k := 1) rfl (fun o1 => ?_)
 refine r_val .none rfl (p_ld (k := 0) Try.underlying41 rfl rfl rfl (by first | exact of_decide_eq_true rfl | omega) rfl) ?_
 refine r_val .none rfl (p_assign rfl) ?_
 refine r_nil ?_
 refine e_next ?_
 refine c_ret ?_
 refine e_freeze (k := 1) rfl (fun G_7 hn_8 hs_9 => ?_)
 replace hs := hs.mono hn_8.le
 replace u_5c := StC.mono u_5c hn_8.le
 refine e_ret1 Try.results32 (.tmp rfl .nil) (fun w hm => ⟨_, (hn_2.trans hn_8), hm.has, ?_, hm.since⟩)
 rw [show schains [] l = z_6.map Prod.fst by rw [u_5q]; rfl]
 exact Ls.mk _ (SlL.of (([] : List ST), Value.slice none 0 0) (fun _ => rfl) rfl hs_9) u_5c
end Go.Proofs.Ytdkfdncbldngdaa
