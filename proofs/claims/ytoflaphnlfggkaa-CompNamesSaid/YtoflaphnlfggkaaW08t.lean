/- Walks: what Go functions of this chapter come to, each as a function on plain data; no condition but those that each theorem names. Printed by a program of this work (gen.py). -/
import Derived.Test.YtoflaphnlfggkaaW08r
import Derived.Test.YtoflaphnlfggkaaRows
namespace Go.Proofs.Ytoflaphnlfggkaa
open Go.Gx Go.Gx.T4 Go.Gx.T3 Go.Gx.T6 Go.Gx.T8 Go.Gx.T4 Go.Gx.T3 Go.Gx.T8 Go.Gx.T4 Go.Gx.T3 Go.Gx.T8 Go.Gx.T6 Go.Gx.T4 Go.Gx.T3
theorem lf60 : leafT Try.prog 9 60 = some [3, 3, 3] := by
  kernel_rfl
theorem ef60 : eqT Try.prog 9 60 = true := by
  kernel_rfl
theorem lf96 : leafT Try.prog 9 96 = some [3, 3, 3] := by
  kernel_rfl
theorem ef96 : eqT Try.prog 9 96 = true := by
  kernel_rfl
theorem eg60 : Try.prog.eqGuardType Try.prog.depth 60 = false := by
  kernel_rfl
theorem eg96 : Try.prog.eqGuardType Try.prog.depth 96 = false := by
  kernel_rfl
theorem cl32 : Callable Try.prog 32 := callable Try.func32 (by kernel_rfl) rfl
theorem cl33 : Callable Try.prog 33 := callable Try.func33 (by kernel_rfl) rfl
theorem bl70_0i1_1a3 (x0 : Int) (x1 : Value) (x2 : Value) (x3 : Value) : Program.built Try.prog 70 [(0, Value.int .i64 x0), (1, Value.agg #[x1, x2, x3])] = some #[Value.int .i64 x0, x1, x2, x3, Value.slice none 0 0, Value.slice none 0 0] := by
  kernel_rfl
def RsameSIs (n : Nat) : Prop := ∀ (c c2 : ST) (ta sb ta2 sb2 : Value) (G : Ghost) (w : World), SizeOf.sizeOf c ≤ n → SlL G ta 3 tC t0 c.h.ts → Ss G sb c.subs → SlL G ta2 3 tC t0 c2.h.ts → Ss G sb2 c2.subs → Has G w → Calls Try.prog 32 #[Value.agg #[Value.int .i64 c.h.k, Value.int .i64 c.h.k0, Value.int .i64 c.h.k1, Value.int .i64 c.h.k2, ta, sb], Value.agg #[Value.int .i64 c2.h.k, Value.int .i64 c2.h.k0, Value.int .i64 c2.h.k1, Value.int .i64 c2.h.k2, ta2, sb2]] w (Ret fun r w' => r = Value.bool (seq c c2) ∧ Since nX w w')
def SrefIs (n : Nat) : Prop := ∀ (c : ST) (ta sb : Value) (G : Ghost) (w : World), SizeOf.sizeOf c ≤ n → ssz c ≤ 5000 → SlL G ta 3 tC t0 c.h.ts → Ss G sb c.subs → Has G w → Calls Try.prog 33 #[Value.agg #[Value.int .i64 c.h.k, Value.int .i64 c.h.k0, Value.int .i64 c.h.k1, Value.int .i64 c.h.k2, ta, sb]] w (Ret fun r w' => ∃ G', GNew w nX G G' ∧ Has G' w' ∧ (∃ ua ub, r = Value.agg #[Value.int .i64 (c).h.k, Value.int .i64 (c).h.k0, Value.int .i64 (c).h.k1, Value.int .i64 (c).h.k2, ua, ub] ∧ SlL G' ua 3 tC t0 (c).h.ts ∧ Ss G' ub (c).subs) ∧ Since nX w w')
theorem c_sref_s (n : Nat) (ih : SrefIs n) (c : ST) (ta sb : Value) {G : Ghost} (hz : SizeOf.sizeOf c ≤ n + 1) (hsz : ssz c ≤ 5000) (ht : SlL G ta 3 tC t0 c.h.ts) (hs : Ss G sb c.subs) (w : World) (hG : Has G w) :
    Calls Try.prog 33 #[Value.agg #[Value.int .i64 c.h.k, Value.int .i64 c.h.k0, Value.int .i64 c.h.k1, Value.int .i64 c.h.k2, ta, sb]] w (Ret fun r w' => ∃ G', GNew w nX G G' ∧ Has G' w' ∧ (∃ ua ub, r = Value.agg #[Value.int .i64 (c).h.k, Value.int .i64 (c).h.k0, Value.int .i64 (c).h.k1, Value.int .i64 (c).h.k2, ua, ub] ∧ SlL G' ua 3 tC t0 (c).h.ts ∧ Ss G' ub (c).subs) ∧ Since nX w w') := by
  refine enter (args := [_]) (X := nX) (G := G) (l := [(0, Value.agg #[Value.int .i64 c.h.k, Value.int .i64 c.h.k0, Value.int .i64 c.h.k1, Value.int .i64 c.h.k2, ta, sb])]) Try.func33 rfl Try.ntmps33 hG ⟨rfl, trivial⟩ (Nat.le_of_ble_eq_true rfl) ?_
  obtain ⟨rs, hr, hrt, hrs, hl⟩ := hs.inv
  have hbd := hr.bound
  have hbd2 := ht.bound
  have hsq := ssz_eq c
  have hll := sszL_len c.subs
  have hlr : c.subs.length = rs.length := by rw [hl]; simp
  refine c_seq ?_
  refine c_region ?_
  refine r_box .none rfl rfl (IsRow.lit _) (fun b_1 => ?_)
  refine r_alloc .none rfl zr70 (IsRow.lit _) (fun b_2 => ?_)
  refine r_nil ?_
  refine e_next ?_
  refine c_seq ?_
  refine c_region ?_
  refine r_val .none rfl (p_field Try.underlying64 rfl sz3 rfl) ?_
  refine r_val .none rfl (p_ld (k := 1) Try.underlying3 rfl rfl rfl (by first | exact of_decide_eq_true rfl | omega) (rfl : _ = Value.int _ _)) ?_
  refine r_val .none rfl (p_field Try.underlying64 rfl sz61 rfl) ?_
  refine r_val .none rfl (p_lda (k := 1) Try.underlying61 rfl sz61 rfl rfl (by first | exact of_decide_eq_true rfl | omega) (rfl : _ = Value.agg #[_, _, _])) ?_
  refine r_val .none rfl (p_build (vs := [(0, Value.int _ _), (1, Value.agg #[_, _, _])]) rfl (bl70_0i1_1a3 _ _ _ _)) ?_
  refine r_alloc .none rfl zr70 (IsRow.lit _) (fun b_3 => ?_)
  refine r_stw (k := 0) .none sz70 rfl rfl (IsRow.lit _) (one_lit rfl rfl) rfl ?_
  refine r_nil ?_
  refine e_next ?_
  refine c_seq ?_
  refine c_seq ?_
  refine c_region ?_
  refine r_val .none rfl (p_field Try.underlying64 rfl sz62 rfl) ?_
  refine r_val .none rfl (p_ld (k := 2) Try.underlying62 rfl rfl rfl (by first | exact of_decide_eq_true rfl | omega) rfl) ?_
  refine r_val .none rfl (p_leng Try.underlying62 rfl ht) ?_
  have bd_1 := (ht).bound
  refine r_val .none rfl (p_move rfl) ?_
  refine r_nil ?_
  refine e_next ?_
  refine c_block ?_
  refine c_nilrow 96 3 ?_
  refine c_name (d := 1) rfl (fun u_2 hu_2 => ?_)
  refine c_name (d := 2) rfl (fun u_3 hu_3 => ?_)
  refine c_name (d := 3) rfl (fun u_4 hu_4 => ?_)
  refine c_name (d := 14) rfl (fun u_5 hu_5 => ?_)
  refine c_name (d := 15) rfl (fun u_6 hu_6 => ?_)
  refine c_nameL (k := 2) rfl (fun A_7 hA_7 => ?_)
  refine c_nameL (k := 3) rfl (fun A_8 hA_8 => ?_)
  refine c_loop (σ := Nat × Value) (fun s => [(16, Value.int .i64 (s.1 : Nat)), (1, u_2), (2, u_3), (3, u_4), (14, u_5), (15, u_6)]) (fun s => [rowA (s.2) 96 3 ((c.h.ts.take s.1)).length (((c.h.ts.take s.1)).flatMap tC), box b_3 6 70 (at_ [.int .i64 c.h.k, .int .i64 c.h.k0, .int .i64 c.h.k1, .int .i64 c.h.k2, s.2, .slice none 0 0]), A_7, A_8]) (fun _ => _) (fun s => s.1 ≤ c.h.ts.length) (fun s => c.h.ts.length - s.1) ((0, _)) (Nat.zero_le _) rfl ⟨rfl, rfl, rfl, rfl, rfl, rfl, trivial⟩ (.keep (fun _ _ h => rowA_nil rfl _ _ h) (.keep (fun _ _ h => box_congr (fun i hi => by match i, hi with | 0, _ => rfl | 1, _ => rfl | 2, _ => rfl | 3, _ => rfl | 4, _ => rfl | 5, _ => rfl) _ _ h) (.keep (fun _ _ h => h) (.keep (fun _ _ h => h) (.nil))))) (fun s hphi => ?_)
  subst hu_2
  subst hu_3
  subst hu_4
  subst hu_5
  subst hu_6
  subst hA_7
  subst hA_8
  obtain ⟨j, tv⟩ := s
  dsimp only at hphi ⊢
  refine c_row1 (k := 0) rfl (fun ov => ?_)
  refine c_rowlen (k := 0) rfl (fun l63 => ?_)
  refine c_seq ?_
  refine c_region ?_
  refine r_val .none rfl (p_lt rfl rfl) ?_
  refine r_nil ?_
  refine e_next ?_
  refine c_seq ?_
  refine c_splitd (d := 17) rfl (fun h_9 => ?_) (fun h_9 => ?_)
  · skip
    first
      | (exfalso; omega)
      | (
        refine c_cond_t rfl ?_
        refine c_skip ?_
        refine e_next ?_
        refine c_seq ?_
        refine c_block ?_
        refine c_seq ?_
        refine c_region ?_
        refine r_iaddr_g .none rfl Try.underlying62 sz92 rfl ht rfl (by first | exact of_decide_eq_true rfl | omega) (fun p_11 o_12 R_10 => ?_)
        refine r_val .none rfl (p_ldga0 Try.underlying92 rfl sz92 rfl R_10 (by first | exact of_decide_eq_true rfl | omega) (rfl : _ = Value.agg #[_, _, _])) ?_
        refine r_alloc .none rfl zr92 (IsRow.lit _) (fun b_4 => ?_)
        refine r_stw (k := 0) .none sz92 rfl rfl (IsRow.lit _) (one_lit rfl rfl) rfl ?_
        refine r_nil ?_
        refine e_next ?_
        refine c_region ?_
        refine r_val .none rfl (p_field Try.underlying70 rfl sz68 rfl) ?_
        refine r_val .none rfl (p_ld (k := 2) Try.underlying68 rfl rfl rfl (by first | exact of_decide_eq_true rfl | omega) rfl) ?_
        refine r_val .none rfl (p_field Try.underlying92 rfl sz3 rfl) ?_
        refine r_val .none rfl (p_ld (k := 0) Try.underlying3 rfl rfl rfl (by first | exact of_decide_eq_true rfl | omega) (rfl : _ = Value.int _ _)) ?_
        refine r_val .none rfl (p_field Try.underlying92 rfl sz3 rfl) ?_
        refine r_val .none rfl (p_ld (k := 0) Try.underlying3 rfl rfl rfl (by first | exact of_decide_eq_true rfl | omega) (rfl : _ = Value.int _ _)) ?_
        refine r_val .none rfl (p_field Try.underlying92 rfl sz3 rfl) ?_
        refine r_val .none rfl (p_ld (k := 0) Try.underlying3 rfl rfl rfl (by first | exact of_decide_eq_true rfl | omega) (rfl : _ = Value.int _ _)) ?_
        refine r_val .none rfl (p_build (vs := [(0, Value.int _ _), (1, Value.int _ _), (2, Value.int _ _)]) rfl (bl96_0i1_1i1_2i1 _ _ _)) ?_
        refine r_bslice (vs := [(0, Value.agg #[_, _, _])]) (c := #[_, _, _]) .none rfl Try.underlying68 el96 rfl rfl rfl (bs96_10a3 _ _ _) (IsRow.lit _) (fun b_5 => ?_)
        refine r_append (k := 2) (k2 := 0) .none rfl Try.underlying68 el96 rfl (by decide) rfl rfl rfl rfl rfl (one_lit rfl rfl) (by rw [List.length_take]; simp only [maxLen]; omega) (by rw [List.length_take]; omega) (fun v_13 => ?_)
        refine r_row1 (k := 2) rfl (fun o_14 => ?_)
        refine r_val .none rfl (p_field Try.underlying70 rfl sz68 rfl) ?_
        refine r_st (k := 3) .none sz68 rfl rfl o_14 rfl (by first | exact of_decide_eq_true rfl | omega) ?_
        refine r_nil ?_
        refine e_norm_block ?_
        refine e_next ?_
        refine c_region ?_
        refine r_val .none rfl (p_add rfl rfl (by omega)) ?_
        refine r_val .none rfl (p_move rfl) ?_
        refine r_nil ?_
        refine e_round ((j + 1, _)) ⟨by dsimp only; omega, by dsimp only; omega⟩ rfl ⟨rfl, rfl, rfl, rfl, rfl, rfl, trivial⟩ (.drop (.drop (.keep (fun _ _ h => rowA_snoc (ts_next (by omega)) rfl rfl rfl _ _ h) (.keep (fun _ _ h => box_congr (fun i hi => by match i, hi with | 0, _ => rfl | 1, _ => rfl | 2, _ => rfl | 3, _ => rfl | 4, _ => rfl | 5, _ => rfl) _ _ h) (.keep (fun _ _ h => h) (.keep (fun _ _ h => h) (.nil)))))))
        )
  · skip
    first
      | (exfalso; omega)
      | (
        refine c_cond_f rfl ?_
        refine c_exit ?_
        refine e_exit_then ?_
        refine e_exit_then ?_
        refine e_exit_block ?_
        refine e_next ?_
        refine c_seq ?_
        refine c_seq ?_
        refine c_region ?_
        have hj2 : c.h.ts.take j = c.h.ts := List.take_of_length_le (by omega)
        refine r_freeze (k := 0) rfl (fun G_15 hn_16 hs_17 => ?_)
        replace ht := ht.mono hn_16.le
        replace hr := hr.mono hn_16.le
        replace hrt := fun p hm0 => (hrt p hm0).mono hn_16.le
        replace hrs := fun p hm0 => (hrs p hm0).mono hn_16.le
        have hts : SlL G_15 tv 3 tC t0 c.h.ts := SlL.of2 t0 (fun _ => rfl) (by rw [hj2]) (by rw [hj2]) hs_17
        refine r_val .none rfl (p_field Try.underlying64 rfl sz50 rfl) ?_
        refine r_val .none rfl (p_ld (k := 2) Try.underlying50 rfl rfl rfl (by first | exact of_decide_eq_true rfl | omega) rfl) ?_
        refine r_val .none rfl (p_leng Try.underlying50 rfl hr) ?_
        have bd_18 := (hr).bound
        refine r_val .none rfl (p_move rfl) ?_
        refine r_nil ?_
        refine e_next ?_
        refine c_block ?_
        refine c_nilrow 70 6 ?_
        refine c_name (d := 2) rfl (fun u_19 hu_19 => ?_)
        refine c_name (d := 3) rfl (fun u_20 hu_20 => ?_)
        refine c_name (d := 34) rfl (fun u_21 hu_21 => ?_)
        refine c_name (d := 35) rfl (fun u_22 hu_22 => ?_)
        refine c_nameL (k := 2) rfl (fun A_23 hA_23 => ?_)
        refine c_nameL (k := 3) rfl (fun A_24 hA_24 => ?_)
        refine c_loop (σ := Nat × Value × List SVal × Ghost) (fun s => [(36, Value.int .i64 (s.1 : Nat)), (2, u_19), (3, u_20), (34, u_21), (35, u_22)]) (fun s => [rowA (s.2.1) 70 6 (s.2.2.1).length ((s.2.2.1).flatMap sC), box b_3 6 70 (at_ [.int .i64 c.h.k, .int .i64 c.h.k0, .int .i64 c.h.k1, .int .i64 c.h.k2, tv, s.2.1]), A_23, A_24]) (fun s => s.2.2.2) (fun s => s.1 ≤ rs.length ∧ s.2.2.1.map Prod.fst = (rs.map Prod.fst).take s.1 ∧ (∀ p ∈ s.2.2.1, SlL s.2.2.2 p.2.1 3 tC t0 p.1.h.ts) ∧ (∀ p ∈ s.2.2.1, Ss s.2.2.2 p.2.2 p.1.subs) ∧ GNew w nX G_15 s.2.2.2) (fun s => rs.length - s.1) ((0, _, [], _)) ⟨Nat.zero_le _, rfl, by simp, by simp, GNew.refl _ _ _⟩ rfl ⟨rfl, rfl, rfl, rfl, rfl, trivial⟩ (.keep (fun _ _ h => rowA_nil rfl _ _ h) (.keep (fun _ _ h => box_congr (fun i hi => by match i, hi with | 0, _ => rfl | 1, _ => rfl | 2, _ => rfl | 3, _ => rfl | 4, _ => rfl | 5, _ => rfl) _ _ h) (.keep (fun _ _ h => h) (.keep (fun _ _ h => h) (.nil))))) (fun s hphi => ?_)
        subst hu_19
        subst hu_20
        subst hu_21
        subst hu_22
        subst hA_23
        subst hA_24
        obtain ⟨k, v, qs, H⟩ := s
        obtain ⟨hk, hq, hqt, hqs, hgn⟩ := hphi
        dsimp only at hk hq hqt hqs hgn ⊢
        have hql : qs.length ≤ k := (by have := congrArg List.length hq; simp at this; omega)
        refine c_row1 (k := 0) rfl (fun ov => ?_)
        refine c_rowlen (k := 0) rfl (fun l63 => ?_)
        replace ht := ht.mono hgn.le
        replace hr := hr.mono hgn.le
        replace hrt := fun p hm0 => (hrt p hm0).mono hgn.le
        replace hrs := fun p hm0 => (hrs p hm0).mono hgn.le
        replace hts := hts.mono hgn.le
        refine c_seq ?_
        refine c_region ?_
        refine r_val .none rfl (p_lt rfl rfl) ?_
        refine r_nil ?_
        refine e_next ?_
        refine c_seq ?_
        refine c_splitd (d := 37) rfl (fun h_25 => ?_) (fun h_25 => ?_)
        · skip
          first
            | (exfalso; omega)
            | (
              refine c_cond_t rfl ?_
              refine c_skip ?_
              refine e_next ?_
              refine c_seq ?_
              refine c_block ?_
              refine c_seq ?_
              refine c_region ?_
              refine r_iaddr_g .none rfl Try.underlying50 sz64 rfl hr rfl (by first | exact of_decide_eq_true rfl | omega) (fun p_27 o_28 R_26 => ?_)
              have ht_29 := hrt _ (getD_mem (i := k) (d := s0) (by omega))
              have hc_30 := hrs _ (getD_mem (i := k) (d := s0) (by omega))
              have hz8 : ssz (rs.getD k s0).1 ≤ 5000 := Nat.le_trans (sszL_mem (l := c.subs) (by rw [hl]; exact sv_mem (k := k) (by omega))) (by omega)
              refine r_val .none rfl (p_ldga0 Try.underlying64 rfl sz64 rfl R_26 (by first | exact of_decide_eq_true rfl | omega) (rfl : _ = Value.agg #[_, _, _, _, _, _])) ?_
              refine r_alloc .none rfl zr64 (IsRow.lit _) (fun b_6 => ?_)
              refine r_stw (k := 0) .none sz64 rfl rfl (IsRow.lit _) (one_lit rfl (all_cons rfl (all_cons rfl (all_cons rfl (all_cons rfl (all_cons (ht_29).one (all_cons (hc_30).one rfl))))))) rfl ?_
              refine r_nil ?_
              refine e_next ?_
              refine c_region_d (fun j => [5, 6, 7].contains j) _ mixed (.keep (fun _ _ h => h) (.keep (fun _ _ h => h) (.keep (fun _ _ h => h) (.keep (fun _ _ h => h) (.keep (fun _ _ h => h) (.nil)))))) ?_
              refine d_val1 0 rfl rfl (by kernel_rfl) (fun j hj => by have h : 7 < j := (Nat.lt_of_lt_of_le (by decide : 7 < 8) hj); simp; omega) .none rfl (p_field Try.underlying70 rfl sz48 rfl) ?_
              refine d_val1 1 rfl rfl (by kernel_rfl) (fun j hj => by have h : 7 < j := (Nat.lt_of_lt_of_le (by decide : 7 < 8) hj); simp; omega) .none rfl (p_ld (k := 2) Try.underlying48 rfl rfl rfl (by first | exact of_decide_eq_true rfl | omega) rfl) ?_
              refine d_val1 2 rfl rfl (by kernel_rfl) (fun j hj => by have h : 7 < j := (Nat.lt_of_lt_of_le (by decide : 7 < 8) hj); simp; omega) .none rfl (p_ldw (k := 0) Try.underlying64 rfl sz64 rfl rfl (rfl : _ = Value.agg #[_, _, _, _, _, _])) ?_
              refine d_eff 3 rfl (by kernel_rfl) (fun K_31 hKK_31 hcK_31 => ?_)
              refine r_callm (vs := [_]) .none rfl cl33 rfl (fun w hw => ih (rs.getD k s0).1 _ _ _ w (ssz_at hl (by omega) hz) hz8 ht_29 hc_30 hw) (fun G_32 v_35 hn_33 hr_34 => ?_)
              replace ht := ht.mono hn_33.le
              replace hr := hr.mono hn_33.le
              replace hrt := fun p hm0 => (hrt p hm0).mono hn_33.le
              replace hrs := fun p hm0 => (hrs p hm0).mono hn_33.le
              replace hts := hts.mono hn_33.le
              replace hqt := fun p hm0 => (hqt p hm0).mono hn_33.le
              replace hqs := fun p hm0 => (hqs p hm0).mono hn_33.le
              replace R_26 := R_26.mono hn_33.le
              replace ht_29 := ht_29.mono hn_33.le
              replace hc_30 := hc_30.mono hn_33.le
              obtain ⟨u_36a, u_36b, rfl, u_36s, u_36t⟩ := hr_34
              refine r_nil (e_d (i := 3) (brk := (fun j => [5, 6, 7].contains j)) (ph' := true) hKK_31 hcK_31 rfl (fun _ => hn_33.le) (fun _ => .keep (fun _ _ h => h) (.keep (fun _ _ h => h) (.keep (fun _ _ h => h) (.keep (fun _ _ h => h) (.keep (fun _ _ h => h) (.nil)))))) ?_)
              clear hKK_31 hcK_31 K_31
              refine d_eff 4 rfl (by kernel_rfl) (fun K_37 hKK_37 hcK_37 => ?_)
              refine r_bslice (vs := [(0, Value.agg #[_, _, _, _, _, _])]) (c := #[_, _, _, _, _, _]) .none rfl Try.underlying48 el70 rfl rfl rfl (bs70_10a6 _ _ _ _ _ _) (IsRow.lit _) (fun b_7 => ?_)
              refine r_nil (e_d (i := 4) (brk := (fun j => [5, 6, 7].contains j)) (ph' := true) hKK_37 hcK_37 rfl (fun _ => hn_33.le) (fun _ => .drop (.keep (fun _ _ h => h) (.keep (fun _ _ h => h) (.keep (fun _ _ h => h) (.keep (fun _ _ h => h) (.keep (fun _ _ h => h) (.nil))))))) ?_)
              clear hKK_37 hcK_37 K_37
              refine d_eff 5 rfl (by kernel_rfl) (fun K_38 hKK_38 hcK_38 => ?_)
              refine r_append (k := 2) (k2 := 0) .none rfl Try.underlying48 el70 rfl (by decide) rfl rfl rfl rfl rfl (one_lit rfl (all_cons rfl (all_cons rfl (all_cons rfl (all_cons rfl (all_cons (u_36s).one (all_cons (u_36t).one rfl))))))) (by simp only [maxLen]; omega) (by omega) (fun v_39 => ?_)
              refine r_row1 (k := 2) rfl (fun o_40 => ?_)
              refine r_nil (e_d (i := 5) (brk := (fun j => [5, 6, 7].contains j)) (ph' := false) hKK_38 hcK_38 rfl (fun h => by cases h) (fun h => by cases h) ?_)
              clear hKK_38 hcK_38 K_38
              refine d_val2 6 rfl rfl (by kernel_rfl) .none rfl (fun _ => p_field Try.underlying70 rfl sz48 rfl) ?_
              refine d_eff 7 rfl (by kernel_rfl) (fun K_41 hKK_41 hcK_41 => ?_)
              refine r_st (k := 3) .none sz48 rfl rfl o_40 rfl (by first | exact of_decide_eq_true rfl | omega) ?_
              refine r_nil (e_d (i := 7) (brk := (fun j => [5, 6, 7].contains j)) (ph' := false) hKK_41 hcK_41 rfl (fun h => by cases h) (fun h => by cases h) ?_)
              clear hKK_41 hcK_41 K_41
              refine d_nil (by kernel_rfl) ?_
              refine e_norm_block ?_
              refine e_next ?_
              refine c_region ?_
              refine r_val .none rfl (p_add rfl rfl (by omega)) ?_
              refine r_val .none rfl (p_move rfl) ?_
              refine r_nil ?_
              refine e_round ((k + 1, _, qs ++ [((rs.getD k s0).1, u_36a, u_36b)], _)) ⟨⟨by dsimp only; omega, by rw [sv_take (by omega), List.map_append, hq]; rfl, (fun p hp' => by rcases List.mem_append.1 hp' with h | h; exact hqt p h; rw [List.mem_singleton.1 h]; exact u_36s), (fun p hp' => by rcases List.mem_append.1 hp' with h | h; exact hqs p h; rw [List.mem_singleton.1 h]; exact u_36t), (hgn.trans hn_33)⟩, by dsimp only; omega⟩ rfl ⟨rfl, rfl, rfl, rfl, rfl, trivial⟩ (.drop (.drop (.keep (fun _ _ h => rowA_snoc (l := qs) (x := ((rs.getD k s0).1, u_36a, u_36b)) rfl rfl rfl rfl _ _ h) (.keep (fun _ _ h => box_congr (fun i hi => by match i, hi with | 0, _ => rfl | 1, _ => rfl | 2, _ => rfl | 3, _ => rfl | 4, _ => rfl | 5, _ => rfl) _ _ h) (.keep (fun _ _ h => h) (.keep (fun _ _ h => h) (.nil)))))))
              )
        · skip
          first
            | (exfalso; omega)
            | (
              refine c_cond_f rfl ?_
              refine c_exit ?_
              refine e_exit_then ?_
              refine e_exit_then ?_
              refine e_exit_block ?_
              refine e_next ?_
              refine c_seq ?_
              refine c_region ?_
              refine r_val .none rfl (p_ldw (k := 1) Try.underlying70 rfl sz70 rfl rfl (rfl : _ = Value.agg #[_, _, _, _, _, _])) ?_
              refine r_stw (k := 2) .none sz70 rfl rfl (IsRow.lit _) (one_lit rfl (all_cons rfl (all_cons rfl (all_cons rfl (all_cons rfl (all_cons (hts).one (all_cons ov rfl))))))) rfl ?_
              refine r_nil ?_
              refine e_next ?_
              refine c_ret ?_
              refine e_freeze (k := 0) rfl (fun G_42 hn_43 hs_44 => ?_)
              replace ht := ht.mono hn_43.le
              replace hr := hr.mono hn_43.le
              replace hrt := fun p hm0 => (hrt p hm0).mono hn_43.le
              replace hrs := fun p hm0 => (hrs p hm0).mono hn_43.le
              replace hts := hts.mono hn_43.le
              replace hqt := fun p hm0 => (hqt p hm0).mono hn_43.le
              replace hqs := fun p hm0 => (hqs p hm0).mono hn_43.le
              refine e_ret1 Try.results33 (.cell (k := 1) rfl Try.underlying70 rfl sz70 rfl (rfl : _ = Value.agg #[_, _, _, _, _, _]) .nil) (fun w hm => ⟨_, ((hn_16.trans hgn).trans hn_43), hm.has, ?_, hm.since⟩)
              exact ⟨_, _, rfl, hts, by rw [show c.subs = qs.map Prod.fst by rw [hq, hl, List.take_of_length_le (by simp; omega)]]; exact Ss.mk qs (SlL.of s0 (fun _ => rfl) rfl hs_44) hqt hqs⟩
              )
        )
theorem c_sref_n : ∀ n, SrefIs n
  | 0 => fun c ta sb G w hz _ _ _ _ => absurd hz (by have := s_pos c; omega)
  | n + 1 => fun c ta sb G w hz hsz ht hs hG => c_sref_s n (c_sref_n n) c ta sb hz hsz ht hs w hG
theorem c_sref (c : ST) (ta sb : Value) {G : Ghost} (hsz : ssz c ≤ 5000) (ht : SlL G ta 3 tC t0 c.h.ts) (hs : Ss G sb c.subs) (w : World) (hG : Has G w) : Calls Try.prog 33 #[Value.agg #[Value.int .i64 c.h.k, Value.int .i64 c.h.k0, Value.int .i64 c.h.k1, Value.int .i64 c.h.k2, ta, sb]] w (Ret fun r w' => ∃ G', GNew w nX G G' ∧ Has G' w' ∧ (∃ ua ub, r = Value.agg #[Value.int .i64 (c).h.k, Value.int .i64 (c).h.k0, Value.int .i64 (c).h.k1, Value.int .i64 (c).h.k2, ua, ub] ∧ SlL G' ua 3 tC t0 (c).h.ts ∧ Ss G' ub (c).subs) ∧ Since nX w w') := c_sref_n _ c ta sb G w (Nat.le_refl _) hsz ht hs hG
theorem c_srefs (v : Value) (l : List ST) {G : Ghost} (hsz : sszL l ≤ 5000) (hs : Ss G v l) (w : World) (hG : Has G w) :
    Calls Try.prog 23 #[v] w (Ret fun r w' => ∃ G', GNew w nX G G' ∧ Has G' w' ∧ Ss G' r l ∧ Since nX w w') := by
  refine enter (args := [_]) (X := nX) (G := G) (l := [(0, v)]) Try.func23 rfl Try.ntmps23 hG ⟨rfl, trivial⟩ (Nat.le_of_ble_eq_true rfl) ?_
  obtain ⟨rs, hr, hrt, hrs, hl⟩ := hs.inv
  have hbd := hr.bound
  have hll := sszL_len l
  have hlr : l.length = rs.length := by rw [hl]; simp
  refine c_seq ?_
  refine c_region ?_
  refine r_val .none rfl (p_assign rfl) ?_
  refine r_nil ?_
  refine e_next ?_
  refine c_seq ?_
  refine c_region ?_
  refine r_val .none rfl (p_assign rfl) ?_
  refine r_nil ?_
  refine e_next ?_
  refine c_seq ?_
  refine c_seq ?_
  refine c_region ?_
  refine r_val .none rfl (p_move rfl) ?_
  refine r_val .none rfl (p_leng Try.underlying50 rfl hr) ?_
  have bd_1 := (hr).bound
  refine r_val .none rfl (p_move rfl) ?_
  refine r_nil ?_
  refine e_next ?_
  refine c_block ?_
  refine c_nilrow 70 6 ?_
  refine c_name (d := 2) rfl (fun u_2 hu_2 => ?_)
  refine c_name (d := 6) rfl (fun u_3 hu_3 => ?_)
  refine c_name (d := 7) rfl (fun u_4 hu_4 => ?_)
  refine c_loop (σ := Nat × Value × List SVal × Ghost) (fun s => [(8, Value.int .i64 (s.1 : Nat)), (3, s.2.1), (2, u_2), (6, u_3), (7, u_4)]) (fun s => [rowA (s.2.1) 70 6 (s.2.2.1).length ((s.2.2.1).flatMap sC)]) (fun s => s.2.2.2) (fun s => s.1 ≤ rs.length ∧ s.2.2.1.map Prod.fst = (rs.map Prod.fst).take s.1 ∧ (∀ p ∈ s.2.2.1, SlL s.2.2.2 p.2.1 3 tC t0 p.1.h.ts) ∧ (∀ p ∈ s.2.2.1, Ss s.2.2.2 p.2.2 p.1.subs) ∧ GNew w nX G s.2.2.2) (fun s => rs.length - s.1) ((0, _, [], _)) ⟨Nat.zero_le _, rfl, by simp, by simp, GNew.refl _ _ _⟩ rfl ⟨rfl, rfl, rfl, rfl, rfl, trivial⟩ (.keep (fun _ _ h => rowA_nil rfl _ _ h) (.nil)) (fun s hphi => ?_)
  subst hu_2
  subst hu_3
  subst hu_4
  obtain ⟨k, v, qs, H⟩ := s
  obtain ⟨hk, hq, hqt, hqs, hgn⟩ := hphi
  dsimp only at hk hq hqt hqs hgn ⊢
  have hql : qs.length ≤ k := (by have := congrArg List.length hq; simp at this; omega)
  replace hr := hr.mono hgn.le
  replace hrt := fun p hm0 => (hrt p hm0).mono hgn.le
  replace hrs := fun p hm0 => (hrs p hm0).mono hgn.le
  refine c_seq ?_
  refine c_region ?_
  refine r_val .none rfl (p_lt rfl rfl) ?_
  refine r_nil ?_
  refine e_next ?_
  refine c_seq ?_
  refine c_splitd (d := 9) rfl (fun h_5 => ?_) (fun h_5 => ?_)
  · skip
    first
      | (exfalso; omega)
      | (
        refine c_cond_t rfl ?_
        refine c_skip ?_
        refine e_next ?_
        refine c_seq ?_
        refine c_block ?_
        refine c_seq ?_
        refine c_region ?_
        refine r_iaddr_g .none rfl Try.underlying50 sz64 rfl hr rfl (by first | exact of_decide_eq_true rfl | omega) (fun p_7 o_8 R_6 => ?_)
        have ht_9 := hrt _ (getD_mem (i := k) (d := s0) (by omega))
        have hc_10 := hrs _ (getD_mem (i := k) (d := s0) (by omega))
        have hz8 : ssz (rs.getD k s0).1 ≤ 5000 := Nat.le_trans (sszL_mem (by rw [hl]; exact sv_mem (k := k) (by omega))) hsz
        refine r_val .none rfl (p_ldga0 Try.underlying64 rfl sz64 rfl R_6 (by first | exact of_decide_eq_true rfl | omega) (rfl : _ = Value.agg #[_, _, _, _, _, _])) ?_
        refine r_alloc .none rfl zr64 (IsRow.lit _) (fun b_1 => ?_)
        refine r_stw (k := 0) .none sz64 rfl rfl (IsRow.lit _) (one_lit rfl (all_cons rfl (all_cons rfl (all_cons rfl (all_cons rfl (all_cons (ht_9).one (all_cons (hc_10).one rfl))))))) rfl ?_
        refine r_nil ?_
        refine e_next ?_
        refine c_region ?_
        refine r_val .none rfl (p_move rfl) ?_
        refine r_val .none rfl (p_ldw (k := 0) Try.underlying64 rfl sz64 rfl rfl (rfl : _ = Value.agg #[_, _, _, _, _, _])) ?_
        refine r_callm (vs := [_]) .none rfl cl33 rfl (fun w hw => c_sref (rs.getD k s0).1 _ _ hz8 ht_9 hc_10 w hw) (fun G_11 v_14 hn_12 hr_13 => ?_)
        replace hr := hr.mono hn_12.le
        replace hrt := fun p hm0 => (hrt p hm0).mono hn_12.le
        replace hrs := fun p hm0 => (hrs p hm0).mono hn_12.le
        replace hqt := fun p hm0 => (hqt p hm0).mono hn_12.le
        replace hqs := fun p hm0 => (hqs p hm0).mono hn_12.le
        replace R_6 := R_6.mono hn_12.le
        replace ht_9 := ht_9.mono hn_12.le
        replace hc_10 := hc_10.mono hn_12.le
        obtain ⟨u_15a, u_15b, rfl, u_15s, u_15t⟩ := hr_13
        refine r_bslice (vs := [(0, Value.agg #[_, _, _, _, _, _])]) (c := #[_, _, _, _, _, _]) .none rfl Try.underlying48 el70 rfl rfl rfl (bs70_10a6 _ _ _ _ _ _) (IsRow.lit _) (fun b_2 => ?_)
        refine r_append (k := 2) (k2 := 0) .none rfl Try.underlying48 el70 rfl (by decide) rfl rfl rfl rfl rfl (one_lit rfl (all_cons rfl (all_cons rfl (all_cons rfl (all_cons rfl (all_cons (u_15s).one (all_cons (u_15t).one rfl))))))) (by simp only [maxLen]; omega) (by omega) (fun v_16 => ?_)
        refine r_row1 (k := 2) rfl (fun o_17 => ?_)
        refine r_val .none rfl (p_assign rfl) ?_
        refine r_nil ?_
        refine e_norm_block ?_
        refine e_next ?_
        refine c_region ?_
        refine r_val .none rfl (p_add rfl rfl (by omega)) ?_
        refine r_val .none rfl (p_move rfl) ?_
        refine r_nil ?_
        refine e_round ((k + 1, _, qs ++ [((rs.getD k s0).1, u_15a, u_15b)], _)) ⟨⟨by dsimp only; omega, by rw [sv_take (by omega), List.map_append, hq]; rfl, (fun p hp' => by rcases List.mem_append.1 hp' with h | h; exact hqt p h; rw [List.mem_singleton.1 h]; exact u_15s), (fun p hp' => by rcases List.mem_append.1 hp' with h | h; exact hqs p h; rw [List.mem_singleton.1 h]; exact u_15t), (hgn.trans hn_12)⟩, by dsimp only; omega⟩ rfl ⟨rfl, rfl, rfl, rfl, rfl, trivial⟩ (.drop (.drop (.keep (fun _ _ h => rowA_snoc (l := qs) (x := ((rs.getD k s0).1, u_15a, u_15b)) rfl rfl rfl rfl _ _ h) (.nil))))
        )
  · skip
    first
      | (exfalso; omega)
      | (
        refine c_cond_f rfl ?_
        refine c_exit ?_
        refine e_exit_then ?_
        refine e_exit_then ?_
        refine e_exit_block ?_
        refine e_next ?_
        refine c_seq ?_
        refine c_region ?_
        refine r_val .none rfl (p_move rfl) ?_
        refine r_val .none rfl (p_assign rfl) ?_
        refine r_nil ?_
        refine e_next ?_
        refine c_ret ?_
        refine e_freeze (k := 0) rfl (fun G_18 hn_19 hs_20 => ?_)
        replace hr := hr.mono hn_19.le
        replace hrt := fun p hm0 => (hrt p hm0).mono hn_19.le
        replace hrs := fun p hm0 => (hrs p hm0).mono hn_19.le
        replace hqt := fun p hm0 => (hqt p hm0).mono hn_19.le
        replace hqs := fun p hm0 => (hqs p hm0).mono hn_19.le
        refine e_ret1 Try.results23 (.tmp rfl .nil) (fun w hm => ⟨_, (hgn.trans hn_19), hm.has, ?_, hm.since⟩)
        rw [show l = qs.map Prod.fst by rw [hq, hl, List.take_of_length_le (by simp; omega)]]
        exact Ss.mk qs (SlL.of s0 (fun _ => rfl) rfl hs_20) hqt hqs
        )
theorem c_rsameS_s (n : Nat) (ih : RsameSIs n) (c c2 : ST) (ta sb ta2 sb2 : Value) {G : Ghost} (hz : SizeOf.sizeOf c ≤ n + 1) (ht : SlL G ta 3 tC t0 c.h.ts) (hs : Ss G sb c.subs) (ht2 : SlL G ta2 3 tC t0 c2.h.ts) (hs2 : Ss G sb2 c2.subs) (w : World) (hG : Has G w) :
    Calls Try.prog 32 #[Value.agg #[Value.int .i64 c.h.k, Value.int .i64 c.h.k0, Value.int .i64 c.h.k1, Value.int .i64 c.h.k2, ta, sb], Value.agg #[Value.int .i64 c2.h.k, Value.int .i64 c2.h.k0, Value.int .i64 c2.h.k1, Value.int .i64 c2.h.k2, ta2, sb2]] w (Ret fun r w' => r = Value.bool (seq c c2) ∧ Since nX w w') := by
  refine enter (args := [_, _]) (X := nX) (G := G) (l := [(0, Value.agg #[Value.int .i64 c.h.k, Value.int .i64 c.h.k0, Value.int .i64 c.h.k1, Value.int .i64 c.h.k2, ta, sb]), (1, Value.agg #[Value.int .i64 c2.h.k, Value.int .i64 c2.h.k0, Value.int .i64 c2.h.k1, Value.int .i64 c2.h.k2, ta2, sb2])]) Try.func32 rfl Try.ntmps32 hG ⟨rfl, rfl, trivial⟩ (Nat.le_of_ble_eq_true rfl) ?_
  obtain ⟨rs, hr, hrt, hrs, hl⟩ := hs.inv
  obtain ⟨rs2, hr2, hrt2, hrs2, hl2⟩ := hs2.inv
  have hbd := hr.bound
  have hbd2 := hr2.bound
  have hbd3 := ht.bound
  have hbd4 := ht2.bound
  have hlr : c.subs.length = rs.length := by rw [hl]; simp
  have hlr2 : c2.subs.length = rs2.length := by rw [hl2]; simp
  refine c_seq ?_
  refine c_region ?_
  refine r_box .none rfl rfl (IsRow.lit _) (fun b_1 => ?_)
  refine r_box .none rfl rfl (IsRow.lit _) (fun b_2 => ?_)
  refine r_val .none rfl (p_assign rfl) ?_
  refine r_nil ?_
  refine e_next ?_
  refine c_seq ?_
  refine c_seq ?_
  refine c_region ?_
  refine r_val .none rfl (p_field Try.underlying70 rfl sz3 rfl) ?_
  refine r_val .none rfl (p_ld (k := 1) Try.underlying3 rfl rfl rfl (by first | exact of_decide_eq_true rfl | omega) (rfl : _ = Value.int _ _)) ?_
  refine r_val .none rfl (p_field Try.underlying70 rfl sz3 rfl) ?_
  refine r_val .none rfl (p_ld (k := 0) Try.underlying3 rfl rfl rfl (by first | exact of_decide_eq_true rfl | omega) (rfl : _ = Value.int _ _)) ?_
  refine r_val .none rfl (p_ne rfl rfl) ?_
  refine r_val .none rfl (p_move rfl) ?_
  refine' r_or (c := 12) (d := 18) [_, _, _, _, _, _] rfl (fun h_1 Q_2 hQ_3 => ?_) (fun h_1 Q_2 hQ_3 => ?_) ?_
  rotate_left 1
  · skip
    replace h_1 := of_decide_eq_false h_1
    refine r_val (.some rfl rfl) rfl (p_field Try.underlying70 rfl sz60 rfl) ?_
    refine r_val (.some rfl rfl) rfl (p_lda (k := 1) Try.underlying60 rfl sz60 rfl rfl (by first | exact of_decide_eq_true rfl | omega) (rfl : _ = Value.agg #[_, _, _])) ?_
    refine r_val (.some rfl rfl) rfl (p_field Try.underlying70 rfl sz60 rfl) ?_
    refine r_val (.some rfl rfl) rfl (p_lda (k := 0) Try.underlying60 rfl sz60 rfl rfl (by first | exact of_decide_eq_true rfl | omega) (rfl : _ = Value.agg #[_, _, _])) ?_
    refine r_val (.some rfl rfl) rfl (p_nea rfl rfl (eq_flat Try.underlying60 rfl lf60 ef60 eg60 (.cons (.int Try.underlying3) (.cons (.int Try.underlying3) (.cons (.int Try.underlying3) (.nil)))) (.cons (.int Try.underlying3) (.cons (.int Try.underlying3) (.cons (.int Try.underlying3) (.nil)))))) ?_
    refine r_val .none rfl (p_pick_f rfl rfl) ?_
    refine r_nil (e_fin (d := 18) hQ_3 rfl (by repeat (first | exact .refl | refine .put rfl ?_ | refine .say rfl ?_ | refine .say2 rfl (by first | assumption | simp_all) ?_)))
  · skip
    repeat (first | refine r_skip rfl (.no rfl rfl) ?_ | refine r_skip rfl (.un rfl rfl) ?_)
    refine r_val (by first | exact .none | exact .some rfl rfl) rfl (p_pick_t rfl rfl) ?_
    refine r_nil (e_fin (d := 18) hQ_3 rfl (by repeat (first | exact .refl | refine .put rfl ?_ | refine .say rfl ?_ | refine .say2 rfl (by first | assumption | simp_all) ?_)))
  refine r_val .none rfl (p_move rfl) ?_
  refine' r_or (c := 19) (d := 27) [_, _, _, _, _, _, _, _] rfl (fun h_5 Q_6 hQ_7 => ?_) (fun h_5 Q_6 hQ_7 => ?_) ?_
  rotate_left 1
  · skip
    try simp only [norms] at h_5
    refine r_val (.some rfl rfl) rfl (p_field Try.underlying70 rfl sz68 rfl) ?_
    refine r_val (.some rfl rfl) rfl (p_ld (k := 1) Try.underlying68 rfl rfl rfl (by first | exact of_decide_eq_true rfl | omega) rfl) ?_
    refine r_val (.some rfl rfl) rfl (p_leng Try.underlying68 rfl ht) ?_
    have bd_9 := (ht).bound
    refine r_val (.some rfl rfl) rfl (p_field Try.underlying70 rfl sz68 rfl) ?_
    refine r_val (.some rfl rfl) rfl (p_ld (k := 0) Try.underlying68 rfl rfl rfl (by first | exact of_decide_eq_true rfl | omega) rfl) ?_
    refine r_val (.some rfl rfl) rfl (p_leng Try.underlying68 rfl ht2) ?_
    have bd_10 := (ht2).bound
    refine r_val (.some rfl rfl) rfl (p_ne rfl rfl) ?_
    refine r_val .none rfl (p_pick_f rfl rfl) ?_
    refine r_nil (e_fin (d := 27) hQ_7 rfl (by repeat (first | exact .refl | refine .put rfl ?_ | refine .say rfl ?_ | refine .say2 rfl (by first | assumption | simp_all) ?_)))
  · skip
    repeat (first | refine r_skip rfl (.no rfl rfl) ?_ | refine r_skip rfl (.un rfl rfl) ?_)
    refine r_val (by first | exact .none | exact .some rfl rfl) rfl (p_pick_t rfl rfl) ?_
    refine r_nil (e_fin (d := 27) hQ_7 rfl (by repeat (first | exact .refl | refine .put rfl ?_ | refine .say rfl ?_ | refine .say2 rfl (by first | assumption | simp_all) ?_)))
  refine r_val .none rfl (p_move rfl) ?_
  refine' r_or (c := 28) (d := 36) [_, _, _, _, _, _, _, _] rfl (fun h_11 Q_12 hQ_13 => ?_) (fun h_11 Q_12 hQ_13 => ?_) ?_
  rotate_left 1
  · skip
    try simp only [norms] at h_11
    refine r_val (.some rfl rfl) rfl (p_field Try.underlying70 rfl sz48 rfl) ?_
    refine r_val (.some rfl rfl) rfl (p_ld (k := 1) Try.underlying48 rfl rfl rfl (by first | exact of_decide_eq_true rfl | omega) rfl) ?_
    refine r_val (.some rfl rfl) rfl (p_leng Try.underlying48 rfl hr) ?_
    have bd_15 := (hr).bound
    refine r_val (.some rfl rfl) rfl (p_field Try.underlying70 rfl sz48 rfl) ?_
    refine r_val (.some rfl rfl) rfl (p_ld (k := 0) Try.underlying48 rfl rfl rfl (by first | exact of_decide_eq_true rfl | omega) rfl) ?_
    refine r_val (.some rfl rfl) rfl (p_leng Try.underlying48 rfl hr2) ?_
    have bd_16 := (hr2).bound
    refine r_val (.some rfl rfl) rfl (p_ne rfl rfl) ?_
    refine r_val .none rfl (p_pick_f rfl rfl) ?_
    refine r_nil (e_fin (d := 36) hQ_13 rfl (by repeat (first | exact .refl | refine .put rfl ?_ | refine .say rfl ?_ | refine .say2 rfl (by first | assumption | simp_all) ?_)))
  · skip
    repeat (first | refine r_skip rfl (.no rfl rfl) ?_ | refine r_skip rfl (.un rfl rfl) ?_)
    refine r_val (by first | exact .none | exact .some rfl rfl) rfl (p_pick_t rfl rfl) ?_
    refine r_nil (e_fin (d := 36) hQ_13 rfl (by repeat (first | exact .refl | refine .put rfl ?_ | refine .say rfl ?_ | refine .say2 rfl (by first | assumption | simp_all) ?_)))
  refine r_nil ?_
  refine e_next ?_
  refine c_split (d := 36) rfl (fun h_17 => ?_) (fun h_17 => ?_)
  · skip
    try simp only [norms] at h_17
    have hN : ((¬ c.h.k = c2.h.k ∨ kEq c.h c2.h = false) ∨ ¬ (c.h.ts.length : Int) = c2.h.ts.length) ∨ ¬ (rs.length : Int) = rs2.length := h_17
    first
      | (exfalso; omega)
      | (
        refine c_cond_t rfl ?_
        refine c_seq ?_
        refine c_region ?_
        refine r_val .none rfl (p_assign rfl) ?_
        refine r_nil ?_
        refine e_next ?_
        refine c_ret ?_
        refine e_ret_then ?_
        refine e_ret1 Try.results32 (.tmp rfl .nil) (fun w hm => ⟨?_, hm.since⟩)
        first
        | exact congrArg Value.bool (seq_no (hN.imp (Or.imp_right (fun hx => by omega)) (fun hx => by omega))).symm
        | exact congrArg Value.bool (seq_ts (ne_of_get hE)).symm
        | (rw [seq_sub hN.1.1.1 hN.1.1.2 hts, hl, hl2, ← hphi.2.2, seqL_no (by omega) (by omega) hF]; done)
        | (rw [seq_sub hN.1.1.1 hN.1.1.2 hts, hl, hl2, ← hphi.2.2, List.drop_eq_nil_of_le (by simp; omega), List.drop_eq_nil_of_le (by simp; omega)]; rfl)
        )
  · skip
    try simp only [norms] at h_17
    have hN : ((c.h.k = c2.h.k ∧ kEq c.h c2.h = true) ∧ (c.h.ts.length : Int) = c2.h.ts.length) ∧ (rs.length : Int) = rs2.length := h_17
    first
      | (exfalso; omega)
      | (
        refine c_cond_f rfl ?_
        refine c_skip ?_
        refine e_next ?_
        refine c_seq ?_
        refine c_seq ?_
        refine c_region ?_
        refine r_val .none rfl (p_field Try.underlying70 rfl sz68 rfl) ?_
        refine r_val .none rfl (p_ld (k := 1) Try.underlying68 rfl rfl rfl (by first | exact of_decide_eq_true rfl | omega) rfl) ?_
        refine r_val .none rfl (p_leng Try.underlying68 rfl ht) ?_
        have bd_18 := (ht).bound
        refine r_val .none rfl (p_move rfl) ?_
        refine r_nil ?_
        refine e_next ?_
        refine c_block ?_
        refine c_name (d := 2) rfl (fun u_19 hu_19 => ?_)
        refine c_name (d := 3) rfl (fun u_20 hu_20 => ?_)
        refine c_name (d := 39) rfl (fun u_21 hu_21 => ?_)
        refine c_nameL (k := 0) rfl (fun A_22 hA_22 => ?_)
        refine c_nameL (k := 1) rfl (fun A_23 hA_23 => ?_)
        refine c_loop (σ := Nat) (fun j => [(40, Value.int .i64 (j : Nat)), (2, u_19), (3, u_20), (39, u_21)]) (fun j => [A_22, A_23]) (fun _ => _) (fun j => j ≤ c.h.ts.length ∧ c.h.ts.take j = c2.h.ts.take j) (fun j => c.h.ts.length - j) (0) ⟨Nat.zero_le _, rfl⟩ rfl ⟨rfl, rfl, rfl, rfl, trivial⟩ (.keep (fun _ _ h => h) (.keep (fun _ _ h => h) (.nil))) (fun j hphi => ?_)
        subst hu_19
        subst hu_20
        subst hu_21
        subst hA_22
        subst hA_23
        have hj := hphi
        refine c_seq ?_
        refine c_region ?_
        refine r_val .none rfl (p_lt rfl rfl) ?_
        refine r_nil ?_
        refine e_next ?_
        refine c_seq ?_
        refine c_splitd (d := 41) rfl (fun h_24 => ?_) (fun h_24 => ?_)
        · skip
          first
            | (exfalso; omega)
            | (
              refine c_cond_t rfl ?_
              refine c_skip ?_
              refine e_next ?_
              refine c_seq ?_
              refine c_block ?_
              refine c_seq ?_
              refine c_region ?_
              refine r_val .none rfl (p_move rfl) ?_
              refine r_val .none rfl (p_assign rfl) ?_
              refine r_nil ?_
              refine e_next ?_
              refine c_seq ?_
              refine c_region_q mixed (by kernel_rfl) ?_
              refine q_val .none rfl (p_field Try.underlying70 rfl sz68 rfl) ?_
              refine q_val .none rfl (p_ld (k := 1) Try.underlying68 rfl rfl rfl (by first | exact of_decide_eq_true rfl | omega) rfl) ?_
              refine q_val .none rfl (p_move rfl) ?_
              refine q_iaddr_g .none rfl Try.underlying68 sz96 rfl ht rfl (by first | exact of_decide_eq_true rfl | omega) (fun p_26 o_27 R_25 => ?_)
              refine q_val .none rfl (p_ldga0 Try.underlying96 rfl sz96 rfl R_25 (by first | exact of_decide_eq_true rfl | omega) (rfl : _ = Value.agg #[_, _, _])) ?_
              refine q_val .none rfl (p_field Try.underlying70 rfl sz68 rfl) ?_
              refine q_val .none rfl (p_ld (k := 0) Try.underlying68 rfl rfl rfl (by first | exact of_decide_eq_true rfl | omega) rfl) ?_
              refine q_val .none rfl (p_move rfl) ?_
              refine q_iaddr_g .none rfl Try.underlying68 sz96 rfl ht2 rfl (by first | exact of_decide_eq_true rfl | omega) (fun p_29 o_30 R_28 => ?_)
              refine q_val .none rfl (p_ldga0 Try.underlying96 rfl sz96 rfl R_28 (by first | exact of_decide_eq_true rfl | omega) (rfl : _ = Value.agg #[_, _, _])) ?_
              refine q_val .none rfl (p_nea rfl rfl (eq_flat Try.underlying96 rfl lf96 ef96 eg96 (.cons (.int Try.underlying3) (.cons (.int Try.underlying3) (.cons (.int Try.underlying3) (.nil)))) (.cons (.int Try.underlying3) (.cons (.int Try.underlying3) (.cons (.int Try.underlying3) (.nil)))))) ?_
              refine q_nil ?_
              refine e_next ?_
              refine c_splitn (d := 53) rfl (fun h_31 => ?_) (fun h_31 => ?_)
              · skip
                have hE : c.h.ts.getD j t0 ≠ c2.h.ts.getD j t0 := of_decide_eq_false ((tC_eq _ _).symm.trans h_31)
                first
                  | (exfalso; omega)
                  | (
                    refine c_cond_t rfl ?_
                    refine c_seq ?_
                    refine c_region ?_
                    refine r_val .none rfl (p_assign rfl) ?_
                    refine r_nil ?_
                    refine e_next ?_
                    refine c_ret ?_
                    refine e_ret_block ?_
                    refine e_ret_then ?_
                    refine e_ret_then ?_
                    refine e_ret_block ?_
                    refine e_ret_then ?_
                    refine e_ret1 Try.results32 (.tmp rfl .nil) (fun w hm => ⟨?_, hm.since⟩)
                    first
                    | exact congrArg Value.bool (seq_no (hN.imp (Or.imp_right (fun hx => by omega)) (fun hx => by omega))).symm
                    | exact congrArg Value.bool (seq_ts (ne_of_get hE)).symm
                    | (rw [seq_sub hN.1.1.1 hN.1.1.2 hts, hl, hl2, ← hphi.2.2, seqL_no (by omega) (by omega) hF]; done)
                    | (rw [seq_sub hN.1.1.1 hN.1.1.2 hts, hl, hl2, ← hphi.2.2, List.drop_eq_nil_of_le (by simp; omega), List.drop_eq_nil_of_le (by simp; omega)]; rfl)
                    )
              · skip
                have hE : c.h.ts.getD j t0 = c2.h.ts.getD j t0 := of_decide_eq_true ((tC_eq _ _).symm.trans h_31)
                first
                  | (exfalso; omega)
                  | (
                    refine c_cond_f rfl ?_
                    refine c_skip ?_
                    refine e_norm_block ?_
                    refine e_next ?_
                    refine c_region ?_
                    refine r_val .none rfl (p_add rfl rfl (by omega)) ?_
                    refine r_val .none rfl (p_move rfl) ?_
                    refine r_nil ?_
                    refine e_round (j + 1) ⟨⟨by omega, take_eq_succ (d := t0) (by omega) (by omega) hphi.2 hE⟩, by omega⟩ rfl ⟨rfl, rfl, rfl, rfl, trivial⟩ (.keep (fun _ _ h => h) (.keep (fun _ _ h => h) (.nil)))
                    )
              )
        · skip
          first
            | (exfalso; omega)
            | (
              refine c_cond_f rfl ?_
              refine c_exit ?_
              refine e_exit_then ?_
              refine e_exit_then ?_
              refine e_exit_block ?_
              refine e_next ?_
              refine c_seq ?_
              refine c_seq ?_
              refine c_region ?_
              refine r_val .none rfl (p_field Try.underlying70 rfl sz48 rfl) ?_
              refine r_val .none rfl (p_ld (k := 1) Try.underlying48 rfl rfl rfl (by first | exact of_decide_eq_true rfl | omega) rfl) ?_
              refine r_val .none rfl (p_leng Try.underlying48 rfl hr) ?_
              have bd_32 := (hr).bound
              refine r_val .none rfl (p_move rfl) ?_
              refine r_nil ?_
              refine e_next ?_
              refine c_block ?_
              have hts : c.h.ts = c2.h.ts := by have hk := hj.2; rw [List.take_of_length_le (by omega), List.take_of_length_le (by omega)] at hk; exact hk
              refine c_name (d := 2) rfl (fun u_33 hu_33 => ?_)
              refine c_name (d := 3) rfl (fun u_34 hu_34 => ?_)
              refine c_name (d := 57) rfl (fun u_35 hu_35 => ?_)
              refine c_nameL (k := 0) rfl (fun A_36 hA_36 => ?_)
              refine c_nameL (k := 1) rfl (fun A_37 hA_37 => ?_)
              refine c_loop (σ := Nat) (fun k => [(58, Value.int .i64 (k : Nat)), (2, u_33), (3, u_34), (57, u_35)]) (fun k => [A_36, A_37]) (fun _ => _) (fun k => k ≤ rs.length ∧ rs.length = rs2.length ∧ seqL ((rs.map Prod.fst).drop k) ((rs2.map Prod.fst).drop k) = seqL (rs.map Prod.fst) (rs2.map Prod.fst)) (fun k => rs.length - k) (0) ⟨Nat.zero_le _, by omega, rfl⟩ rfl ⟨rfl, rfl, rfl, rfl, trivial⟩ (.keep (fun _ _ h => h) (.keep (fun _ _ h => h) (.nil))) (fun k hphi => ?_)
              subst hu_33
              subst hu_34
              subst hu_35
              subst hA_36
              subst hA_37
              refine c_seq ?_
              refine c_region ?_
              refine r_val .none rfl (p_lt rfl rfl) ?_
              refine r_nil ?_
              refine e_next ?_
              refine c_seq ?_
              refine c_splitd (d := 59) rfl (fun h_38 => ?_) (fun h_38 => ?_)
              · skip
                first
                  | (exfalso; omega)
                  | (
                    refine c_cond_t rfl ?_
                    refine c_skip ?_
                    refine e_next ?_
                    refine c_seq ?_
                    refine c_block ?_
                    refine c_seq ?_
                    refine c_region ?_
                    refine r_val .none rfl (p_move rfl) ?_
                    refine r_val .none rfl (p_assign rfl) ?_
                    refine r_nil ?_
                    refine e_next ?_
                    refine c_seq ?_
                    refine c_region_q mixed (by kernel_rfl) ?_
                    refine q_val .none rfl (p_field Try.underlying70 rfl sz48 rfl) ?_
                    refine q_val .none rfl (p_ld (k := 1) Try.underlying48 rfl rfl rfl (by first | exact of_decide_eq_true rfl | omega) rfl) ?_
                    refine q_val .none rfl (p_move rfl) ?_
                    refine q_iaddr_g .none rfl Try.underlying48 sz70 rfl hr rfl (by first | exact of_decide_eq_true rfl | omega) (fun p_40 o_41 R_39 => ?_)
                    have ht_42 := hrt _ (getD_mem (i := k) (d := s0) (by omega))
                    have hc_43 := hrs _ (getD_mem (i := k) (d := s0) (by omega))
                    refine q_val .none rfl (p_ldga0 Try.underlying70 rfl sz70 rfl R_39 (by first | exact of_decide_eq_true rfl | omega) (rfl : _ = Value.agg #[_, _, _, _, _, _])) ?_
                    refine q_val .none rfl (p_field Try.underlying70 rfl sz48 rfl) ?_
                    refine q_val .none rfl (p_ld (k := 0) Try.underlying48 rfl rfl rfl (by first | exact of_decide_eq_true rfl | omega) rfl) ?_
                    refine q_val .none rfl (p_move rfl) ?_
                    refine q_iaddr_g .none rfl Try.underlying48 sz70 rfl hr2 rfl (by first | exact of_decide_eq_true rfl | omega) (fun p_45 o_46 R_44 => ?_)
                    have ht_47 := hrt2 _ (getD_mem (i := k) (d := s0) (by omega))
                    have hc_48 := hrs2 _ (getD_mem (i := k) (d := s0) (by omega))
                    refine q_val .none rfl (p_ldga0 Try.underlying70 rfl sz70 rfl R_44 (by first | exact of_decide_eq_true rfl | omega) (rfl : _ = Value.agg #[_, _, _, _, _, _])) ?_
                    refine q_call (vs := [_, _]) .none rfl cl32 rfl (fun w hw => ih (rs.getD k s0).1 _ _ _ _ _ _ w (ssz_at hl (by omega) hz) ht_42 hc_43 ht_47 hc_48 hw) ?_
                    refine q_val .none rfl (p_not rfl) ?_
                    refine q_nil ?_
                    refine e_next ?_
                    refine c_splitn (d := 72) rfl (fun h_49 => ?_) (fun h_49 => ?_)
                    · skip
                      have hF := h_49
                      first
                        | (exfalso; omega)
                        | (
                          refine c_cond_t rfl ?_
                          refine c_seq ?_
                          refine c_region ?_
                          refine r_val .none rfl (p_assign rfl) ?_
                          refine r_nil ?_
                          refine e_next ?_
                          refine c_ret ?_
                          refine e_ret_block ?_
                          refine e_ret_then ?_
                          refine e_ret_then ?_
                          refine e_ret_block ?_
                          refine e_ret_then ?_
                          refine e_ret1 Try.results32 (.tmp rfl .nil) (fun w hm => ⟨?_, hm.since⟩)
                          first
                          | exact congrArg Value.bool (seq_no (hN.imp (Or.imp_right (fun hx => by omega)) (fun hx => by omega))).symm
                          | exact congrArg Value.bool (seq_ts (ne_of_get hE)).symm
                          | (rw [seq_sub hN.1.1.1 hN.1.1.2 hts, hl, hl2, ← hphi.2.2, seqL_no (by omega) (by omega) hF]; done)
                          | (rw [seq_sub hN.1.1.1 hN.1.1.2 hts, hl, hl2, ← hphi.2.2, List.drop_eq_nil_of_le (by simp; omega), List.drop_eq_nil_of_le (by simp; omega)]; rfl)
                          )
                    · skip
                      have hF := h_49
                      first
                        | (exfalso; omega)
                        | (
                          refine c_cond_f rfl ?_
                          refine c_skip ?_
                          refine e_norm_block ?_
                          refine e_next ?_
                          refine c_region ?_
                          refine r_val .none rfl (p_add rfl rfl (by omega)) ?_
                          refine r_val .none rfl (p_move rfl) ?_
                          refine r_nil ?_
                          refine e_round (k + 1) ⟨⟨by omega, hphi.2.1, by rw [seqL_yes (by omega) (by omega) hF]; exact hphi.2.2⟩, by omega⟩ rfl ⟨rfl, rfl, rfl, rfl, trivial⟩ (.keep (fun _ _ h => h) (.keep (fun _ _ h => h) (.nil)))
                          )
                    )
              · skip
                first
                  | (exfalso; omega)
                  | (
                    refine c_cond_f rfl ?_
                    refine c_exit ?_
                    refine e_exit_then ?_
                    refine e_exit_then ?_
                    refine e_exit_block ?_
                    refine e_next ?_
                    refine c_seq ?_
                    refine c_region ?_
                    refine r_val .none rfl (p_assign rfl) ?_
                    refine r_nil ?_
                    refine e_next ?_
                    refine c_ret ?_
                    refine e_ret1 Try.results32 (.tmp rfl .nil) (fun w hm => ⟨?_, hm.since⟩)
                    first
                    | exact congrArg Value.bool (seq_no (hN.imp (Or.imp_right (fun hx => by omega)) (fun hx => by omega))).symm
                    | exact congrArg Value.bool (seq_ts (ne_of_get hE)).symm
                    | (rw [seq_sub hN.1.1.1 hN.1.1.2 hts, hl, hl2, ← hphi.2.2, seqL_no (by omega) (by omega) hF]; done)
                    | (rw [seq_sub hN.1.1.1 hN.1.1.2 hts, hl, hl2, ← hphi.2.2, List.drop_eq_nil_of_le (by simp; omega), List.drop_eq_nil_of_le (by simp; omega)]; rfl)
                    )
              )
        )
theorem c_rsameS_n : ∀ n, RsameSIs n
  | 0 => fun c c2 ta sb ta2 sb2 G w hz _ _ _ _ _ => absurd hz (by have := s_pos c; omega)
  | n + 1 => fun c c2 ta sb ta2 sb2 G w hz ht hs ht2 hs2 hG => c_rsameS_s n (c_rsameS_n n) c c2 ta sb ta2 sb2 hz ht hs ht2 hs2 w hG
theorem c_rsameS (c c2 : ST) (ta sb ta2 sb2 : Value) {G : Ghost} (ht : SlL G ta 3 tC t0 c.h.ts) (hs : Ss G sb c.subs) (ht2 : SlL G ta2 3 tC t0 c2.h.ts) (hs2 : Ss G sb2 c2.subs) (w : World) (hG : Has G w) : Calls Try.prog 32 #[Value.agg #[Value.int .i64 c.h.k, Value.int .i64 c.h.k0, Value.int .i64 c.h.k1, Value.int .i64 c.h.k2, ta, sb], Value.agg #[Value.int .i64 c2.h.k, Value.int .i64 c2.h.k0, Value.int .i64 c2.h.k1, Value.int .i64 c2.h.k2, ta2, sb2]] w (Ret fun r w' => r = Value.bool (seq c c2) ∧ Since nX w w') := c_rsameS_n _ c c2 ta sb ta2 sb2 G w (Nat.le_refl _) ht hs ht2 hs2 hG
theorem c_all8 (v v2 : Value) (l l2 : List ST) {G : Ghost} (hs : Ss G v l) (hs2 : Ss G v2 l2) (w : World) (hG : Has G w) :
    Calls Try.prog 22 #[v, v2] w (Ret fun r w' => r = Value.bool (seqL l l2) ∧ Since nX w w') := by
  refine enter (args := [_, _]) (X := nX) (G := G) (l := [(0, v), (1, v2)]) Try.func22 rfl Try.ntmps22 hG ⟨rfl, rfl, trivial⟩ (Nat.le_of_ble_eq_true rfl) ?_
  obtain ⟨rs, hr, hrt, hrs, hl⟩ := hs.inv
  obtain ⟨rs2, hr2, hrt2, hrs2, hl2⟩ := hs2.inv
  have hbd := hr.bound
  have hbd2 := hr2.bound
  refine c_seq ?_
  refine c_region ?_
  refine r_val .none rfl (p_assign rfl) ?_
  refine r_nil ?_
  refine e_next ?_
  refine c_seq ?_
  refine c_seq ?_
  refine c_region ?_
  refine r_val .none rfl (p_move rfl) ?_
  refine r_val .none rfl (p_leng Try.underlying48 rfl hr) ?_
  have bd_1 := (hr).bound
  refine r_val .none rfl (p_move rfl) ?_
  refine r_val .none rfl (p_leng Try.underlying48 rfl hr2) ?_
  have bd_2 := (hr2).bound
  refine r_val .none rfl (p_ne rfl rfl) ?_
  refine r_nil ?_
  refine e_next ?_
  refine c_splitd (d := 10) rfl (fun h_3 => ?_) (fun h_3 => ?_)
  · skip
    first
      | (exfalso; omega)
      | (
        refine c_cond_t rfl ?_
        refine c_seq ?_
        refine c_region ?_
        refine r_val .none rfl (p_assign rfl) ?_
        refine r_nil ?_
        refine e_next ?_
        refine c_ret ?_
        refine e_ret_then ?_
        refine e_ret1 Try.results22 (.tmp rfl .nil) (fun w hm => ⟨?_, hm.since⟩)
        first
        | (rw [hl, hl2, seqL_len (by simp; omega)])
        | (rw [hl, hl2, ← hphi.2.2, seqL_no (by omega) (by omega) hE])
        | (rw [hl, hl2, ← hphi.2.2, List.drop_eq_nil_of_le (by simp; omega), List.drop_eq_nil_of_le (by simp; omega)]; rfl)
        )
  · skip
    first
      | (exfalso; omega)
      | (
        refine c_cond_f rfl ?_
        refine c_skip ?_
        refine e_next ?_
        refine c_seq ?_
        refine c_seq ?_
        refine c_region ?_
        refine r_val .none rfl (p_move rfl) ?_
        refine r_val .none rfl (p_leng Try.underlying48 rfl hr) ?_
        have bd_4 := (hr).bound
        refine r_val .none rfl (p_move rfl) ?_
        refine r_nil ?_
        refine e_next ?_
        refine c_block ?_
        refine c_name (d := 0) rfl (fun u_5 hu_5 => ?_)
        refine c_name (d := 1) rfl (fun u_6 hu_6 => ?_)
        refine c_name (d := 12) rfl (fun u_7 hu_7 => ?_)
        refine c_loop (σ := Nat) (fun k => [(13, Value.int .i64 (k : Nat)), (0, u_5), (1, u_6), (12, u_7)]) (fun k => []) (fun _ => _) (fun k => k ≤ rs.length ∧ rs.length = rs2.length ∧ seqL ((rs.map Prod.fst).drop k) ((rs2.map Prod.fst).drop k) = seqL (rs.map Prod.fst) (rs2.map Prod.fst)) (fun k => rs.length - k) (0) ⟨Nat.zero_le _, by omega, rfl⟩ rfl ⟨rfl, rfl, rfl, rfl, trivial⟩ (.nil) (fun k hphi => ?_)
        subst hu_5
        subst hu_6
        subst hu_7
        refine c_seq ?_
        refine c_region ?_
        refine r_val .none rfl (p_lt rfl rfl) ?_
        refine r_nil ?_
        refine e_next ?_
        refine c_seq ?_
        refine c_splitd (d := 14) rfl (fun h_8 => ?_) (fun h_8 => ?_)
        · skip
          first
            | (exfalso; omega)
            | (
              refine c_cond_t rfl ?_
              refine c_skip ?_
              refine e_next ?_
              refine c_seq ?_
              refine c_block ?_
              refine c_seq ?_
              refine c_region ?_
              refine r_val .none rfl (p_move rfl) ?_
              refine r_val .none rfl (p_assign rfl) ?_
              refine r_nil ?_
              refine e_next ?_
              refine c_seq ?_
              refine c_region_q mixed (by kernel_rfl) ?_
              refine q_val .none rfl (p_move rfl) ?_
              refine q_val .none rfl (p_move rfl) ?_
              refine q_iaddr_g .none rfl Try.underlying48 sz70 rfl hr rfl (by first | exact of_decide_eq_true rfl | omega) (fun p_10 o_11 R_9 => ?_)
              have ht_12 := hrt _ (getD_mem (i := k) (d := s0) (by omega))
              have hc_13 := hrs _ (getD_mem (i := k) (d := s0) (by omega))
              refine q_val .none rfl (p_ldga0 Try.underlying70 rfl sz70 rfl R_9 (by first | exact of_decide_eq_true rfl | omega) (rfl : _ = Value.agg #[_, _, _, _, _, _])) ?_
              refine q_val .none rfl (p_move rfl) ?_
              refine q_val .none rfl (p_move rfl) ?_
              refine q_iaddr_g .none rfl Try.underlying48 sz70 rfl hr2 rfl (by first | exact of_decide_eq_true rfl | omega) (fun p_15 o_16 R_14 => ?_)
              have ht_17 := hrt2 _ (getD_mem (i := k) (d := s0) (by omega))
              have hc_18 := hrs2 _ (getD_mem (i := k) (d := s0) (by omega))
              refine q_val .none rfl (p_ldga0 Try.underlying70 rfl sz70 rfl R_14 (by first | exact of_decide_eq_true rfl | omega) (rfl : _ = Value.agg #[_, _, _, _, _, _])) ?_
              refine q_call (vs := [_, _]) .none rfl cl32 rfl (fun w hw => c_rsameS (rs.getD k s0).1 _ _ _ _ _ ht_12 hc_13 ht_17 hc_18 w hw) ?_
              refine q_val .none rfl (p_not rfl) ?_
              refine q_nil ?_
              refine e_next ?_
              refine c_splitn (d := 25) rfl (fun h_19 => ?_) (fun h_19 => ?_)
              · skip
                have hE := h_19
                first
                  | (exfalso; omega)
                  | (
                    refine c_cond_t rfl ?_
                    refine c_seq ?_
                    refine c_region ?_
                    refine r_val .none rfl (p_assign rfl) ?_
                    refine r_nil ?_
                    refine e_next ?_
                    refine c_ret ?_
                    refine e_ret_block ?_
                    refine e_ret_then ?_
                    refine e_ret_then ?_
                    refine e_ret_block ?_
                    refine e_ret_then ?_
                    refine e_ret1 Try.results22 (.tmp rfl .nil) (fun w hm => ⟨?_, hm.since⟩)
                    first
                    | (rw [hl, hl2, seqL_len (by simp; omega)])
                    | (rw [hl, hl2, ← hphi.2.2, seqL_no (by omega) (by omega) hE])
                    | (rw [hl, hl2, ← hphi.2.2, List.drop_eq_nil_of_le (by simp; omega), List.drop_eq_nil_of_le (by simp; omega)]; rfl)
                    )
              · skip
                have hE := h_19
                first
                  | (exfalso; omega)
                  | (
                    refine c_cond_f rfl ?_
                    refine c_skip ?_
                    refine e_norm_block ?_
                    refine e_next ?_
                    refine c_region ?_
                    refine r_val .none rfl (p_add rfl rfl (by omega)) ?_
                    refine r_val .none rfl (p_move rfl) ?_
                    refine r_nil ?_
                    refine e_round (k + 1) ⟨⟨by omega, hphi.2.1, by rw [seqL_yes (by omega) (by omega) hE]; exact hphi.2.2⟩, by omega⟩ rfl ⟨rfl, rfl, rfl, rfl, trivial⟩ (.nil)
                    )
              )
        · skip
          first
            | (exfalso; omega)
            | (
              refine c_cond_f rfl ?_
              refine c_exit ?_
              refine e_exit_then ?_
              refine e_exit_then ?_
              refine e_exit_block ?_
              refine e_next ?_
              refine c_seq ?_
              refine c_region ?_
              refine r_val .none rfl (p_assign rfl) ?_
              refine r_nil ?_
              refine e_next ?_
              refine c_ret ?_
              refine e_ret1 Try.results22 (.tmp rfl .nil) (fun w hm => ⟨?_, hm.since⟩)
              first
              | (rw [hl, hl2, seqL_len (by simp; omega)])
              | (rw [hl, hl2, ← hphi.2.2, seqL_no (by omega) (by omega) hE])
              | (rw [hl, hl2, ← hphi.2.2, List.drop_eq_nil_of_le (by simp; omega), List.drop_eq_nil_of_le (by simp; omega)]; rfl)
              )
        )
end Go.Proofs.Ytoflaphnlfggkaa
