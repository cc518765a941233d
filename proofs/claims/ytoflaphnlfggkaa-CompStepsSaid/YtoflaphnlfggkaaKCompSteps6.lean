/- Texts of this work, laid together: a logic of steps, plain laws, and walks of Go functions, each without a condition but those that its theorems name. -/
import Derived.Test.YtoflaphnlfggkaaKCompSteps5
import Derived.Test.YtoflaphnlfggkaaRows
import Derived.SizedLaws
/- Walks: what Go functions of this chapter come to, each as a function on plain data; no condition but those that each theorem names. Printed by a program of this work (gen.py). -/
namespace Go.Proofs.Ytoflaphnlfggkaa
open Go.Gx Go.Gx.T4 Go.Gx.T3 Go.Gx.T6 Go.Gx.T8 Go.Gx.T4 Go.Gx.T3 Go.Gx.T8 Go.Gx.T4 Go.Gx.T3 Go.Gx.T8 Go.Gx.T6 Go.Gx.T4 Go.Gx.T3
theorem lf60 : leafT Try.prog 9 60 = some [3, 3, 3] := by
  kernel_rfl
theorem ef60 : eqT Try.prog 9 60 = true := by
  kernel_rfl
theorem lf96 : leafT Try.prog 9 96 = some [3, 3, 3] := by
  kernel_rfl
theorem ef96 : eqT Try.prog 9 96 = true := by
  kernel_rfl
theorem eg60 : Try.prog.eqGuardType Try.prog.depth 60 = false := by
  kernel_rfl
theorem eg96 : Try.prog.eqGuardType Try.prog.depth 96 = false := by
  kernel_rfl
theorem cl32 : Callable Try.prog 32 := callable Try.func32 (by kernel_rfl) rfl
theorem cl33 : Callable Try.prog 33 := callable Try.func33 (by kernel_rfl) rfl
theorem bl70_0i1_1a3 (x0 : Int) (x1 : Value) (x2 : Value) (x3 : Value) : Program.built Try.prog 70 [(0, Value.int .i64 x0), (1, Value.agg #[x1, x2, x3])] = some #[Value.int .i64 x0, x1, x2, x3, Value.slice none 0 0, Value.slice none 0 0] := by
  kernel_rfl
def RsameSIs (n : Nat) : Prop := ∀ (c c2 : ST) (ta sb ta2 sb2 : Value) (G : Ghost) (w : World), SizeOf.sizeOf c ≤ n → SlL G ta 3 tC t0 c.h.ts → Ss G sb c.subs → SlL G ta2 3 tC t0 c2.h.ts → Ss G sb2 c2.subs → Has G w → Calls Try.prog 32 #[Value.agg #[Value.int .i64 c.h.k, Value.int .i64 c.h.k0, Value.int .i64 c.h.k1, Value.int .i64 c.h.k2, ta, sb], Value.agg #[Value.int .i64 c2.h.k, Value.int .i64 c2.h.k0, Value.int .i64 c2.h.k1, Value.int .i64 c2.h.k2, ta2, sb2]] w (Ret fun r w' => r = Value.bool (seq c c2) ∧ Since nX w w')
def SrefIs (n : Nat) : Prop := ∀ (c : ST) (ta sb : Value) (G : Ghost) (w : World), SizeOf.sizeOf c ≤ n → ssz c ≤ 5000 → SlL G ta 3 tC t0 c.h.ts → Ss G sb c.subs → Has G w → Calls Try.prog 33 #[Value.agg #[Value.int .i64 c.h.k, Value.int .i64 c.h.k0, Value.int .i64 c.h.k1, Value.int .i64 c.h.k2, ta, sb]] w (Ret fun r w' => ∃ G', GNew w nX G G' ∧ Has G' w' ∧ (∃ ua ub, r = Value.agg #[Value.int .i64 (c).h.k, Value.int .i64 (c).h.k0, Value.int .i64 (c).h.k1, Value.int .i64 (c).h.k2, ua, ub] ∧ SlL G' ua 3 tC t0 (c).h.ts ∧ Ss G' ub (c).subs) ∧ Since nX w w')
theorem c_sref_s (n : Nat) (ih : SrefIs n) (c : ST) (ta sb : Value) {G : Ghost} (hz : SizeOf.sizeOf c ≤ n + 1) (hsz : ssz c ≤ 5000) (ht : SlL G ta 3 tC t0 c.h.ts) (hs : Ss G sb c.subs) (w : World) (hG : Has G w) :
    Calls Try.prog 33 #[Value.agg #[Value.int .i64 c.h.k, Value.int .i64 c.h.k0, Value.int .i64 c.h.k1, Value.int .i64 c.h.k2, ta, sb]] w (Ret fun r w' => ∃ G', GNew w nX G G' ∧ Has G' w' ∧ (∃ ua ub, r = Value.agg #[Value.int .i64 (c).h.k, Value.int .i64 (c).h.k0, Value.int .i64 (c).h.k1, Value.int .i64 (c).h.k2, ua, ub] ∧ SlL G' ua 3 tC t0 (c).h.ts ∧ Ss G' ub (c).subs) ∧ Since nX w w') := by
  refine enter (args := [_]) (X := nX) (G := G) (l := [(0, Value.agg #[Value.int .i64 c.h.k, Value.int .i64 c.h.k0, Value.int .i64 c.h.k1, Value.int .i64 c.h.k2, ta, sb])]) Try.func33 rfl Try.ntmps33 hG ⟨rfl, trivial⟩ (Nat.le_of_ble_eq_true rfl) ?_
  obtain ⟨rs, hr, hrt, hrs, hl⟩ := hs.inv
  have hbd := hr.bound
  have hbd2 := ht.bound
  have hsq := ssz_eq c
  have hll := sszL_len c.subs
  have hlr : c.subs.length = rs.length := by rw [hl]; simp
  refine c_seq ?_
  refine c_region ?_
  refine r_box .none rfl rfl (IsRow.lit _) (fun b_1 => ?_)
  refine r_alloc .none rfl zr70 (IsRow.lit _) (fun b_2 => ?_)
  refine r_nil ?_
  refine e_next ?_
  refine c_seq ?_
  refine c_region ?_
  refine r_val .none rfl (p_field Try.underlying64 rfl sz3 rfl) ?_
  refine r_val .none rfl (p_ld (k := 1) Try.underlying3 rfl rfl rfl (by first | exact of_decide_eq_true rfl | omega) (rfl : _ = Value.int _ _)) ?_
  refine r_val .none rfl (p_field Try.underlying64 rfl sz61 rfl) ?_
  refine r_val .none rfl (p_lda (k := 1) Try.underlying61 rfl sz61 rfl rfl (by first | exact of_decide_eq_true rfl | omega) (rfl : _ = Value.agg #[_, _, _])) ?_
  refine r_val .none rfl (p_build (vs := [(0, Value.int _ _), (1, Value.agg #[_, _, _])]) rfl (bl70_0i1_1a3 _ _ _ _)) ?_
  refine r_alloc .none rfl zr70 (IsRow.lit _) (fun b_3 => ?_)
  refine r_stw (k := 0) .none sz70 rfl rfl (IsRow.lit _) (one_lit rfl rfl) rfl ?_
  refine r_nil ?_
  refine e_next ?_
  refine c_seq ?_
  refine c_seq ?_
  refine c_region ?_
  refine r_val .none rfl (p_field Try.underlying64 rfl sz62 rfl) ?_
  refine r_val .none rfl (p_ld (k := 2) Try.underlying62 rfl rfl rfl (by first | exact of_decide_eq_true rfl | omega) rfl) ?_
  refine r_val .none rfl (p_leng Try.underlying62 rfl ht) ?_
  have bd_1 := (ht).bound
  refine r_val .none rfl (p_move rfl) ?_
  refine r_nil ?_
  refine e_next ?_
  refine c_block ?_
  refine c_nilrow 96 3 ?_
  refine c_name (d := 1) rfl (fun u_2 hu_2 => ?_)
  refine c_name (d := 2) rfl (fun u_3 hu_3 => ?_)
  refine c_name (d := 3) rfl (fun u_4 hu_4 => ?_)
  refine c_name (d := 14) rfl (fun u_5 hu_5 => ?_)
  refine c_name (d := 15) rfl (fun u_6 hu_6 => ?_)
  refine c_nameL (k := 2) rfl (fun A_7 hA_7 => ?_)
  refine c_nameL (k := 3) rfl (fun A_8 hA_8 => ?_)
  refine c_loop (σ := Nat × Value) (fun s => [(16, Value.int .i64 (s.1 : Nat)), (1, u_2), (2, u_3), (3, u_4), (14, u_5), (15, u_6)]) (fun s => [rowA (s.2) 96 3 ((c.h.ts.take s.1)).length (((c.h.ts.take s.1)).flatMap tC), box b_3 6 70 (at_ [.int .i64 c.h.k, .int .i64 c.h.k0, .int .i64 c.h.k1, .int .i64 c.h.k2, s.2, .slice none 0 0]), A_7, A_8]) (fun _ => _) (fun s => s.1 ≤ c.h.ts.length) (fun s => c.h.ts.length - s.1) ((0, _)) (Nat.zero_le _) rfl ⟨rfl, rfl, rfl, rfl, rfl, rfl, trivial⟩ (.keep (fun _ _ h => rowA_nil rfl _ _ h) (.keep (fun _ _ h => box_congr (fun i hi => by match i, hi with | 0, _ => rfl | 1, _ => rfl | 2, _ => rfl | 3, _ => rfl | 4, _ => rfl | 5, _ => rfl) _ _ h) (.keep (fun _ _ h => h) (.keep (fun _ _ h => h) (.nil))))) (fun s hphi => ?_)
  subst hu_2
  subst hu_3
  subst hu_4
  subst hu_5
  subst hu_6
  subst hA_7
  subst hA_8
  obtain ⟨j, tv⟩ := s
  dsimp only at hphi ⊢
  refine c_row1 (k := 0) rfl (fun ov => ?_)
  refine c_rowlen (k := 0) rfl (fun l63 => ?_)
  refine c_seq ?_
  refine c_region ?_
  refine r_val .none rfl (p_lt rfl rfl) ?_
  refine r_nil ?_
  refine e_next ?_
  refine c_seq ?_
  refine c_splitd (d := 17) rfl (fun h_9 => ?_) (fun h_9 => ?_)
  · skip
    first
      | (exfalso; omega)
      | (
        refine c_cond_t rfl ?_
        refine c_skip ?_
        refine e_next ?_
        refine c_seq ?_
        refine c_block ?_
        refine c_seq ?_
        refine c_region ?_
        refine r_iaddr_g .none rfl Try.underlying62 sz92 rfl ht rfl (by first | exact of_decide_eq_true rfl | omega) (fun p_11 o_12 R_10 => ?_)
        refine r_val .none rfl (p_ldga0 Try.underlying92 rfl sz92 rfl R_10 (by first | exact of_decide_eq_true rfl | omega) (rfl : _ = Value.agg #[_, _, _])) ?_
        refine r_alloc .none rfl zr92 (IsRow.lit _) (fun b_4 => ?_)
        refine r_stw (k := 0) .none sz92 rfl rfl (IsRow.lit _) (one_lit rfl rfl) rfl ?_
        refine r_nil ?_
        refine e_next ?_
        refine c_region ?_
        refine r_val .none rfl (p_field Try.underlying70 rfl sz68 rfl) ?_
        refine r_val .none rfl (p_ld (k := 2) Try.underlying68 rfl rfl rfl (by first | exact of_decide_eq_true rfl | omega) rfl) ?_
        refine r_val .none rfl (p_field Try.underlying92 rfl sz3 rfl) ?_
        refine r_val .none rfl (p_ld (k := 0) Try.underlying3 rfl rfl rfl (by first | exact of_decide_eq_true rfl | omega) (rfl : _ = Value.int _ _)) ?_
        refine r_val .none rfl (p_field Try.underlying92 rfl sz3 rfl) ?_
        refine r_val .none rfl (p_ld (k := 0) Try.underlying3 rfl rfl rfl (by first | exact of_decide_eq_true rfl | omega) (rfl : _ = Value.int _ _)) ?_
        refine r_val .none rfl (p_field Try.underlying92 rfl sz3 rfl) ?_
        refine r_val .none rfl (p_ld (k := 0) Try.underlying3 rfl rfl rfl (by first | exact of_decide_eq_true rfl | omega) (rfl : _ = Value.int _ _)) ?_
        refine r_val .none rfl (p_build (vs := [(0, Value.int _ _), (1, Value.int _ _), (2, Value.int _ _)]) rfl (bl96_0i1_1i1_2i1 _ _ _)) ?_
        refine r_bslice (vs := [(0, Value.agg #[_, _, _])]) (c := #[_, _, _]) .none rfl Try.underlying68 el96 rfl rfl rfl (bs96_10a3 _ _ _) (IsRow.lit _) (fun b_5 => ?_)
        refine r_append (k := 2) (k2 := 0) .none rfl Try.underlying68 el96 rfl (by decide) rfl rfl rfl rfl rfl (one_lit rfl rfl) (by rw [List.length_take]; simp only [maxLen]; omega) (by rw [List.length_take]; omega) (fun v_13 => ?_)
        refine r_row1 (k := 2) rfl (fun o_14 => ?_)
        refine r_val .none rfl (p_field Try.underlying70 rfl sz68 rfl) ?_
        refine r_st (k := 3) .none sz68 rfl rfl o_14 rfl (by first | exact of_decide_eq_true rfl | omega) ?_
        refine r_nil ?_
        refine e_norm_block ?_
        refine e_next ?_
        refine c_region ?_
        refine r_val .none rfl (p_add rfl rfl (by omega)) ?_
        refine r_val .none rfl (p_move rfl) ?_
        refine r_nil ?_
        refine e_round ((j + 1, _)) ⟨by dsimp only; omega, by dsimp only; omega⟩ rfl ⟨rfl, rfl, rfl, rfl, rfl, rfl, trivial⟩ (.drop (.drop (.keep (fun _ _ h => rowA_snoc (ts_next (by omega)) rfl rfl rfl _ _ h) (.keep (fun _ _ h => box_congr (fun i hi => by match i, hi with | 0, _ => rfl | 1, _ => rfl | 2, _ => rfl | 3, _ => rfl | 4, _ => rfl | 5, _ => rfl) _ _ h) (.keep (fun _ _ h => h) (.keep (fun _ _ h => h) (.nil)))))))
        )
  · skip
    first
      | (exfalso; omega)
      | (
        refine c_cond_f rfl ?_
        refine c_exit ?_
        refine e_exit_then ?_
        refine e_exit_then ?_
        refine e_exit_block ?_
        refine e_next ?_
        refine c_seq ?_
        refine c_seq ?_
        refine c_region ?_
        have hj2 : c.h.ts.take j = c.h.ts := List.take_of_length_le (by omega)
        refine r_freeze (k := 0) rfl (fun G_15 hn_16 hs_17 => ?_)
        replace ht := ht.mono hn_16.le
        replace hr := hr.mono hn_16.le
        replace hrt := fun p hm0 => (hrt p hm0).mono hn_16.le
        replace hrs := fun p hm0 => (hrs p hm0).mono hn_16.le
        have hts : SlL G_15 tv 3 tC t0 c.h.ts := SlL.of2 t0 (fun _ => rfl) (by rw [hj2]) (by rw [hj2]) hs_17
        refine r_val .none rfl (p_field Try.underlying64 rfl sz50 rfl) ?_
        refine r_val .none rfl (p_ld (k := 2) Try.underlying50 rfl rfl rfl (by first | exact of_decide_eq_true rfl | omega) rfl) ?_
        refine r_val .none rfl (p_leng Try.underlying50 rfl hr) ?_
        have bd_18 := (hr).bound
        refine r_val .none rfl (p_move rfl) ?_
        refine r_nil ?_
        refine e_next ?_
        refine c_block ?_
        refine c_nilrow 70 6 ?_
        refine c_name (d := 2) rfl (fun u_19 hu_19 => ?_)
        refine c_name (d := 3) rfl (fun u_20 hu_20 => ?_)
        refine c_name (d := 34) rfl (fun u_21 hu_21 => ?_)
        refine c_name (d := 35) rfl (fun u_22 hu_22 => ?_)
        refine c_nameL (k := 2) rfl (fun A_23 hA_23 => ?_)
        refine c_nameL (k := 3) rfl (fun A_24 hA_24 => ?_)
        refine c_loop (σ := Nat × Value × List SVal × Ghost) (fun s => [(36, Value.int .i64 (s.1 : Nat)), (2, u_19), (3, u_20), (34, u_21), (35, u_22)]) (fun s => [rowA (s.2.1) 70 6 (s.2.2.1).length ((s.2.2.1).flatMap sC), box b_3 6 70 (at_ [.int .i64 c.h.k, .int .i64 c.h.k0, .int .i64 c.h.k1, .int .i64 c.h.k2, tv, s.2.1]), A_23, A_24]) (fun s => s.2.2.2) (fun s => s.1 ≤ rs.length ∧ s.2.2.1.map Prod.fst = (rs.map Prod.fst).take s.1 ∧ (∀ p ∈ s.2.2.1, SlL s.2.2.2 p.2.1 3 tC t0 p.1.h.ts) ∧ (∀ p ∈ s.2.2.1, Ss s.2.2.2 p.2.2 p.1.subs) ∧ GNew w nX G_15 s.2.2.2) (fun s => rs.length - s.1) ((0, _, [], _)) ⟨Nat.zero_le _, rfl, by simp, by simp, GNew.refl _ _ _⟩ rfl ⟨rfl, rfl, rfl, rfl, rfl, trivial⟩ (.keep (fun _ _ h => rowA_nil rfl _ _ h) (.keep (fun _ _ h => box_congr (fun i hi => by match i, hi with | 0, _ => rfl | 1, _ => rfl | 2, _ => rfl | 3, _ => rfl | 4, _ => rfl | 5, _ => rfl) _ _ h) (.keep (fun _ _ h => h) (.keep (fun _ _ h => h) (.nil))))) (fun s hphi => ?_)
        subst hu_19
        subst hu_20
        subst hu_21
        subst hu_22
        subst hA_23
        subst hA_24
        obtain ⟨k, v, qs, H⟩ := s
        obtain ⟨hk, hq, hqt, hqs, hgn⟩ := hphi
        dsimp only at hk hq hqt hqs hgn ⊢
        have hql : qs.length ≤ k := (by have := congrArg List.length hq; simp at this; omega)
        refine c_row1 (k := 0) rfl (fun ov => ?_)
        refine c_rowlen (k := 0) rfl (fun l63 => ?_)
        replace ht := ht.mono hgn.le
        replace hr := hr.mono hgn.le
        replace hrt := fun p hm0 => (hrt p hm0).mono hgn.le
        replace hrs := fun p hm0 => (hrs p hm0).mono hgn.le
        replace hts := hts.mono hgn.le
        refine c_seq ?_
        refine c_region ?_
        refine r_val .none rfl (p_lt rfl rfl) ?_
        refine r_nil ?_
        refine e_next ?_
        refine c_seq ?_
        refine c_splitd (d := 37) rfl (fun h_25 => ?_) (fun h_25 => ?_)
        · skip
          first
            | (exfalso; omega)
            | (
              refine c_cond_t rfl ?_
              refine c_skip ?_
              refine e_next ?_
              refine c_seq ?_
              refine c_block ?_
              refine c_seq ?_
              refine c_region ?_
              refine r_iaddr_g .none rfl Try.underlying50 sz64 rfl hr rfl (by first | exact of_decide_eq_true rfl | omega) (fun p_27 o_28 R_26 => ?_)
              have ht_29 := hrt _ (getD_mem (i := k) (d := s0) (by omega))
              have hc_30 := hrs _ (getD_mem (i := k) (d := s0) (by omega))
              have hz8 : ssz (rs.getD k s0).1 ≤ 5000 := Nat.le_trans (sszL_mem (l := c.subs) (by rw [hl]; exact sv_mem (k := k) (by omega))) (by omega)
              refine r_val .none rfl (p_ldga0 Try.underlying64 rfl sz64 rfl R_26 (by first | exact of_decide_eq_true rfl | omega) (rfl : _ = Value.agg #[_, _, _, _, _, _])) ?_
              refine r_alloc .none rfl zr64 (IsRow.lit _) (fun b_6 => ?_)
              refine r_stw (k := 0) .none sz64 rfl rfl (IsRow.lit _) (one_lit rfl (all_cons rfl (all_cons rfl (all_cons rfl (all_cons rfl (all_cons (ht_29).one (all_cons (hc_30).one rfl))))))) rfl ?_
              refine r_nil ?_
              refine e_next ?_
              refine c_region_d (fun j => [5, 6, 7].contains j) _ mixed (.keep (fun _ _ h => h) (.keep (fun _ _ h => h) (.keep (fun _ _ h => h) (.keep (fun _ _ h => h) (.keep (fun _ _ h => h) (.nil)))))) ?_
              refine d_val1 0 rfl rfl (by kernel_rfl) (fun j hj => by have h : 7 < j := (Nat.lt_of_lt_of_le (by decide : 7 < 8) hj); simp; omega) .none rfl (p_field Try.underlying70 rfl sz48 rfl) ?_
              refine d_val1 1 rfl rfl (by kernel_rfl) (fun j hj => by have h : 7 < j := (Nat.lt_of_lt_of_le (by decide : 7 < 8) hj); simp; omega) .none rfl (p_ld (k := 2) Try.underlying48 rfl rfl rfl (by first | exact of_decide_eq_true rfl | omega) rfl) ?_
              refine d_val1 2 rfl rfl (by kernel_rfl) (fun j hj => by have h : 7 < j := (Nat.lt_of_lt_of_le (by decide : 7 < 8) hj); simp; omega) .none rfl (p_ldw (k := 0) Try.underlying64 rfl sz64 rfl rfl (rfl : _ = Value.agg #[_, _, _, _, _, _])) ?_
              refine d_eff 3 rfl (by kernel_rfl) (fun K_31 hKK_31 hcK_31 => ?_)
              refine r_callm (vs := [_]) .none rfl cl33 rfl (fun w hw => ih (rs.getD k s0).1 _ _ _ w (ssz_at hl (by omega) hz) hz8 ht_29 hc_30 hw) (fun G_32 v_35 hn_33 hr_34 => ?_)
              replace ht := ht.mono hn_33.le
              replace hr := hr.mono hn_33.le
              replace hrt := fun p hm0 => (hrt p hm0).mono hn_33.le
              replace hrs := fun p hm0 => (hrs p hm0).mono hn_33.le
              replace hts := hts.mono hn_33.le
              replace hqt := fun p hm0 => (hqt p hm0).mono hn_33.le
              replace hqs := fun p hm0 => (hqs p hm0).mono hn_33.le
              replace R_26 := R_26.mono hn_33.le
              replace ht_29 := ht_29.mono hn_33.le
              replace hc_30 := hc_30.mono hn_33.le
              obtain ⟨u_36a, u_36b, rfl, u_36s, u_36t⟩ := hr_34
              refine r_nil (e_d (i := 3) (brk := (fun j => [5, 6, 7].contains j)) (ph' := true) hKK_31 hcK_31 rfl (fun _ => hn_33.le) (fun _ => .keep (fun _ _ h => h) (.keep (fun _ _ h => h) (.keep (fun _ _ h => h) (.keep (fun _ _ h => h) (.keep (fun _ _ h => h) (.nil)))))) ?_)
              clear hKK_31 hcK_31 K_31
              refine d_eff 4 rfl (by kernel_rfl) (fun K_37 hKK_37 hcK_37 => ?_)
              refine r_bslice (vs := [(0, Value.agg #[_, _, _, _, _, _])]) (c := #[_, _, _, _, _, _]) .none rfl Try.underlying48 el70 rfl rfl rfl (bs70_10a6 _ _ _ _ _ _) (IsRow.lit _) (fun b_7 => ?_)
              refine r_nil (e_d (i := 4) (brk := (fun j => [5, 6, 7].contains j)) (ph' := true) hKK_37 hcK_37 rfl (fun _ => hn_33.le) (fun _ => .drop (.keep (fun _ _ h => h) (.keep (fun _ _ h => h) (.keep (fun _ _ h => h) (.keep (fun _ _ h => h) (.keep (fun _ _ h => h) (.nil))))))) ?_)
              clear hKK_37 hcK_37 K_37
              refine d_eff 5 rfl (by kernel_rfl) (fun K_38 hKK_38 hcK_38 => ?_)
              refine r_append (k := 2) (k2 := 0) .none rfl Try.underlying48 el70 rfl (by decide) rfl rfl rfl rfl rfl (one_lit rfl (all_cons rfl (all_cons rfl (all_cons rfl (all_cons rfl (all_cons (u_36s).one (all_cons (u_36t).one rfl))))))) (by simp only [maxLen]; omega) (by omega) (fun v_39 => ?_)
              refine r_row1 (k := 2) rfl (fun o_40 => ?_)
              refine r_nil (e_d (i := 5) (brk := (fun j => [5, 6, 7].contains j)) (ph' := false) hKK_38 hcK_38 rfl (fun h => by cases h) (fun h => by cases h) ?_)
              clear hKK_38 hcK_38 K_38
              refine d_val2 6 rfl rfl (by kernel_rfl) .none rfl (fun _ => p_field Try.underlying70 rfl sz48 rfl) ?_
              refine d_eff 7 rfl (by kernel_rfl) (fun K_41 hKK_41 hcK_41 => ?_)
              refine r_st (k := 3) .none sz48 rfl rfl o_40 rfl (by first | exact of_decide_eq_true rfl | omega) ?_
              refine r_nil (e_d (i := 7) (brk := (fun j => [5, 6, 7].contains j)) (ph' := false) hKK_41 hcK_41 rfl (fun h => by cases h) (fun h => by cases h) ?_)
              clear hKK_41 hcK_41 K_41
              refine d_nil (by kernel_rfl) ?_
              refine e_norm_block ?_
              refine e_next ?_
              refine c_region ?_
              refine r_val .none rfl (p_add rfl rfl (by omega)) ?_
              refine r_val .none rfl (p_move rfl) ?_
              refine r_nil ?_
              refine e_round ((k + 1, _, qs ++ [((rs.getD k s0).1, u_36a, u_36b)], _)) ⟨⟨by dsimp only; omega, by rw [sv_take (by omega), List.map_append, hq]; rfl, (fun p hp' => by rcases List.mem_append.1 hp' with h | h; exact hqt p h; rw [List.mem_singleton.1 h]; exact u_36s), (fun p hp' => by rcases List.mem_append.1 hp' with h | h; exact hqs p h; rw [List.mem_singleton.1 h]; exact u_36t), (hgn.trans hn_33)⟩, by dsimp only; omega⟩ rfl ⟨rfl, rfl, rfl, rfl, rfl, trivial⟩ (.drop (.drop (.keep (fun _ _ h => rowA_snoc (l := qs) (x := ((rs.getD k s0).1, u_36a, u_36b)) rfl rfl rfl rfl _ _ h) (.keep (fun _ _ h => box_congr (fun i hi => by match i, hi with | 0, _ => rfl | 1, _ => rfl | 2, _ => rfl | 3, _ => rfl | 4, _ => rfl | 5, _ => rfl) _ _ h) (.keep (fun _ _ h => h) (.keep (fun _ _ h => h) (.nil)))))))
              )
        · skip
          first
            | (exfalso; omega)
            | (
              refine c_cond_f rfl ?_
              refine c_exit ?_
              refine e_exit_then ?_
              refine e_exit_then ?_
              refine e_exit_block ?_
              refine e_next ?_
              refine c_seq ?_
              refine c_region ?_
              refine r_val .none rfl (p_ldw (k := 1) Try.underlying70 rfl sz70 rfl rfl (rfl : _ = Value.agg #[_, _, _, _, _, _])) ?_
              refine r_stw (k := 2) .none sz70 rfl rfl (IsRow.lit _) (one_lit rfl (all_cons rfl (all_cons rfl (all_cons rfl (all_cons rfl (all_cons (hts).one (all_cons ov rfl))))))) rfl ?_
              refine r_nil ?_
              refine e_next ?_
              refine c_ret ?_
              refine e_freeze (k := 0) rfl (fun G_42 hn_43 hs_44 => ?_)
              replace ht := ht.mono hn_43.le
              replace hr := hr.mono hn_43.le
              replace hrt := fun p hm0 => (hrt p hm0).mono hn_43.le
              replace hrs := fun p hm0 => (hrs p hm0).mono hn_43.le
              replace hts := hts.mono hn_43.le
              replace hqt := fun p hm0 => (hqt p hm0).mono hn_43.le
              replace hqs := fun p hm0 => (hqs p hm0).mono hn_43.le
              refine e_ret1 Try.results33 (.cell (k := 1) rfl Try.underlying70 rfl sz70 rfl (rfl : _ = Value.agg #[_, _, _, _, _, _]) .nil) (fun w hm => ⟨_, ((hn_16.trans hgn).trans hn_43), hm.has, ?_, hm.since⟩)
              exact ⟨_, _, rfl, hts, by rw [show c.subs = qs.map Prod.fst by rw [hq, hl, List.take_of_length_le (by simp; omega)]]; exact Ss.mk qs (SlL.of s0 (fun _ => rfl) rfl hs_44) hqt hqs⟩
              )
        )
theorem c_sref_n : ∀ n, SrefIs n
  | 0 => fun c ta sb G w hz _ _ _ _ => absurd hz (by have := s_pos c; omega)
  | n + 1 => fun c ta sb G w hz hsz ht hs hG => c_sref_s n (c_sref_n n) c ta sb hz hsz ht hs w hG
theorem c_sref (c : ST) (ta sb : Value) {G : Ghost} (hsz : ssz c ≤ 5000) (ht : SlL G ta 3 tC t0 c.h.ts) (hs : Ss G sb c.subs) (w : World) (hG : Has G w) : Calls Try.prog 33 #[Value.agg #[Value.int .i64 c.h.k, Value.int .i64 c.h.k0, Value.int .i64 c.h.k1, Value.int .i64 c.h.k2, ta, sb]] w (Ret fun r w' => ∃ G', GNew w nX G G' ∧ Has G' w' ∧ (∃ ua ub, r = Value.agg #[Value.int .i64 (c).h.k, Value.int .i64 (c).h.k0, Value.int .i64 (c).h.k1, Value.int .i64 (c).h.k2, ua, ub] ∧ SlL G' ua 3 tC t0 (c).h.ts ∧ Ss G' ub (c).subs) ∧ Since nX w w') := c_sref_n _ c ta sb G w (Nat.le_refl _) hsz ht hs hG
theorem c_srefs (v : Value) (l : List ST) {G : Ghost} (hsz : sszL l ≤ 5000) (hs : Ss G v l) (w : World) (hG : Has G w) :
    Calls Try.prog 23 #[v] w (Ret fun r w' => ∃ G', GNew w nX G G' ∧ Has G' w' ∧ Ss G' r l ∧ Since nX w w') := by
  refine enter (args := [_]) (X := nX) (G := G) (l := [(0, v)]) Try.func23 rfl Try.ntmps23 hG ⟨rfl, trivial⟩ (Nat.le_of_ble_eq_true rfl) ?_
  obtain ⟨rs, hr, hrt, hrs, hl⟩ := hs.inv
  have hbd := hr.bound
  have hll := sszL_len l
  have hlr : l.length = rs.length := by rw [hl]; simp
  refine c_seq ?_
  refine c_region ?_
  refine r_val .none rfl (p_assign rfl) ?_
  refine r_nil ?_
  refine e_next ?_
  refine c_seq ?_
  refine c_region ?_
  refine r_val .none rfl (p_assign rfl) ?_
  refine r_nil ?_
  refine e_next ?_
  refine c_seq ?_
  refine c_seq ?_
  refine c_region ?_
  refine r_val .none rfl (p_move rfl) ?_
  refine r_val .none rfl (p_leng Try.underlying50 rfl hr) ?_
  have bd_1 := (hr).bound
  refine r_val .none rfl (p_move rfl) ?_
  refine r_nil ?_
  refine e_next ?_
  refine c_block ?_
  refine c_nilrow 70 6 ?_
  refine c_name (d := 2) rfl (fun u_2 hu_2 => ?_)
  refine c_name (d := 6) rfl (fun u_3 hu_3 => ?_)
  refine c_name (d := 7) rfl (fun u_4 hu_4 => ?_)
  refine c_loop (σ := Nat × Value × List SVal × Ghost) (fun s => [(8, Value.int .i64 (s.1 : Nat)), (3, s.2.1), (2, u_2), (6, u_3), (7, u_4)]) (fun s => [rowA (s.2.1) 70 6 (s.2.2.1).length ((s.2.2.1).flatMap sC)]) (fun s => s.2.2.2) (fun s => s.1 ≤ rs.length ∧ s.2.2.1.map Prod.fst = (rs.map Prod.fst).take s.1 ∧ (∀ p ∈ s.2.2.1, SlL s.2.2.2 p.2.1 3 tC t0 p.1.h.ts) ∧ (∀ p ∈ s.2.2.1, Ss s.2.2.2 p.2.2 p.1.subs) ∧ GNew w nX G s.2.2.2) (fun s => rs.length - s.1) ((0, _, [], _)) ⟨Nat.zero_le _, rfl, by simp, by simp, GNew.refl _ _ _⟩ rfl ⟨rfl, rfl, rfl, rfl, rfl, trivial⟩ (.keep (fun _ _ h => rowA_nil rfl _ _ h) (.nil)) (fun s hphi => ?_)
  subst hu_2
  subst hu_3
  subst hu_4
  obtain ⟨k, v, qs, H⟩ := s
  obtain ⟨hk, hq, hqt, hqs, hgn⟩ := hphi
  dsimp only at hk hq hqt hqs hgn ⊢
  have hql : qs.length ≤ k := (by have := congrArg List.length hq; simp at this; omega)
  replace hr := hr.mono hgn.le
  replace hrt := fun p hm0 => (hrt p hm0).mono hgn.le
  replace hrs := fun p hm0 => (hrs p hm0).mono hgn.le
  refine c_seq ?_
  refine c_region ?_
  refine r_val .none rfl (p_lt rfl rfl) ?_
  refine r_nil ?_
  refine e_next ?_
  refine c_seq ?_
  refine c_splitd (d := 9) rfl (fun h_5 => ?_) (fun h_5 => ?_)
  · skip
    first
      | (exfalso; omega)
      | (
        refine c_cond_t rfl ?_
        refine c_skip ?_
        refine e_next ?_
        refine c_seq ?_
        refine c_block ?_
        refine c_seq ?_
        refine c_region ?_
        refine r_iaddr_g .none rfl Try.underlying50 sz64 rfl hr rfl (by first | exact of_decide_eq_true rfl | omega) (fun p_7 o_8 R_6 => ?_)
        have ht_9 := hrt _ (getD_mem (i := k) (d := s0) (by omega))
        have hc_10 := hrs _ (getD_mem (i := k) (d := s0) (by omega))
        have hz8 : ssz (rs.getD k s0).1 ≤ 5000 := Nat.le_trans (sszL_mem (by rw [hl]; exact sv_mem (k := k) (by omega))) hsz
        refine r_val .none rfl (p_ldga0 Try.underlying64 rfl sz64 rfl R_6 (by first | exact of_decide_eq_true rfl | omega) (rfl : _ = Value.agg #[_, _, _, _, _, _])) ?_
        refine r_alloc .none rfl zr64 (IsRow.lit _) (fun b_1 => ?_)
        refine r_stw (k := 0) .none sz64 rfl rfl (IsRow.lit _) (one_lit rfl (all_cons rfl (all_cons rfl (all_cons rfl (all_cons rfl (all_cons (ht_9).one (all_cons (hc_10).one rfl))))))) rfl ?_
        refine r_nil ?_
        refine e_next ?_
        refine c_region ?_
        refine r_val .none rfl (p_move rfl) ?_
        refine r_val .none rfl (p_ldw (k := 0) Try.underlying64 rfl sz64 rfl rfl (rfl : _ = Value.agg #[_, _, _, _, _, _])) ?_
        refine r_callm (vs := [_]) .none rfl cl33 rfl (fun w hw => c_sref (rs.getD k s0).1 _ _ hz8 ht_9 hc_10 w hw) (fun G_11 v_14 hn_12 hr_13 => ?_)
        replace hr := hr.mono hn_12.le
        replace hrt := fun p hm0 => (hrt p hm0).mono hn_12.le
        replace hrs := fun p hm0 => (hrs p hm0).mono hn_12.le
        replace hqt := fun p hm0 => (hqt p hm0).mono hn_12.le
        replace hqs := fun p hm0 => (hqs p hm0).mono hn_12.le
        replace R_6 := R_6.mono hn_12.le
        replace ht_9 := ht_9.mono hn_12.le
        replace hc_10 := hc_10.mono hn_12.le
        obtain ⟨u_15a, u_15b, rfl, u_15s, u_15t⟩ := hr_13
        refine r_bslice (vs := [(0, Value.agg #[_, _, _, _, _, _])]) (c := #[_, _, _, _, _, _]) .none rfl Try.underlying48 el70 rfl rfl rfl (bs70_10a6 _ _ _ _ _ _) (IsRow.lit _) (fun b_2 => ?_)
        refine r_append (k := 2) (k2 := 0) .none rfl Try.underlying48 el70 rfl (by decide) rfl rfl rfl rfl rfl (one_lit rfl (all_cons rfl (all_cons rfl (all_cons rfl (all_cons rfl (all_cons (u_15s).one (all_cons (u_15t).one rfl))))))) (by simp only [maxLen]; omega) (by omega) (fun v_16 => ?_)
        refine r_row1 (k := 2) rfl (fun o_17 => ?_)
        refine r_val .none rfl (p_assign rfl) ?_
        refine r_nil ?_
        refine e_norm_block ?_
        refine e_next ?_
        refine c_region ?_
        refine r_val .none rfl (p_add rfl rfl (by omega)) ?_
        refine r_val .none rfl (p_move rfl) ?_
        refine r_nil ?_
        refine e_round ((k + 1, _, qs ++ [((rs.getD k s0).1, u_15a, u_15b)], _)) ⟨⟨by dsimp only; omega, by rw [sv_take (by omega), List.map_append, hq]; rfl, (fun p hp' => by rcases List.mem_append.1 hp' with h | h; exact hqt p h; rw [List.mem_singleton.1 h]; exact u_15s), (fun p hp' => by rcases List.mem_append.1 hp' with h | h; exact hqs p h; rw [List.mem_singleton.1 h]; exact u_15t), (hgn.trans hn_12)⟩, by dsimp only; omega⟩ rfl ⟨rfl, rfl, rfl, rfl, rfl, trivial⟩ (.drop (.drop (.keep (fun _ _ h => rowA_snoc (l := qs) (x := ((rs.getD k s0).1, u_15a, u_15b)) rfl rfl rfl rfl _ _ h) (.nil))))
        )
  · skip
    first
      | (exfalso; omega)
      | (
        refine c_cond_f rfl ?_
        refine c_exit ?_
        refine e_exit_then ?_
        refine e_exit_then ?_
        refine e_exit_block ?_
        refine e_next ?_
        refine c_seq ?_
        refine c_region ?_
        refine r_val .none rfl (p_move rfl) ?_
        refine r_val .none rfl (p_assign rfl) ?_
        refine r_nil ?_
        refine e_next ?_
        refine c_ret ?_
        refine e_freeze (k := 0) rfl (fun G_18 hn_19 hs_20 => ?_)
        replace hr := hr.mono hn_19.le
        replace hrt := fun p hm0 => (hrt p hm0).mono hn_19.le
        replace hrs := fun p hm0 => (hrs p hm0).mono hn_19.le
        replace hqt := fun p hm0 => (hqt p hm0).mono hn_19.le
        replace hqs := fun p hm0 => (hqs p hm0).mono hn_19.le
        refine e_ret1 Try.results23 (.tmp rfl .nil) (fun w hm => ⟨_, (hgn.trans hn_19), hm.has, ?_, hm.since⟩)
        rw [show l = qs.map Prod.fst by rw [hq, hl, List.take_of_length_le (by simp; omega)]]
        exact Ss.mk qs (SlL.of s0 (fun _ => rfl) rfl hs_20) hqt hqs
        )
theorem c_rsameS_s (n : Nat) (ih : RsameSIs n) (c c2 : ST) (ta sb ta2 sb2 : Value) {G : Ghost} (hz : SizeOf.sizeOf c ≤ n + 1) (ht : SlL G ta 3 tC t0 c.h.ts) (hs : Ss G sb c.subs) (ht2 : SlL G ta2 3 tC t0 c2.h.ts) (hs2 : Ss G sb2 c2.subs) (w : World) (hG : Has G w) :
    Calls Try.prog 32 #[Value.agg #[Value.int .i64 c.h.k, Value.int .i64 c.h.k0, Value.int .i64 c.h.k1, Value.int .i64 c.h.k2, ta, sb], Value.agg #[Value.int .i64 c2.h.k, Value.int .i64 c2.h.k0, Value.int .i64 c2.h.k1, Value.int .i64 c2.h.k2, ta2, sb2]] w (Ret fun r w' => r = Value.bool (seq c c2) ∧ Since nX w w') := by
  refine enter (args := [_, _]) (X := nX) (G := G) (l := [(0, Value.agg #[Value.int .i64 c.h.k, Value.int .i64 c.h.k0, Value.int .i64 c.h.k1, Value.int .i64 c.h.k2, ta, sb]), (1, Value.agg #[Value.int .i64 c2.h.k, Value.int .i64 c2.h.k0, Value.int .i64 c2.h.k1, Value.int .i64 c2.h.k2, ta2, sb2])]) Try.func32 rfl Try.ntmps32 hG ⟨rfl, rfl, trivial⟩ (Nat.le_of_ble_eq_true rfl) ?_
  obtain ⟨rs, hr, hrt, hrs, hl⟩ := hs.inv
  obtain ⟨rs2, hr2, hrt2, hrs2, hl2⟩ := hs2.inv
  have hbd := hr.bound
  have hbd2 := hr2.bound
  have hbd3 := ht.bound
  have hbd4 := ht2.bound
  have hlr : c.subs.length = rs.length := by rw [hl]; simp
  have hlr2 : c2.subs.length = rs2.length := by rw [hl2]; simp
  refine c_seq ?_
  refine c_region ?_
  refine r_box .none rfl rfl (IsRow.lit _) (fun b_1 => ?_)
  refine r_box .none rfl rfl (IsRow.lit _) (fun b_2 => ?_)
  refine r_val .none rfl (p_assign rfl) ?_
  refine r_nil ?_
  refine e_next ?_
  refine c_seq ?_
  refine c_seq ?_
  refine c_region ?_
  refine r_val .none rfl (p_field Try.underlying70 rfl sz3 rfl) ?_
  refine r_val .none rfl (p_ld (k := 1) Try.underlying3 rfl rfl rfl (by first | exact of_decide_eq_true rfl | omega) (rfl : _ = Value.int _ _)) ?_
  refine r_val .none rfl (p_field Try.underlying70 rfl sz3 rfl) ?_
  refine r_val .none rfl (p_ld (k := 0) Try.underlying3 rfl rfl rfl (by first | exact of_decide_eq_true rfl | omega) (rfl : _ = Value.int _ _)) ?_
  refine r_val .none rfl (p_ne rfl rfl) ?_
  refine r_val .none rfl (p_move rfl) ?_
  refine' r_or (c := 12) (d := 18) [_, _, _, _, _, _] rfl (fun h_1 Q_2 hQ_3 => ?_) (fun h_1 Q_2 hQ_3 => ?_) ?_
  rotate_left 1
  · skip
    replace h_1 := of_decide_eq_false h_1
    refine r_val (.some rfl rfl) rfl (p_field Try.underlying70 rfl sz60 rfl) ?_
    refine r_val (.some rfl rfl) rfl (p_lda (k := 1) Try.underlying60 rfl sz60 rfl rfl (by first | exact of_decide_eq_true rfl | omega) (rfl : _ = Value.agg #[_, _, _])) ?_
    refine r_val (.some rfl rfl) rfl (p_field Try.underlying70 rfl sz60 rfl) ?_
    refine r_val (.some rfl rfl) rfl (p_lda (k := 0) Try.underlying60 rfl sz60 rfl rfl (by first | exact of_decide_eq_true rfl | omega) (rfl : _ = Value.agg #[_, _, _])) ?_
    refine r_val (.some rfl rfl) rfl (p_nea rfl rfl (eq_flat Try.underlying60 rfl lf60 ef60 eg60 (.cons (.int Try.underlying3) (.cons (.int Try.underlying3) (.cons (.int Try.underlying3) (.nil)))) (.cons (.int Try.underlying3) (.cons (.int Try.underlying3) (.cons (.int Try.underlying3) (.nil)))))) ?_
    refine r_val .none rfl (p_pick_f rfl rfl) ?_
    refine r_nil (e_fin (d := 18) hQ_3 rfl (by repeat (first | exact .refl | refine .put rfl ?_ | refine .say rfl ?_ | refine .say2 rfl (by first | assumption | simp_all) ?_)))
  · skip
    repeat (first | refine r_skip rfl (.no rfl rfl) ?_ | refine r_skip rfl (.un rfl rfl) ?_)
    refine r_val (by first | exact .none | exact .some rfl rfl) rfl (p_pick_t rfl rfl) ?_
    refine r_nil (e_fin (d := 18) hQ_3 rfl (by repeat (first | exact .refl | refine .put rfl ?_ | refine .say rfl ?_ | refine .say2 rfl (by first | assumption | simp_all) ?_)))
  refine r_val .none rfl (p_move rfl) ?_
  refine' r_or (c := 19) (d := 27) [_, _, _, _, _, _, _, _] rfl (fun h_5 Q_6 hQ_7 => ?_) (fun h_5 Q_6 hQ_7 => ?_) ?_
  rotate_left 1
  · skip
    try simp only [norms] at h_5
    refine r_val (.some rfl rfl) rfl (p_field Try.underlying70 rfl sz68 rfl) ?_
    refine r_val (.some rfl rfl) rfl (p_ld (k := 1) Try.underlying68 rfl rfl rfl (by first | exact of_decide_eq_true rfl | omega) rfl) ?_
    refine r_val (.some rfl rfl) rfl (p_leng Try.underlying68 rfl ht) ?_
    have bd_9 := (ht).bound
    refine r_val (.some rfl rfl) rfl (p_field Try.underlying70 rfl sz68 rfl) ?_
    refine r_val (.some rfl rfl) rfl (p_ld (k := 0) Try.underlying68 rfl rfl rfl (by first | exact of_decide_eq_true rfl | omega) rfl) ?_
    refine r_val (.some rfl rfl) rfl (p_leng Try.underlying68 rfl ht2) ?_
    have bd_10 := (ht2).bound
    refine r_val (.some rfl rfl) rfl (p_ne rfl rfl) ?_
    refine r_val .none rfl (p_pick_f rfl rfl) ?_
    refine r_nil (e_fin (d := 27) hQ_7 rfl (by repeat (first | exact .refl | refine .put rfl ?_ | refine .say rfl ?_ | refine .say2 rfl (by first | assumption | simp_all) ?_)))
  · skip
    repeat (first | refine r_skip rfl (.no rfl rfl) ?_ | refine r_skip rfl (.un rfl rfl) ?_)
    refine r_val (by first | exact .none | exact .some rfl rfl) rfl (p_pick_t rfl rfl) ?_
    refine r_nil (e_fin (d := 27) hQ_7 rfl (by repeat (first | exact .refl | refine .put rfl ?_ | refine .say rfl ?_ | refine .say2 rfl (by first | assumption | simp_all) ?_)))
  refine r_val .none rfl (p_move rfl) ?_
  refine' r_or (c := 28) (d := 36) [_, _, _, _, _, _, _, _] rfl (fun h_11 Q_12 hQ_13 => ?_) (fun h_11 Q_12 hQ_13 => ?_) ?_
  rotate_left 1
  · skip
    try simp only [norms] at h_11
    refine r_val (.some rfl rfl) rfl (p_field Try.underlying70 rfl sz48 rfl) ?_
    refine r_val (.some rfl rfl) rfl (p_ld (k := 1) Try.underlying48 rfl rfl rfl (by first | exact of_decide_eq_true rfl | omega) rfl) ?_
    refine r_val (.some rfl rfl) rfl (p_leng Try.underlying48 rfl hr) ?_
    have bd_15 := (hr).bound
    refine r_val (.some rfl rfl) rfl (p_field Try.underlying70 rfl sz48 rfl) ?_
    refine r_val (.some rfl rfl) rfl (p_ld (k := 0) Try.underlying48 rfl rfl rfl (by first | exact of_decide_eq_true rfl | omega) rfl) ?_
    refine r_val (.some rfl rfl) rfl (p_leng Try.underlying48 rfl hr2) ?_
    have bd_16 := (hr2).bound
    refine r_val (.some rfl rfl) rfl (p_ne rfl rfl) ?_
    refine r_val .none rfl (p_pick_f rfl rfl) ?_
    refine r_nil (e_fin (d := 36) hQ_13 rfl (by repeat (first | exact .refl | refine .put rfl ?_ | refine .say rfl ?_ | refine .say2 rfl (by first | assumption | simp_all) ?_)))
  · skip
    repeat (first | refine r_skip rfl (.no rfl rfl) ?_ | refine r_skip rfl (.un rfl rfl) ?_)
    refine r_val (by first | exact .none | exact .some rfl rfl) rfl (p_pick_t rfl rfl) ?_
    refine r_nil (e_fin (d := 36) hQ_13 rfl (by repeat (first | exact .refl | refine .put rfl ?_ | refine .say rfl ?_ | refine .say2 rfl (by first | assumption | simp_all) ?_)))
  refine r_nil ?_
  refine e_next ?_
  refine c_split (d := 36) rfl (fun h_17 => ?_) (fun h_17 => ?_)
  · skip
    try simp only [norms] at h_17
    have hN : ((¬ c.h.k = c2.h.k ∨ kEq c.h c2.h = false) ∨ ¬ (c.h.ts.length : Int) = c2.h.ts.length) ∨ ¬ (rs.length : Int) = rs2.length := h_17
    first
      | (exfalso; omega)
      | (
        refine c_cond_t rfl ?_
        refine c_seq ?_
        refine c_region ?_
        refine r_val .none rfl (p_assign rfl) ?_
        refine r_nil ?_
        refine e_next ?_
        refine c_ret ?_
        refine e_ret_then ?_
        refine e_ret1 Try.results32 (.tmp rfl .nil) (fun w hm => ⟨?_, hm.since⟩)
        first
        | exact congrArg Value.bool (seq_no (hN.imp (Or.imp_right (fun hx => by omega)) (fun hx => by omega))).symm
        | exact congrArg Value.bool (seq_ts (ne_of_get hE)).symm
        | (rw [seq_sub hN.1.1.1 hN.1.1.2 hts, hl, hl2, ← hphi.2.2, seqL_no (by omega) (by omega) hF]; done)
        | (rw [seq_sub hN.1.1.1 hN.1.1.2 hts, hl, hl2, ← hphi.2.2, List.drop_eq_nil_of_le (by simp; omega), List.drop_eq_nil_of_le (by simp; omega)]; rfl)
        )
  · skip
    try simp only [norms] at h_17
    have hN : ((c.h.k = c2.h.k ∧ kEq c.h c2.h = true) ∧ (c.h.ts.length : Int) = c2.h.ts.length) ∧ (rs.length : Int) = rs2.length := h_17
    first
      | (exfalso; omega)
      | (
        refine c_cond_f rfl ?_
        refine c_skip ?_
        refine e_next ?_
        refine c_seq ?_
        refine c_seq ?_
        refine c_region ?_
        refine r_val .none rfl (p_field Try.underlying70 rfl sz68 rfl) ?_
        refine r_val .none rfl (p_ld (k := 1) Try.underlying68 rfl rfl rfl (by first | exact of_decide_eq_true rfl | omega) rfl) ?_
        refine r_val .none rfl (p_leng Try.underlying68 rfl ht) ?_
        have bd_18 := (ht).bound
        refine r_val .none rfl (p_move rfl) ?_
        refine r_nil ?_
        refine e_next ?_
        refine c_block ?_
        refine c_name (d := 2) rfl (fun u_19 hu_19 => ?_)
        refine c_name (d := 3) rfl (fun u_20 hu_20 => ?_)
        refine c_name (d := 39) rfl (fun u_21 hu_21 => ?_)
        refine c_nameL (k := 0) rfl (fun A_22 hA_22 => ?_)
        refine c_nameL (k := 1) rfl (fun A_23 hA_23 => ?_)
        refine c_loop (σ := Nat) (fun j => [(40, Value.int .i64 (j : Nat)), (2, u_19), (3, u_20), (39, u_21)]) (fun j => [A_22, A_23]) (fun _ => _) (fun j => j ≤ c.h.ts.length ∧ c.h.ts.take j = c2.h.ts.take j) (fun j => c.h.ts.length - j) (0) ⟨Nat.zero_le _, rfl⟩ rfl ⟨rfl, rfl, rfl, rfl, trivial⟩ (.keep (fun _ _ h => h) (.keep (fun _ _ h => h) (.nil))) (fun j hphi => ?_)
        subst hu_19
        subst hu_20
        subst hu_21
        subst hA_22
        subst hA_23
        have hj := hphi
        refine c_seq ?_
        refine c_region ?_
        refine r_val .none rfl (p_lt rfl rfl) ?_
        refine r_nil ?_
        refine e_next ?_
        refine c_seq ?_
        refine c_splitd (d := 41) rfl (fun h_24 => ?_) (fun h_24 => ?_)
        · skip
          first
            | (exfalso; omega)
            | (
              refine c_cond_t rfl ?_
              refine c_skip ?_
              refine e_next ?_
              refine c_seq ?_
              refine c_block ?_
              refine c_seq ?_
              refine c_region ?_
              refine r_val .none rfl (p_move rfl) ?_
              refine r_val .none rfl (p_assign rfl) ?_
              refine r_nil ?_
              refine e_next ?_
              refine c_seq ?_
              refine c_region_q mixed (by kernel_rfl) ?_
              refine q_val .none rfl (p_field Try.underlying70 rfl sz68 rfl) ?_
              refine q_val .none rfl (p_ld (k := 1) Try.underlying68 rfl rfl rfl (by first | exact of_decide_eq_true rfl | omega) rfl) ?_
              refine q_val .none rfl (p_move rfl) ?_
              refine q_iaddr_g .none rfl Try.underlying68 sz96 rfl ht rfl (by first | exact of_decide_eq_true rfl | omega) (fun p_26 o_27 R_25 => ?_)
              refine q_val .none rfl (p_ldga0 Try.underlying96 rfl sz96 rfl R_25 (by first | exact of_decide_eq_true rfl | omega) (rfl : _ = Value.agg #[_, _, _])) ?_
              refine q_val .none rfl (p_field Try.underlying70 rfl sz68 rfl) ?_
              refine q_val .none rfl (p_ld (k := 0) Try.underlying68 rfl rfl rfl (by first | exact of_decide_eq_true rfl | omega) rfl) ?_
              refine q_val .none rfl (p_move rfl) ?_
              refine q_iaddr_g .none rfl Try.underlying68 sz96 rfl ht2 rfl (by first | exact of_decide_eq_true rfl | omega) (fun p_29 o_30 R_28 => ?_)
              refine q_val .none rfl (p_ldga0 Try.underlying96 rfl sz96 rfl R_28 (by first | exact of_decide_eq_true rfl | omega) (rfl : _ = Value.agg #[_, _, _])) ?_
              refine q_val .none rfl (p_nea rfl rfl (eq_flat Try.underlying96 rfl lf96 ef96 eg96 (.cons (.int Try.underlying3) (.cons (.int Try.underlying3) (.cons (.int Try.underlying3) (.nil)))) (.cons (.int Try.underlying3) (.cons (.int Try.underlying3) (.cons (.int Try.underlying3) (.nil)))))) ?_
              refine q_nil ?_
              refine e_next ?_
              refine c_splitn (d := 53) rfl (fun h_31 => ?_) (fun h_31 => ?_)
              · skip
                have hE : c.h.ts.getD j t0 ≠ c2.h.ts.getD j t0 := of_decide_eq_false ((tC_eq _ _).symm.trans h_31)
                first
                  | (exfalso; omega)
                  | (
                    refine c_cond_t rfl ?_
                    refine c_seq ?_
                    refine c_region ?_
                    refine r_val .none rfl (p_assign rfl) ?_
                    refine r_nil ?_
                    refine e_next ?_
                    refine c_ret ?_
                    refine e_ret_block ?_
                    refine e_ret_then ?_
                    refine e_ret_then ?_
                    refine e_ret_block ?_
                    refine e_ret_then ?_
                    refine e_ret1 Try.results32 (.tmp rfl .nil) (fun w hm => ⟨?_, hm.since⟩)
                    first
                    | exact congrArg Value.bool (seq_no (hN.imp (Or.imp_right (fun hx => by omega)) (fun hx => by omega))).symm
                    | exact congrArg Value.bool (seq_ts (ne_of_get hE)).symm
                    | (rw [seq_sub hN.1.1.1 hN.1.1.2 hts, hl, hl2, ← hphi.2.2, seqL_no (by omega) (by omega) hF]; done)
                    | (rw [seq_sub hN.1.1.1 hN.1.1.2 hts, hl, hl2, ← hphi.2.2, List.drop_eq_nil_of_le (by simp; omega), List.drop_eq_nil_of_le (by simp; omega)]; rfl)
                    )
              · skip
                have hE : c.h.ts.getD j t0 = c2.h.ts.getD j t0 := of_decide_eq_true ((tC_eq _ _).symm.trans h_31)
                first
                  | (exfalso; omega)
                  | (
                    refine c_cond_f rfl ?_
                    refine c_skip ?_
                    refine e_norm_block ?_
                    refine e_next ?_
                    refine c_region ?_
                    refine r_val .none rfl (p_add rfl rfl (by omega)) ?_
                    refine r_val .none rfl (p_move rfl) ?_
                    refine r_nil ?_
                    refine e_round (j + 1) ⟨⟨by omega, take_eq_succ (d := t0) (by omega) (by omega) hphi.2 hE⟩, by omega⟩ rfl ⟨rfl, rfl, rfl, rfl, trivial⟩ (.keep (fun _ _ h => h) (.keep (fun _ _ h => h) (.nil)))
                    )
              )
        · skip
          first
            | (exfalso; omega)
            | (
              refine c_cond_f rfl ?_
              refine c_exit ?_
              refine e_exit_then ?_
              refine e_exit_then ?_
              refine e_exit_block ?_
              refine e_next ?_
              refine c_seq ?_
              refine c_seq ?_
              refine c_region ?_
              refine r_val .none rfl (p_field Try.underlying70 rfl sz48 rfl) ?_
              refine r_val .none rfl (p_ld (k := 1) Try.underlying48 rfl rfl rfl (by first | exact of_decide_eq_true rfl | omega) rfl) ?_
              refine r_val .none rfl (p_leng Try.underlying48 rfl hr) ?_
              have bd_32 := (hr).bound
              refine r_val .none rfl (p_move rfl) ?_
              refine r_nil ?_
              refine e_next ?_
              refine c_block ?_
              have hts : c.h.ts = c2.h.ts := by have hk := hj.2; rw [List.take_of_length_le (by omega), List.take_of_length_le (by omega)] at hk; exact hk
              refine c_name (d := 2) rfl (fun u_33 hu_33 => ?_)
              refine c_name (d := 3) rfl (fun u_34 hu_34 => ?_)
              refine c_name (d := 57) rfl (fun u_35 hu_35 => ?_)
              refine c_nameL (k := 0) rfl (fun A_36 hA_36 => ?_)
              refine c_nameL (k := 1) rfl (fun A_37 hA_37 => ?_)
              refine c_loop (σ := Nat) (fun k => [(58, Value.int .i64 (k : Nat)), (2, u_33), (3, u_34), (57, u_35)]) (fun k => [A_36, A_37]) (fun _ => _) (fun k => k ≤ rs.length ∧ rs.length = rs2.length ∧ seqL ((rs.map Prod.fst).drop k) ((rs2.map Prod.fst).drop k) = seqL (rs.map Prod.fst) (rs2.map Prod.fst)) (fun k => rs.length - k) (0) ⟨Nat.zero_le _, by omega, rfl⟩ rfl ⟨rfl, rfl, rfl, rfl, trivial⟩ (.keep (fun _ _ h => h) (.keep (fun _ _ h => h) (.nil))) (fun k hphi => ?_)
              subst hu_33
              subst hu_34
              subst hu_35
              subst hA_36
              subst hA_37
              refine c_seq ?_
              refine c_region ?_
              refine r_val .none rfl (p_lt rfl rfl) ?_
              refine r_nil ?_
              refine e_next ?_
              refine c_seq ?_
              refine c_splitd (d := 59) rfl (fun h_38 => ?_) (fun h_38 => ?_)
              · skip
                first
                  | (exfalso; omega)
                  | (
                    refine c_cond_t rfl ?_
                    refine c_skip ?_
                    refine e_next ?_
                    refine c_seq ?_
                    refine c_block ?_
                    refine c_seq ?_
                    refine c_region ?_
                    refine r_val .none rfl (p_move rfl) ?_
                    refine r_val .none rfl (p_assign rfl) ?_
                    refine r_nil ?_
                    refine e_next ?_
                    refine c_seq ?_
                    refine c_region_q mixed (by kernel_rfl) ?_
                    refine q_val .none rfl (p_field Try.underlying70 rfl sz48 rfl) ?_
                    refine q_val .none rfl (p_ld (k := 1) Try.underlying48 rfl rfl rfl (by first | exact of_decide_eq_true rfl | omega) rfl) ?_
                    refine q_val .none rfl (p_move rfl) ?_
                    refine q_iaddr_g .none rfl Try.underlying48 sz70 rfl hr rfl (by first | exact of_decide_eq_true rfl | omega) (fun p_40 o_41 R_39 => ?_)
                    have ht_42 := hrt _ (getD_mem (i := k) (d := s0) (by omega))
                    have hc_43 := hrs _ (getD_mem (i := k) (d := s0) (by omega))
                    refine q_val .none rfl (p_ldga0 Try.underlying70 rfl sz70 rfl R_39 (by first | exact of_decide_eq_true rfl | omega) (rfl : _ = Value.agg #[_, _, _, _, _, _])) ?_
                    refine q_val .none rfl (p_field Try.underlying70 rfl sz48 rfl) ?_
                    refine q_val .none rfl (p_ld (k := 0) Try.underlying48 rfl rfl rfl (by first | exact of_decide_eq_true rfl | omega) rfl) ?_
                    refine q_val .none rfl (p_move rfl) ?_
                    refine q_iaddr_g .none rfl Try.underlying48 sz70 rfl hr2 rfl (by first | exact of_decide_eq_true rfl | omega) (fun p_45 o_46 R_44 => ?_)
                    have ht_47 := hrt2 _ (getD_mem (i := k) (d := s0) (by omega))
                    have hc_48 := hrs2 _ (getD_mem (i := k) (d := s0) (by omega))
                    refine q_val .none rfl (p_ldga0 Try.underlying70 rfl sz70 rfl R_44 (by first | exact of_decide_eq_true rfl | omega) (rfl : _ = Value.agg #[_, _, _, _, _, _])) ?_
                    refine q_call (vs := [_, _]) .none rfl cl32 rfl (fun w hw => ih (rs.getD k s0).1 _ _ _ _ _ _ w (ssz_at hl (by omega) hz) ht_42 hc_43 ht_47 hc_48 hw) ?_
                    refine q_val .none rfl (p_not rfl) ?_
                    refine q_nil ?_
                    refine e_next ?_
                    refine c_splitn (d := 72) rfl (fun h_49 => ?_) (fun h_49 => ?_)
                    · skip
                      have hF := h_49
                      first
                        | (exfalso; omega)
                        | (
                          refine c_cond_t rfl ?_
                          refine c_seq ?_
                          refine c_region ?_
                          refine r_val .none rfl (p_assign rfl) ?_
                          refine r_nil ?_
                          refine e_next ?_
                          refine c_ret ?_
                          refine e_ret_block ?_
                          refine e_ret_then ?_
                          refine e_ret_then ?_
                          refine e_ret_block ?_
                          refine e_ret_then ?_
                          refine e_ret1 Try.results32 (.tmp rfl .nil) (fun w hm => ⟨?_, hm.since⟩)
                          first
                          | exact congrArg Value.bool (seq_no (hN.imp (Or.imp_right (fun hx => by omega)) (fun hx => by omega))).symm
                          | exact congrArg Value.bool (seq_ts (ne_of_get hE)).symm
                          | (rw [seq_sub hN.1.1.1 hN.1.1.2 hts, hl, hl2, ← hphi.2.2, seqL_no (by omega) (by omega) hF]; done)
                          | (rw [seq_sub hN.1.1.1 hN.1.1.2 hts, hl, hl2, ← hphi.2.2, List.drop_eq_nil_of_le (by simp; omega), List.drop_eq_nil_of_le (by simp; omega)]; rfl)
                          )
                    · skip
                      have hF := h_49
                      first
                        | (exfalso; omega)
                        | (
                          refine c_cond_f rfl ?_
                          refine c_skip ?_
                          refine e_norm_block ?_
                          refine e_next ?_
                          refine c_region ?_
                          refine r_val .none rfl (p_add rfl rfl (by omega)) ?_
                          refine r_val .none rfl (p_move rfl) ?_
                          refine r_nil ?_
                          refine e_round (k + 1) ⟨⟨by omega, hphi.2.1, by rw [seqL_yes (by omega) (by omega) hF]; exact hphi.2.2⟩, by omega⟩ rfl ⟨rfl, rfl, rfl, rfl, trivial⟩ (.keep (fun _ _ h => h) (.keep (fun _ _ h => h) (.nil)))
                          )
                    )
              · skip
                first
                  | (exfalso; omega)
                  | (
                    refine c_cond_f rfl ?_
                    refine c_exit ?_
                    refine e_exit_then ?_
                    refine e_exit_then ?_
                    refine e_exit_block ?_
                    refine e_next ?_
                    refine c_seq ?_
                    refine c_region ?_
                    refine r_val .none rfl (p_assign rfl) ?_
                    refine r_nil ?_
                    refine e_next ?_
                    refine c_ret ?_
                    refine e_ret1 Try.results32 (.tmp rfl .nil) (fun w hm => ⟨?_, hm.since⟩)
                    first
                    | exact congrArg Value.bool (seq_no (hN.imp (Or.imp_right (fun hx => by omega)) (fun hx => by omega))).symm
                    | exact congrArg Value.bool (seq_ts (ne_of_get hE)).symm
                    | (rw [seq_sub hN.1.1.1 hN.1.1.2 hts, hl, hl2, ← hphi.2.2, seqL_no (by omega) (by omega) hF]; done)
                    | (rw [seq_sub hN.1.1.1 hN.1.1.2 hts, hl, hl2, ← hphi.2.2, List.drop_eq_nil_of_le (by simp; omega), List.drop_eq_nil_of_le (by simp; omega)]; rfl)
                    )
              )
        )
theorem c_rsameS_n : ∀ n, RsameSIs n
  | 0 => fun c c2 ta sb ta2 sb2 G w hz _ _ _ _ _ => absurd hz (by have := s_pos c; omega)
  | n + 1 => fun c c2 ta sb ta2 sb2 G w hz ht hs ht2 hs2 hG => c_rsameS_s n (c_rsameS_n n) c c2 ta sb ta2 sb2 hz ht hs ht2 hs2 w hG
theorem c_rsameS (c c2 : ST) (ta sb ta2 sb2 : Value) {G : Ghost} (ht : SlL G ta 3 tC t0 c.h.ts) (hs : Ss G sb c.subs) (ht2 : SlL G ta2 3 tC t0 c2.h.ts) (hs2 : Ss G sb2 c2.subs) (w : World) (hG : Has G w) : Calls Try.prog 32 #[Value.agg #[Value.int .i64 c.h.k, Value.int .i64 c.h.k0, Value.int .i64 c.h.k1, Value.int .i64 c.h.k2, ta, sb], Value.agg #[Value.int .i64 c2.h.k, Value.int .i64 c2.h.k0, Value.int .i64 c2.h.k1, Value.int .i64 c2.h.k2, ta2, sb2]] w (Ret fun r w' => r = Value.bool (seq c c2) ∧ Since nX w w') := c_rsameS_n _ c c2 ta sb ta2 sb2 G w (Nat.le_refl _) ht hs ht2 hs2 hG
theorem c_all8 (v v2 : Value) (l l2 : List ST) {G : Ghost} (hs : Ss G v l) (hs2 : Ss G v2 l2) (w : World) (hG : Has G w) :
    Calls Try.prog 22 #[v, v2] w (Ret fun r w' => r = Value.bool (seqL l l2) ∧ Since nX w w') := by
  refine enter (args := [_, _]) (X := nX) (G := G) (l := [(0, v), (1, v2)]) Try.func22 rfl Try.ntmps22 hG ⟨rfl, rfl, trivial⟩ (Nat.le_of_ble_eq_true rfl) ?_
  obtain ⟨rs, hr, hrt, hrs, hl⟩ := hs.inv
  obtain ⟨rs2, hr2, hrt2, hrs2, hl2⟩ := hs2.inv
  have hbd := hr.bound
  have hbd2 := hr2.bound
  refine c_seq ?_
  refine c_region ?_
  refine r_val .none rfl (p_assign rfl) ?_
  refine r_nil ?_
  refine e_next ?_
  refine c_seq ?_
  refine c_seq ?_
  refine c_region ?_
  refine r_val .none rfl (p_move rfl) ?_
  refine r_val .none rfl (p_leng Try.underlying48 rfl hr) ?_
  have bd_1 := (hr).bound
  refine r_val .none rfl (p_move rfl) ?_
  refine r_val .none rfl (p_leng Try.underlying48 rfl hr2) ?_
  have bd_2 := (hr2).bound
  refine r_val .none rfl (p_ne rfl rfl) ?_
  refine r_nil ?_
  refine e_next ?_
  refine c_splitd (d := 10) rfl (fun h_3 => ?_) (fun h_3 => ?_)
  · skip
    first
      | (exfalso; omega)
      | (
        refine c_cond_t rfl ?_
        refine c_seq ?_
        refine c_region ?_
        refine r_val .none rfl (p_assign rfl) ?_
        refine r_nil ?_
        refine e_next ?_
        refine c_ret ?_
        refine e_ret_then ?_
        refine e_ret1 Try.results22 (.tmp rfl .nil) (fun w hm => ⟨?_, hm.since⟩)
        first
        | (rw [hl, hl2, seqL_len (by simp; omega)])
        | (rw [hl, hl2, ← hphi.2.2, seqL_no (by omega) (by omega) hE])
        | (rw [hl, hl2, ← hphi.2.2, List.drop_eq_nil_of_le (by simp; omega), List.drop_eq_nil_of_le (by simp; omega)]; rfl)
        )
  · skip
    first
      | (exfalso; omega)
      | (
        refine c_cond_f rfl ?_
        refine c_skip ?_
        refine e_next ?_
        refine c_seq ?_
        refine c_seq ?_
        refine c_region ?_
        refine r_val .none rfl (p_move rfl) ?_
        refine r_val .none rfl (p_leng Try.underlying48 rfl hr) ?_
        have bd_4 := (hr).bound
        refine r_val .none rfl (p_move rfl) ?_
        refine r_nil ?_
        refine e_next ?_
        refine c_block ?_
        refine c_name (d := 0) rfl (fun u_5 hu_5 => ?_)
        refine c_name (d := 1) rfl (fun u_6 hu_6 => ?_)
        refine c_name (d := 12) rfl (fun u_7 hu_7 => ?_)
        refine c_loop (σ := Nat) (fun k => [(13, Value.int .i64 (k : Nat)), (0, u_5), (1, u_6), (12, u_7)]) (fun k => []) (fun _ => _) (fun k => k ≤ rs.length ∧ rs.length = rs2.length ∧ seqL ((rs.map Prod.fst).drop k) ((rs2.map Prod.fst).drop k) = seqL (rs.map Prod.fst) (rs2.map Prod.fst)) (fun k => rs.length - k) (0) ⟨Nat.zero_le _, by omega, rfl⟩ rfl ⟨rfl, rfl, rfl, rfl, trivial⟩ (.nil) (fun k hphi => ?_)
        subst hu_5
        subst hu_6
        subst hu_7
        refine c_seq ?_
        refine c_region ?_
        refine r_val .none rfl (p_lt rfl rfl) ?_
        refine r_nil ?_
        refine e_next ?_
        refine c_seq ?_
        refine c_splitd (d := 14) rfl (fun h_8 => ?_) (fun h_8 => ?_)
        · skip
          first
            | (exfalso; omega)
            | (
              refine c_cond_t rfl ?_
              refine c_skip ?_
              refine e_next ?_
              refine c_seq ?_
              refine c_block ?_
              refine c_seq ?_
              refine c_region ?_
              refine r_val .none rfl (p_move rfl) ?_
              refine r_val .none rfl (p_assign rfl) ?_
              refine r_nil ?_
              refine e_next ?_
              refine c_seq ?_
              refine c_region_q mixed (by kernel_rfl) ?_
              refine q_val .none rfl (p_move rfl) ?_
              refine q_val .none rfl (p_move rfl) ?_
              refine q_iaddr_g .none rfl Try.underlying48 sz70 rfl hr rfl (by first | exact of_decide_eq_true rfl | omega) (fun p_10 o_11 R_9 => ?_)
              have ht_12 := hrt _ (getD_mem (i := k) (d := s0) (by omega))
              have hc_13 := hrs _ (getD_mem (i := k) (d := s0) (by omega))
              refine q_val .none rfl (p_ldga0 Try.underlying70 rfl sz70 rfl R_9 (by first | exact of_decide_eq_true rfl | omega) (rfl : _ = Value.agg #[_, _, _, _, _, _])) ?_
              refine q_val .none rfl (p_move rfl) ?_
              refine q_val .none rfl (p_move rfl) ?_
              refine q_iaddr_g .none rfl Try.underlying48 sz70 rfl hr2 rfl (by first | exact of_decide_eq_true rfl | omega) (fun p_15 o_16 R_14 => ?_)
              have ht_17 := hrt2 _ (getD_mem (i := k) (d := s0) (by omega))
              have hc_18 := hrs2 _ (getD_mem (i := k) (d := s0) (by omega))
              refine q_val .none rfl (p_ldga0 Try.underlying70 rfl sz70 rfl R_14 (by first | exact of_decide_eq_true rfl | omega) (rfl : _ = Value.agg #[_, _, _, _, _, _])) ?_
              refine q_call (vs := [_, _]) .none rfl cl32 rfl (fun w hw => c_rsameS (rs.getD k s0).1 _ _ _ _ _ ht_12 hc_13 ht_17 hc_18 w hw) ?_
              refine q_val .none rfl (p_not rfl) ?_
              refine q_nil ?_
              refine e_next ?_
              refine c_splitn (d := 25) rfl (fun h_19 => ?_) (fun h_19 => ?_)
              · skip
                have hE := h_19
                first
                  | (exfalso; omega)
                  | (
                    refine c_cond_t rfl ?_
                    refine c_seq ?_
                    refine c_region ?_
                    refine r_val .none rfl (p_assign rfl) ?_
                    refine r_nil ?_
                    refine e_next ?_
                    refine c_ret ?_
                    refine e_ret_block ?_
                    refine e_ret_then ?_
                    refine e_ret_then ?_
                    refine e_ret_block ?_
                    refine e_ret_then ?_
                    refine e_ret1 Try.results22 (.tmp rfl .nil) (fun w hm => ⟨?_, hm.since⟩)
                    first
                    | (rw [hl, hl2, seqL_len (by simp; omega)])
                    | (rw [hl, hl2, ← hphi.2.2, seqL_no (by omega) (by omega) hE])
                    | (rw [hl, hl2, ← hphi.2.2, List.drop_eq_nil_of_le (by simp; omega), List.drop_eq_nil_of_le (by simp; omega)]; rfl)
                    )
              · skip
                have hE := h_19
                first
                  | (exfalso; omega)
                  | (
                    refine c_cond_f rfl ?_
                    refine c_skip ?_
                    refine e_norm_block ?_
                    refine e_next ?_
                    refine c_region ?_
                    refine r_val .none rfl (p_add rfl rfl (by omega)) ?_
                    refine r_val .none rfl (p_move rfl) ?_
                    refine r_nil ?_
                    refine e_round (k + 1) ⟨⟨by omega, hphi.2.1, by rw [seqL_yes (by omega) (by omega) hE]; exact hphi.2.2⟩, by omega⟩ rfl ⟨rfl, rfl, rfl, rfl, trivial⟩ (.nil)
                    )
              )
        · skip
          first
            | (exfalso; omega)
            | (
              refine c_cond_f rfl ?_
              refine c_exit ?_
              refine e_exit_then ?_
              refine e_exit_then ?_
              refine e_exit_block ?_
              refine e_next ?_
              refine c_seq ?_
              refine c_region ?_
              refine r_val .none rfl (p_assign rfl) ?_
              refine r_nil ?_
              refine e_next ?_
              refine c_ret ?_
              refine e_ret1 Try.results22 (.tmp rfl .nil) (fun w hm => ⟨?_, hm.since⟩)
              first
              | (rw [hl, hl2, seqL_len (by simp; omega)])
              | (rw [hl, hl2, ← hphi.2.2, seqL_no (by omega) (by omega) hE])
              | (rw [hl, hl2, ← hphi.2.2, List.drop_eq_nil_of_le (by simp; omega), List.drop_eq_nil_of_le (by simp; omega)]; rfl)
              )
        )
end Go.Proofs.Ytoflaphnlfggkaa

/- Walks: what Go functions of this chapter come to, each as a function on plain data; no condition but those that each theorem names. Printed by a program of this work (gen.py). -/
namespace Go.Proofs.Ytoflaphnlfggkaa
open Go.Gx Go.Gx.T4 Go.Gx.T3 Go.Gx.T6 Go.Gx.T8 Go.Gx.T4 Go.Gx.T3 Go.Gx.T8 Go.Gx.T4 Go.Gx.T3 Go.Gx.T8 Go.Gx.T6 Go.Gx.T4 Go.Gx.T3
theorem cl11 : Callable Try.prog 11 := callable Try.func11 (by kernel_rfl) rfl
theorem cl20 : Callable Try.prog 20 := callable Try.func20 (by kernel_rfl) rfl
theorem cl22 : Callable Try.prog 22 := callable Try.func22 (by kernel_rfl) rfl
theorem cl23 : Callable Try.prog 23 := callable Try.func23 (by kernel_rfl) rfl
theorem cl25 : Callable Try.prog 25 := callable Try.func25 (by kernel_rfl) rfl
theorem cl31 : Callable Try.prog 31 := callable Try.func31 (by kernel_rfl) rfl
theorem cl35 : Callable Try.prog 35 := callable Try.func35 (by kernel_rfl) rfl
theorem c_CompSteps (v : Value) (l : List CT) (c : CT) (sv : Value) {G : Ghost} (hs : Cs G v l) (hzl : l.length * 80 ≤ 140737488351232) (hs2 : Cs G sv c.subs) (w : World) (hG : Has G w) :
    Calls Try.prog 9 #[v, Value.agg #[Value.int .i64 c.h.k, Value.bool c.h.v0, Value.int .i64 c.h.n0, Value.bool c.h.v1, Value.int .i64 c.h.n1, Value.bool c.h.v2, Value.int .i64 c.h.n2, sv]] w (Ret fun r w' => r = Value.bool true ∧ Since nX w w') := by
  refine enter (args := [_, _]) (X := nX) (G := G) (l := [(0, v), (1, Value.agg #[Value.int .i64 c.h.k, Value.bool c.h.v0, Value.int .i64 c.h.n0, Value.bool c.h.v1, Value.int .i64 c.h.n1, Value.bool c.h.v2, Value.int .i64 c.h.n2, sv])]) Try.func9 rfl Try.ntmps9 hG ⟨rfl, rfl, trivial⟩ (Nat.le_of_ble_eq_true rfl) ?_
  have hone := hs2.one
  obtain ⟨rs, hr, hp, hl⟩ := hs.inv
  have hlr : l.length = rs.length := by rw [hl]; simp
  have hbd := hr.bound
  refine c_seq ?_
  refine c_region ?_
  refine r_box .none rfl rfl (IsRow.lit _) (fun b_1 => ?_)
  refine r_val .none rfl (p_assign rfl) ?_
  refine r_nil ?_
  refine e_next ?_
  refine c_seq ?_
  refine c_seq ?_
  refine c_region_d (fun _ => false) _ mixed (.keep (fun _ _ h => h) (.nil)) ?_
  refine d_val1 1 rfl rfl (by kernel_rfl) (fun _ _ => rfl) .none rfl (p_move rfl) ?_
  refine d_val1 3 rfl rfl (by kernel_rfl) (fun _ _ => rfl) .none rfl (p_ldw (k := 0) Try.underlying38 rfl sz38 rfl rfl (rfl : _ = Value.agg #[_, _, _, _, _, _, _, _])) ?_
  refine d_eff2 0 4 rfl rfl (by kernel_rfl) (fun K_1 hKK_1 hcK_1 => ?_) (fun K_1 hKK_1 hcK_1 => ?_)
  · skip
    refine r_bslice0 .none rfl Try.underlying22 el38 (fun v_2 => ?_)
    refine r_nil (e_d (i := 0) (brk := (fun _ => false)) (ph' := true) hKK_1 hcK_1 rfl (fun _ => GLe.refl _) (fun _ => .drop (.keep (fun _ _ h => h) (.nil))) ?_)
    clear hKK_1 hcK_1 K_1
    refine d_eff2 2 4 rfl rfl (by kernel_rfl) (fun K_3 hKK_3 hcK_3 => ?_) (fun K_3 hKK_3 hcK_3 => ?_)
    · skip
      refine r_append_g (k := 0) .none rfl Try.underlying22 el38 rfl (by decide) rfl rfl rfl hr (cv_ones hp) (by simp only [maxLen]; omega) (by omega) (fun v_4 => ?_)
      refine r_row1 (k := 0) rfl (fun o_5 => ?_)
      refine r_nil (e_d (i := 2) (brk := (fun _ => false)) (ph' := true) hKK_3 hcK_3 rfl (fun _ => GLe.refl _) (fun _ => .drop (.keep (fun _ _ h => h) (.nil))) ?_)
      clear hKK_3 hcK_3 K_3
      refine d_eff 4 rfl (by kernel_rfl) (fun K_6 hKK_6 hcK_6 => ?_)
      refine r_bslice (vs := [(0, Value.agg #[_, _, _, _, _, _, _, _])]) (c := #[_, _, _, _, _, _, _, _]) .none rfl Try.underlying22 el38 rfl rfl rfl (bs38_10a8 _ _ _ _ _ _ _ _) (IsRow.lit _) (fun b_2 => ?_)
      refine r_nil (e_d (i := 4) (brk := (fun _ => false)) (ph' := true) hKK_6 hcK_6 rfl (fun _ => GLe.refl _) (fun _ => .drop (.drop (.keep (fun _ _ h => h) (.nil)))) ?_)
      clear hKK_6 hcK_6 K_6
      refine d_eff 5 rfl (by kernel_rfl) (fun K_7 hKK_7 hcK_7 => ?_)
      refine r_append (k := 1) (k2 := 0) .none rfl Try.underlying22 el38 rfl (by decide) rfl rfl rfl rfl rfl (one_lit rfl (all_cons rfl (all_cons rfl (all_cons rfl (all_cons rfl (all_cons rfl (all_cons rfl (all_cons rfl (all_cons hone rfl))))))))) (by simp only [maxLen]; omega) (by omega) (fun v_8 => ?_)
      refine r_row1 (k := 1) rfl (fun o_9 => ?_)
      refine r_nil (e_d (i := 5) (brk := (fun _ => false)) (ph' := true) hKK_7 hcK_7 rfl (fun _ => GLe.refl _) (fun _ => .drop (.drop (.keep (fun _ _ h => h) (.nil)))) ?_)
      clear hKK_7 hcK_7 K_7
      refine d_eff 6 rfl (by kernel_rfl) (fun K_10 hKK_10 hcK_10 => ?_)
      refine r_conv (B := rowA v_8 _ 8 (rs ++ [(c, sv)]).length ((rs ++ [(c, sv)]).flatMap cvC)) (k := 1) rfl (fun _ _ h => rowA_congr (by simp) (by rw [List.nil_append, flat_all (cells := cvC) (fun _ => rfl), List.flatMap_append]; rfl) _ _ h) ?_
      refine r_callr (k := 1) (vs := [_]) .none rfl cl11 rfl rfl (fun w G_11 hw hle_12 hs_13 => c_fine6 _ (l ++ [c]) (by have h : Cs _ _ ((rs ++ [(c, sv)]).map Prod.fst) := Tr.mk _ (SlL.of d0 (fun _ => rfl) rfl hs_13) (fun p hm0 => by rcases List.mem_append.1 hm0 with h | h; exact (hp p h).mono hle_12; rw [List.mem_singleton.1 h]; exact (hs2.mono hle_12)); rw [List.map_append, ← hl] at h; exact h) w hw) ?_
      refine r_nil (e_d (i := 6) (brk := (fun _ => false)) (ph' := true) hKK_10 hcK_10 rfl (fun _ => GLe.refl _) (fun _ => .drop (.drop (.keep (fun _ _ h => h) (.nil)))) ?_)
      clear hKK_10 hcK_10 K_10
      refine d_val1 7 rfl rfl (by kernel_rfl) (fun _ _ => rfl) .none rfl (p_not rfl) ?_
      refine d_nil (by kernel_rfl) ?_
      refine e_next ?_
      refine c_splitn (d := 17) rfl (fun h_14 => ?_) (fun h_14 => ?_)
      · skip
        first
          | (exfalso; first | omega | assumption)
          | (
            refine c_cond_t rfl ?_
            refine c_seq ?_
            refine c_region ?_
            refine r_call (vs := []) .none rfl cl20 rfl (fun w hw => c_awake8 w) ?_
            refine r_val .none rfl (p_assign rfl) ?_
            refine r_nil ?_
            refine e_next ?_
            refine c_ret ?_
            refine e_ret_then ?_
            refine e_ret1 Try.results9 (.tmp rfl .nil) (fun w hm => ⟨?_, hm.since⟩)
            rfl
            )
      · skip
        have hf : fineL (l ++ [c]) = true := h_14
        have hfy := fineL_yes hf
        have hza := sizeL_append l [c]
        simp only [sizeL] at hza
        have hll := sizeL_len l
        have hsz : sizeL l ≤ 1000 := by omega
        have hss : sszL (stepsOf [] l) ≤ 5000 := Nat.le_trans (sszL_of l []) (by omega)
        have hz9 : l.length + size c ≤ 1000 := by omega
        first
          | (exfalso; first | omega | assumption)
          | (
            refine c_cond_f rfl ?_
            refine c_skip ?_
            refine e_next ?_
            refine c_seq ?_
            refine c_region ?_
            refine r_val .none rfl (p_move rfl) ?_
            refine r_callf (vs := [_]) .none rfl cl24 rfl (fun _ _ _ hle hz => hz.mono hle) (fun w hw => c_ccomp _ _ hsz hs w hw) (fun G_15 v_18 hn_16 hr_17 => ?_)
            replace hr := hr.mono hn_16.le
            replace hs := hs.mono hn_16.le
            replace hs2 := hs2.mono hn_16.le
            replace hp := fun p hm0 => (hp p hm0).mono hn_16.le
            have u_19 := (hr_17).mono (fr_le _ _)
            have hA8 := u_19
            obtain ⟨as1, ha, hat, hac, hal⟩ := hA8.inv
            have has : as1.length = rs.length := by have h := congrArg List.length hal; rw [stepsOf_len, List.length_map] at h; omega
            refine r_val .none rfl (p_assign rfl) ?_
            refine r_nil ?_
            refine e_next ?_
            refine c_seq ?_
            refine c_seq ?_
            refine c_region ?_
            refine r_val .none rfl (p_move rfl) ?_
            refine r_callm (vs := [_]) .none rfl cl23 rfl (fun w hw => c_srefs _ _ hss hA8 w hw) (fun G_20 v_23 hn_21 hr_22 => ?_)
            replace hr := hr.mono hn_21.le
            replace hs := hs.mono hn_21.le
            replace hs2 := hs2.mono hn_21.le
            replace hp := fun p hm0 => (hp p hm0).mono hn_21.le
            replace u_19 := u_19.mono hn_21.le
            replace hA8 := hA8.mono hn_21.le
            replace ha := ha.mono hn_21.le
            replace hat := fun p hm0 => (hat p hm0).mono hn_21.le
            replace hac := fun p hm0 => (hac p hm0).mono hn_21.le
            have u_24 := hr_22
            refine r_val .none rfl (p_move rfl) ?_
            refine r_callm (vs := [_]) .none rfl cl15 rfl (fun w hw => c_lref _ _ hsz hs w hw) (fun G_25 v_28 hn_26 hr_27 => ?_)
            replace hr := hr.mono hn_26.le
            replace hs := hs.mono hn_26.le
            replace hs2 := hs2.mono hn_26.le
            replace hp := fun p hm0 => (hp p hm0).mono hn_26.le
            replace u_19 := u_19.mono hn_26.le
            replace hA8 := hA8.mono hn_26.le
            replace ha := ha.mono hn_26.le
            replace hat := fun p hm0 => (hat p hm0).mono hn_26.le
            replace hac := fun p hm0 => (hac p hm0).mono hn_26.le
            replace u_24 := u_24.mono hn_26.le
            have u_29 := hr_27
            refine r_callm (vs := [_]) .none rfl cl25 rfl (fun w hw => c_compile _ _ hsz u_29 w hw) (fun G_30 v_33 hn_31 hr_32 => ?_)
            replace hr := hr.mono hn_31.le
            replace hs := hs.mono hn_31.le
            replace hs2 := hs2.mono hn_31.le
            replace hp := fun p hm0 => (hp p hm0).mono hn_31.le
            replace u_19 := u_19.mono hn_31.le
            replace hA8 := hA8.mono hn_31.le
            replace ha := ha.mono hn_31.le
            replace hat := fun p hm0 => (hat p hm0).mono hn_31.le
            replace hac := fun p hm0 => (hac p hm0).mono hn_31.le
            replace u_24 := u_24.mono hn_31.le
            replace u_29 := u_29.mono hn_31.le
            have u_34 := hr_32
            refine r_call (vs := [_, _]) .none rfl cl22 rfl (fun w hw => c_all8 _ _ _ _ u_24 u_34 w hw) ?_
            refine r_val .none rfl (p_not rfl) ?_
            refine r_nil ?_
            refine e_next ?_
            refine c_splitn (d := 27) rfl (fun h_35 => ?_) (fun h_35 => ?_)
            · skip
              have hx : False := absurd (h_35) (by rw [(seqL_iff _ _).2 rfl]; decide)
              first
                | (exfalso; first | omega | assumption)
                | (
                  refine c_cond_t rfl ?_
                  refine c_seq ?_
                  refine c_region ?_
                  refine r_val .none rfl (p_assign rfl) ?_
                  refine r_nil ?_
                  refine e_next ?_
                  refine c_ret ?_
                  refine e_ret_then ?_
                  refine e_ret1 Try.results9 (.tmp rfl .nil) (fun w hm => ⟨?_, hm.since⟩)
                  rfl
                  )
            · skip
              first
                | (exfalso; first | omega | assumption)
                | (
                  refine c_cond_f rfl ?_
                  refine c_skip ?_
                  refine e_next ?_
                  refine c_seq ?_
                  refine c_region ?_
                  refine r_val .none rfl (p_assign rfl) ?_
                  refine r_nil ?_
                  refine e_next ?_
                  refine c_seq ?_
                  refine c_seq ?_
                  refine c_region ?_
                  refine r_val .none rfl (p_move rfl) ?_
                  refine r_val .none rfl (p_leng Try.underlying50 rfl ha) ?_
                  have bd_36 := (ha).bound
                  refine r_val .none rfl (p_move rfl) ?_
                  refine r_nil ?_
                  refine e_next ?_
                  refine c_block ?_
                  refine c_name (d := 0) rfl (fun u_37 hu_37 => ?_)
                  refine c_name (d := 3) rfl (fun u_38 hu_38 => ?_)
                  refine c_name (d := 5) rfl (fun u_39 hu_39 => ?_)
                  refine c_name (d := 28) rfl (fun u_40 hu_40 => ?_)
                  refine c_name (d := 29) rfl (fun u_41 hu_41 => ?_)
                  refine c_nameL (k := 0) rfl (fun A_42 hA_42 => ?_)
                  refine c_nameL (k := 1) rfl (fun A_43 hA_43 => ?_)
                  refine c_nameL (k := 2) rfl (fun A_44 hA_44 => ?_)
                  refine c_loop (σ := Nat) (fun k => [(30, Value.int .i64 (k : Nat)), (6, Value.int .i64 (posS ((as1.map Prod.fst).take k) : Nat)), (0, u_37), (3, u_38), (5, u_39), (28, u_40), (29, u_41)]) (fun k => [A_42, A_43, A_44]) (fun _ => _) (fun k => k ≤ as1.length) (fun k => as1.length - k) (0) (Nat.zero_le _) rfl ⟨rfl, rfl, rfl, rfl, rfl, rfl, rfl, trivial⟩ (.keep (fun _ _ h => h) (.keep (fun _ _ h => h) (.keep (fun _ _ h => h) (.nil)))) (fun k hphi => ?_)
                  subst hu_37
                  subst hu_38
                  subst hu_39
                  subst hu_40
                  subst hu_41
                  subst hA_42
                  subst hA_43
                  subst hA_44
                  have hpl : posS ((as1.map Prod.fst).take k) ≤ k := Nat.le_trans (posS_le _) (by simp; omega)
                  refine c_seq ?_
                  refine c_region ?_
                  refine r_val .none rfl (p_lt rfl rfl) ?_
                  refine r_nil ?_
                  refine e_next ?_
                  refine c_seq ?_
                  refine c_splitd (d := 31) rfl (fun h_45 => ?_) (fun h_45 => ?_)
                  · skip
                    first
                      | (exfalso; first | omega | assumption)
                      | (
                        refine c_cond_t rfl ?_
                        refine c_skip ?_
                        refine e_next ?_
                        refine c_seq ?_
                        refine c_block ?_
                        refine c_seq ?_
                        refine c_region ?_
                        refine r_iaddr_g .none rfl Try.underlying50 sz64 rfl ha rfl (by first | exact of_decide_eq_true rfl | omega) (fun p_47 o_48 R_46 => ?_)
                        have ht_49 := hat _ (getD_mem (i := k) (d := s0) (by omega))
                        have hc_50 := hac _ (getD_mem (i := k) (d := s0) (by omega))
                        refine r_val .none rfl (p_ldga0 Try.underlying64 rfl sz64 rfl R_46 (by first | exact of_decide_eq_true rfl | omega) (rfl : _ = Value.agg #[_, _, _, _, _, _])) ?_
                        refine r_alloc .none rfl zr64 (IsRow.lit _) (fun b_3 => ?_)
                        refine r_stw (k := 0) .none sz64 rfl rfl (IsRow.lit _) (one_lit rfl (all_cons rfl (all_cons rfl (all_cons rfl (all_cons rfl (all_cons (ht_49).one (all_cons (hc_50).one rfl))))))) rfl ?_
                        refine r_nil ?_
                        refine e_next ?_
                        refine c_seq ?_
                        refine c_seq ?_
                        refine c_region ?_
                        refine r_val .none rfl (p_ldw (k := 0) Try.underlying64 rfl sz64 rfl rfl (rfl : _ = Value.agg #[_, _, _, _, _, _])) ?_
                        have e1 : (as1.getD k s0).1 = stepOf ((rs.map Prod.fst).take k) (rs.getD k d0).1 := by rw [sv_getD hal, hl, steps_at (by omega)]; rfl
                        have q1 := sizeL_take (rs := rs) (k := k) (by omega)
                        have q2 : sizeL ((rs.map Prod.fst).take (k + 1)) ≤ sizeL l := by rw [hl]; exact sizeL_take_le _ _
                        have q3 := sizeL_len ((rs.map Prod.fst).take k)
                        have hrt : (cR (as1.getD k s0).1 1 0).1 = true := by rw [e1]; exact right_of (hfy.1 _ (by rw [hl]; exact List.mem_append_left _ (List.mem_map.2 ⟨_, getD_mem (i := k) (d := d0) (by omega), rfl⟩))) (by omega)
                        refine r_call (vs := [_]) .none rfl cl31 rfl (fun w hw => c_cRight (as1.getD k s0).1 _ _ ht_49 hc_50 w hw) ?_
                        refine r_val .none rfl (p_not rfl) ?_
                        refine r_nil ?_
                        refine e_next ?_
                        refine c_splitn (d := 36) rfl (fun h_51 => ?_) (fun h_51 => ?_)
                        · skip
                          have hx : False := absurd (h_51) (by rw [hrt]; decide)
                          first
                            | (exfalso; first | omega | assumption)
                            | (
                              refine c_cond_t rfl ?_
                              refine c_seq ?_
                              refine c_region ?_
                              refine r_val .none rfl (p_assign rfl) ?_
                              refine r_nil ?_
                              refine e_next ?_
                              refine c_ret ?_
                              refine e_ret_then ?_
                              refine e_ret_block ?_
                              refine e_ret_then ?_
                              refine e_ret_then ?_
                              refine e_ret_block ?_
                              refine e_ret_then ?_
                              refine e_ret1 Try.results9 (.tmp rfl .nil) (fun w hm => ⟨?_, hm.since⟩)
                              rfl
                              )
                        · skip
                          first
                            | (exfalso; first | omega | assumption)
                            | (
                              refine c_cond_f rfl ?_
                              refine c_skip ?_
                              refine e_next ?_
                              refine c_seq ?_
                              refine c_region ?_
                              refine r_val .none rfl (p_field Try.underlying64 rfl sz3 rfl) ?_
                              refine r_val .none rfl (p_ld (k := 0) Try.underlying3 rfl rfl rfl (by first | exact of_decide_eq_true rfl | omega) (rfl : _ = Value.int _ _)) ?_
                              refine r_val .none rfl (p_eq rfl rfl) ?_
                              refine r_nil ?_
                              refine e_next ?_
                              refine c_splitd (d := 39) rfl (fun h_52 => ?_) (fun h_52 => ?_)
                              · skip
                                have hk1 := h_52
                                first
                                  | (exfalso; first | omega | assumption)
                                  | (
                                    refine c_cond_t rfl ?_
                                    refine c_region ?_
                                    refine r_val .none rfl (p_move rfl) ?_
                                    refine r_val .none rfl (p_add rfl rfl (by omega)) ?_
                                    refine r_val .none rfl (p_assign rfl) ?_
                                    refine r_nil ?_
                                    refine e_norm_block ?_
                                    refine e_next ?_
                                    refine c_region ?_
                                    refine r_val .none rfl (p_add rfl rfl (by omega)) ?_
                                    refine r_val .none rfl (p_move rfl) ?_
                                    refine r_nil ?_
                                    refine e_round (k + 1) ⟨by omega, by omega⟩ rfl ⟨rfl, (congrArg (fun z => some (Value.int .i64 z)) (by rw [posS_take (by omega)]; first | (rw [if_pos hk1]; omega) | (rw [if_neg hk1]; omega))), rfl, rfl, rfl, rfl, rfl, trivial⟩ (.drop (.keep (fun _ _ h => h) (.keep (fun _ _ h => h) (.keep (fun _ _ h => h) (.nil)))))
                                    )
                              · skip
                                have hk1 := h_52
                                first
                                  | (exfalso; first | omega | assumption)
                                  | (
                                    refine c_cond_f rfl ?_
                                    refine c_skip ?_
                                    refine e_norm_block ?_
                                    refine e_next ?_
                                    refine c_region ?_
                                    refine r_val .none rfl (p_add rfl rfl (by omega)) ?_
                                    refine r_val .none rfl (p_move rfl) ?_
                                    refine r_nil ?_
                                    refine e_round (k + 1) ⟨by omega, by omega⟩ rfl ⟨rfl, (congrArg (fun z => some (Value.int .i64 z)) (by rw [posS_take (by omega)]; first | (rw [if_pos hk1]; omega) | (rw [if_neg hk1]; omega))), rfl, rfl, rfl, rfl, rfl, trivial⟩ (.drop (.keep (fun _ _ h => h) (.keep (fun _ _ h => h) (.keep (fun _ _ h => h) (.nil)))))
                                    )
                              )
                        )
                  · skip
                    first
                      | (exfalso; first | omega | assumption)
                      | (
                        refine c_cond_f rfl ?_
                        refine c_exit ?_
                        refine e_exit_then ?_
                        refine e_exit_then ?_
                        refine e_exit_block ?_
                        refine e_next ?_
                        refine c_seq ?_
                        refine c_region ?_
                        refine r_val .none rfl (p_move rfl) ?_
                        refine r_val .none rfl (p_ldw (k := 2) Try.underlying38 rfl sz38 rfl rfl (rfl : _ = Value.agg #[_, _, _, _, _, _, _, _])) ?_
                        refine r_callf (vs := [_, _]) .none rfl cl30 rfl (fun _ _ _ hle hz => by obtain ⟨ua, ub, h1, h2, h3⟩ := hz; exact ⟨ua, ub, h1, h2.mono hle, h3.mono hle⟩) (fun w hw => c_cstep c sv _ l hz9 hs2 hs w hw) (fun G_53 v_56 hn_54 hr_55 => ?_)
                        replace hr := hr.mono hn_54.le
                        replace hs := hs.mono hn_54.le
                        replace hs2 := hs2.mono hn_54.le
                        replace hp := fun p hm0 => (hp p hm0).mono hn_54.le
                        replace u_19 := u_19.mono hn_54.le
                        replace hA8 := hA8.mono hn_54.le
                        replace ha := ha.mono hn_54.le
                        replace hat := fun p hm0 => (hat p hm0).mono hn_54.le
                        replace hac := fun p hm0 => (hac p hm0).mono hn_54.le
                        replace u_24 := u_24.mono hn_54.le
                        replace u_29 := u_29.mono hn_54.le
                        replace u_34 := u_34.mono hn_54.le
                        obtain ⟨u_57a, u_57b, rfl, u_57s, u_57t⟩ := hr_55
                        replace u_57s := u_57s.mono (fr_le _ _)
                        replace u_57t := u_57t.mono (fr_le _ _)
                        refine r_alloc .none rfl zr64 (IsRow.lit _) (fun b_4 => ?_)
                        refine r_stw (k := 0) .none sz64 rfl rfl (IsRow.lit _) (one_lit rfl (all_cons rfl (all_cons rfl (all_cons rfl (all_cons rfl (all_cons (u_57s).one (all_cons (u_57t).one rfl))))))) rfl ?_
                        refine r_nil ?_
                        refine e_next ?_
                        refine c_seq ?_
                        refine c_region_d (fun _ => false) _ mixed (.keep (fun _ _ h => h) (.keep (fun _ _ h => h) (.keep (fun _ _ h => h) (.keep (fun _ _ h => h) (.nil))))) ?_
                        refine d_val1 0 rfl rfl (by kernel_rfl) (fun _ _ => rfl) .none rfl (p_ldw (k := 0) Try.underlying64 rfl sz64 rfl rfl (rfl : _ = Value.agg #[_, _, _, _, _, _])) ?_
                        refine d_val1 2 rfl rfl (by kernel_rfl) (fun _ _ => rfl) .none rfl (p_move rfl) ?_
                        refine d_val1 4 rfl rfl (by kernel_rfl) (fun _ _ => rfl) .none rfl (p_ldw (k := 3) Try.underlying38 rfl sz38 rfl rfl (rfl : _ = Value.agg #[_, _, _, _, _, _, _, _])) ?_
                        refine d_eff 1 rfl (by kernel_rfl) (fun K_58 hKK_58 hcK_58 => ?_)
                        refine r_callm (vs := [_]) .none rfl cl33 rfl (fun w hw => c_sref _ _ _ (Nat.le_trans (ssz_of c l) (by omega)) u_57s u_57t w hw) (fun G_59 v_62 hn_60 hr_61 => ?_)
                        replace hr := hr.mono hn_60.le
                        replace hs := hs.mono hn_60.le
                        replace hs2 := hs2.mono hn_60.le
                        replace hp := fun p hm0 => (hp p hm0).mono hn_60.le
                        replace u_19 := u_19.mono hn_60.le
                        replace hA8 := hA8.mono hn_60.le
                        replace ha := ha.mono hn_60.le
                        replace hat := fun p hm0 => (hat p hm0).mono hn_60.le
                        replace hac := fun p hm0 => (hac p hm0).mono hn_60.le
                        replace u_24 := u_24.mono hn_60.le
                        replace u_29 := u_29.mono hn_60.le
                        replace u_34 := u_34.mono hn_60.le
                        replace u_57s := u_57s.mono hn_60.le
                        replace u_57t := u_57t.mono hn_60.le
                        obtain ⟨u_63a, u_63b, rfl, u_63s, u_63t⟩ := hr_61
                        refine r_nil (e_d (i := 1) (brk := (fun _ => false)) (ph' := true) hKK_58 hcK_58 rfl (fun _ => hn_60.le) (fun _ => .keep (fun _ _ h => h) (.keep (fun _ _ h => h) (.keep (fun _ _ h => h) (.keep (fun _ _ h => h) (.nil))))) ?_)
                        clear hKK_58 hcK_58 K_58
                        refine d_eff 3 rfl (by kernel_rfl) (fun K_64 hKK_64 hcK_64 => ?_)
                        refine r_callm (vs := [_]) .none rfl cl15 rfl (fun w hw => c_lref _ _ hsz hs w hw) (fun G_65 v_68 hn_66 hr_67 => ?_)
                        replace hr := hr.mono hn_66.le
                        replace hs := hs.mono hn_66.le
                        replace hs2 := hs2.mono hn_66.le
                        replace hp := fun p hm0 => (hp p hm0).mono hn_66.le
                        replace u_19 := u_19.mono hn_66.le
                        replace hA8 := hA8.mono hn_66.le
                        replace ha := ha.mono hn_66.le
                        replace hat := fun p hm0 => (hat p hm0).mono hn_66.le
                        replace hac := fun p hm0 => (hac p hm0).mono hn_66.le
                        replace u_24 := u_24.mono hn_66.le
                        replace u_29 := u_29.mono hn_66.le
                        replace u_34 := u_34.mono hn_66.le
                        replace u_57s := u_57s.mono hn_66.le
                        replace u_57t := u_57t.mono hn_66.le
                        replace u_63s := u_63s.mono hn_66.le
                        replace u_63t := u_63t.mono hn_66.le
                        have u_69 := hr_67
                        refine r_nil (e_d (i := 3) (brk := (fun _ => false)) (ph' := true) hKK_64 hcK_64 rfl (fun _ => (hn_60.trans hn_66).le) (fun _ => .keep (fun _ _ h => h) (.keep (fun _ _ h => h) (.keep (fun _ _ h => h) (.keep (fun _ _ h => h) (.nil))))) ?_)
                        clear hKK_64 hcK_64 K_64
                        refine d_eff 5 rfl (by kernel_rfl) (fun K_70 hKK_70 hcK_70 => ?_)
                        refine r_callm (vs := [_]) .none rfl cl19 rfl (fun w hw => c_ref4 c sv (by omega) hs2 w hw) (fun G_71 v_74 hn_72 hr_73 => ?_)
                        replace hr := hr.mono hn_72.le
                        replace hs := hs.mono hn_72.le
                        replace hs2 := hs2.mono hn_72.le
                        replace hp := fun p hm0 => (hp p hm0).mono hn_72.le
                        replace u_19 := u_19.mono hn_72.le
                        replace hA8 := hA8.mono hn_72.le
                        replace ha := ha.mono hn_72.le
                        replace hat := fun p hm0 => (hat p hm0).mono hn_72.le
                        replace hac := fun p hm0 => (hac p hm0).mono hn_72.le
                        replace u_24 := u_24.mono hn_72.le
                        replace u_29 := u_29.mono hn_72.le
                        replace u_34 := u_34.mono hn_72.le
                        replace u_57s := u_57s.mono hn_72.le
                        replace u_57t := u_57t.mono hn_72.le
                        replace u_63s := u_63s.mono hn_72.le
                        replace u_63t := u_63t.mono hn_72.le
                        replace u_69 := u_69.mono hn_72.le
                        obtain ⟨u_75, rfl, u_75s⟩ := hr_73
                        refine r_nil (e_d (i := 5) (brk := (fun _ => false)) (ph' := true) hKK_70 hcK_70 rfl (fun _ => ((hn_60.trans hn_66).trans hn_72).le) (fun _ => .keep (fun _ _ h => h) (.keep (fun _ _ h => h) (.keep (fun _ _ h => h) (.keep (fun _ _ h => h) (.nil))))) ?_)
                        clear hKK_70 hcK_70 K_70
                        refine d_eff 6 rfl (by kernel_rfl) (fun K_76 hKK_76 hcK_76 => ?_)
                        refine r_callm (vs := [_, _]) .none rfl cl34 rfl (fun w hw => c_of c _ _ l (by omega) u_75s u_69 w hw) (fun G_77 v_80 hn_78 hr_79 => ?_)
                        replace hr := hr.mono hn_78.le
                        replace hs := hs.mono hn_78.le
                        replace hs2 := hs2.mono hn_78.le
                        replace hp := fun p hm0 => (hp p hm0).mono hn_78.le
                        replace u_19 := u_19.mono hn_78.le
                        replace hA8 := hA8.mono hn_78.le
                        replace ha := ha.mono hn_78.le
                        replace hat := fun p hm0 => (hat p hm0).mono hn_78.le
                        replace hac := fun p hm0 => (hac p hm0).mono hn_78.le
                        replace u_24 := u_24.mono hn_78.le
                        replace u_29 := u_29.mono hn_78.le
                        replace u_34 := u_34.mono hn_78.le
                        replace u_57s := u_57s.mono hn_78.le
                        replace u_57t := u_57t.mono hn_78.le
                        replace u_63s := u_63s.mono hn_78.le
                        replace u_63t := u_63t.mono hn_78.le
                        replace u_69 := u_69.mono hn_78.le
                        replace u_75s := u_75s.mono hn_78.le
                        obtain ⟨u_81a, u_81b, rfl, u_81s, u_81t⟩ := hr_79
                        refine r_nil (e_d (i := 6) (brk := (fun _ => false)) (ph' := true) hKK_76 hcK_76 rfl (fun _ => (((hn_60.trans hn_66).trans hn_72).trans hn_78).le) (fun _ => .keep (fun _ _ h => h) (.keep (fun _ _ h => h) (.keep (fun _ _ h => h) (.keep (fun _ _ h => h) (.nil))))) ?_)
                        clear hKK_76 hcK_76 K_76
                        refine d_eff 7 rfl (by kernel_rfl) (fun K_82 hKK_82 hcK_82 => ?_)
                        refine r_call (vs := [_, _]) .none rfl cl32 rfl (fun w hw => c_rsameS _ _ _ _ _ _ u_63s u_63t u_81s u_81t w hw) ?_
                        refine r_nil (e_d (i := 7) (brk := (fun _ => false)) (ph' := true) hKK_82 hcK_82 rfl (fun _ => (((hn_60.trans hn_66).trans hn_72).trans hn_78).le) (fun _ => .keep (fun _ _ h => h) (.keep (fun _ _ h => h) (.keep (fun _ _ h => h) (.keep (fun _ _ h => h) (.nil))))) ?_)
                        clear hKK_82 hcK_82 K_82
                        refine d_val1 8 rfl rfl (by kernel_rfl) (fun _ _ => rfl) .none rfl (p_move rfl) ?_
                        refine d_split (d := 54) rfl (fun h_83 => ?_) (fun h_83 => ?_)
                        · skip
                          first
                            | (exfalso; first | omega | assumption)
                            | (
                              refine d_val1 9 rfl rfl (by kernel_rfl) (fun _ _ => rfl) (.some rfl rfl) rfl (p_ldw (k := 0) Try.underlying64 rfl sz64 rfl rfl (rfl : _ = Value.agg #[_, _, _, _, _, _])) ?_
                              refine d_eff 10 rfl (by kernel_rfl) (fun K_84 hKK_84 hcK_84 => ?_)
                              refine r_call (vs := [_]) (.some rfl rfl) rfl cl31 rfl (fun w hw => c_cRight _ _ _ u_57s u_57t w hw) ?_
                              refine r_nil (e_d (i := 10) (brk := (fun _ => false)) (ph' := true) hKK_84 hcK_84 rfl (fun _ => (((hn_60.trans hn_66).trans hn_72).trans hn_78).le) (fun _ => .keep (fun _ _ h => h) (.keep (fun _ _ h => h) (.keep (fun _ _ h => h) (.keep (fun _ _ h => h) (.nil))))) ?_)
                              clear hKK_84 hcK_84 K_84
                              refine d_val1 11 rfl rfl (by kernel_rfl) (fun _ _ => rfl) .none rfl (p_pick_t rfl rfl) ?_
                              refine d_val1 12 rfl rfl (by kernel_rfl) (fun _ _ => rfl) .none rfl (p_move rfl) ?_
                              refine d_split (d := 58) rfl (fun h_85 => ?_) (fun h_85 => ?_)
                              · skip
                                first
                                  | (exfalso; first | omega | assumption)
                                  | (
                                    refine d_val1 13 rfl rfl (by kernel_rfl) (fun _ _ => rfl) (.some rfl rfl) rfl (p_move rfl) ?_
                                    refine d_val1 15 rfl rfl (by kernel_rfl) (fun _ _ => rfl) (.some rfl rfl) rfl (p_move rfl) ?_
                                    refine d_eff 14 rfl (by kernel_rfl) (fun K_86 hKK_86 hcK_86 => ?_)
                                    refine r_call (vs := [_]) (.some rfl rfl) rfl cl35 rfl (fun w hw => c_back _ _ hA8 w hw) ?_
                                    refine r_nil (e_d (i := 14) (brk := (fun _ => false)) (ph' := true) hKK_86 hcK_86 rfl (fun _ => (((hn_60.trans hn_66).trans hn_72).trans hn_78).le) (fun _ => .keep (fun _ _ h => h) (.keep (fun _ _ h => h) (.keep (fun _ _ h => h) (.keep (fun _ _ h => h) (.nil))))) ?_)
                                    clear hKK_86 hcK_86 K_86
                                    refine d_val1 16 rfl rfl (by kernel_rfl) (fun _ _ => rfl) (.some rfl rfl) rfl (p_eq rfl rfl) ?_
                                    refine d_val1 17 rfl rfl (by kernel_rfl) (fun _ _ => rfl) .none rfl (p_pick_t rfl rfl) ?_
                                    refine d_val1 18 rfl rfl (by kernel_rfl) (fun _ _ => rfl) .none rfl (p_move rfl) ?_
                                    refine d_splitd (d := 64) rfl (fun h_87 => ?_) (fun h_87 => ?_)
                                    · skip
                                      first
                                        | (exfalso; first | omega | assumption)
                                        | (
                                          refine d_eff 19 rfl (by kernel_rfl) (fun K_88 hKK_88 hcK_88 => ?_)
                                          refine r_call (vs := []) (.some rfl rfl) rfl cl20 rfl (fun w hw => c_awake8 w) ?_
                                          refine r_nil (e_d (i := 19) (brk := (fun _ => false)) (ph' := true) hKK_88 hcK_88 rfl (fun _ => (((hn_60.trans hn_66).trans hn_72).trans hn_78).le) (fun _ => .keep (fun _ _ h => h) (.keep (fun _ _ h => h) (.keep (fun _ _ h => h) (.keep (fun _ _ h => h) (.nil))))) ?_)
                                          clear hKK_88 hcK_88 K_88
                                          refine d_val1 20 rfl rfl (by kernel_rfl) (fun _ _ => rfl) .none rfl (p_pick_t rfl rfl) ?_
                                          refine d_val1 21 rfl rfl (by kernel_rfl) (fun _ _ => rfl) .none rfl (p_assign rfl) ?_
                                          refine d_nil (by kernel_rfl) ?_
                                          refine e_next ?_
                                          refine c_ret ?_
                                          refine e_ret1 Try.results9 (.tmp rfl .nil) (fun w hm => ⟨?_, hm.since⟩)
                                          rfl
                                          )
                                    · skip
                                      have hx : False := by (have hpp : posS (stepsOf [] l) = posS ((as1.map Prod.fst).take k) := by rw [hal, List.take_of_length_le (by simp; omega)]); omega
                                      first
                                        | (exfalso; first | omega | assumption)
                                        | (
                                          refine d_skip1 19 rfl rfl (by kernel_rfl) (fun _ _ => rfl) rfl (.no rfl rfl) ?_
                                          refine d_val1 20 rfl rfl (by kernel_rfl) (fun _ _ => rfl) .none rfl (p_pick_f rfl rfl) ?_
                                          refine d_val1 21 rfl rfl (by kernel_rfl) (fun _ _ => rfl) .none rfl (p_assign rfl) ?_
                                          refine d_nil (by kernel_rfl) ?_
                                          refine e_next ?_
                                          refine c_ret ?_
                                          refine e_ret1 Try.results9 (.tmp rfl .nil) (fun w hm => ⟨?_, hm.since⟩)
                                          rfl
                                          )
                                    )
                              · skip
                                have hx : False := absurd (h_85) (by rw [right_of (hfy.1 c (by simp)) (by omega)]; decide)
                                first
                                  | (exfalso; first | omega | assumption)
                                  | (
                                    refine d_skip1 13 rfl rfl (by kernel_rfl) (fun _ _ => rfl) rfl (.no rfl rfl) ?_
                                    refine d_skip1 14 rfl rfl (by kernel_rfl) (fun _ _ => rfl) rfl (.no rfl rfl) ?_
                                    refine d_skip1 15 rfl rfl (by kernel_rfl) (fun _ _ => rfl) rfl (.no rfl rfl) ?_
                                    refine d_skip1 16 rfl rfl (by kernel_rfl) (fun _ _ => rfl) rfl (.no rfl rfl) ?_
                                    refine d_val1 17 rfl rfl (by kernel_rfl) (fun _ _ => rfl) .none rfl (p_pick_f rfl rfl) ?_
                                    refine d_val1 18 rfl rfl (by kernel_rfl) (fun _ _ => rfl) .none rfl (p_move rfl) ?_
                                    refine d_skip1 19 rfl rfl (by kernel_rfl) (fun _ _ => rfl) rfl (.no rfl rfl) ?_
                                    refine d_val1 20 rfl rfl (by kernel_rfl) (fun _ _ => rfl) .none rfl (p_pick_f rfl rfl) ?_
                                    refine d_val1 21 rfl rfl (by kernel_rfl) (fun _ _ => rfl) .none rfl (p_assign rfl) ?_
                                    refine d_nil (by kernel_rfl) ?_
                                    refine e_next ?_
                                    refine c_ret ?_
                                    refine e_ret1 Try.results9 (.tmp rfl .nil) (fun w hm => ⟨?_, hm.since⟩)
                                    rfl
                                    )
                              )
                        · skip
                          have hx : False := absurd (h_83) (by rw [(seq_iff _ _).2 rfl]; decide)
                          first
                            | (exfalso; first | omega | assumption)
                            | (
                              refine d_skip1 9 rfl rfl (by kernel_rfl) (fun _ _ => rfl) rfl (.no rfl rfl) ?_
                              refine d_skip1 10 rfl rfl (by kernel_rfl) (fun _ _ => rfl) rfl (.no rfl rfl) ?_
                              refine d_val1 11 rfl rfl (by kernel_rfl) (fun _ _ => rfl) .none rfl (p_pick_f rfl rfl) ?_
                              refine d_val1 12 rfl rfl (by kernel_rfl) (fun _ _ => rfl) .none rfl (p_move rfl) ?_
                              refine d_skip1 13 rfl rfl (by kernel_rfl) (fun _ _ => rfl) rfl (.no rfl rfl) ?_
                              refine d_skip1 14 rfl rfl (by kernel_rfl) (fun _ _ => rfl) rfl (.no rfl rfl) ?_
                              refine d_skip1 15 rfl rfl (by kernel_rfl) (fun _ _ => rfl) rfl (.no rfl rfl) ?_
                              refine d_skip1 16 rfl rfl (by kernel_rfl) (fun _ _ => rfl) rfl (.no rfl rfl) ?_
                              refine d_val1 17 rfl rfl (by kernel_rfl) (fun _ _ => rfl) .none rfl (p_pick_f rfl rfl) ?_
                              refine d_val1 18 rfl rfl (by kernel_rfl) (fun _ _ => rfl) .none rfl (p_move rfl) ?_
                              refine d_skip1 19 rfl rfl (by kernel_rfl) (fun _ _ => rfl) rfl (.no rfl rfl) ?_
                              refine d_val1 20 rfl rfl (by kernel_rfl) (fun _ _ => rfl) .none rfl (p_pick_f rfl rfl) ?_
                              refine d_val1 21 rfl rfl (by kernel_rfl) (fun _ _ => rfl) .none rfl (p_assign rfl) ?_
                              refine d_nil (by kernel_rfl) ?_
                              refine e_next ?_
                              refine c_ret ?_
                              refine e_ret1 Try.results9 (.tmp rfl .nil) (fun w hm => ⟨?_, hm.since⟩)
                              rfl
                              )
                        )
                  )
            )
    · skip
      refine r_bslice (vs := [(0, Value.agg #[_, _, _, _, _, _, _, _])]) (c := #[_, _, _, _, _, _, _, _]) .none rfl Try.underlying22 el38 rfl rfl rfl (bs38_10a8 _ _ _ _ _ _ _ _) (IsRow.lit _) (fun b_5 => ?_)
      refine r_nil (e_d (i := 4) (brk := (fun _ => false)) (ph' := true) hKK_3 hcK_3 rfl (fun _ => GLe.refl _) (fun _ => .drop (.drop (.keep (fun _ _ h => h) (.nil)))) ?_)
      clear hKK_3 hcK_3 K_3
      refine d_eff 2 rfl (by kernel_rfl) (fun K_89 hKK_89 hcK_89 => ?_)
      refine r_append_g (k := 1) .none rfl Try.underlying22 el38 rfl (by decide) rfl rfl rfl hr (cv_ones hp) (by simp only [maxLen]; omega) (by omega) (fun v_90 => ?_)
      refine r_row1 (k := 1) rfl (fun o_91 => ?_)
      refine r_nil (e_d (i := 2) (brk := (fun _ => false)) (ph' := true) hKK_89 hcK_89 rfl (fun _ => GLe.refl _) (fun _ => .drop (.drop (.keep (fun _ _ h => h) (.nil)))) ?_)
      clear hKK_89 hcK_89 K_89
      refine d_eff 5 rfl (by kernel_rfl) (fun K_92 hKK_92 hcK_92 => ?_)
      refine r_append (k := 1) (k2 := 0) .none rfl Try.underlying22 el38 rfl (by decide) rfl rfl rfl rfl rfl (one_lit rfl (all_cons rfl (all_cons rfl (all_cons rfl (all_cons rfl (all_cons rfl (all_cons rfl (all_cons rfl (all_cons hone rfl))))))))) (by simp only [maxLen]; omega) (by omega) (fun v_93 => ?_)
      refine r_row1 (k := 1) rfl (fun o_94 => ?_)
      refine r_nil (e_d (i := 5) (brk := (fun _ => false)) (ph' := true) hKK_92 hcK_92 rfl (fun _ => GLe.refl _) (fun _ => .drop (.drop (.keep (fun _ _ h => h) (.nil)))) ?_)
      clear hKK_92 hcK_92 K_92
      refine d_eff 6 rfl (by kernel_rfl) (fun K_95 hKK_95 hcK_95 => ?_)
      refine r_conv (B := rowA v_93 _ 8 (rs ++ [(c, sv)]).length ((rs ++ [(c, sv)]).flatMap cvC)) (k := 1) rfl (fun _ _ h => rowA_congr (by simp) (by rw [List.nil_append, flat_all (cells := cvC) (fun _ => rfl), List.flatMap_append]; rfl) _ _ h) ?_
      refine r_callr (k := 1) (vs := [_]) .none rfl cl11 rfl rfl (fun w G_96 hw hle_97 hs_98 => c_fine6 _ (l ++ [c]) (by have h : Cs _ _ ((rs ++ [(c, sv)]).map Prod.fst) := Tr.mk _ (SlL.of d0 (fun _ => rfl) rfl hs_98) (fun p hm0 => by rcases List.mem_append.1 hm0 with h | h; exact (hp p h).mono hle_97; rw [List.mem_singleton.1 h]; exact (hs2.mono hle_97)); rw [List.map_append, ← hl] at h; exact h) w hw) ?_
      refine r_nil (e_d (i := 6) (brk := (fun _ => false)) (ph' := true) hKK_95 hcK_95 rfl (fun _ => GLe.refl _) (fun _ => .drop (.drop (.keep (fun _ _ h => h) (.nil)))) ?_)
      clear hKK_95 hcK_95 K_95
      refine d_val1 7 rfl rfl (by kernel_rfl) (fun _ _ => rfl) .none rfl (p_not rfl) ?_
      refine d_nil (by kernel_rfl) ?_
      refine e_next ?_
      refine c_splitn (d := 17) rfl (fun h_99 => ?_) (fun h_99 => ?_)
      · skip
        first
          | (exfalso; first | omega | assumption)
          | (
            refine c_cond_t rfl ?_
            refine c_seq ?_
            refine c_region ?_
            refine r_call (vs := []) .none rfl cl20 rfl (fun w hw => c_awake8 w) ?_
            refine r_val .none rfl (p_assign rfl) ?_
            refine r_nil ?_
            refine e_next ?_
            refine c_ret ?_
            refine e_ret_then ?_
            refine e_ret1 Try.results9 (.tmp rfl .nil) (fun w hm => ⟨?_, hm.since⟩)
            rfl
            )
      · skip
        have hf : fineL (l ++ [c]) = true := h_99
        have hfy := fineL_yes hf
        have hza := sizeL_append l [c]
        simp only [sizeL] at hza
        have hll := sizeL_len l
        have hsz : sizeL l ≤ 1000 := by omega
        have hss : sszL (stepsOf [] l) ≤ 5000 := Nat.le_trans (sszL_of l []) (by omega)
        have hz9 : l.length + size c ≤ 1000 := by omega
        first
          | (exfalso; first | omega | assumption)
          | (
            refine c_cond_f rfl ?_
            refine c_skip ?_
            refine e_next ?_
            refine c_seq ?_
            refine c_region ?_
            refine r_val .none rfl (p_move rfl) ?_
            refine r_callf (vs := [_]) .none rfl cl24 rfl (fun _ _ _ hle hz => hz.mono hle) (fun w hw => c_ccomp _ _ hsz hs w hw) (fun G_100 v_103 hn_101 hr_102 => ?_)
            replace hr := hr.mono hn_101.le
            replace hs := hs.mono hn_101.le
            replace hs2 := hs2.mono hn_101.le
            replace hp := fun p hm0 => (hp p hm0).mono hn_101.le
            have u_104 := (hr_102).mono (fr_le _ _)
            have hA8 := u_104
            obtain ⟨as1, ha, hat, hac, hal⟩ := hA8.inv
            have has : as1.length = rs.length := by have h := congrArg List.length hal; rw [stepsOf_len, List.length_map] at h; omega
            refine r_val .none rfl (p_assign rfl) ?_
            refine r_nil ?_
            refine e_next ?_
            refine c_seq ?_
            refine c_seq ?_
            refine c_region ?_
            refine r_val .none rfl (p_move rfl) ?_
            refine r_callm (vs := [_]) .none rfl cl23 rfl (fun w hw => c_srefs _ _ hss hA8 w hw) (fun G_105 v_108 hn_106 hr_107 => ?_)
            replace hr := hr.mono hn_106.le
            replace hs := hs.mono hn_106.le
            replace hs2 := hs2.mono hn_106.le
            replace hp := fun p hm0 => (hp p hm0).mono hn_106.le
            replace u_104 := u_104.mono hn_106.le
            replace hA8 := hA8.mono hn_106.le
            replace ha := ha.mono hn_106.le
            replace hat := fun p hm0 => (hat p hm0).mono hn_106.le
            replace hac := fun p hm0 => (hac p hm0).mono hn_106.le
            have u_109 := hr_107
            refine r_val .none rfl (p_move rfl) ?_
            refine r_callm (vs := [_]) .none rfl cl15 rfl (fun w hw => c_lref _ _ hsz hs w hw) (fun G_110 v_113 hn_111 hr_112 => ?_)
            replace hr := hr.mono hn_111.le
            replace hs := hs.mono hn_111.le
            replace hs2 := hs2.mono hn_111.le
            replace hp := fun p hm0 => (hp p hm0).mono hn_111.le
            replace u_104 := u_104.mono hn_111.le
            replace hA8 := hA8.mono hn_111.le
            replace ha := ha.mono hn_111.le
            replace hat := fun p hm0 => (hat p hm0).mono hn_111.le
            replace hac := fun p hm0 => (hac p hm0).mono hn_111.le
            replace u_109 := u_109.mono hn_111.le
            have u_114 := hr_112
            refine r_callm (vs := [_]) .none rfl cl25 rfl (fun w hw => c_compile _ _ hsz u_114 w hw) (fun G_115 v_118 hn_116 hr_117 => ?_)
            replace hr := hr.mono hn_116.le
            replace hs := hs.mono hn_116.le
            replace hs2 := hs2.mono hn_116.le
            replace hp := fun p hm0 => (hp p hm0).mono hn_116.le
            replace u_104 := u_104.mono hn_116.le
            replace hA8 := hA8.mono hn_116.le
            replace ha := ha.mono hn_116.le
            replace hat := fun p hm0 => (hat p hm0).mono hn_116.le
            replace hac := fun p hm0 => (hac p hm0).mono hn_116.le
            replace u_109 := u_109.mono hn_116.le
            replace u_114 := u_114.mono hn_116.le
            have u_119 := hr_117
            refine r_call (vs := [_, _]) .none rfl cl22 rfl (fun w hw => c_all8 _ _ _ _ u_109 u_119 w hw) ?_
            refine r_val .none rfl (p_not rfl) ?_
            refine r_nil ?_
            refine e_next ?_
            refine c_splitn (d := 27) rfl (fun h_120 => ?_) (fun h_120 => ?_)
            · skip
              have hx : False := absurd (h_120) (by rw [(seqL_iff _ _).2 rfl]; decide)
              first
                | (exfalso; first | omega | assumption)
                | (
                  refine c_cond_t rfl ?_
                  refine c_seq ?_
                  refine c_region ?_
                  refine r_val .none rfl (p_assign rfl) ?_
                  refine r_nil ?_
                  refine e_next ?_
                  refine c_ret ?_
                  refine e_ret_then ?_
                  refine e_ret1 Try.results9 (.tmp rfl .nil) (fun w hm => ⟨?_, hm.since⟩)
                  rfl
                  )
            · skip
              first
                | (exfalso; first | omega | assumption)
                | (
                  refine c_cond_f rfl ?_
                  refine c_skip ?_
                  refine e_next ?_
                  refine c_seq ?_
                  refine c_region ?_
                  refine r_val .none rfl (p_assign rfl) ?_
                  refine r_nil ?_
                  refine e_next ?_
                  refine c_seq ?_
                  refine c_seq ?_
                  refine c_region ?_
                  refine r_val .none rfl (p_move rfl) ?_
                  refine r_val .none rfl (p_leng Try.underlying50 rfl ha) ?_
                  have bd_121 := (ha).bound
                  refine r_val .none rfl (p_move rfl) ?_
                  refine r_nil ?_
                  refine e_next ?_
                  refine c_block ?_
                  refine c_name (d := 0) rfl (fun u_122 hu_122 => ?_)
                  refine c_name (d := 3) rfl (fun u_123 hu_123 => ?_)
                  refine c_name (d := 5) rfl (fun u_124 hu_124 => ?_)
                  refine c_name (d := 28) rfl (fun u_125 hu_125 => ?_)
                  refine c_name (d := 29) rfl (fun u_126 hu_126 => ?_)
                  refine c_nameL (k := 0) rfl (fun A_127 hA_127 => ?_)
                  refine c_nameL (k := 1) rfl (fun A_128 hA_128 => ?_)
                  refine c_nameL (k := 2) rfl (fun A_129 hA_129 => ?_)
                  refine c_loop (σ := Nat) (fun k => [(30, Value.int .i64 (k : Nat)), (6, Value.int .i64 (posS ((as1.map Prod.fst).take k) : Nat)), (0, u_122), (3, u_123), (5, u_124), (28, u_125), (29, u_126)]) (fun k => [A_127, A_128, A_129]) (fun _ => _) (fun k => k ≤ as1.length) (fun k => as1.length - k) (0) (Nat.zero_le _) rfl ⟨rfl, rfl, rfl, rfl, rfl, rfl, rfl, trivial⟩ (.keep (fun _ _ h => h) (.keep (fun _ _ h => h) (.keep (fun _ _ h => h) (.nil)))) (fun k hphi => ?_)
                  subst hu_122
                  subst hu_123
                  subst hu_124
                  subst hu_125
                  subst hu_126
                  subst hA_127
                  subst hA_128
                  subst hA_129
                  have hpl : posS ((as1.map Prod.fst).take k) ≤ k := Nat.le_trans (posS_le _) (by simp; omega)
                  refine c_seq ?_
                  refine c_region ?_
                  refine r_val .none rfl (p_lt rfl rfl) ?_
                  refine r_nil ?_
                  refine e_next ?_
                  refine c_seq ?_
                  refine c_splitd (d := 31) rfl (fun h_130 => ?_) (fun h_130 => ?_)
                  · skip
                    first
                      | (exfalso; first | omega | assumption)
                      | (
                        refine c_cond_t rfl ?_
                        refine c_skip ?_
                        refine e_next ?_
                        refine c_seq ?_
                        refine c_block ?_
                        refine c_seq ?_
                        refine c_region ?_
                        refine r_iaddr_g .none rfl Try.underlying50 sz64 rfl ha rfl (by first | exact of_decide_eq_true rfl | omega) (fun p_132 o_133 R_131 => ?_)
                        have ht_134 := hat _ (getD_mem (i := k) (d := s0) (by omega))
                        have hc_135 := hac _ (getD_mem (i := k) (d := s0) (by omega))
                        refine r_val .none rfl (p_ldga0 Try.underlying64 rfl sz64 rfl R_131 (by first | exact of_decide_eq_true rfl | omega) (rfl : _ = Value.agg #[_, _, _, _, _, _])) ?_
                        refine r_alloc .none rfl zr64 (IsRow.lit _) (fun b_6 => ?_)
                        refine r_stw (k := 0) .none sz64 rfl rfl (IsRow.lit _) (one_lit rfl (all_cons rfl (all_cons rfl (all_cons rfl (all_cons rfl (all_cons (ht_134).one (all_cons (hc_135).one rfl))))))) rfl ?_
                        refine r_nil ?_
                        refine e_next ?_
                        refine c_seq ?_
                        refine c_seq ?_
                        refine c_region ?_
                        refine r_val .none rfl (p_ldw (k := 0) Try.underlying64 rfl sz64 rfl rfl (rfl : _ = Value.agg #[_, _, _, _, _, _])) ?_
                        have e1 : (as1.getD k s0).1 = stepOf ((rs.map Prod.fst).take k) (rs.getD k d0).1 := by rw [sv_getD hal, hl, steps_at (by omega)]; rfl
                        have q1 := sizeL_take (rs := rs) (k := k) (by omega)
                        have q2 : sizeL ((rs.map Prod.fst).take (k + 1)) ≤ sizeL l := by rw [hl]; exact sizeL_take_le _ _
                        have q3 := sizeL_len ((rs.map Prod.fst).take k)
                        have hrt : (cR (as1.getD k s0).1 1 0).1 = true := by rw [e1]; exact right_of (hfy.1 _ (by rw [hl]; exact List.mem_append_left _ (List.mem_map.2 ⟨_, getD_mem (i := k) (d := d0) (by omega), rfl⟩))) (by omega)
                        refine r_call (vs := [_]) .none rfl cl31 rfl (fun w hw => c_cRight (as1.getD k s0).1 _ _ ht_134 hc_135 w hw) ?_
                        refine r_val .none rfl (p_not rfl) ?_
                        refine r_nil ?_
                        refine e_next ?_
                        refine c_splitn (d := 36) rfl (fun h_136 => ?_) (fun h_136 => ?_)
                        · skip
                          have hx : False := absurd (h_136) (by rw [hrt]; decide)
                          first
                            | (exfalso; first | omega | assumption)
                            | (
                              refine c_cond_t rfl ?_
                              refine c_seq ?_
                              refine c_region ?_
                              refine r_val .none rfl (p_assign rfl) ?_
                              refine r_nil ?_
                              refine e_next ?_
                              refine c_ret ?_
                              refine e_ret_then ?_
                              refine e_ret_block ?_
                              refine e_ret_then ?_
                              refine e_ret_then ?_
                              refine e_ret_block ?_
                              refine e_ret_then ?_
                              refine e_ret1 Try.results9 (.tmp rfl .nil) (fun w hm => ⟨?_, hm.since⟩)
                              rfl
                              )
                        · skip
                          first
                            | (exfalso; first | omega | assumption)
                            | (
                              refine c_cond_f rfl ?_
                              refine c_skip ?_
                              refine e_next ?_
                              refine c_seq ?_
                              refine c_region ?_
                              refine r_val .none rfl (p_field Try.underlying64 rfl sz3 rfl) ?_
                              refine r_val .none rfl (p_ld (k := 0) Try.underlying3 rfl rfl rfl (by first | exact of_decide_eq_true rfl | omega) (rfl : _ = Value.int _ _)) ?_
                              refine r_val .none rfl (p_eq rfl rfl) ?_
                              refine r_nil ?_
                              refine e_next ?_
                              refine c_splitd (d := 39) rfl (fun h_137 => ?_) (fun h_137 => ?_)
                              · skip
                                have hk1 := h_137
                                first
                                  | (exfalso; first | omega | assumption)
                                  | (
                                    refine c_cond_t rfl ?_
                                    refine c_region ?_
                                    refine r_val .none rfl (p_move rfl) ?_
                                    refine r_val .none rfl (p_add rfl rfl (by omega)) ?_
                                    refine r_val .none rfl (p_assign rfl) ?_
                                    refine r_nil ?_
                                    refine e_norm_block ?_
                                    refine e_next ?_
                                    refine c_region ?_
                                    refine r_val .none rfl (p_add rfl rfl (by omega)) ?_
                                    refine r_val .none rfl (p_move rfl) ?_
                                    refine r_nil ?_
                                    refine e_round (k + 1) ⟨by omega, by omega⟩ rfl ⟨rfl, (congrArg (fun z => some (Value.int .i64 z)) (by rw [posS_take (by omega)]; first | (rw [if_pos hk1]; omega) | (rw [if_neg hk1]; omega))), rfl, rfl, rfl, rfl, rfl, trivial⟩ (.drop (.keep (fun _ _ h => h) (.keep (fun _ _ h => h) (.keep (fun _ _ h => h) (.nil)))))
                                    )
                              · skip
                                have hk1 := h_137
                                first
                                  | (exfalso; first | omega | assumption)
                                  | (
                                    refine c_cond_f rfl ?_
                                    refine c_skip ?_
                                    refine e_norm_block ?_
                                    refine e_next ?_
                                    refine c_region ?_
                                    refine r_val .none rfl (p_add rfl rfl (by omega)) ?_
                                    refine r_val .none rfl (p_move rfl) ?_
                                    refine r_nil ?_
                                    refine e_round (k + 1) ⟨by omega, by omega⟩ rfl ⟨rfl, (congrArg (fun z => some (Value.int .i64 z)) (by rw [posS_take (by omega)]; first | (rw [if_pos hk1]; omega) | (rw [if_neg hk1]; omega))), rfl, rfl, rfl, rfl, rfl, trivial⟩ (.drop (.keep (fun _ _ h => h) (.keep (fun _ _ h => h) (.keep (fun _ _ h => h) (.nil)))))
                                    )
                              )
                        )
                  · skip
                    first
                      | (exfalso; first | omega | assumption)
                      | (
                        refine c_cond_f rfl ?_
                        refine c_exit ?_
                        refine e_exit_then ?_
                        refine e_exit_then ?_
                        refine e_exit_block ?_
                        refine e_next ?_
                        refine c_seq ?_
                        refine c_region ?_
                        refine r_val .none rfl (p_move rfl) ?_
                        refine r_val .none rfl (p_ldw (k := 2) Try.underlying38 rfl sz38 rfl rfl (rfl : _ = Value.agg #[_, _, _, _, _, _, _, _])) ?_
                        refine r_callf (vs := [_, _]) .none rfl cl30 rfl (fun _ _ _ hle hz => by obtain ⟨ua, ub, h1, h2, h3⟩ := hz; exact ⟨ua, ub, h1, h2.mono hle, h3.mono hle⟩) (fun w hw => c_cstep c sv _ l hz9 hs2 hs w hw) (fun G_138 v_141 hn_139 hr_140 => ?_)
                        replace hr := hr.mono hn_139.le
                        replace hs := hs.mono hn_139.le
                        replace hs2 := hs2.mono hn_139.le
                        replace hp := fun p hm0 => (hp p hm0).mono hn_139.le
                        replace u_104 := u_104.mono hn_139.le
                        replace hA8 := hA8.mono hn_139.le
                        replace ha := ha.mono hn_139.le
                        replace hat := fun p hm0 => (hat p hm0).mono hn_139.le
                        replace hac := fun p hm0 => (hac p hm0).mono hn_139.le
                        replace u_109 := u_109.mono hn_139.le
                        replace u_114 := u_114.mono hn_139.le
                        replace u_119 := u_119.mono hn_139.le
                        obtain ⟨u_142a, u_142b, rfl, u_142s, u_142t⟩ := hr_140
                        replace u_142s := u_142s.mono (fr_le _ _)
                        replace u_142t := u_142t.mono (fr_le _ _)
                        refine r_alloc .none rfl zr64 (IsRow.lit _) (fun b_7 => ?_)
                        refine r_stw (k := 0) .none sz64 rfl rfl (IsRow.lit _) (one_lit rfl (all_cons rfl (all_cons rfl (all_cons rfl (all_cons rfl (all_cons (u_142s).one (all_cons (u_142t).one rfl))))))) rfl ?_
                        refine r_nil ?_
                        refine e_next ?_
                        refine c_seq ?_
                        refine c_region_d (fun _ => false) _ mixed (.keep (fun _ _ h => h) (.keep (fun _ _ h => h) (.keep (fun _ _ h => h) (.keep (fun _ _ h => h) (.nil))))) ?_
                        refine d_val1 0 rfl rfl (by kernel_rfl) (fun _ _ => rfl) .none rfl (p_ldw (k := 0) Try.underlying64 rfl sz64 rfl rfl (rfl : _ = Value.agg #[_, _, _, _, _, _])) ?_
                        refine d_val1 2 rfl rfl (by kernel_rfl) (fun _ _ => rfl) .none rfl (p_move rfl) ?_
                        refine d_val1 4 rfl rfl (by kernel_rfl) (fun _ _ => rfl) .none rfl (p_ldw (k := 3) Try.underlying38 rfl sz38 rfl rfl (rfl : _ = Value.agg #[_, _, _, _, _, _, _, _])) ?_
                        refine d_eff 1 rfl (by kernel_rfl) (fun K_143 hKK_143 hcK_143 => ?_)
                        refine r_callm (vs := [_]) .none rfl cl33 rfl (fun w hw => c_sref _ _ _ (Nat.le_trans (ssz_of c l) (by omega)) u_142s u_142t w hw) (fun G_144 v_147 hn_145 hr_146 => ?_)
                        replace hr := hr.mono hn_145.le
                        replace hs := hs.mono hn_145.le
                        replace hs2 := hs2.mono hn_145.le
                        replace hp := fun p hm0 => (hp p hm0).mono hn_145.le
                        replace u_104 := u_104.mono hn_145.le
                        replace hA8 := hA8.mono hn_145.le
                        replace ha := ha.mono hn_145.le
                        replace hat := fun p hm0 => (hat p hm0).mono hn_145.le
                        replace hac := fun p hm0 => (hac p hm0).mono hn_145.le
                        replace u_109 := u_109.mono hn_145.le
                        replace u_114 := u_114.mono hn_145.le
                        replace u_119 := u_119.mono hn_145.le
                        replace u_142s := u_142s.mono hn_145.le
                        replace u_142t := u_142t.mono hn_145.le
                        obtain ⟨u_148a, u_148b, rfl, u_148s, u_148t⟩ := hr_146
                        refine r_nil (e_d (i := 1) (brk := (fun _ => false)) (ph' := true) hKK_143 hcK_143 rfl (fun _ => hn_145.le) (fun _ => .keep (fun _ _ h => h) (.keep (fun _ _ h => h) (.keep (fun _ _ h => h) (.keep (fun _ _ h => h) (.nil))))) ?_)
                        clear hKK_143 hcK_143 K_143
                        refine d_eff 3 rfl (by kernel_rfl) (fun K_149 hKK_149 hcK_149 => ?_)
                        refine r_callm (vs := [_]) .none rfl cl15 rfl (fun w hw => c_lref _ _ hsz hs w hw) (fun G_150 v_153 hn_151 hr_152 => ?_)
                        replace hr := hr.mono hn_151.le
                        replace hs := hs.mono hn_151.le
                        replace hs2 := hs2.mono hn_151.le
                        replace hp := fun p hm0 => (hp p hm0).mono hn_151.le
                        replace u_104 := u_104.mono hn_151.le
                        replace hA8 := hA8.mono hn_151.le
                        replace ha := ha.mono hn_151.le
                        replace hat := fun p hm0 => (hat p hm0).mono hn_151.le
                        replace hac := fun p hm0 => (hac p hm0).mono hn_151.le
                        replace u_109 := u_109.mono hn_151.le
                        replace u_114 := u_114.mono hn_151.le
                        replace u_119 := u_119.mono hn_151.le
                        replace u_142s := u_142s.mono hn_151.le
                        replace u_142t := u_142t.mono hn_151.le
                        replace u_148s := u_148s.mono hn_151.le
                        replace u_148t := u_148t.mono hn_151.le
                        have u_154 := hr_152
                        refine r_nil (e_d (i := 3) (brk := (fun _ => false)) (ph' := true) hKK_149 hcK_149 rfl (fun _ => (hn_145.trans hn_151).le) (fun _ => .keep (fun _ _ h => h) (.keep (fun _ _ h => h) (.keep (fun _ _ h => h) (.keep (fun _ _ h => h) (.nil))))) ?_)
                        clear hKK_149 hcK_149 K_149
                        refine d_eff 5 rfl (by kernel_rfl) (fun K_155 hKK_155 hcK_155 => ?_)
                        refine r_callm (vs := [_]) .none rfl cl19 rfl (fun w hw => c_ref4 c sv (by omega) hs2 w hw) (fun G_156 v_159 hn_157 hr_158 => ?_)
                        replace hr := hr.mono hn_157.le
                        replace hs := hs.mono hn_157.le
                        replace hs2 := hs2.mono hn_157.le
                        replace hp := fun p hm0 => (hp p hm0).mono hn_157.le
                        replace u_104 := u_104.mono hn_157.le
                        replace hA8 := hA8.mono hn_157.le
                        replace ha := ha.mono hn_157.le
                        replace hat := fun p hm0 => (hat p hm0).mono hn_157.le
                        replace hac := fun p hm0 => (hac p hm0).mono hn_157.le
                        replace u_109 := u_109.mono hn_157.le
                        replace u_114 := u_114.mono hn_157.le
                        replace u_119 := u_119.mono hn_157.le
                        replace u_142s := u_142s.mono hn_157.le
                        replace u_142t := u_142t.mono hn_157.le
                        replace u_148s := u_148s.mono hn_157.le
                        replace u_148t := u_148t.mono hn_157.le
                        replace u_154 := u_154.mono hn_157.le
                        obtain ⟨u_160, rfl, u_160s⟩ := hr_158
                        refine r_nil (e_d (i := 5) (brk := (fun _ => false)) (ph' := true) hKK_155 hcK_155 rfl (fun _ => ((hn_145.trans hn_151).trans hn_157).le) (fun _ => .keep (fun _ _ h => h) (.keep (fun _ _ h => h) (.keep (fun _ _ h => h) (.keep (fun _ _ h => h) (.nil))))) ?_)
                        clear hKK_155 hcK_155 K_155
                        refine d_eff 6 rfl (by kernel_rfl) (fun K_161 hKK_161 hcK_161 => ?_)
                        refine r_callm (vs := [_, _]) .none rfl cl34 rfl (fun w hw => c_of c _ _ l (by omega) u_160s u_154 w hw) (fun G_162 v_165 hn_163 hr_164 => ?_)
                        replace hr := hr.mono hn_163.le
                        replace hs := hs.mono hn_163.le
                        replace hs2 := hs2.mono hn_163.le
                        replace hp := fun p hm0 => (hp p hm0).mono hn_163.le
                        replace u_104 := u_104.mono hn_163.le
                        replace hA8 := hA8.mono hn_163.le
                        replace ha := ha.mono hn_163.le
                        replace hat := fun p hm0 => (hat p hm0).mono hn_163.le
                        replace hac := fun p hm0 => (hac p hm0).mono hn_163.le
                        replace u_109 := u_109.mono hn_163.le
                        replace u_114 := u_114.mono hn_163.le
                        replace u_119 := u_119.mono hn_163.le
                        replace u_142s := u_142s.mono hn_163.le
                        replace u_142t := u_142t.mono hn_163.le
                        replace u_148s := u_148s.mono hn_163.le
                        replace u_148t := u_148t.mono hn_163.le
                        replace u_154 := u_154.mono hn_163.le
                        replace u_160s := u_160s.mono hn_163.le
                        obtain ⟨u_166a, u_166b, rfl, u_166s, u_166t⟩ := hr_164
                        refine r_nil (e_d (i := 6) (brk := (fun _ => false)) (ph' := true) hKK_161 hcK_161 rfl (fun _ => (((hn_145.trans hn_151).trans hn_157).trans hn_163).le) (fun _ => .keep (fun _ _ h => h) (.keep (fun _ _ h => h) (.keep (fun _ _ h => h) (.keep (fun _ _ h => h) (.nil))))) ?_)
                        clear hKK_161 hcK_161 K_161
                        refine d_eff 7 rfl (by kernel_rfl) (fun K_167 hKK_167 hcK_167 => ?_)
                        refine r_call (vs := [_, _]) .none rfl cl32 rfl (fun w hw => c_rsameS _ _ _ _ _ _ u_148s u_148t u_166s u_166t w hw) ?_
                        refine r_nil (e_d (i := 7) (brk := (fun _ => false)) (ph' := true) hKK_167 hcK_167 rfl (fun _ => (((hn_145.trans hn_151).trans hn_157).trans hn_163).le) (fun _ => .keep (fun _ _ h => h) (.keep (fun _ _ h => h) (.keep (fun _ _ h => h) (.keep (fun _ _ h => h) (.nil))))) ?_)
                        clear hKK_167 hcK_167 K_167
                        refine d_val1 8 rfl rfl (by kernel_rfl) (fun _ _ => rfl) .none rfl (p_move rfl) ?_
                        refine d_split (d := 54) rfl (fun h_168 => ?_) (fun h_168 => ?_)
                        · skip
                          first
                            | (exfalso; first | omega | assumption)
                            | (
                              refine d_val1 9 rfl rfl (by kernel_rfl) (fun _ _ => rfl) (.some rfl rfl) rfl (p_ldw (k := 0) Try.underlying64 rfl sz64 rfl rfl (rfl : _ = Value.agg #[_, _, _, _, _, _])) ?_
                              refine d_eff 10 rfl (by kernel_rfl) (fun K_169 hKK_169 hcK_169 => ?_)
                              refine r_call (vs := [_]) (.some rfl rfl) rfl cl31 rfl (fun w hw => c_cRight _ _ _ u_142s u_142t w hw) ?_
                              refine r_nil (e_d (i := 10) (brk := (fun _ => false)) (ph' := true) hKK_169 hcK_169 rfl (fun _ => (((hn_145.trans hn_151).trans hn_157).trans hn_163).le) (fun _ => .keep (fun _ _ h => h) (.keep (fun _ _ h => h) (.keep (fun _ _ h => h) (.keep (fun _ _ h => h) (.nil))))) ?_)
                              clear hKK_169 hcK_169 K_169
                              refine d_val1 11 rfl rfl (by kernel_rfl) (fun _ _ => rfl) .none rfl (p_pick_t rfl rfl) ?_
                              refine d_val1 12 rfl rfl (by kernel_rfl) (fun _ _ => rfl) .none rfl (p_move rfl) ?_
                              refine d_split (d := 58) rfl (fun h_170 => ?_) (fun h_170 => ?_)
                              · skip
                                first
                                  | (exfalso; first | omega | assumption)
                                  | (
                                    refine d_val1 13 rfl rfl (by kernel_rfl) (fun _ _ => rfl) (.some rfl rfl) rfl (p_move rfl) ?_
                                    refine d_val1 15 rfl rfl (by kernel_rfl) (fun _ _ => rfl) (.some rfl rfl) rfl (p_move rfl) ?_
                                    refine d_eff 14 rfl (by kernel_rfl) (fun K_171 hKK_171 hcK_171 => ?_)
                                    refine r_call (vs := [_]) (.some rfl rfl) rfl cl35 rfl (fun w hw => c_back _ _ hA8 w hw) ?_
                                    refine r_nil (e_d (i := 14) (brk := (fun _ => false)) (ph' := true) hKK_171 hcK_171 rfl (fun _ => (((hn_145.trans hn_151).trans hn_157).trans hn_163).le) (fun _ => .keep (fun _ _ h => h) (.keep (fun _ _ h => h) (.keep (fun _ _ h => h) (.keep (fun _ _ h => h) (.nil))))) ?_)
                                    clear hKK_171 hcK_171 K_171
                                    refine d_val1 16 rfl rfl (by kernel_rfl) (fun _ _ => rfl) (.some rfl rfl) rfl (p_eq rfl rfl) ?_
                                    refine d_val1 17 rfl rfl (by kernel_rfl) (fun _ _ => rfl) .none rfl (p_pick_t rfl rfl) ?_
                                    refine d_val1 18 rfl rfl (by kernel_rfl) (fun _ _ => rfl) .none rfl (p_move rfl) ?_
                                    refine d_splitd (d := 64) rfl (fun h_172 => ?_) (fun h_172 => ?_)
                                    · skip
                                      first
                                        | (exfalso; first | omega | assumption)
                                        | (
                                          refine d_eff 19 rfl (by kernel_rfl) (fun K_173 hKK_173 hcK_173 => ?_)
                                          refine r_call (vs := []) (.some rfl rfl) rfl cl20 rfl (fun w hw => c_awake8 w) ?_
                                          refine r_nil (e_d (i := 19) (brk := (fun _ => false)) (ph' := true) hKK_173 hcK_173 rfl (fun _ => (((hn_145.trans hn_151).trans hn_157).trans hn_163).le) (fun _ => .keep (fun _ _ h => h) (.keep (fun _ _ h => h) (.keep (fun _ _ h => h) (.keep (fun _ _ h => h) (.nil))))) ?_)
                                          clear hKK_173 hcK_173 K_173
                                          refine d_val1 20 rfl rfl (by kernel_rfl) (fun _ _ => rfl) .none rfl (p_pick_t rfl rfl) ?_
                                          refine d_val1 21 rfl rfl (by kernel_rfl) (fun _ _ => rfl) .none rfl (p_assign rfl) ?_
                                          refine d_nil (by kernel_rfl) ?_
                                          refine e_next ?_
                                          refine c_ret ?_
                                          refine e_ret1 Try.results9 (.tmp rfl .nil) (fun w hm => ⟨?_, hm.since⟩)
                                          rfl
                                          )
                                    · skip
                                      have hx : False := by (have hpp : posS (stepsOf [] l) = posS ((as1.map Prod.fst).take k) := by rw [hal, List.take_of_length_le (by simp; omega)]); omega
                                      first
                                        | (exfalso; first | omega | assumption)
                                        | (
                                          refine d_skip1 19 rfl rfl (by kernel_rfl) (fun _ _ => rfl) rfl (.no rfl rfl) ?_
                                          refine d_val1 20 rfl rfl (by kernel_rfl) (fun _ _ => rfl) .none rfl (p_pick_f rfl rfl) ?_
                                          refine d_val1 21 rfl rfl (by kernel_rfl) (fun _ _ => rfl) .none rfl (p_assign rfl) ?_
                                          refine d_nil (by kernel_rfl) ?_
                                          refine e_next ?_
                                          refine c_ret ?_
                                          refine e_ret1 Try.results9 (.tmp rfl .nil) (fun w hm => ⟨?_, hm.since⟩)
                                          rfl
                                          )
                                    )
                              · skip
                                have hx : False := absurd (h_170) (by rw [right_of (hfy.1 c (by simp)) (by omega)]; decide)
                                first
                                  | (exfalso; first | omega | assumption)
                                  | (
                                    refine d_skip1 13 rfl rfl (by kernel_rfl) (fun _ _ => rfl) rfl (.no rfl rfl) ?_
                                    refine d_skip1 14 rfl rfl (by kernel_rfl) (fun _ _ => rfl) rfl (.no rfl rfl) ?_
                                    refine d_skip1 15 rfl rfl (by kernel_rfl) (fun _ _ => rfl) rfl (.no rfl rfl) ?_
                                    refine d_skip1 16 rfl rfl (by kernel_rfl) (fun _ _ => rfl) rfl (.no rfl rfl) ?_
                                    refine d_val1 17 rfl rfl (by kernel_rfl) (fun _ _ => rfl) .none rfl (p_pick_f rfl rfl) ?_
                                    refine d_val1 18 rfl rfl (by kernel_rfl) (fun _ _ => rfl) .none rfl (p_move rfl) ?_
                                    refine d_skip1 19 rfl rfl (by kernel_rfl) (fun _ _ => rfl) rfl (.no rfl rfl) ?_
                                    refine d_val1 20 rfl rfl (by kernel_rfl) (fun _ _ => rfl) .none rfl (p_pick_f rfl rfl) ?_
                                    refine d_val1 21 rfl rfl (by kernel_rfl) (fun _ _ => rfl) .none rfl (p_assign rfl) ?_
                                    refine d_nil (by kernel_rfl) ?_
                                    refine e_next ?_
                                    refine c_ret ?_
                                    refine e_ret1 Try.results9 (.tmp rfl .nil) (fun w hm => ⟨?_, hm.since⟩)
                                    rfl
                                    )
                              )
                        · skip
                          have hx : False := absurd (h_168) (by rw [(seq_iff _ _).2 rfl]; decide)
                          first
                            | (exfalso; first | omega | assumption)
                            | (
                              refine d_skip1 9 rfl rfl (by kernel_rfl) (fun _ _ => rfl) rfl (.no rfl rfl) ?_
                              refine d_skip1 10 rfl rfl (by kernel_rfl) (fun _ _ => rfl) rfl (.no rfl rfl) ?_
                              refine d_val1 11 rfl rfl (by kernel_rfl) (fun _ _ => rfl) .none rfl (p_pick_f rfl rfl) ?_
                              refine d_val1 12 rfl rfl (by kernel_rfl) (fun _ _ => rfl) .none rfl (p_move rfl) ?_
                              refine d_skip1 13 rfl rfl (by kernel_rfl) (fun _ _ => rfl) rfl (.no rfl rfl) ?_
                              refine d_skip1 14 rfl rfl (by kernel_rfl) (fun _ _ => rfl) rfl (.no rfl rfl) ?_
                              refine d_skip1 15 rfl rfl (by kernel_rfl) (fun _ _ => rfl) rfl (.no rfl rfl) ?_
                              refine d_skip1 16 rfl rfl (by kernel_rfl) (fun _ _ => rfl) rfl (.no rfl rfl) ?_
                              refine d_val1 17 rfl rfl (by kernel_rfl) (fun _ _ => rfl) .none rfl (p_pick_f rfl rfl) ?_
                              refine d_val1 18 rfl rfl (by kernel_rfl) (fun _ _ => rfl) .none rfl (p_move rfl) ?_
                              refine d_skip1 19 rfl rfl (by kernel_rfl) (fun _ _ => rfl) rfl (.no rfl rfl) ?_
                              refine d_val1 20 rfl rfl (by kernel_rfl) (fun _ _ => rfl) .none rfl (p_pick_f rfl rfl) ?_
                              refine d_val1 21 rfl rfl (by kernel_rfl) (fun _ _ => rfl) .none rfl (p_assign rfl) ?_
                              refine d_nil (by kernel_rfl) ?_
                              refine e_next ?_
                              refine c_ret ?_
                              refine e_ret1 Try.results9 (.tmp rfl .nil) (fun w hm => ⟨?_, hm.since⟩)
                              rfl
                              )
                        )
                  )
            )
  · skip
    refine r_bslice (vs := [(0, Value.agg #[_, _, _, _, _, _, _, _])]) (c := #[_, _, _, _, _, _, _, _]) .none rfl Try.underlying22 el38 rfl rfl rfl (bs38_10a8 _ _ _ _ _ _ _ _) (IsRow.lit _) (fun b_8 => ?_)
    refine r_nil (e_d (i := 4) (brk := (fun _ => false)) (ph' := true) hKK_1 hcK_1 rfl (fun _ => GLe.refl _) (fun _ => .drop (.keep (fun _ _ h => h) (.nil))) ?_)
    clear hKK_1 hcK_1 K_1
    refine d_eff 0 rfl (by kernel_rfl) (fun K_174 hKK_174 hcK_174 => ?_)
    refine r_bslice0 .none rfl Try.underlying22 el38 (fun v_175 => ?_)
    refine r_nil (e_d (i := 0) (brk := (fun _ => false)) (ph' := true) hKK_174 hcK_174 rfl (fun _ => GLe.refl _) (fun _ => .drop (.drop (.keep (fun _ _ h => h) (.nil)))) ?_)
    clear hKK_174 hcK_174 K_174
    refine d_eff 2 rfl (by kernel_rfl) (fun K_176 hKK_176 hcK_176 => ?_)
    refine r_append_g (k := 0) .none rfl Try.underlying22 el38 rfl (by decide) rfl rfl rfl hr (cv_ones hp) (by simp only [maxLen]; omega) (by omega) (fun v_177 => ?_)
    refine r_row1 (k := 0) rfl (fun o_178 => ?_)
    refine r_nil (e_d (i := 2) (brk := (fun _ => false)) (ph' := true) hKK_176 hcK_176 rfl (fun _ => GLe.refl _) (fun _ => .drop (.drop (.keep (fun _ _ h => h) (.nil)))) ?_)
    clear hKK_176 hcK_176 K_176
    refine d_eff 5 rfl (by kernel_rfl) (fun K_179 hKK_179 hcK_179 => ?_)
    refine r_append (k := 0) (k2 := 1) .none rfl Try.underlying22 el38 rfl (by decide) rfl rfl rfl rfl rfl (one_lit rfl (all_cons rfl (all_cons rfl (all_cons rfl (all_cons rfl (all_cons rfl (all_cons rfl (all_cons rfl (all_cons hone rfl))))))))) (by simp only [maxLen]; omega) (by omega) (fun v_180 => ?_)
    refine r_row1 (k := 0) rfl (fun o_181 => ?_)
    refine r_nil (e_d (i := 5) (brk := (fun _ => false)) (ph' := true) hKK_179 hcK_179 rfl (fun _ => GLe.refl _) (fun _ => .drop (.drop (.keep (fun _ _ h => h) (.nil)))) ?_)
    clear hKK_179 hcK_179 K_179
    refine d_eff 6 rfl (by kernel_rfl) (fun K_182 hKK_182 hcK_182 => ?_)
    refine r_conv (B := rowA v_180 _ 8 (rs ++ [(c, sv)]).length ((rs ++ [(c, sv)]).flatMap cvC)) (k := 0) rfl (fun _ _ h => rowA_congr (by simp) (by rw [List.nil_append, flat_all (cells := cvC) (fun _ => rfl), List.flatMap_append]; rfl) _ _ h) ?_
    refine r_callr (k := 0) (vs := [_]) .none rfl cl11 rfl rfl (fun w G_183 hw hle_184 hs_185 => c_fine6 _ (l ++ [c]) (by have h : Cs _ _ ((rs ++ [(c, sv)]).map Prod.fst) := Tr.mk _ (SlL.of d0 (fun _ => rfl) rfl hs_185) (fun p hm0 => by rcases List.mem_append.1 hm0 with h | h; exact (hp p h).mono hle_184; rw [List.mem_singleton.1 h]; exact (hs2.mono hle_184)); rw [List.map_append, ← hl] at h; exact h) w hw) ?_
    refine r_nil (e_d (i := 6) (brk := (fun _ => false)) (ph' := true) hKK_182 hcK_182 rfl (fun _ => GLe.refl _) (fun _ => .drop (.drop (.keep (fun _ _ h => h) (.nil)))) ?_)
    clear hKK_182 hcK_182 K_182
    refine d_val1 7 rfl rfl (by kernel_rfl) (fun _ _ => rfl) .none rfl (p_not rfl) ?_
    refine d_nil (by kernel_rfl) ?_
    refine e_next ?_
    refine c_splitn (d := 17) rfl (fun h_186 => ?_) (fun h_186 => ?_)
    · skip
      first
        | (exfalso; first | omega | assumption)
        | (
          refine c_cond_t rfl ?_
          refine c_seq ?_
          refine c_region ?_
          refine r_call (vs := []) .none rfl cl20 rfl (fun w hw => c_awake8 w) ?_
          refine r_val .none rfl (p_assign rfl) ?_
          refine r_nil ?_
          refine e_next ?_
          refine c_ret ?_
          refine e_ret_then ?_
          refine e_ret1 Try.results9 (.tmp rfl .nil) (fun w hm => ⟨?_, hm.since⟩)
          rfl
          )
    · skip
      have hf : fineL (l ++ [c]) = true := h_186
      have hfy := fineL_yes hf
      have hza := sizeL_append l [c]
      simp only [sizeL] at hza
      have hll := sizeL_len l
      have hsz : sizeL l ≤ 1000 := by omega
      have hss : sszL (stepsOf [] l) ≤ 5000 := Nat.le_trans (sszL_of l []) (by omega)
      have hz9 : l.length + size c ≤ 1000 := by omega
      first
        | (exfalso; first | omega | assumption)
        | (
          refine c_cond_f rfl ?_
          refine c_skip ?_
          refine e_next ?_
          refine c_seq ?_
          refine c_region ?_
          refine r_val .none rfl (p_move rfl) ?_
          refine r_callf (vs := [_]) .none rfl cl24 rfl (fun _ _ _ hle hz => hz.mono hle) (fun w hw => c_ccomp _ _ hsz hs w hw) (fun G_187 v_190 hn_188 hr_189 => ?_)
          replace hr := hr.mono hn_188.le
          replace hs := hs.mono hn_188.le
          replace hs2 := hs2.mono hn_188.le
          replace hp := fun p hm0 => (hp p hm0).mono hn_188.le
          have u_191 := (hr_189).mono (fr_le _ _)
          have hA8 := u_191
          obtain ⟨as1, ha, hat, hac, hal⟩ := hA8.inv
          have has : as1.length = rs.length := by have h := congrArg List.length hal; rw [stepsOf_len, List.length_map] at h; omega
          refine r_val .none rfl (p_assign rfl) ?_
          refine r_nil ?_
          refine e_next ?_
          refine c_seq ?_
          refine c_seq ?_
          refine c_region ?_
          refine r_val .none rfl (p_move rfl) ?_
          refine r_callm (vs := [_]) .none rfl cl23 rfl (fun w hw => c_srefs _ _ hss hA8 w hw) (fun G_192 v_195 hn_193 hr_194 => ?_)
          replace hr := hr.mono hn_193.le
          replace hs := hs.mono hn_193.le
          replace hs2 := hs2.mono hn_193.le
          replace hp := fun p hm0 => (hp p hm0).mono hn_193.le
          replace u_191 := u_191.mono hn_193.le
          replace hA8 := hA8.mono hn_193.le
          replace ha := ha.mono hn_193.le
          replace hat := fun p hm0 => (hat p hm0).mono hn_193.le
          replace hac := fun p hm0 => (hac p hm0).mono hn_193.le
          have u_196 := hr_194
          refine r_val .none rfl (p_move rfl) ?_
          refine r_callm (vs := [_]) .none rfl cl15 rfl (fun w hw => c_lref _ _ hsz hs w hw) (fun G_197 v_200 hn_198 hr_199 => ?_)
          replace hr := hr.mono hn_198.le
          replace hs := hs.mono hn_198.le
          replace hs2 := hs2.mono hn_198.le
          replace hp := fun p hm0 => (hp p hm0).mono hn_198.le
          replace u_191 := u_191.mono hn_198.le
          replace hA8 := hA8.mono hn_198.le
          replace ha := ha.mono hn_198.le
          replace hat := fun p hm0 => (hat p hm0).mono hn_198.le
          replace hac := fun p hm0 => (hac p hm0).mono hn_198.le
          replace u_196 := u_196.mono hn_198.le
          have u_201 := hr_199
          refine r_callm (vs := [_]) .none rfl cl25 rfl (fun w hw => c_compile _ _ hsz u_201 w hw) (fun G_202 v_205 hn_203 hr_204 => ?_)
          replace hr := hr.mono hn_203.le
          replace hs := hs.mono hn_203.le
          replace hs2 := hs2.mono hn_203.le
          replace hp := fun p hm0 => (hp p hm0).mono hn_203.le
          replace u_191 := u_191.mono hn_203.le
          replace hA8 := hA8.mono hn_203.le
          replace ha := ha.mono hn_203.le
          replace hat := fun p hm0 => (hat p hm0).mono hn_203.le
          replace hac := fun p hm0 => (hac p hm0).mono hn_203.le
          replace u_196 := u_196.mono hn_203.le
          replace u_201 := u_201.mono hn_203.le
          have u_206 := hr_204
          refine r_call (vs := [_, _]) .none rfl cl22 rfl (fun w hw => c_all8 _ _ _ _ u_196 u_206 w hw) ?_
          refine r_val .none rfl (p_not rfl) ?_
          refine r_nil ?_
          refine e_next ?_
          refine c_splitn (d := 27) rfl (fun h_207 => ?_) (fun h_207 => ?_)
          · skip
            have hx : False := absurd (h_207) (by rw [(seqL_iff _ _).2 rfl]; decide)
            first
              | (exfalso; first | omega | assumption)
              | (
                refine c_cond_t rfl ?_
                refine c_seq ?_
                refine c_region ?_
                refine r_val .none rfl (p_assign rfl) ?_
                refine r_nil ?_
                refine e_next ?_
                refine c_ret ?_
                refine e_ret_then ?_
                refine e_ret1 Try.results9 (.tmp rfl .nil) (fun w hm => ⟨?_, hm.since⟩)
                rfl
                )
          · skip
            first
              | (exfalso; first | omega | assumption)
              | (
                refine c_cond_f rfl ?_
                refine c_skip ?_
                refine e_next ?_
                refine c_seq ?_
                refine c_region ?_
                refine r_val .none rfl (p_assign rfl) ?_
                refine r_nil ?_
                refine e_next ?_
                refine c_seq ?_
                refine c_seq ?_
                refine c_region ?_
                refine r_val .none rfl (p_move rfl) ?_
                refine r_val .none rfl (p_leng Try.underlying50 rfl ha) ?_
                have bd_208 := (ha).bound
                refine r_val .none rfl (p_move rfl) ?_
                refine r_nil ?_
                refine e_next ?_
                refine c_block ?_
                refine c_name (d := 0) rfl (fun u_209 hu_209 => ?_)
                refine c_name (d := 3) rfl (fun u_210 hu_210 => ?_)
                refine c_name (d := 5) rfl (fun u_211 hu_211 => ?_)
                refine c_name (d := 28) rfl (fun u_212 hu_212 => ?_)
                refine c_name (d := 29) rfl (fun u_213 hu_213 => ?_)
                refine c_nameL (k := 0) rfl (fun A_214 hA_214 => ?_)
                refine c_nameL (k := 1) rfl (fun A_215 hA_215 => ?_)
                refine c_nameL (k := 2) rfl (fun A_216 hA_216 => ?_)
                refine c_loop (σ := Nat) (fun k => [(30, Value.int .i64 (k : Nat)), (6, Value.int .i64 (posS ((as1.map Prod.fst).take k) : Nat)), (0, u_209), (3, u_210), (5, u_211), (28, u_212), (29, u_213)]) (fun k => [A_214, A_215, A_216]) (fun _ => _) (fun k => k ≤ as1.length) (fun k => as1.length - k) (0) (Nat.zero_le _) rfl ⟨rfl, rfl, rfl, rfl, rfl, rfl, rfl, trivial⟩ (.keep (fun _ _ h => h) (.keep (fun _ _ h => h) (.keep (fun _ _ h => h) (.nil)))) (fun k hphi => ?_)
                subst hu_209
                subst hu_210
                subst hu_211
                subst hu_212
                subst hu_213
                subst hA_214
                subst hA_215
                subst hA_216
                have hpl : posS ((as1.map Prod.fst).take k) ≤ k := Nat.le_trans (posS_le _) (by simp; omega)
                refine c_seq ?_
                refine c_region ?_
                refine r_val .none rfl (p_lt rfl rfl) ?_
                refine r_nil ?_
                refine e_next ?_
                refine c_seq ?_
                refine c_splitd (d := 31) rfl (fun h_217 => ?_) (fun h_217 => ?_)
                · skip
                  first
                    | (exfalso; first | omega | assumption)
                    | (
                      refine c_cond_t rfl ?_
                      refine c_skip ?_
                      refine e_next ?_
                      refine c_seq ?_
                      refine c_block ?_
                      refine c_seq ?_
                      refine c_region ?_
                      refine r_iaddr_g .none rfl Try.underlying50 sz64 rfl ha rfl (by first | exact of_decide_eq_true rfl | omega) (fun p_219 o_220 R_218 => ?_)
                      have ht_221 := hat _ (getD_mem (i := k) (d := s0) (by omega))
                      have hc_222 := hac _ (getD_mem (i := k) (d := s0) (by omega))
                      refine r_val .none rfl (p_ldga0 Try.underlying64 rfl sz64 rfl R_218 (by first | exact of_decide_eq_true rfl | omega) (rfl : _ = Value.agg #[_, _, _, _, _, _])) ?_
                      refine r_alloc .none rfl zr64 (IsRow.lit _) (fun b_9 => ?_)
                      refine r_stw (k := 0) .none sz64 rfl rfl (IsRow.lit _) (one_lit rfl (all_cons rfl (all_cons rfl (all_cons rfl (all_cons rfl (all_cons (ht_221).one (all_cons (hc_222).one rfl))))))) rfl ?_
                      refine r_nil ?_
                      refine e_next ?_
                      refine c_seq ?_
                      refine c_seq ?_
                      refine c_region ?_
                      refine r_val .none rfl (p_ldw (k := 0) Try.underlying64 rfl sz64 rfl rfl (rfl : _ = Value.agg #[_, _, _, _, _, _])) ?_
                      have e1 : (as1.getD k s0).1 = stepOf ((rs.map Prod.fst).take k) (rs.getD k d0).1 := by rw [sv_getD hal, hl, steps_at (by omega)]; rfl
                      have q1 := sizeL_take (rs := rs) (k := k) (by omega)
                      have q2 : sizeL ((rs.map Prod.fst).take (k + 1)) ≤ sizeL l := by rw [hl]; exact sizeL_take_le _ _
                      have q3 := sizeL_len ((rs.map Prod.fst).take k)
                      have hrt : (cR (as1.getD k s0).1 1 0).1 = true := by rw [e1]; exact right_of (hfy.1 _ (by rw [hl]; exact List.mem_append_left _ (List.mem_map.2 ⟨_, getD_mem (i := k) (d := d0) (by omega), rfl⟩))) (by omega)
                      refine r_call (vs := [_]) .none rfl cl31 rfl (fun w hw => c_cRight (as1.getD k s0).1 _ _ ht_221 hc_222 w hw) ?_
                      refine r_val .none rfl (p_not rfl) ?_
                      refine r_nil ?_
                      refine e_next ?_
                      refine c_splitn (d := 36) rfl (fun h_223 => ?_) (fun h_223 => ?_)
                      · skip
                        have hx : False := absurd (h_223) (by rw [hrt]; decide)
                        first
                          | (exfalso; first | omega | assumption)
                          | (
                            refine c_cond_t rfl ?_
                            refine c_seq ?_
                            refine c_region ?_
                            refine r_val .none rfl (p_assign rfl) ?_
                            refine r_nil ?_
                            refine e_next ?_
                            refine c_ret ?_
                            refine e_ret_then ?_
                            refine e_ret_block ?_
                            refine e_ret_then ?_
                            refine e_ret_then ?_
                            refine e_ret_block ?_
                            refine e_ret_then ?_
                            refine e_ret1 Try.results9 (.tmp rfl .nil) (fun w hm => ⟨?_, hm.since⟩)
                            rfl
                            )
                      · skip
                        first
                          | (exfalso; first | omega | assumption)
                          | (
                            refine c_cond_f rfl ?_
                            refine c_skip ?_
                            refine e_next ?_
                            refine c_seq ?_
                            refine c_region ?_
                            refine r_val .none rfl (p_field Try.underlying64 rfl sz3 rfl) ?_
                            refine r_val .none rfl (p_ld (k := 0) Try.underlying3 rfl rfl rfl (by first | exact of_decide_eq_true rfl | omega) (rfl : _ = Value.int _ _)) ?_
                            refine r_val .none rfl (p_eq rfl rfl) ?_
                            refine r_nil ?_
                            refine e_next ?_
                            refine c_splitd (d := 39) rfl (fun h_224 => ?_) (fun h_224 => ?_)
                            · skip
                              have hk1 := h_224
                              first
                                | (exfalso; first | omega | assumption)
                                | (
                                  refine c_cond_t rfl ?_
                                  refine c_region ?_
                                  refine r_val .none rfl (p_move rfl) ?_
                                  refine r_val .none rfl (p_add rfl rfl (by omega)) ?_
                                  refine r_val .none rfl (p_assign rfl) ?_
                                  refine r_nil ?_
                                  refine e_norm_block ?_
                                  refine e_next ?_
                                  refine c_region ?_
                                  refine r_val .none rfl (p_add rfl rfl (by omega)) ?_
                                  refine r_val .none rfl (p_move rfl) ?_
                                  refine r_nil ?_
                                  refine e_round (k + 1) ⟨by omega, by omega⟩ rfl ⟨rfl, (congrArg (fun z => some (Value.int .i64 z)) (by rw [posS_take (by omega)]; first | (rw [if_pos hk1]; omega) | (rw [if_neg hk1]; omega))), rfl, rfl, rfl, rfl, rfl, trivial⟩ (.drop (.keep (fun _ _ h => h) (.keep (fun _ _ h => h) (.keep (fun _ _ h => h) (.nil)))))
                                  )
                            · skip
                              have hk1 := h_224
                              first
                                | (exfalso; first | omega | assumption)
                                | (
                                  refine c_cond_f rfl ?_
                                  refine c_skip ?_
                                  refine e_norm_block ?_
                                  refine e_next ?_
                                  refine c_region ?_
                                  refine r_val .none rfl (p_add rfl rfl (by omega)) ?_
                                  refine r_val .none rfl (p_move rfl) ?_
                                  refine r_nil ?_
                                  refine e_round (k + 1) ⟨by omega, by omega⟩ rfl ⟨rfl, (congrArg (fun z => some (Value.int .i64 z)) (by rw [posS_take (by omega)]; first | (rw [if_pos hk1]; omega) | (rw [if_neg hk1]; omega))), rfl, rfl, rfl, rfl, rfl, trivial⟩ (.drop (.keep (fun _ _ h => h) (.keep (fun _ _ h => h) (.keep (fun _ _ h => h) (.nil)))))
                                  )
                            )
                      )
                · skip
                  first
                    | (exfalso; first | omega | assumption)
                    | (
                      refine c_cond_f rfl ?_
                      refine c_exit ?_
                      refine e_exit_then ?_
                      refine e_exit_then ?_
                      refine e_exit_block ?_
                      refine e_next ?_
                      refine c_seq ?_
                      refine c_region ?_
                      refine r_val .none rfl (p_move rfl) ?_
                      refine r_val .none rfl (p_ldw (k := 2) Try.underlying38 rfl sz38 rfl rfl (rfl : _ = Value.agg #[_, _, _, _, _, _, _, _])) ?_
                      refine r_callf (vs := [_, _]) .none rfl cl30 rfl (fun _ _ _ hle hz => by obtain ⟨ua, ub, h1, h2, h3⟩ := hz; exact ⟨ua, ub, h1, h2.mono hle, h3.mono hle⟩) (fun w hw => c_cstep c sv _ l hz9 hs2 hs w hw) (fun G_225 v_228 hn_226 hr_227 => ?_)
                      replace hr := hr.mono hn_226.le
                      replace hs := hs.mono hn_226.le
                      replace hs2 := hs2.mono hn_226.le
                      replace hp := fun p hm0 => (hp p hm0).mono hn_226.le
                      replace u_191 := u_191.mono hn_226.le
                      replace hA8 := hA8.mono hn_226.le
                      replace ha := ha.mono hn_226.le
                      replace hat := fun p hm0 => (hat p hm0).mono hn_226.le
                      replace hac := fun p hm0 => (hac p hm0).mono hn_226.le
                      replace u_196 := u_196.mono hn_226.le
                      replace u_201 := u_201.mono hn_226.le
                      replace u_206 := u_206.mono hn_226.le
                      obtain ⟨u_229a, u_229b, rfl, u_229s, u_229t⟩ := hr_227
                      replace u_229s := u_229s.mono (fr_le _ _)
                      replace u_229t := u_229t.mono (fr_le _ _)
                      refine r_alloc .none rfl zr64 (IsRow.lit _) (fun b_10 => ?_)
                      refine r_stw (k := 0) .none sz64 rfl rfl (IsRow.lit _) (one_lit rfl (all_cons rfl (all_cons rfl (all_cons rfl (all_cons rfl (all_cons (u_229s).one (all_cons (u_229t).one rfl))))))) rfl ?_
                      refine r_nil ?_
                      refine e_next ?_
                      refine c_seq ?_
                      refine c_region_d (fun _ => false) _ mixed (.keep (fun _ _ h => h) (.keep (fun _ _ h => h) (.keep (fun _ _ h => h) (.keep (fun _ _ h => h) (.nil))))) ?_
                      refine d_val1 0 rfl rfl (by kernel_rfl) (fun _ _ => rfl) .none rfl (p_ldw (k := 0) Try.underlying64 rfl sz64 rfl rfl (rfl : _ = Value.agg #[_, _, _, _, _, _])) ?_
                      refine d_val1 2 rfl rfl (by kernel_rfl) (fun _ _ => rfl) .none rfl (p_move rfl) ?_
                      refine d_val1 4 rfl rfl (by kernel_rfl) (fun _ _ => rfl) .none rfl (p_ldw (k := 3) Try.underlying38 rfl sz38 rfl rfl (rfl : _ = Value.agg #[_, _, _, _, _, _, _, _])) ?_
                      refine d_eff 1 rfl (by kernel_rfl) (fun K_230 hKK_230 hcK_230 => ?_)
                      refine r_callm (vs := [_]) .none rfl cl33 rfl (fun w hw => c_sref _ _ _ (Nat.le_trans (ssz_of c l) (by omega)) u_229s u_229t w hw) (fun G_231 v_234 hn_232 hr_233 => ?_)
                      replace hr := hr.mono hn_232.le
                      replace hs := hs.mono hn_232.le
                      replace hs2 := hs2.mono hn_232.le
                      replace hp := fun p hm0 => (hp p hm0).mono hn_232.le
                      replace u_191 := u_191.mono hn_232.le
                      replace hA8 := hA8.mono hn_232.le
                      replace ha := ha.mono hn_232.le
                      replace hat := fun p hm0 => (hat p hm0).mono hn_232.le
                      replace hac := fun p hm0 => (hac p hm0).mono hn_232.le
                      replace u_196 := u_196.mono hn_232.le
                      replace u_201 := u_201.mono hn_232.le
                      replace u_206 := u_206.mono hn_232.le
                      replace u_229s := u_229s.mono hn_232.le
                      replace u_229t := u_229t.mono hn_232.le
                      obtain ⟨u_235a, u_235b, rfl, u_235s, u_235t⟩ := hr_233
                      refine r_nil (e_d (i := 1) (brk := (fun _ => false)) (ph' := true) hKK_230 hcK_230 rfl (fun _ => hn_232.le) (fun _ => .keep (fun _ _ h => h) (.keep (fun _ _ h => h) (.keep (fun _ _ h => h) (.keep (fun _ _ h => h) (.nil))))) ?_)
                      clear hKK_230 hcK_230 K_230
                      refine d_eff 3 rfl (by kernel_rfl) (fun K_236 hKK_236 hcK_236 => ?_)
                      refine r_callm (vs := [_]) .none rfl cl15 rfl (fun w hw => c_lref _ _ hsz hs w hw) (fun G_237 v_240 hn_238 hr_239 => ?_)
                      replace hr := hr.mono hn_238.le
                      replace hs := hs.mono hn_238.le
                      replace hs2 := hs2.mono hn_238.le
                      replace hp := fun p hm0 => (hp p hm0).mono hn_238.le
                      replace u_191 := u_191.mono hn_238.le
                      replace hA8 := hA8.mono hn_238.le
                      replace ha := ha.mono hn_238.le
                      replace hat := fun p hm0 => (hat p hm0).mono hn_238.le
                      replace hac := fun p hm0 => (hac p hm0).mono hn_238.le
                      replace u_196 := u_196.mono hn_238.le
                      replace u_201 := u_201.mono hn_238.le
                      replace u_206 := u_206.mono hn_238.le
                      replace u_229s := u_229s.mono hn_238.le
                      replace u_229t := u_229t.mono hn_238.le
                      replace u_235s := u_235s.mono hn_238.le
                      replace u_235t := u_235t.mono hn_238.le
                      have u_241 := hr_239
                      refine r_nil (e_d (i := 3) (brk := (fun _ => false)) (ph' := true) hKK_236 hcK_236 rfl (fun _ => (hn_232.trans hn_238).le) (fun _ => .keep (fun _ _ h => h) (.keep (fun _ _ h => h) (.keep (fun _ _ h => h) (.keep (fun _ _ h => h) (.nil))))) ?_)
                      clear hKK_236 hcK_236 K_236
                      refine d_eff 5 rfl (by kernel_rfl) (fun K_242 hKK_242 hcK_242 => ?_)
                      refine r_callm (vs := [_]) .none rfl cl19 rfl (fun w hw => c_ref4 c sv (by omega) hs2 w hw) (fun G_243 v_246 hn_244 hr_245 => ?_)
                      replace hr := hr.mono hn_244.le
                      replace hs := hs.mono hn_244.le
                      replace hs2 := hs2.mono hn_244.le
                      replace hp := fun p hm0 => (hp p hm0).mono hn_244.le
                      replace u_191 := u_191.mono hn_244.le
                      replace hA8 := hA8.mono hn_244.le
                      replace ha := ha.mono hn_244.le
                      replace hat := fun p hm0 => (hat p hm0).mono hn_244.le
                      replace hac := fun p hm0 => (hac p hm0).mono hn_244.le
                      replace u_196 := u_196.mono hn_244.le
                      replace u_201 := u_201.mono hn_244.le
                      replace u_206 := u_206.mono hn_244.le
                      replace u_229s := u_229s.mono hn_244.le
                      replace u_229t := u_229t.mono hn_244.le
                      replace u_235s := u_235s.mono hn_244.le
                      replace u_235t := u_235t.mono hn_244.le
                      replace u_241 := u_241.mono hn_244.le
                      obtain ⟨u_247, rfl, u_247s⟩ := hr_245
                      refine r_nil (e_d (i := 5) (brk := (fun _ => false)) (ph' := true) hKK_242 hcK_242 rfl (fun _ => ((hn_232.trans hn_238).trans hn_244).le) (fun _ => .keep (fun _ _ h => h) (.keep (fun _ _ h => h) (.keep (fun _ _ h => h) (.keep (fun _ _ h => h) (.nil))))) ?_)
                      clear hKK_242 hcK_242 K_242
                      refine d_eff 6 rfl (by kernel_rfl) (fun K_248 hKK_248 hcK_248 => ?_)
                      refine r_callm (vs := [_, _]) .none rfl cl34 rfl (fun w hw => c_of c _ _ l (by omega) u_247s u_241 w hw) (fun G_249 v_252 hn_250 hr_251 => ?_)
                      replace hr := hr.mono hn_250.le
                      replace hs := hs.mono hn_250.le
                      replace hs2 := hs2.mono hn_250.le
                      replace hp := fun p hm0 => (hp p hm0).mono hn_250.le
                      replace u_191 := u_191.mono hn_250.le
                      replace hA8 := hA8.mono hn_250.le
                      replace ha := ha.mono hn_250.le
                      replace hat := fun p hm0 => (hat p hm0).mono hn_250.le
                      replace hac := fun p hm0 => (hac p hm0).mono hn_250.le
                      replace u_196 := u_196.mono hn_250.le
                      replace u_201 := u_201.mono hn_250.le
                      replace u_206 := u_206.mono hn_250.le
                      replace u_229s := u_229s.mono hn_250.le
                      replace u_229t := u_229t.mono hn_250.le
                      replace u_235s := u_235s.mono hn_250.le
                      replace u_235t := u_235t.mono hn_250.le
                      replace u_241 := u_241.mono hn_250.le
                      replace u_247s := u_247s.mono hn_250.le
                      obtain ⟨u_253a, u_253b, rfl, u_253s, u_253t⟩ := hr_251
                      refine r_nil (e_d (i := 6) (brk := (fun _ => false)) (ph' := true) hKK_248 hcK_248 rfl (fun _ => (((hn_232.trans hn_238).trans hn_244).trans hn_250).le) (fun _ => .keep (fun _ _ h => h) (.keep (fun _ _ h => h) (.keep (fun _ _ h => h) (.keep (fun _ _ h => h) (.nil))))) ?_)
                      clear hKK_248 hcK_248 K_248
                      refine d_eff 7 rfl (by kernel_rfl) (fun K_254 hKK_254 hcK_254 => ?_)
                      refine r_call (vs := [_, _]) .none rfl cl32 rfl (fun w hw => c_rsameS _ _ _ _ _ _ u_235s u_235t u_253s u_253t w hw) ?_
                      refine r_nil (e_d (i := 7) (brk := (fun _ => false)) (ph' := true) hKK_254 hcK_254 rfl (fun _ => (((hn_232.trans hn_238).trans hn_244).trans hn_250).le) (fun _ => .keep (fun _ _ h => h) (.keep (fun _ _ h => h) (.keep (fun _ _ h => h) (.keep (fun _ _ h => h) (.nil))))) ?_)
                      clear hKK_254 hcK_254 K_254
                      refine d_val1 8 rfl rfl (by kernel_rfl) (fun _ _ => rfl) .none rfl (p_move rfl) ?_
                      refine d_split (d := 54) rfl (fun h_255 => ?_) (fun h_255 => ?_)
                      · skip
                        first
                          | (exfalso; first | omega | assumption)
                          | (
                            refine d_val1 9 rfl rfl (by kernel_rfl) (fun _ _ => rfl) (.some rfl rfl) rfl (p_ldw (k := 0) Try.underlying64 rfl sz64 rfl rfl (rfl : _ = Value.agg #[_, _, _, _, _, _])) ?_
                            refine d_eff 10 rfl (by kernel_rfl) (fun K_256 hKK_256 hcK_256 => ?_)
                            refine r_call (vs := [_]) (.some rfl rfl) rfl cl31 rfl (fun w hw => c_cRight _ _ _ u_229s u_229t w hw) ?_
                            refine r_nil (e_d (i := 10) (brk := (fun _ => false)) (ph' := true) hKK_256 hcK_256 rfl (fun _ => (((hn_232.trans hn_238).trans hn_244).trans hn_250).le) (fun _ => .keep (fun _ _ h => h) (.keep (fun _ _ h => h) (.keep (fun _ _ h => h) (.keep (fun _ _ h => h) (.nil))))) ?_)
                            clear hKK_256 hcK_256 K_256
                            refine d_val1 11 rfl rfl (by kernel_rfl) (fun _ _ => rfl) .none rfl (p_pick_t rfl rfl) ?_
                            refine d_val1 12 rfl rfl (by kernel_rfl) (fun _ _ => rfl) .none rfl (p_move rfl) ?_
                            refine d_split (d := 58) rfl (fun h_257 => ?_) (fun h_257 => ?_)
                            · skip
                              first
                                | (exfalso; first | omega | assumption)
                                | (
                                  refine d_val1 13 rfl rfl (by kernel_rfl) (fun _ _ => rfl) (.some rfl rfl) rfl (p_move rfl) ?_
                                  refine d_val1 15 rfl rfl (by kernel_rfl) (fun _ _ => rfl) (.some rfl rfl) rfl (p_move rfl) ?_
                                  refine d_eff 14 rfl (by kernel_rfl) (fun K_258 hKK_258 hcK_258 => ?_)
                                  refine r_call (vs := [_]) (.some rfl rfl) rfl cl35 rfl (fun w hw => c_back _ _ hA8 w hw) ?_
                                  refine r_nil (e_d (i := 14) (brk := (fun _ => false)) (ph' := true) hKK_258 hcK_258 rfl (fun _ => (((hn_232.trans hn_238).trans hn_244).trans hn_250).le) (fun _ => .keep (fun _ _ h => h) (.keep (fun _ _ h => h) (.keep (fun _ _ h => h) (.keep (fun _ _ h => h) (.nil))))) ?_)
                                  clear hKK_258 hcK_258 K_258
                                  refine d_val1 16 rfl rfl (by kernel_rfl) (fun _ _ => rfl) (.some rfl rfl) rfl (p_eq rfl rfl) ?_
                                  refine d_val1 17 rfl rfl (by kernel_rfl) (fun _ _ => rfl) .none rfl (p_pick_t rfl rfl) ?_
                                  refine d_val1 18 rfl rfl (by kernel_rfl) (fun _ _ => rfl) .none rfl (p_move rfl) ?_
                                  refine d_splitd (d := 64) rfl (fun h_259 => ?_) (fun h_259 => ?_)
                                  · skip
                                    first
                                      | (exfalso; first | omega | assumption)
                                      | (
                                        refine d_eff 19 rfl (by kernel_rfl) (fun K_260 hKK_260 hcK_260 => ?_)
                                        refine r_call (vs := []) (.some rfl rfl) rfl cl20 rfl (fun w hw => c_awake8 w) ?_
                                        refine r_nil (e_d (i := 19) (brk := (fun _ => false)) (ph' := true) hKK_260 hcK_260 rfl (fun _ => (((hn_232.trans hn_238).trans hn_244).trans hn_250).le) (fun _ => .keep (fun _ _ h => h) (.keep (fun _ _ h => h) (.keep (fun _ _ h => h) (.keep (fun _ _ h => h) (.nil))))) ?_)
                                        clear hKK_260 hcK_260 K_260
                                        refine d_val1 20 rfl rfl (by kernel_rfl) (fun _ _ => rfl) .none rfl (p_pick_t rfl rfl) ?_
                                        refine d_val1 21 rfl rfl (by kernel_rfl) (fun _ _ => rfl) .none rfl (p_assign rfl) ?_
                                        refine d_nil (by kernel_rfl) ?_
                                        refine e_next ?_
                                        refine c_ret ?_
                                        refine e_ret1 Try.results9 (.tmp rfl .nil) (fun w hm => ⟨?_, hm.since⟩)
                                        rfl
                                        )
                                  · skip
                                    have hx : False := by (have hpp : posS (stepsOf [] l) = posS ((as1.map Prod.fst).take k) := by rw [hal, List.take_of_length_le (by simp; omega)]); omega
                                    first
                                      | (exfalso; first | omega | assumption)
                                      | (
                                        refine d_skip1 19 rfl rfl (by kernel_rfl) (fun _ _ => rfl) rfl (.no rfl rfl) ?_
                                        refine d_val1 20 rfl rfl (by kernel_rfl) (fun _ _ => rfl) .none rfl (p_pick_f rfl rfl) ?_
                                        refine d_val1 21 rfl rfl (by kernel_rfl) (fun _ _ => rfl) .none rfl (p_assign rfl) ?_
                                        refine d_nil (by kernel_rfl) ?_
                                        refine e_next ?_
                                        refine c_ret ?_
                                        refine e_ret1 Try.results9 (.tmp rfl .nil) (fun w hm => ⟨?_, hm.since⟩)
                                        rfl
                                        )
                                  )
                            · skip
                              have hx : False := absurd (h_257) (by rw [right_of (hfy.1 c (by simp)) (by omega)]; decide)
                              first
                                | (exfalso; first | omega | assumption)
                                | (
                                  refine d_skip1 13 rfl rfl (by kernel_rfl) (fun _ _ => rfl) rfl (.no rfl rfl) ?_
                                  refine d_skip1 14 rfl rfl (by kernel_rfl) (fun _ _ => rfl) rfl (.no rfl rfl) ?_
                                  refine d_skip1 15 rfl rfl (by kernel_rfl) (fun _ _ => rfl) rfl (.no rfl rfl) ?_
                                  refine d_skip1 16 rfl rfl (by kernel_rfl) (fun _ _ => rfl) rfl (.no rfl rfl) ?_
                                  refine d_val1 17 rfl rfl (by kernel_rfl) (fun _ _ => rfl) .none rfl (p_pick_f rfl rfl) ?_
                                  refine d_val1 18 rfl rfl (by kernel_rfl) (fun _ _ => rfl) .none rfl (p_move rfl) ?_
                                  refine d_skip1 19 rfl rfl (by kernel_rfl) (fun _ _ => rfl) rfl (.no rfl rfl) ?_
                                  refine d_val1 20 rfl rfl (by kernel_rfl) (fun _ _ => rfl) .none rfl (p_pick_f rfl rfl) ?_
                                  refine d_val1 21 rfl rfl (by kernel_rfl) (fun _ _ => rfl) .none rfl (p_assign rfl) ?_
                                  refine d_nil (by kernel_rfl) ?_
                                  refine e_next ?_
                                  refine c_ret ?_
                                  refine e_ret1 Try.results9 (.tmp rfl .nil) (fun w hm => ⟨?_, hm.since⟩)
                                  rfl
                                  )
                            )
                      · skip
                        have hx : False := absurd (h_255) (by rw [(seq_iff _ _).2 rfl]; decide)
                        first
                          | (exfalso; first | omega | assumption)
                          | (
                            refine d_skip1 9 rfl rfl (by kernel_rfl) (fun _ _ => rfl) rfl (.no rfl rfl) ?_
                            refine d_skip1 10 rfl rfl (by kernel_rfl) (fun _ _ => rfl) rfl (.no rfl rfl) ?_
                            refine d_val1 11 rfl rfl (by kernel_rfl) (fun _ _ => rfl) .none rfl (p_pick_f rfl rfl) ?_
                            refine d_val1 12 rfl rfl (by kernel_rfl) (fun _ _ => rfl) .none rfl (p_move rfl) ?_
                            refine d_skip1 13 rfl rfl (by kernel_rfl) (fun _ _ => rfl) rfl (.no rfl rfl) ?_
                            refine d_skip1 14 rfl rfl (by kernel_rfl) (fun _ _ => rfl) rfl (.no rfl rfl) ?_
                            refine d_skip1 15 rfl rfl (by kernel_rfl) (fun _ _ => rfl) rfl (.no rfl rfl) ?_
                            refine d_skip1 16 rfl rfl (by kernel_rfl) (fun _ _ => rfl) rfl (.no rfl rfl) ?_
                            refine d_val1 17 rfl rfl (by kernel_rfl) (fun _ _ => rfl) .none rfl (p_pick_f rfl rfl) ?_
                            refine d_val1 18 rfl rfl (by kernel_rfl) (fun _ _ => rfl) .none rfl (p_move rfl) ?_
                            refine d_skip1 19 rfl rfl (by kernel_rfl) (fun _ _ => rfl) rfl (.no rfl rfl) ?_
                            refine d_val1 20 rfl rfl (by kernel_rfl) (fun _ _ => rfl) .none rfl (p_pick_f rfl rfl) ?_
                            refine d_val1 21 rfl rfl (by kernel_rfl) (fun _ _ => rfl) .none rfl (p_assign rfl) ?_
                            refine d_nil (by kernel_rfl) ?_
                            refine e_next ?_
                            refine c_ret ?_
                            refine e_ret1 Try.results9 (.tmp rfl .nil) (fun w hm => ⟨?_, hm.since⟩)
                            rfl
                            )
                      )
                )
          )
end Go.Proofs.Ytoflaphnlfggkaa

/- Walks: what Go functions of this chapter come to, each as a function on plain data; no condition but those that each theorem names. Printed by a program of this work (gen.py). -/
namespace Go.Proofs.Ytoflaphnlfggkaa
open Go.Gx Go.Gx.T3 Go.Gx.T4 Go.Gx.T3 Go.ChangeShapes Go.WideShapes Go.ChangeAt Go.RowKit

theorem open_cond_l : leafT Try.prog 10 38 = some [3, 4, 3, 4, 3, 4, 3, 22] := by kernel_rfl
theorem open_cond_n {H : Type} {enc : TypeId × Value → H} {W : World} {base : Nat} {sp : Nat → Bool} {held : Bool} : ∀ (B n : Nat) (cs : List Value) (x : DataW H × List MemPlace), n ≤ B → DataW.trod enc Try.prog W base sp held n 38 cs = some x → ∃ a : CT × Value, cs = cvC a ∧ Cs (GW W) a.2 a.1.subs
  | 0, n, cs, x, hn, h => by
    obtain rfl : n = 0 := by omega
    simp [DataW.trod] at h
  | B + 1, n, cs, x, hn, h => by
    obtain ⟨n', rfl, hl⟩ := leavesB_struct 9 Try.underlying38 open_cond_l h
    obtain ⟨x0, r0, e0, f0, g0⟩ := hl.inv
    obtain ⟨a0, rfl, _⟩ := f0.leaf.int Try.underlying3
    obtain ⟨x1, r1, e1, f1, g1⟩ := g0.inv
    obtain ⟨a1, rfl⟩ := f1.leaf.bool Try.underlying4
    obtain ⟨x2, r2, e2, f2, g2⟩ := g1.inv
    obtain ⟨a2, rfl, _⟩ := f2.leaf.int Try.underlying3
    obtain ⟨x3, r3, e3, f3, g3⟩ := g2.inv
    obtain ⟨a3, rfl⟩ := f3.leaf.bool Try.underlying4
    obtain ⟨x4, r4, e4, f4, g4⟩ := g3.inv
    obtain ⟨a4, rfl, _⟩ := f4.leaf.int Try.underlying3
    obtain ⟨x5, r5, e5, f5, g5⟩ := g4.inv
    obtain ⟨a5, rfl⟩ := f5.leaf.bool Try.underlying4
    obtain ⟨x6, r6, e6, f6, g6⟩ := g5.inv
    obtain ⟨a6, rfl, _⟩ := f6.leaf.int Try.underlying3
    obtain ⟨x7, r7, e7, f7, g7⟩ := g6.inv
    have z := g7.inv0
    obtain ⟨l, h1, h2⟩ := open_slB (cells := cvC) (Qa := fun a => Cs (GW W) a.2 a.1.subs) d0 Try.underlying22 (show Program.cellsOf Try.prog 38 = 8 by kernel_rfl) (by decide) (fun m cs' y hm hy => open_cond_n B m cs' y (by omega) hy) f7
    refine ⟨(CT.mk ⟨a0, a1, a2, a3, a4, a5, a6⟩ (l.map Prod.fst), x7), ?_, Tr.mk l h1 h2⟩
    rw [e0, e1, e2, e3, e4, e5, e6, e7, z]; rfl
set_option maxRecDepth 100000 in
theorem open_cond {H : Type} {enc : TypeId × Value → H} {W : World} {base : Nat} {sp : Nat → Bool} {held : Bool} {r : Reach} {b0 : Nat} {v : Value} {y : DataW H} {ps : List MemPlace} (hv : Value.okWide Try.prog W r b0 38 v) (h : DataW.Trod enc Try.prog W base sp held 38 v y ps) : ∃ (c : CT) (sv : Value), v = Value.agg #[Value.int .i64 c.h.k, Value.bool c.h.v0, Value.int .i64 c.h.n0, Value.bool c.h.v1, Value.int .i64 c.h.n1, Value.bool c.h.v2, Value.int .i64 c.h.n2, sv] ∧ Cs (GW W) sv c.subs := by
  obtain ⟨cs, rfl⟩ := agg_of_wide Try.underlying38 rfl hv
  obtain ⟨fuel, hf⟩ := h
  obtain ⟨a, e, hs⟩ := open_cond_n fuel fuel cs.toList _ (Nat.le_refl _) hf
  refine ⟨a.1, a.2, ?_, hs⟩
  have : cs = (cvC a).toArray := by apply Array.ext'; simpa using e
  rw [this]; rfl
set_option maxRecDepth 100000 in
theorem open_conds {H : Type} {enc : TypeId × Value → H} {W : World} {base : Nat} {sp : Nat → Bool} {held : Bool} {r : Reach} {b0 : Nat} {v : Value} {y : DataW H} {ps : List MemPlace} (hv : Value.okWide Try.prog W r b0 22 v) (h : DataW.Trod enc Try.prog W base sp held 22 v y ps) : ∃ l : List CT, Cs (GW W) v l := by
  obtain ⟨a, n, c, rfl⟩ := okWide_slice Try.underlying22 hv
  obtain ⟨fuel, hf⟩ := h
  obtain ⟨l, h1, h2⟩ := open_slB (B := fuel) (cells := cvC) (Qa := fun a => Cs (GW W) a.2 a.1.subs) d0 Try.underlying22 (show Program.cellsOf Try.prog 38 = 8 by kernel_rfl) (by decide) (fun m cs' y hm hy => open_cond_n fuel m cs' y (by omega) hy) ⟨fuel, _, Nat.le_refl _, hf⟩
  exact ⟨l.map Prod.fst, Tr.mk l h1 h2⟩
end Go.Proofs.Ytoflaphnlfggkaa

/-
  GX: how long a slice that came in may be. Generic in the program.
-/
namespace Go.Gx
open Go.RowKit Go.ChangeShapes Go.WideShapes Go.ChangeAt
section
variable {H : Type} {enc : TypeId × Value → H} {P : Program} {W : World} {base : Nat} {sp : Nat → Bool} {held : Bool}
theorem sized_slg {G : Ghost} {v : Value} {n sz : Nat} {f : Nat → Nat → Value} {t e : TypeId} {d : DataW H} {ps : List MemPlace} {ts : List TypeId} {ds : List (DataW H)} {j : Nat} (ht : P.underlying t = some (.slice e)) (hs : SlG G v n sz f) (h : DataW.Trod enc P W base sp held t v d ps)
    (hz : (DataW.weightsEach P ts ds).all (· ≤ reachBytes) = true) (htj : ts[j]? = some t) (hd : ds[j]? = some d) : n * P.bytesOf e ≤ 140737488351232 := by
  obtain ⟨a, cap, rfl, _, _⟩ := hs
  obtain ⟨fuel, hf⟩ := h
  rcases Go.Deep.open_slice ht hf with ⟨h0, _⟩ | ⟨a', len, cap', m, n', D, Pl, h0, _, _, _, hm, hx, _⟩
  · simp [Value.cells] at h0
    obtain ⟨_, rfl, _⟩ := h0
    omega
  · simp [Value.cells] at h0
    obtain ⟨_, rfl, _⟩ := h0
    have hd' : d = .slice ((List.range n).map D) ((List.range (m - n)).map fun j => D (n + j)) := congrArg Prod.fst hx
    subst hd'
    have h1 := sized_slice hz htj hd ht
    simp only [List.length_map, List.length_range] at h1
    have h2 : n * P.bytesOf e ≤ (n + (m - n)) * P.bytesOf e := Nat.mul_le_mul_right _ (by omega)
    have h3 : reachBytes = 140737488351232 := by decide
    omega
end
end Go.Gx
