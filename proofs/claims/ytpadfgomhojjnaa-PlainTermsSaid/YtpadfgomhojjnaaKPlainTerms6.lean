/- Texts of this work, laid together: a logic of steps, plain laws, and walks of Go functions, each without a condition but those that its theorems name. -/
import Derived.Test.YtpadfgomhojjnaaKPlainTerms5
import Derived.Test.YtpadfgomhojjnaaRows
/- Walks: what Go functions of this chapter come to, each as a function on plain data; no condition but those that each theorem names. Printed by a program of this work (gen.py). -/
namespace Go.Proofs.Ytpadfgomhojjnaa
open Go.Gx Go.Gx.T13 Go.Gx.T8 Go.Gx.T4 Go.Gx.T3 Go.Gx.T14 Go.Gx.T13 Go.Gx.T8 Go.Gx.T6 Go.Gx.T4 Go.Gx.T3 Go.Gx.T3 Go.Gx.T4 Go.Gx.T3 Go.Gx.T5 Go.Gx.T1 Go.Gx.T8 Go.Gx.T6 Go.Gx.T4 Go.Gx.T3 Go.Gx.T6 Go.Gx.T8 Go.Gx.T4 Go.Gx.T3 Go.Gx.T8 Go.Gx.T4 Go.Gx.T3 Go.Gx.T8 Go.Gx.T6 Go.Gx.T4 Go.Gx.T3
theorem sz145 : SzIs Try.prog 145 4 := by
  unfold SzIs
  kernel_rfl
theorem sz168 : SzIs Try.prog 168 2 := by
  unfold SzIs
  kernel_rfl
theorem zr99 : ZeroIs Try.prog 99 (Value.agg #[Value.int .i64 0, Value.int .i64 0]) := by
  unfold ZeroIs
  kernel_rfl
theorem zr145 : ZeroIs Try.prog 145 (Value.agg #[Value.int .i64 0, Value.int .i64 0, Value.int .i64 0, Value.int .i64 0]) := by
  unfold ZeroIs
  kernel_rfl
theorem zr168 : ZeroIs Try.prog 168 (Value.agg #[Value.int .i64 0, Value.int .i64 0]) := by
  unfold ZeroIs
  kernel_rfl
theorem cl38 : Callable Try.prog 38 := callable Try.func38 (by kernel_rfl) rfl
theorem cl58 : Callable Try.prog 58 := callable Try.func58 (by kernel_rfl) rfl
theorem cl75 : Callable Try.prog 75 := callable Try.func75 (by kernel_rfl) rfl
theorem bl168_0i1_1i1 (x0 : Int) (x1 : Int) : Program.built Try.prog 168 [(0, Value.int .i64 x0), (1, Value.int .i64 x1)] = some #[Value.int .i64 x0, Value.int .i64 x1] := by
  kernel_rfl
theorem bs168_10a2 (a0 a1 : Value) : Instr.fill (fun i => some (i * 2, 2)) ((Array.range (1 * 2)).map ((Value.agg #[Value.int .i64 0, Value.int .i64 0]).cells[· % (Value.agg #[Value.int .i64 0, Value.int .i64 0]).cells.size]!)) [(0, Value.agg #[a0, a1])] = some #[a0, a1] := by
  kernel_rfl
theorem el168 : ElemIs Try.prog 168 2 16 (Value.agg #[Value.int .i64 0, Value.int .i64 0]) := by
  unfold ElemIs
  kernel_rfl
def TermsIs (n : Nat) : Prop := ∀ (vf vl vp vi : Value) (fs : List FD) (l : List CT) (ps : List Pr) (ids : List Int) (G : Ghost) (w : World), SizeOf.sizeOf l ≤ n → fs.length ≤ 12 → sizeL l ≤ 30 → ps.length + 3 * sizeL l ≤ 90 → ids.length + sizeL l ≤ 100 → (fs.length + 1) ^ posL l ≤ 3000 → SlL G vf 4 fC f0 fs → Rs G vl l → SlL G vp 2 pr (0, 0) ps → SlL G vi 1 cI 0 ids → Has G w → Calls Try.prog 38 #[vf, vl, vp, vi] w (Ret fun r w' => ∃ G', GNew w nX G G' ∧ Has G' w' ∧ LI G' r (tm fs l ps ids) ∧ Since nX w w')
theorem c_get (s : Value) (v : Int) (ps : List Pr) {G : Ghost} (hs : SlL G s 2 pr (0, 0) ps) (w : World) (hG : Has G w) :
    Calls Try.prog 75 #[s, Value.int .i64 v] w (Ret fun r w' => r = Value.int .i64 (getP ps v) ∧ Since nX w w') := by
  refine enter (args := [_, _]) (X := nX) (G := G) (l := [(0, s), (1, Value.int .i64 v)]) Try.func75 rfl Try.ntmps75 hG ⟨rfl, rfl, trivial⟩ (Nat.le_of_ble_eq_true rfl) ?_
  refine c_seq ?_
  refine c_region ?_
  refine r_val .none rfl (p_assign rfl) ?_
  refine r_nil ?_
  refine e_next ?_
  refine c_seq ?_
  refine c_seq ?_
  refine c_region ?_
  refine r_val .none rfl (p_move rfl) ?_
  refine r_val .none rfl (p_leng Try.underlying143 rfl hs) ?_
  have bd_1 := (hs).bound
  refine r_val .none rfl (p_move rfl) ?_
  refine r_nil ?_
  refine e_next ?_
  refine c_block ?_
  refine c_name (d := 1) rfl (fun u_2 hu_2 => ?_)
  refine c_name (d := 7) rfl (fun u_3 hu_3 => ?_)
  refine c_name (d := 8) rfl (fun u_4 hu_4 => ?_)
  refine c_loop (σ := Nat) (fun k => [(9, Value.int .i64 (k : Int)), (1, u_2), (7, u_3), (8, u_4)]) (fun k => []) (fun _ => _) (fun k => k ≤ ps.length ∧ getP (ps.drop k) v = getP ps v) (fun k => ps.length - k) (0) ⟨Nat.zero_le _, rfl⟩ rfl ⟨rfl, rfl, rfl, rfl, trivial⟩ (.nil) (fun k hphi => ?_)
  subst hu_2
  subst hu_3
  subst hu_4
  refine c_seq ?_
  refine c_region ?_
  refine r_val .none rfl (p_lt rfl rfl) ?_
  refine r_nil ?_
  refine e_next ?_
  refine c_seq ?_
  refine c_splitd (d := 10) rfl (fun h_5 => ?_) (fun h_5 => ?_)
  · skip
    first
      | (exfalso; omega)
      | (
        refine c_cond_t rfl ?_
        refine c_skip ?_
        refine e_next ?_
        refine c_seq ?_
        refine c_block ?_
        refine c_seq ?_
        refine c_region ?_
        refine r_iaddr_g .none rfl Try.underlying143 sz168 rfl hs rfl (by first | exact of_decide_eq_true rfl | omega) (fun p_7 o_8 R_6 => ?_)
        refine r_val .none rfl (p_ldga0 Try.underlying168 rfl sz168 rfl R_6 (by first | exact of_decide_eq_true rfl | omega) (rfl : _ = Value.agg #[_, _])) ?_
        refine r_alloc .none rfl zr168 (IsRow.lit _) (fun b_1 => ?_)
        refine r_stw (k := 0) .none sz168 rfl rfl (IsRow.lit _) (one_lit rfl rfl) rfl ?_
        refine r_nil ?_
        refine e_next ?_
        refine c_seq ?_
        refine c_region ?_
        refine r_val .none rfl (p_field Try.underlying168 rfl sz3 rfl) ?_
        refine r_val .none rfl (p_ld (k := 0) Try.underlying3 rfl rfl rfl (by first | exact of_decide_eq_true rfl | omega) (rfl : _ = Value.int _ _)) ?_
        refine r_val .none rfl (p_move rfl) ?_
        refine r_val .none rfl (p_eq rfl rfl) ?_
        refine r_nil ?_
        refine e_next ?_
        refine c_splitd (d := 16) rfl (fun h_9 => ?_) (fun h_9 => ?_)
        · skip
          first
            | (exfalso; omega)
            | (
              refine c_cond_t rfl ?_
              refine c_seq ?_
              refine c_region ?_
              refine r_val .none rfl (p_field Try.underlying168 rfl sz3 rfl) ?_
              refine r_val .none rfl (p_ld (k := 0) Try.underlying3 rfl rfl rfl (by first | exact of_decide_eq_true rfl | omega) (rfl : _ = Value.int _ _)) ?_
              refine r_val .none rfl (p_assign rfl) ?_
              refine r_nil ?_
              refine e_next ?_
              refine c_ret ?_
              refine e_ret_block ?_
              refine e_ret_then ?_
              refine e_ret_then ?_
              refine e_ret_block ?_
              refine e_ret_then ?_
              refine e_ret1 Try.results75 (.tmp rfl .nil) (fun w hm => ⟨?_, hm.since⟩)
              first
              | (rw [← hphi.2, getP_drop (i := k) (e := (0, 0)) (by omega), if_pos ‹(ps.getD k (0, 0)).1 = v›]; done)
              | (rw [← hphi.2, List.drop_eq_nil_of_le (by omega)]; rfl)
              )
        · skip
          first
            | (exfalso; omega)
            | (
              refine c_cond_f rfl ?_
              refine c_skip ?_
              refine e_norm_block ?_
              refine e_next ?_
              refine c_region ?_
              refine r_val .none rfl (p_add rfl rfl (by omega)) ?_
              refine r_val .none rfl (p_move rfl) ?_
              refine r_nil ?_
              refine e_round (k + 1) ⟨⟨by omega, by rw [← hphi.2, getP_drop (i := k) (e := (0, 0)) (by omega), if_neg ‹¬ (ps.getD k (0, 0)).1 = v›]⟩, by omega⟩ rfl ⟨rfl, rfl, rfl, rfl, trivial⟩ (.drop (.nil))
              )
        )
  · skip
    first
      | (exfalso; omega)
      | (
        refine c_cond_f rfl ?_
        refine c_exit ?_
        refine e_exit_then ?_
        refine e_exit_then ?_
        refine e_exit_block ?_
        refine e_next ?_
        refine c_seq ?_
        refine c_region ?_
        refine r_val .none rfl (p_assign rfl) ?_
        refine r_nil ?_
        refine e_next ?_
        refine c_ret ?_
        refine e_ret1 Try.results75 (.tmp rfl .nil) (fun w hm => ⟨?_, hm.since⟩)
        first
        | (rw [← hphi.2, getP_drop (i := k) (e := (0, 0)) (by omega), if_pos ‹(ps.getD k (0, 0)).1 = v›]; done)
        | (rw [← hphi.2, List.drop_eq_nil_of_le (by omega)]; rfl)
        )
theorem c_rfitB (v0 : Bool) (n0 : Int) (v1 : Bool) (n1 : Int) (v2 : Bool) (n2 : Int) (t0 t1 t2 : Int) (s : Value) (ps : List Pr) {G : Ghost} (hs : SlL G s 2 pr (0, 0) ps) (hl : ps.length ≤ 90) (w : World) (hG : Has G w) :
    Calls Try.prog 58 #[Value.agg #[Value.int .i64 (vi v0), Value.int .i64 n0, Value.int .i64 (vi v1), Value.int .i64 n1, Value.int .i64 (vi v2), Value.int .i64 n2], Value.agg #[Value.int .i64 t0, Value.int .i64 t1, Value.int .i64 t2], s] w (Ret fun r w' => ∃ G', GNew w nX G G' ∧ Has G' w' ∧ (∃ v, r = .tuple #[v, .bool (rfit v0 n0 v1 n1 v2 n2 t0 t1 t2 ps 3).isSome] ∧ SlL G' v 2 pr (0, 0) ((rfit v0 n0 v1 n1 v2 n2 t0 t1 t2 ps 3).getD ps)) ∧ Since nX w w') := by
  refine enter (args := [_, _, _]) (X := nX) (G := G) (l := [(0, Value.agg #[Value.int .i64 (vi v0), Value.int .i64 n0, Value.int .i64 (vi v1), Value.int .i64 n1, Value.int .i64 (vi v2), Value.int .i64 n2]), (1, Value.agg #[Value.int .i64 t0, Value.int .i64 t1, Value.int .i64 t2]), (2, s)]) Try.func58 rfl Try.ntmps58 hG ⟨rfl, rfl, rfl, trivial⟩ (Nat.le_of_ble_eq_true rfl) ?_
  refine c_seq ?_
  refine c_region ?_
  refine r_box .none rfl rfl (IsRow.lit _) (fun b_1 => ?_)
  refine r_box .none rfl rfl (IsRow.lit _) (fun b_2 => ?_)
  refine r_val .none rfl (p_assign rfl) ?_
  refine r_val .none rfl (p_assign rfl) ?_
  refine r_nil ?_
  refine e_next ?_
  refine c_seq ?_
  refine c_region ?_
  refine r_val .none rfl (p_assign rfl) ?_
  refine r_nil ?_
  refine e_next ?_
  refine c_seq ?_
  refine c_region ?_
  refine r_val .none rfl (p_move rfl) ?_
  refine r_val .none rfl (p_move rfl) ?_
  refine r_nilrow 168 2 ?_
  refine r_append_g (k := 0) .none rfl Try.underlying143 el168 rfl (by decide) rfl rfl rfl hs (fun _ _ _ hj => one_lit rfl rfl _ hj) (by simp only [maxLen]; omega) (by omega) (fun v_1 => ?_)
  refine r_row1 (k := 0) rfl (fun o_2 => ?_)
  refine r_val .none rfl (p_assign rfl) ?_
  refine r_nil ?_
  refine e_next ?_
  refine c_seq ?_
  refine c_seq ?_
  refine c_region ?_
  refine r_val .none rfl (p_assign rfl) ?_
  refine r_nil ?_
  refine e_next ?_
  refine c_block ?_
  refine c_name (d := 2) rfl (fun u_3 hu_3 => ?_)
  refine c_name (d := 3) rfl (fun u_4 hu_4 => ?_)
  refine c_name (d := 4) rfl (fun u_5 hu_5 => ?_)
  refine c_nameL (k := 1) rfl (fun A_6 hA_6 => ?_)
  refine c_nameL (k := 2) rfl (fun A_7 hA_7 => ?_)
  refine c_loop (σ := Nat × Value × List Pr) (fun s => [(9, Value.int .i64 (s.1 : Int)), (8, s.2.1), (2, u_3), (3, u_4), (4, u_5)]) (fun s => [rowA (s.2.1) 168 2 (s.2.2).length ((s.2.2).flatMap pr), A_6, A_7]) (fun _ => _) (fun s => s.1 ≤ 3 ∧ rfit v0 n0 v1 n1 v2 n2 t0 t1 t2 ps s.1 = some s.2.2) (fun s => 3 - s.1) ((0, _, ps)) ⟨by omega, rfl⟩ rfl ⟨rfl, rfl, rfl, rfl, rfl, trivial⟩ (.keep (fun _ _ h => rowA_congr (Nat.zero_add _) ((List.nil_append _).trans (flat_pr0 ps)) _ _ h) (.keep (fun _ _ h => h) (.keep (fun _ _ h => h) (.nil)))) (fun s hphi => ?_)
  subst hu_3
  subst hu_4
  subst hu_5
  subst hA_6
  subst hA_7
  obtain ⟨k, v, qs⟩ := s
  obtain ⟨hk, hfit⟩ := hphi
  dsimp only at hk hfit ⊢
  have hlen := rfit_len hfit
  obtain rfl | rfl | rfl | rfl : k = 0 ∨ k = 1 ∨ k = 2 ∨ k = 3 := by omega
  · skip
    refine c_seq ?_
    refine c_seq ?_
    refine c_region ?_
    refine r_val .none rfl (p_move rfl) ?_
    refine r_val .none rfl (p_lt rfl rfl) ?_
    refine r_say (d := 16) (v := Value.bool true) rfl ?_
    refine r_nil ?_
    refine e_next ?_
    refine c_cond_t rfl ?_
    refine c_skip ?_
    refine e_next ?_
    refine c_seq ?_
    refine c_block ?_
    refine c_seq ?_
    refine c_region ?_
    refine r_val .none rfl (p_move rfl) ?_
    refine r_val .none rfl (p_iaddr (k := 0) Try.underlying100 sz99 rfl rfl (by first | exact of_decide_eq_true rfl | omega)) ?_
    refine r_val .none rfl (p_lda (k := 2) Try.underlying99 rfl sz99 rfl rfl (by first | exact of_decide_eq_true rfl | omega) (rfl : _ = Value.agg #[_, _])) ?_
    refine r_alloc .none rfl zr99 (IsRow.lit _) (fun b_3 => ?_)
    refine r_stw (k := 0) .none sz99 rfl rfl (IsRow.lit _) (one_lit rfl rfl) rfl ?_
    refine r_nil ?_
    refine e_next ?_
    refine c_seq ?_
    refine c_seq ?_
    refine c_region ?_
    refine r_val .none rfl (p_field Try.underlying99 rfl sz3 rfl) ?_
    refine r_val .none rfl (p_ld (k := 0) Try.underlying3 rfl rfl rfl (by first | exact of_decide_eq_true rfl | omega) (rfl : _ = Value.int _ _)) ?_
    refine r_val .none rfl (p_eq rfl rfl) ?_
    refine r_nil ?_
    refine e_next ?_
    refine c_splitd (d := 24) rfl (fun h_8 => ?_) (fun h_8 => ?_)
    · skip
      first
        | (exfalso; omega)
        | (
          refine c_cond_t rfl ?_
          refine c_seq ?_
          refine c_seq ?_
          refine c_region_q mixed (by kernel_rfl) ?_
          refine q_val .none rfl (p_field Try.underlying99 rfl sz3 rfl) ?_
          refine q_val .none rfl (p_ld (k := 0) Try.underlying3 rfl rfl rfl (by first | exact of_decide_eq_true rfl | omega) (rfl : _ = Value.int _ _)) ?_
          refine q_val .none rfl (p_move rfl) ?_
          refine q_val .none rfl (p_iaddr (k := 0) Try.underlying105 sz3 rfl rfl (by first | exact of_decide_eq_true rfl | omega)) ?_
          refine q_val .none rfl (p_ld (k := 2) Try.underlying3 rfl rfl rfl (by first | exact of_decide_eq_true rfl | omega) (rfl : _ = Value.int _ _)) ?_
          refine q_val .none rfl (p_ne rfl rfl) ?_
          refine q_nil ?_
          refine e_next ?_
          refine c_splitd (d := 30) rfl (fun h_9 => ?_) (fun h_9 => ?_)
          · skip
            first
              | (exfalso; omega)
              | (
                refine c_cond_t rfl ?_
                refine c_seq ?_
                refine c_region ?_
                refine r_val .none rfl (p_move rfl) ?_
                refine r_val .none rfl (p_assign rfl) ?_
                refine r_val .none rfl (p_assign rfl) ?_
                refine r_nil ?_
                refine e_next ?_
                refine c_ret ?_
                refine e_ret_then ?_
                refine e_ret_then ?_
                refine e_ret_block ?_
                refine e_ret_then ?_
                refine e_ret_then ?_
                refine e_ret_block ?_
                refine e_ret_then ?_
                refine e_retn Try.results58 (.tmp rfl (.tmp rfl .nil)) rfl (fun w hm => ⟨_, (GNew.refl _ _ _), hm.has, ?_, hm.since⟩)
                rw [show rfit v0 n0 v1 n1 v2 n2 t0 t1 t2 ps 3 = none from upTo_no hfit (by cases v0 <;> simp_all [rfit1, selB, sel3, vi]) (Nat.le_of_ble_eq_true rfl)]; exact ⟨_, rfl, hs⟩
                )
          · skip
            first
              | (exfalso; omega)
              | (
                refine c_cond_f rfl ?_
                refine c_skip ?_
                refine e_next ?_
                refine c_exit ?_
                refine e_exit_then ?_
                refine e_exit_block ?_
                refine e_next ?_
                refine c_region ?_
                refine r_val .none rfl (p_move rfl) ?_
                refine r_val .none rfl (p_add rfl rfl (by omega)) ?_
                refine r_val .none rfl (p_assign rfl) ?_
                refine r_nil ?_
                refine e_round ((1, _, qs)) ⟨⟨Nat.le_of_ble_eq_true rfl, ?_⟩, Nat.le_of_ble_eq_true rfl⟩ rfl ⟨rfl, rfl, rfl, rfl, rfl, trivial⟩ (.drop (.keep (fun _ _ h => rowA_same rfl _ _ h) (.keep (fun _ _ h => h) (.keep (fun _ _ h => h) (.nil)))))
                refine (upTo_next hfit).trans ?_
                cases v0 <;> simp_all [rfit1, selB, sel3, vi]
                )
          )
    · skip
      first
        | (exfalso; omega)
        | (
          refine c_cond_f rfl ?_
          refine c_skip ?_
          refine e_next ?_
          refine c_seq ?_
          refine c_region ?_
          refine r_val .none rfl (p_move rfl) ?_
          refine r_val .none rfl (p_field Try.underlying99 rfl sz3 rfl) ?_
          refine r_val .none rfl (p_ld (k := 0) Try.underlying3 rfl rfl rfl (by first | exact of_decide_eq_true rfl | omega) (rfl : _ = Value.int _ _)) ?_
          refine r_callr (k := 1) (vs := [_, _]) .none rfl cl75 rfl rfl (fun w G_10 hw hle_11 hs_12 => c_get _ _ _ (SlL.of (0, 0) (fun _ => rfl) rfl hs_12) w hw) ?_
          refine r_val .none rfl (p_assign rfl) ?_
          refine r_nil ?_
          refine e_next ?_
          refine c_seq ?_
          refine c_region ?_
          refine r_val .none rfl (p_move rfl) ?_
          refine r_val .none rfl (p_eq rfl rfl) ?_
          refine r_nil ?_
          refine e_next ?_
          refine c_splitd (d := 37) rfl (fun h_13 => ?_) (fun h_13 => ?_)
          · skip
            first
              | (exfalso; omega)
              | (
                refine c_cond_t rfl ?_
                refine c_region_d (fun _ => false) _ mixed (.keep (fun _ _ h => h) (.drop (.keep (fun _ _ h => h) (.keep (fun _ _ h => h) (.nil))))) ?_
                refine d_val1 0 rfl rfl (by kernel_rfl) (fun _ _ => rfl) .none rfl (p_move rfl) ?_
                refine d_val1 1 rfl rfl (by kernel_rfl) (fun _ _ => rfl) .none rfl (p_field Try.underlying99 rfl sz3 rfl) ?_
                refine d_val1 2 rfl rfl (by kernel_rfl) (fun _ _ => rfl) .none rfl (p_ld (k := 0) Try.underlying3 rfl rfl rfl (by first | exact of_decide_eq_true rfl | omega) (rfl : _ = Value.int _ _)) ?_
                refine d_val1 3 rfl rfl (by kernel_rfl) (fun _ _ => rfl) .none rfl (p_move rfl) ?_
                refine d_val1 4 rfl rfl (by kernel_rfl) (fun _ _ => rfl) .none rfl (p_iaddr (k := 0) Try.underlying105 sz3 rfl rfl (by first | exact of_decide_eq_true rfl | omega)) ?_
                refine d_val1 5 rfl rfl (by kernel_rfl) (fun _ _ => rfl) .none rfl (p_ld (k := 1) Try.underlying3 rfl rfl rfl (by first | exact of_decide_eq_true rfl | omega) (rfl : _ = Value.int _ _)) ?_
                refine d_val1 6 rfl rfl (by kernel_rfl) (fun _ _ => rfl) .none rfl (p_build (vs := [(0, Value.int _ _), (1, Value.int _ _)]) rfl (bl168_0i1_1i1 _ _)) ?_
                refine d_eff 7 rfl (by kernel_rfl) (fun K_14 hKK_14 hcK_14 => ?_)
                refine r_bslice (vs := [(0, Value.agg #[_, _])]) (c := #[_, _]) .none rfl Try.underlying143 el168 rfl rfl rfl (bs168_10a2 _ _) (IsRow.lit _) (fun b_4 => ?_)
                refine r_nil (e_d (i := 7) (brk := (fun _ => false)) (ph' := true) hKK_14 hcK_14 rfl (fun _ => GLe.refl _) (fun _ => .drop (.keep (fun _ _ h => h) (.drop (.keep (fun _ _ h => h) (.keep (fun _ _ h => h) (.nil)))))) ?_)
                clear hKK_14 hcK_14 K_14
                refine d_eff 8 rfl (by kernel_rfl) (fun K_15 hKK_15 hcK_15 => ?_)
                refine r_append (k := 2) (k2 := 0) .none rfl Try.underlying143 el168 rfl (by decide) rfl rfl rfl rfl rfl (one_lit rfl rfl) (by simp only [maxLen]; omega) (by omega) (fun v_16 => ?_)
                refine r_row1 (k := 2) rfl (fun o_17 => ?_)
                refine r_nil (e_d (i := 8) (brk := (fun _ => false)) (ph' := true) hKK_15 hcK_15 rfl (fun _ => GLe.refl _) (fun _ => .drop (.keep (fun _ _ h => h) (.drop (.keep (fun _ _ h => h) (.keep (fun _ _ h => h) (.nil)))))) ?_)
                clear hKK_15 hcK_15 K_15
                refine d_val1 9 rfl rfl (by kernel_rfl) (fun _ _ => rfl) .none rfl (p_assign rfl) ?_
                refine d_nil (by kernel_rfl) ?_
                refine e_norm_block ?_
                refine e_next ?_
                refine c_region ?_
                refine r_val .none rfl (p_move rfl) ?_
                refine r_val .none rfl (p_add rfl rfl (by omega)) ?_
                refine r_val .none rfl (p_assign rfl) ?_
                refine r_nil ?_
                refine e_round ((1, _, qs ++ [(n0, t0)])) ⟨⟨Nat.le_of_ble_eq_true rfl, ?_⟩, Nat.le_of_ble_eq_true rfl⟩ rfl ⟨rfl, rfl, rfl, rfl, rfl, trivial⟩ (.drop (.drop (.keep (fun _ _ h => rowA_snoc (l := qs) (x := (n0, t0)) rfl rfl rfl rfl _ _ h) (.keep (fun _ _ h => h) (.keep (fun _ _ h => h) (.nil))))))
                refine (upTo_next hfit).trans ?_
                cases v0 <;> simp_all [rfit1, selB, sel3, vi]
                )
          · skip
            first
              | (exfalso; omega)
              | (
                refine c_cond_f rfl ?_
                refine c_seq ?_
                refine c_region ?_
                refine r_val .none rfl (p_move rfl) ?_
                refine r_val .none rfl (p_move rfl) ?_
                refine r_val .none rfl (p_iaddr (k := 0) Try.underlying105 sz3 rfl rfl (by first | exact of_decide_eq_true rfl | omega)) ?_
                refine r_val .none rfl (p_ld (k := 2) Try.underlying3 rfl rfl rfl (by first | exact of_decide_eq_true rfl | omega) (rfl : _ = Value.int _ _)) ?_
                refine r_val .none rfl (p_ne rfl rfl) ?_
                refine r_nil ?_
                refine e_next ?_
                refine c_splitd (d := 51) rfl (fun h_18 => ?_) (fun h_18 => ?_)
                · skip
                  first
                    | (exfalso; omega)
                    | (
                      refine c_cond_t rfl ?_
                      refine c_seq ?_
                      refine c_region ?_
                      refine r_val .none rfl (p_move rfl) ?_
                      refine r_val .none rfl (p_assign rfl) ?_
                      refine r_val .none rfl (p_assign rfl) ?_
                      refine r_nil ?_
                      refine e_next ?_
                      refine c_ret ?_
                      refine e_ret_block ?_
                      refine e_ret_then ?_
                      refine e_ret_then ?_
                      refine e_ret_block ?_
                      refine e_ret_then ?_
                      refine e_retn Try.results58 (.tmp rfl (.tmp rfl .nil)) rfl (fun w hm => ⟨_, (GNew.refl _ _ _), hm.has, ?_, hm.since⟩)
                      rw [show rfit v0 n0 v1 n1 v2 n2 t0 t1 t2 ps 3 = none from upTo_no hfit (by cases v0 <;> simp_all [rfit1, selB, sel3, vi]) (Nat.le_of_ble_eq_true rfl)]; exact ⟨_, rfl, hs⟩
                      )
                · skip
                  first
                    | (exfalso; omega)
                    | (
                      refine c_cond_f rfl ?_
                      refine c_skip ?_
                      refine e_norm_block ?_
                      refine e_next ?_
                      refine c_region ?_
                      refine r_val .none rfl (p_move rfl) ?_
                      refine r_val .none rfl (p_add rfl rfl (by omega)) ?_
                      refine r_val .none rfl (p_assign rfl) ?_
                      refine r_nil ?_
                      refine e_round ((1, _, qs)) ⟨⟨Nat.le_of_ble_eq_true rfl, ?_⟩, Nat.le_of_ble_eq_true rfl⟩ rfl ⟨rfl, rfl, rfl, rfl, rfl, trivial⟩ (.drop (.keep (fun _ _ h => rowA_same rfl _ _ h) (.keep (fun _ _ h => h) (.keep (fun _ _ h => h) (.nil)))))
                      refine (upTo_next hfit).trans ?_
                      cases v0 <;> simp_all [rfit1, selB, sel3, vi]
                      )
                )
          )
  · skip
    refine c_seq ?_
    refine c_seq ?_
    refine c_region ?_
    refine r_val .none rfl (p_move rfl) ?_
    refine r_val .none rfl (p_lt rfl rfl) ?_
    refine r_say (d := 16) (v := Value.bool true) rfl ?_
    refine r_nil ?_
    refine e_next ?_
    refine c_cond_t rfl ?_
    refine c_skip ?_
    refine e_next ?_
    refine c_seq ?_
    refine c_block ?_
    refine c_seq ?_
    refine c_region ?_
    refine r_val .none rfl (p_move rfl) ?_
    refine r_val .none rfl (p_iaddr (k := 1) Try.underlying100 sz99 rfl rfl (by first | exact of_decide_eq_true rfl | omega)) ?_
    refine r_val .none rfl (p_lda (k := 2) Try.underlying99 rfl sz99 rfl rfl (by first | exact of_decide_eq_true rfl | omega) (rfl : _ = Value.agg #[_, _])) ?_
    refine r_alloc .none rfl zr99 (IsRow.lit _) (fun b_5 => ?_)
    refine r_stw (k := 0) .none sz99 rfl rfl (IsRow.lit _) (one_lit rfl rfl) rfl ?_
    refine r_nil ?_
    refine e_next ?_
    refine c_seq ?_
    refine c_seq ?_
    refine c_region ?_
    refine r_val .none rfl (p_field Try.underlying99 rfl sz3 rfl) ?_
    refine r_val .none rfl (p_ld (k := 0) Try.underlying3 rfl rfl rfl (by first | exact of_decide_eq_true rfl | omega) (rfl : _ = Value.int _ _)) ?_
    refine r_val .none rfl (p_eq rfl rfl) ?_
    refine r_nil ?_
    refine e_next ?_
    refine c_splitd (d := 24) rfl (fun h_19 => ?_) (fun h_19 => ?_)
    · skip
      first
        | (exfalso; omega)
        | (
          refine c_cond_t rfl ?_
          refine c_seq ?_
          refine c_seq ?_
          refine c_region_q mixed (by kernel_rfl) ?_
          refine q_val .none rfl (p_field Try.underlying99 rfl sz3 rfl) ?_
          refine q_val .none rfl (p_ld (k := 0) Try.underlying3 rfl rfl rfl (by first | exact of_decide_eq_true rfl | omega) (rfl : _ = Value.int _ _)) ?_
          refine q_val .none rfl (p_move rfl) ?_
          refine q_val .none rfl (p_iaddr (k := 1) Try.underlying105 sz3 rfl rfl (by first | exact of_decide_eq_true rfl | omega)) ?_
          refine q_val .none rfl (p_ld (k := 2) Try.underlying3 rfl rfl rfl (by first | exact of_decide_eq_true rfl | omega) (rfl : _ = Value.int _ _)) ?_
          refine q_val .none rfl (p_ne rfl rfl) ?_
          refine q_nil ?_
          refine e_next ?_
          refine c_splitd (d := 30) rfl (fun h_20 => ?_) (fun h_20 => ?_)
          · skip
            first
              | (exfalso; omega)
              | (
                refine c_cond_t rfl ?_
                refine c_seq ?_
                refine c_region ?_
                refine r_val .none rfl (p_move rfl) ?_
                refine r_val .none rfl (p_assign rfl) ?_
                refine r_val .none rfl (p_assign rfl) ?_
                refine r_nil ?_
                refine e_next ?_
                refine c_ret ?_
                refine e_ret_then ?_
                refine e_ret_then ?_
                refine e_ret_block ?_
                refine e_ret_then ?_
                refine e_ret_then ?_
                refine e_ret_block ?_
                refine e_ret_then ?_
                refine e_retn Try.results58 (.tmp rfl (.tmp rfl .nil)) rfl (fun w hm => ⟨_, (GNew.refl _ _ _), hm.has, ?_, hm.since⟩)
                rw [show rfit v0 n0 v1 n1 v2 n2 t0 t1 t2 ps 3 = none from upTo_no hfit (by cases v1 <;> simp_all [rfit1, selB, sel3, vi]) (Nat.le_of_ble_eq_true rfl)]; exact ⟨_, rfl, hs⟩
                )
          · skip
            first
              | (exfalso; omega)
              | (
                refine c_cond_f rfl ?_
                refine c_skip ?_
                refine e_next ?_
                refine c_exit ?_
                refine e_exit_then ?_
                refine e_exit_block ?_
                refine e_next ?_
                refine c_region ?_
                refine r_val .none rfl (p_move rfl) ?_
                refine r_val .none rfl (p_add rfl rfl (by omega)) ?_
                refine r_val .none rfl (p_assign rfl) ?_
                refine r_nil ?_
                refine e_round ((2, _, qs)) ⟨⟨Nat.le_of_ble_eq_true rfl, ?_⟩, Nat.le_of_ble_eq_true rfl⟩ rfl ⟨rfl, rfl, rfl, rfl, rfl, trivial⟩ (.drop (.keep (fun _ _ h => rowA_same rfl _ _ h) (.keep (fun _ _ h => h) (.keep (fun _ _ h => h) (.nil)))))
                refine (upTo_next hfit).trans ?_
                cases v1 <;> simp_all [rfit1, selB, sel3, vi]
                )
          )
    · skip
      first
        | (exfalso; omega)
        | (
          refine c_cond_f rfl ?_
          refine c_skip ?_
          refine e_next ?_
          refine c_seq ?_
          refine c_region ?_
          refine r_val .none rfl (p_move rfl) ?_
          refine r_val .none rfl (p_field Try.underlying99 rfl sz3 rfl) ?_
          refine r_val .none rfl (p_ld (k := 0) Try.underlying3 rfl rfl rfl (by first | exact of_decide_eq_true rfl | omega) (rfl : _ = Value.int _ _)) ?_
          refine r_callr (k := 1) (vs := [_, _]) .none rfl cl75 rfl rfl (fun w G_21 hw hle_22 hs_23 => c_get _ _ _ (SlL.of (0, 0) (fun _ => rfl) rfl hs_23) w hw) ?_
          refine r_val .none rfl (p_assign rfl) ?_
          refine r_nil ?_
          refine e_next ?_
          refine c_seq ?_
          refine c_region ?_
          refine r_val .none rfl (p_move rfl) ?_
          refine r_val .none rfl (p_eq rfl rfl) ?_
          refine r_nil ?_
          refine e_next ?_
          refine c_splitd (d := 37) rfl (fun h_24 => ?_) (fun h_24 => ?_)
          · skip
            first
              | (exfalso; omega)
              | (
                refine c_cond_t rfl ?_
                refine c_region_d (fun _ => false) _ mixed (.keep (fun _ _ h => h) (.drop (.keep (fun _ _ h => h) (.keep (fun _ _ h => h) (.nil))))) ?_
                refine d_val1 0 rfl rfl (by kernel_rfl) (fun _ _ => rfl) .none rfl (p_move rfl) ?_
                refine d_val1 1 rfl rfl (by kernel_rfl) (fun _ _ => rfl) .none rfl (p_field Try.underlying99 rfl sz3 rfl) ?_
                refine d_val1 2 rfl rfl (by kernel_rfl) (fun _ _ => rfl) .none rfl (p_ld (k := 0) Try.underlying3 rfl rfl rfl (by first | exact of_decide_eq_true rfl | omega) (rfl : _ = Value.int _ _)) ?_
                refine d_val1 3 rfl rfl (by kernel_rfl) (fun _ _ => rfl) .none rfl (p_move rfl) ?_
                refine d_val1 4 rfl rfl (by kernel_rfl) (fun _ _ => rfl) .none rfl (p_iaddr (k := 1) Try.underlying105 sz3 rfl rfl (by first | exact of_decide_eq_true rfl | omega)) ?_
                refine d_val1 5 rfl rfl (by kernel_rfl) (fun _ _ => rfl) .none rfl (p_ld (k := 1) Try.underlying3 rfl rfl rfl (by first | exact of_decide_eq_true rfl | omega) (rfl : _ = Value.int _ _)) ?_
                refine d_val1 6 rfl rfl (by kernel_rfl) (fun _ _ => rfl) .none rfl (p_build (vs := [(0, Value.int _ _), (1, Value.int _ _)]) rfl (bl168_0i1_1i1 _ _)) ?_
                refine d_eff 7 rfl (by kernel_rfl) (fun K_25 hKK_25 hcK_25 => ?_)
                refine r_bslice (vs := [(0, Value.agg #[_, _])]) (c := #[_, _]) .none rfl Try.underlying143 el168 rfl rfl rfl (bs168_10a2 _ _) (IsRow.lit _) (fun b_6 => ?_)
                refine r_nil (e_d (i := 7) (brk := (fun _ => false)) (ph' := true) hKK_25 hcK_25 rfl (fun _ => GLe.refl _) (fun _ => .drop (.keep (fun _ _ h => h) (.drop (.keep (fun _ _ h => h) (.keep (fun _ _ h => h) (.nil)))))) ?_)
                clear hKK_25 hcK_25 K_25
                refine d_eff 8 rfl (by kernel_rfl) (fun K_26 hKK_26 hcK_26 => ?_)
                refine r_append (k := 2) (k2 := 0) .none rfl Try.underlying143 el168 rfl (by decide) rfl rfl rfl rfl rfl (one_lit rfl rfl) (by simp only [maxLen]; omega) (by omega) (fun v_27 => ?_)
                refine r_row1 (k := 2) rfl (fun o_28 => ?_)
                refine r_nil (e_d (i := 8) (brk := (fun _ => false)) (ph' := true) hKK_26 hcK_26 rfl (fun _ => GLe.refl _) (fun _ => .drop (.keep (fun _ _ h => h) (.drop (.keep (fun _ _ h => h) (.keep (fun _ _ h => h) (.nil)))))) ?_)
                clear hKK_26 hcK_26 K_26
                refine d_val1 9 rfl rfl (by kernel_rfl) (fun _ _ => rfl) .none rfl (p_assign rfl) ?_
                refine d_nil (by kernel_rfl) ?_
                refine e_norm_block ?_
                refine e_next ?_
                refine c_region ?_
                refine r_val .none rfl (p_move rfl) ?_
                refine r_val .none rfl (p_add rfl rfl (by omega)) ?_
                refine r_val .none rfl (p_assign rfl) ?_
                refine r_nil ?_
                refine e_round ((2, _, qs ++ [(n1, t1)])) ⟨⟨Nat.le_of_ble_eq_true rfl, ?_⟩, Nat.le_of_ble_eq_true rfl⟩ rfl ⟨rfl, rfl, rfl, rfl, rfl, trivial⟩ (.drop (.drop (.keep (fun _ _ h => rowA_snoc (l := qs) (x := (n1, t1)) rfl rfl rfl rfl _ _ h) (.keep (fun _ _ h => h) (.keep (fun _ _ h => h) (.nil))))))
                refine (upTo_next hfit).trans ?_
                cases v1 <;> simp_all [rfit1, selB, sel3, vi]
                )
          · skip
            first
              | (exfalso; omega)
              | (
                refine c_cond_f rfl ?_
                refine c_seq ?_
                refine c_region ?_
                refine r_val .none rfl (p_move rfl) ?_
                refine r_val .none rfl (p_move rfl) ?_
                refine r_val .none rfl (p_iaddr (k := 1) Try.underlying105 sz3 rfl rfl (by first | exact of_decide_eq_true rfl | omega)) ?_
                refine r_val .none rfl (p_ld (k := 2) Try.underlying3 rfl rfl rfl (by first | exact of_decide_eq_true rfl | omega) (rfl : _ = Value.int _ _)) ?_
                refine r_val .none rfl (p_ne rfl rfl) ?_
                refine r_nil ?_
                refine e_next ?_
                refine c_splitd (d := 51) rfl (fun h_29 => ?_) (fun h_29 => ?_)
                · skip
                  first
                    | (exfalso; omega)
                    | (
                      refine c_cond_t rfl ?_
                      refine c_seq ?_
                      refine c_region ?_
                      refine r_val .none rfl (p_move rfl) ?_
                      refine r_val .none rfl (p_assign rfl) ?_
                      refine r_val .none rfl (p_assign rfl) ?_
                      refine r_nil ?_
                      refine e_next ?_
                      refine c_ret ?_
                      refine e_ret_block ?_
                      refine e_ret_then ?_
                      refine e_ret_then ?_
                      refine e_ret_block ?_
                      refine e_ret_then ?_
                      refine e_retn Try.results58 (.tmp rfl (.tmp rfl .nil)) rfl (fun w hm => ⟨_, (GNew.refl _ _ _), hm.has, ?_, hm.since⟩)
                      rw [show rfit v0 n0 v1 n1 v2 n2 t0 t1 t2 ps 3 = none from upTo_no hfit (by cases v1 <;> simp_all [rfit1, selB, sel3, vi]) (Nat.le_of_ble_eq_true rfl)]; exact ⟨_, rfl, hs⟩
                      )
                · skip
                  first
                    | (exfalso; omega)
                    | (
                      refine c_cond_f rfl ?_
                      refine c_skip ?_
                      refine e_norm_block ?_
                      refine e_next ?_
                      refine c_region ?_
                      refine r_val .none rfl (p_move rfl) ?_
                      refine r_val .none rfl (p_add rfl rfl (by omega)) ?_
                      refine r_val .none rfl (p_assign rfl) ?_
                      refine r_nil ?_
                      refine e_round ((2, _, qs)) ⟨⟨Nat.le_of_ble_eq_true rfl, ?_⟩, Nat.le_of_ble_eq_true rfl⟩ rfl ⟨rfl, rfl, rfl, rfl, rfl, trivial⟩ (.drop (.keep (fun _ _ h => rowA_same rfl _ _ h) (.keep (fun _ _ h => h) (.keep (fun _ _ h => h) (.nil)))))
                      refine (upTo_next hfit).trans ?_
                      cases v1 <;> simp_all [rfit1, selB, sel3, vi]
                      )
                )
          )
  · skip
    refine c_seq ?_
    refine c_seq ?_
    refine c_region ?_
    refine r_val .none rfl (p_move rfl) ?_
    refine r_val .none rfl (p_lt rfl rfl) ?_
    refine r_say (d := 16) (v := Value.bool true) rfl ?_
    refine r_nil ?_
    refine e_next ?_
    refine c_cond_t rfl ?_
    refine c_skip ?_
    refine e_next ?_
    refine c_seq ?_
    refine c_block ?_
    refine c_seq ?_
    refine c_region ?_
    refine r_val .none rfl (p_move rfl) ?_
    refine r_val .none rfl (p_iaddr (k := 2) Try.underlying100 sz99 rfl rfl (by first | exact of_decide_eq_true rfl | omega)) ?_
    refine r_val .none rfl (p_lda (k := 2) Try.underlying99 rfl sz99 rfl rfl (by first | exact of_decide_eq_true rfl | omega) (rfl : _ = Value.agg #[_, _])) ?_
    refine r_alloc .none rfl zr99 (IsRow.lit _) (fun b_7 => ?_)
    refine r_stw (k := 0) .none sz99 rfl rfl (IsRow.lit _) (one_lit rfl rfl) rfl ?_
    refine r_nil ?_
    refine e_next ?_
    refine c_seq ?_
    refine c_seq ?_
    refine c_region ?_
    refine r_val .none rfl (p_field Try.underlying99 rfl sz3 rfl) ?_
    refine r_val .none rfl (p_ld (k := 0) Try.underlying3 rfl rfl rfl (by first | exact of_decide_eq_true rfl | omega) (rfl : _ = Value.int _ _)) ?_
    refine r_val .none rfl (p_eq rfl rfl) ?_
    refine r_nil ?_
    refine e_next ?_
    refine c_splitd (d := 24) rfl (fun h_30 => ?_) (fun h_30 => ?_)
    · skip
      first
        | (exfalso; omega)
        | (
          refine c_cond_t rfl ?_
          refine c_seq ?_
          refine c_seq ?_
          refine c_region_q mixed (by kernel_rfl) ?_
          refine q_val .none rfl (p_field Try.underlying99 rfl sz3 rfl) ?_
          refine q_val .none rfl (p_ld (k := 0) Try.underlying3 rfl rfl rfl (by first | exact of_decide_eq_true rfl | omega) (rfl : _ = Value.int _ _)) ?_
          refine q_val .none rfl (p_move rfl) ?_
          refine q_val .none rfl (p_iaddr (k := 2) Try.underlying105 sz3 rfl rfl (by first | exact of_decide_eq_true rfl | omega)) ?_
          refine q_val .none rfl (p_ld (k := 2) Try.underlying3 rfl rfl rfl (by first | exact of_decide_eq_true rfl | omega) (rfl : _ = Value.int _ _)) ?_
          refine q_val .none rfl (p_ne rfl rfl) ?_
          refine q_nil ?_
          refine e_next ?_
          refine c_splitd (d := 30) rfl (fun h_31 => ?_) (fun h_31 => ?_)
          · skip
            first
              | (exfalso; omega)
              | (
                refine c_cond_t rfl ?_
                refine c_seq ?_
                refine c_region ?_
                refine r_val .none rfl (p_move rfl) ?_
                refine r_val .none rfl (p_assign rfl) ?_
                refine r_val .none rfl (p_assign rfl) ?_
                refine r_nil ?_
                refine e_next ?_
                refine c_ret ?_
                refine e_ret_then ?_
                refine e_ret_then ?_
                refine e_ret_block ?_
                refine e_ret_then ?_
                refine e_ret_then ?_
                refine e_ret_block ?_
                refine e_ret_then ?_
                refine e_retn Try.results58 (.tmp rfl (.tmp rfl .nil)) rfl (fun w hm => ⟨_, (GNew.refl _ _ _), hm.has, ?_, hm.since⟩)
                rw [show rfit v0 n0 v1 n1 v2 n2 t0 t1 t2 ps 3 = none from upTo_no hfit (by cases v2 <;> simp_all [rfit1, selB, sel3, vi]) (Nat.le_of_ble_eq_true rfl)]; exact ⟨_, rfl, hs⟩
                )
          · skip
            first
              | (exfalso; omega)
              | (
                refine c_cond_f rfl ?_
                refine c_skip ?_
                refine e_next ?_
                refine c_exit ?_
                refine e_exit_then ?_
                refine e_exit_block ?_
                refine e_next ?_
                refine c_region ?_
                refine r_val .none rfl (p_move rfl) ?_
                refine r_val .none rfl (p_add rfl rfl (by omega)) ?_
                refine r_val .none rfl (p_assign rfl) ?_
                refine r_nil ?_
                refine e_round ((3, _, qs)) ⟨⟨Nat.le_of_ble_eq_true rfl, ?_⟩, Nat.le_of_ble_eq_true rfl⟩ rfl ⟨rfl, rfl, rfl, rfl, rfl, trivial⟩ (.drop (.keep (fun _ _ h => rowA_same rfl _ _ h) (.keep (fun _ _ h => h) (.keep (fun _ _ h => h) (.nil)))))
                refine (upTo_next hfit).trans ?_
                cases v2 <;> simp_all [rfit1, selB, sel3, vi]
                )
          )
    · skip
      first
        | (exfalso; omega)
        | (
          refine c_cond_f rfl ?_
          refine c_skip ?_
          refine e_next ?_
          refine c_seq ?_
          refine c_region ?_
          refine r_val .none rfl (p_move rfl) ?_
          refine r_val .none rfl (p_field Try.underlying99 rfl sz3 rfl) ?_
          refine r_val .none rfl (p_ld (k := 0) Try.underlying3 rfl rfl rfl (by first | exact of_decide_eq_true rfl | omega) (rfl : _ = Value.int _ _)) ?_
          refine r_callr (k := 1) (vs := [_, _]) .none rfl cl75 rfl rfl (fun w G_32 hw hle_33 hs_34 => c_get _ _ _ (SlL.of (0, 0) (fun _ => rfl) rfl hs_34) w hw) ?_
          refine r_val .none rfl (p_assign rfl) ?_
          refine r_nil ?_
          refine e_next ?_
          refine c_seq ?_
          refine c_region ?_
          refine r_val .none rfl (p_move rfl) ?_
          refine r_val .none rfl (p_eq rfl rfl) ?_
          refine r_nil ?_
          refine e_next ?_
          refine c_splitd (d := 37) rfl (fun h_35 => ?_) (fun h_35 => ?_)
          · skip
            first
              | (exfalso; omega)
              | (
                refine c_cond_t rfl ?_
                refine c_region_d (fun _ => false) _ mixed (.keep (fun _ _ h => h) (.drop (.keep (fun _ _ h => h) (.keep (fun _ _ h => h) (.nil))))) ?_
                refine d_val1 0 rfl rfl (by kernel_rfl) (fun _ _ => rfl) .none rfl (p_move rfl) ?_
                refine d_val1 1 rfl rfl (by kernel_rfl) (fun _ _ => rfl) .none rfl (p_field Try.underlying99 rfl sz3 rfl) ?_
                refine d_val1 2 rfl rfl (by kernel_rfl) (fun _ _ => rfl) .none rfl (p_ld (k := 0) Try.underlying3 rfl rfl rfl (by first | exact of_decide_eq_true rfl | omega) (rfl : _ = Value.int _ _)) ?_
                refine d_val1 3 rfl rfl (by kernel_rfl) (fun _ _ => rfl) .none rfl (p_move rfl) ?_
                refine d_val1 4 rfl rfl (by kernel_rfl) (fun _ _ => rfl) .none rfl (p_iaddr (k := 2) Try.underlying105 sz3 rfl rfl (by first | exact of_decide_eq_true rfl | omega)) ?_
                refine d_val1 5 rfl rfl (by kernel_rfl) (fun _ _ => rfl) .none rfl (p_ld (k := 1) Try.underlying3 rfl rfl rfl (by first | exact of_decide_eq_true rfl | omega) (rfl : _ = Value.int _ _)) ?_
                refine d_val1 6 rfl rfl (by kernel_rfl) (fun _ _ => rfl) .none rfl (p_build (vs := [(0, Value.int _ _), (1, Value.int _ _)]) rfl (bl168_0i1_1i1 _ _)) ?_
                refine d_eff 7 rfl (by kernel_rfl) (fun K_36 hKK_36 hcK_36 => ?_)
                refine r_bslice (vs := [(0, Value.agg #[_, _])]) (c := #[_, _]) .none rfl Try.underlying143 el168 rfl rfl rfl (bs168_10a2 _ _) (IsRow.lit _) (fun b_8 => ?_)
                refine r_nil (e_d (i := 7) (brk := (fun _ => false)) (ph' := true) hKK_36 hcK_36 rfl (fun _ => GLe.refl _) (fun _ => .drop (.keep (fun _ _ h => h) (.drop (.keep (fun _ _ h => h) (.keep (fun _ _ h => h) (.nil)))))) ?_)
                clear hKK_36 hcK_36 K_36
                refine d_eff 8 rfl (by kernel_rfl) (fun K_37 hKK_37 hcK_37 => ?_)
                refine r_append (k := 2) (k2 := 0) .none rfl Try.underlying143 el168 rfl (by decide) rfl rfl rfl rfl rfl (one_lit rfl rfl) (by simp only [maxLen]; omega) (by omega) (fun v_38 => ?_)
                refine r_row1 (k := 2) rfl (fun o_39 => ?_)
                refine r_nil (e_d (i := 8) (brk := (fun _ => false)) (ph' := true) hKK_37 hcK_37 rfl (fun _ => GLe.refl _) (fun _ => .drop (.keep (fun _ _ h => h) (.drop (.keep (fun _ _ h => h) (.keep (fun _ _ h => h) (.nil)))))) ?_)
                clear hKK_37 hcK_37 K_37
                refine d_val1 9 rfl rfl (by kernel_rfl) (fun _ _ => rfl) .none rfl (p_assign rfl) ?_
                refine d_nil (by kernel_rfl) ?_
                refine e_norm_block ?_
                refine e_next ?_
                refine c_region ?_
                refine r_val .none rfl (p_move rfl) ?_
                refine r_val .none rfl (p_add rfl rfl (by omega)) ?_
                refine r_val .none rfl (p_assign rfl) ?_
                refine r_nil ?_
                refine e_round ((3, _, qs ++ [(n2, t2)])) ⟨⟨Nat.le_of_ble_eq_true rfl, ?_⟩, Nat.le_of_ble_eq_true rfl⟩ rfl ⟨rfl, rfl, rfl, rfl, rfl, trivial⟩ (.drop (.drop (.keep (fun _ _ h => rowA_snoc (l := qs) (x := (n2, t2)) rfl rfl rfl rfl _ _ h) (.keep (fun _ _ h => h) (.keep (fun _ _ h => h) (.nil))))))
                refine (upTo_next hfit).trans ?_
                cases v2 <;> simp_all [rfit1, selB, sel3, vi]
                )
          · skip
            first
              | (exfalso; omega)
              | (
                refine c_cond_f rfl ?_
                refine c_seq ?_
                refine c_region ?_
                refine r_val .none rfl (p_move rfl) ?_
                refine r_val .none rfl (p_move rfl) ?_
                refine r_val .none rfl (p_iaddr (k := 2) Try.underlying105 sz3 rfl rfl (by first | exact of_decide_eq_true rfl | omega)) ?_
                refine r_val .none rfl (p_ld (k := 2) Try.underlying3 rfl rfl rfl (by first | exact of_decide_eq_true rfl | omega) (rfl : _ = Value.int _ _)) ?_
                refine r_val .none rfl (p_ne rfl rfl) ?_
                refine r_nil ?_
                refine e_next ?_
                refine c_splitd (d := 51) rfl (fun h_40 => ?_) (fun h_40 => ?_)
                · skip
                  first
                    | (exfalso; omega)
                    | (
                      refine c_cond_t rfl ?_
                      refine c_seq ?_
                      refine c_region ?_
                      refine r_val .none rfl (p_move rfl) ?_
                      refine r_val .none rfl (p_assign rfl) ?_
                      refine r_val .none rfl (p_assign rfl) ?_
                      refine r_nil ?_
                      refine e_next ?_
                      refine c_ret ?_
                      refine e_ret_block ?_
                      refine e_ret_then ?_
                      refine e_ret_then ?_
                      refine e_ret_block ?_
                      refine e_ret_then ?_
                      refine e_retn Try.results58 (.tmp rfl (.tmp rfl .nil)) rfl (fun w hm => ⟨_, (GNew.refl _ _ _), hm.has, ?_, hm.since⟩)
                      rw [show rfit v0 n0 v1 n1 v2 n2 t0 t1 t2 ps 3 = none from upTo_no hfit (by cases v2 <;> simp_all [rfit1, selB, sel3, vi]) (Nat.le_of_ble_eq_true rfl)]; exact ⟨_, rfl, hs⟩
                      )
                · skip
                  first
                    | (exfalso; omega)
                    | (
                      refine c_cond_f rfl ?_
                      refine c_skip ?_
                      refine e_norm_block ?_
                      refine e_next ?_
                      refine c_region ?_
                      refine r_val .none rfl (p_move rfl) ?_
                      refine r_val .none rfl (p_add rfl rfl (by omega)) ?_
                      refine r_val .none rfl (p_assign rfl) ?_
                      refine r_nil ?_
                      refine e_round ((3, _, qs)) ⟨⟨Nat.le_of_ble_eq_true rfl, ?_⟩, Nat.le_of_ble_eq_true rfl⟩ rfl ⟨rfl, rfl, rfl, rfl, rfl, trivial⟩ (.drop (.keep (fun _ _ h => rowA_same rfl _ _ h) (.keep (fun _ _ h => h) (.keep (fun _ _ h => h) (.nil)))))
                      refine (upTo_next hfit).trans ?_
                      cases v2 <;> simp_all [rfit1, selB, sel3, vi]
                      )
                )
          )
  · skip
    refine c_seq ?_
    refine c_seq ?_
    refine c_region ?_
    refine r_val .none rfl (p_move rfl) ?_
    refine r_val .none rfl (p_lt rfl rfl) ?_
    refine r_say (d := 16) (v := Value.bool false) rfl ?_
    refine r_nil ?_
    refine e_next ?_
    refine c_cond_f rfl ?_
    refine c_exit ?_
    refine e_exit_then ?_
    refine e_exit_then ?_
    refine e_exit_block ?_
    refine e_next ?_
    refine c_seq ?_
    refine c_region ?_
    refine r_val .none rfl (p_move rfl) ?_
    refine r_val .none rfl (p_assign rfl) ?_
    refine r_val .none rfl (p_assign rfl) ?_
    refine r_nil ?_
    refine e_next ?_
    refine c_ret ?_
    refine e_freeze (k := 0) rfl (fun G_41 hn_42 hs_43 => ?_)
    replace hs := hs.mono hn_42.le
    refine e_retn Try.results58 (.tmp rfl (.tmp rfl .nil)) rfl (fun w hm => ⟨_, hn_42, hm.has, ?_, hm.since⟩)
    rw [show rfit v0 n0 v1 n1 v2 n2 t0 t1 t2 ps 3 = some qs from hfit]; exact ⟨_, rfl, SlL.of (0, 0) (fun _ => rfl) rfl hs_43⟩
theorem c_terms_s (n : Nat) (ih : TermsIs n) (vf vl vp vi : Value) (fs : List FD) (l : List CT) (ps : List Pr) (ids : List Int) {G : Ghost} (hz : SizeOf.sizeOf l ≤ n + 1) (hfl : fs.length ≤ 12) (hsz : sizeL l ≤ 30) (hpl : ps.length + 3 * sizeL l ≤ 90) (hil : ids.length + sizeL l ≤ 100) (hpw : (fs.length + 1) ^ posL l ≤ 3000) (hf : SlL G vf 4 fC f0 fs) (hs : Rs G vl l) (hps : SlL G vp 2 pr (0, 0) ps) (hi : SlL G vi 1 cI 0 ids) (w : World) (hG : Has G w) :
    Calls Try.prog 38 #[vf, vl, vp, vi] w (Ret fun r w' => ∃ G', GNew w nX G G' ∧ Has G' w' ∧ LI G' r (tm fs l ps ids) ∧ Since nX w w') := by
  refine enter (args := [_, _, _, _]) (X := nX) (G := G) (l := [(0, vf), (1, vl), (2, vp), (3, vi)]) Try.func38 rfl Try.ntmps38 hG ⟨rfl, rfl, rfl, rfl, trivial⟩ (Nat.le_of_ble_eq_true rfl) ?_
  obtain ⟨rs, hr, hp, hl⟩ := hs.inv
  have hlr : l.length = rs.length := by rw [hl]; simp
  obtain ⟨ai, ci, rfl⟩ := SlG.len hi
  have hll := sizeL_len l
  refine c_seq ?_
  refine c_region ?_
  refine r_val .none rfl (p_assign rfl) ?_
  refine r_nil ?_
  refine e_next ?_
  refine c_seq ?_
  refine c_seq ?_
  refine c_region ?_
  refine r_val .none rfl (p_move rfl) ?_
  refine r_val .none rfl (p_leng Try.underlying75 rfl hr) ?_
  have bd_1 := (hr).bound
  refine r_val .none rfl (p_eq rfl rfl) ?_
  refine r_nil ?_
  refine e_next ?_
  refine c_splitd (d := 22) rfl (fun h_2 => ?_) (fun h_2 => ?_)
  · skip
    first
      | (exfalso; omega)
      | (
        refine c_cond_t rfl ?_
        refine c_seq ?_
        refine c_region ?_
        refine r_val .none rfl (p_move rfl) ?_
        refine r_bslice (vs := [(0, Value.slice _ _ _)]) (c := #[_]) .none rfl Try.underlying79 el22 rfl rfl rfl (bs22_10s3 _ _ _) (IsRow.lit _) (fun b_1 => ?_)
        refine r_freezeB (k := 0) 1 1 rfl rfl (by decide) (fun G_3 hn_4 hs_5 => ?_)
        replace hf := hf.mono hn_4.le
        replace hr := hr.mono hn_4.le
        replace hps := hps.mono hn_4.le
        replace hi := hi.mono hn_4.le
        replace hp := fun p hm0 => (hp p hm0).mono hn_4.le
        have h24 : SlL G_3 (Value.slice (some ⟨b_1, 0, none⟩) 1 1) 1 lC (([] : List Int), Value.slice none 0 0) [(ids, Value.slice ai ids.length ci)] := SlG.congr hs_5 (fun i hi j hj => by match i, hi with | 0, _ => (match j, hj with | 0, _ => rfl))
        have Lh24 : LI G_3 (Value.slice (some ⟨b_1, 0, none⟩) 1 1) [ids] := Ls.mk _ h24 (by intro p hm0; simp only [List.mem_cons, List.not_mem_nil, or_false] at hm0; subst hm0; exact hi)
        refine r_val .none rfl (p_assign rfl) ?_
        refine r_nil ?_
        refine e_next ?_
        refine c_ret ?_
        refine e_ret_then ?_
        refine e_ret1 Try.results38 (.tmp rfl .nil) (fun w hm => ⟨_, hn_4, hm.has, ?_, hm.since⟩)
        have hl9 : l = [] := by rw [hl, List.eq_nil_of_length_eq_zero (show rs.length = 0 by omega)]; rfl
        rw [hl9, tm]
        exact Lh24
        )
  · skip
    have hl0 : 0 < rs.length := by omega
    have hcons : l = (rs.getD 0 d0).1 :: ((rs.drop 1).map Prod.fst) := rs_cons hl hl0
    have hsq : sizeL l = size (rs.getD 0 d0).1 + sizeL ((rs.drop 1).map Prod.fst) := by rw [hcons, sizeL]
    have hsx := size_eq (rs.getD 0 d0).1
    have hpw1 : (fs.length + 1) ^ posL ((rs.getD 0 d0).1 :: ((rs.drop 1).map Prod.fst)) ≤ 3000 := by rw [← hcons]; exact hpw
    have hpr := pow_rest hpw1
    have hpx := pow_subs hpw1
    have hzr : SizeOf.sizeOf ((rs.drop 1).map Prod.fst) ≤ n := by have := rdrop_lt hl0; rw [← hl] at this; omega
    have hzs : SizeOf.sizeOf (rs.getD 0 d0).1.subs ≤ n := by have q1 := size_subs (rs.getD 0 d0).1; have q2 := List.sizeOf_lt_of_mem (show (rs.getD 0 d0).1 ∈ l by rw [hcons]; simp); omega
    first
      | (exfalso; omega)
      | (
        refine c_cond_f rfl ?_
        refine c_skip ?_
        refine e_next ?_
        refine c_seq ?_
        refine c_region ?_
        refine r_val .none rfl (p_move rfl) ?_
        refine r_iaddr_g (i := 0) .none rfl Try.underlying75 sz102 rfl hr rfl (by first | exact of_decide_eq_true rfl | omega) (fun p_7 o_8 R_6 => ?_)
        have hc_9 := hp _ (getD_mem (i := 0) (d := d0) (by omega))
        refine r_val .none rfl (p_ldga0 Try.underlying102 rfl sz102 rfl R_6 (by first | exact of_decide_eq_true rfl | omega) (rfl : _ = Value.agg #[_, _, _, _, _, _, _, _])) ?_
        refine r_alloc .none rfl zr102 (IsRow.lit _) (fun b_2 => ?_)
        refine r_stw (k := 0) .none sz102 rfl rfl (IsRow.lit _) (one_lit rfl (all_cons rfl (all_cons rfl (all_cons rfl (all_cons rfl (all_cons rfl (all_cons rfl (all_cons rfl (all_cons (hc_9).one rfl))))))))) rfl ?_
        refine r_nil ?_
        refine e_next ?_
        refine c_seq ?_
        refine c_region ?_
        refine r_val .none rfl (p_assign rfl) ?_
        refine r_nil ?_
        refine e_next ?_
        refine c_seq ?_
        refine c_seq ?_
        refine c_region ?_
        refine r_val .none rfl (p_field Try.underlying102 rfl sz3 rfl) ?_
        refine r_val .none rfl (p_ld (k := 0) Try.underlying3 rfl rfl rfl (by first | exact of_decide_eq_true rfl | omega) (rfl : _ = Value.int _ _)) ?_
        refine r_val .none rfl (p_eq rfl rfl) ?_
        refine r_nil ?_
        refine e_next ?_
        refine c_splitd (d := 30) rfl (fun h_10 => ?_) (fun h_10 => ?_)
        · skip
          have hk1 := h_10
          skip
          first
            | (exfalso; omega)
            | (
              refine c_cond_t rfl ?_
              refine c_seq ?_
              refine c_seq ?_
              refine c_region ?_
              refine r_val .none rfl (p_move rfl) ?_
              refine r_val .none rfl (p_leng Try.underlying87 rfl hf) ?_
              have bd_11 := (hf).bound
              refine r_val .none rfl (p_move rfl) ?_
              refine r_nil ?_
              refine e_next ?_
              refine c_block ?_
              refine c_nilrow 22 1 ?_
              refine c_name (d := 0) rfl (fun u_12 hu_12 => ?_)
              refine c_name (d := 1) rfl (fun u_13 hu_13 => ?_)
              refine c_name (d := 2) rfl (fun u_14 hu_14 => ?_)
              refine c_name (d := 3) rfl (fun u_15 hu_15 => ?_)
              refine c_name (d := 8) rfl (fun u_16 hu_16 => ?_)
              refine c_name (d := 9) rfl (fun u_17 hu_17 => ?_)
              refine c_name (d := 31) rfl (fun u_18 hu_18 => ?_)
              refine c_name (d := 32) rfl (fun u_19 hu_19 => ?_)
              refine c_nameL (k := 1) rfl (fun A_20 hA_20 => ?_)
              refine c_loop (σ := Nat × Value × List (List Int × Value) × Ghost) (fun s => [(33, Value.int .i64 (s.1 : Nat)), (10, s.2.1), (0, u_12), (1, u_13), (2, u_14), (3, u_15), (8, u_16), (9, u_17), (31, u_18), (32, u_19)]) (fun s => [rowA (s.2.1) 22 1 (s.2.2.1).length ((s.2.2.1).flatMap lC), A_20]) (fun s => s.2.2.2) (fun s => s.1 ≤ fs.length ∧ s.2.2.1.map Prod.fst = tmTo fs (rs.getD 0 d0).1 ((rs.drop 1).map Prod.fst) ps ids s.1 ∧ (∀ q ∈ s.2.2.1, SlL s.2.2.2 q.2 1 cI 0 q.1) ∧ GNew w nX G s.2.2.2) (fun s => fs.length - s.1) ((0, _, [], _)) ⟨Nat.zero_le _, rfl, by simp, GNew.refl _ _ _⟩ rfl ⟨rfl, rfl, rfl, rfl, rfl, rfl, rfl, rfl, rfl, rfl, trivial⟩ (.keep (fun _ _ h => rowA_nil rfl _ _ h) (.keep (fun _ _ h => h) (.nil))) (fun s hphi => ?_)
              subst hu_12
              subst hu_13
              subst hu_14
              subst hu_15
              subst hu_16
              subst hu_17
              subst hu_18
              subst hu_19
              subst hA_20
              obtain ⟨k, v, z, H⟩ := s
              obtain ⟨hk, hzq, hzc, hgn⟩ := hphi
              dsimp only at hk hzq hzc hgn ⊢
              have hzn : z.length ≤ 3000 := by have q := tmTo_len (ps := ps) (ids := ids) (k := k) hk1 hpw1; rw [← hzq, List.length_map] at q; exact q
              replace hf := hf.mono hgn.le
              replace hr := hr.mono hgn.le
              replace hps := hps.mono hgn.le
              replace hi := hi.mono hgn.le
              replace hp := fun p hm0 => (hp p hm0).mono hgn.le
              replace R_6 := R_6.mono hgn.le
              replace hc_9 := hc_9.mono hgn.le
              refine c_seq ?_
              refine c_region ?_
              refine r_val .none rfl (p_lt rfl rfl) ?_
              refine r_nil ?_
              refine e_next ?_
              refine c_seq ?_
              refine c_splitd (d := 34) rfl (fun h_21 => ?_) (fun h_21 => ?_)
              · skip
                first
                  | (exfalso; omega)
                  | (
                    refine c_cond_t rfl ?_
                    refine c_skip ?_
                    refine e_next ?_
                    refine c_seq ?_
                    refine c_block ?_
                    refine c_seq ?_
                    refine c_region ?_
                    refine r_iaddr_g .none rfl Try.underlying87 sz145 rfl hf rfl (by first | exact of_decide_eq_true rfl | omega) (fun p_23 o_24 R_22 => ?_)
                    refine r_val .none rfl (p_ldga0 Try.underlying145 rfl sz145 rfl R_22 (by first | exact of_decide_eq_true rfl | omega) (rfl : _ = Value.agg #[_, _, _, _])) ?_
                    refine r_alloc .none rfl zr145 (IsRow.lit _) (fun b_3 => ?_)
                    refine r_stw (k := 0) .none sz145 rfl rfl (IsRow.lit _) (one_lit rfl rfl) rfl ?_
                    refine r_nil ?_
                    refine e_next ?_
                    refine c_seq ?_
                    refine c_region ?_
                    refine r_val .none rfl (p_field Try.underlying102 rfl sz100 rfl) ?_
                    refine r_val .none rfl (p_lda (k := 2) Try.underlying100 rfl sz100 rfl rfl (by first | exact of_decide_eq_true rfl | omega) (rfl : _ = Value.agg #[_, _, _, _, _, _])) ?_
                    refine r_val .none rfl (p_field Try.underlying145 rfl sz105 rfl) ?_
                    refine r_val .none rfl (p_lda (k := 0) Try.underlying105 rfl sz105 rfl rfl (by first | exact of_decide_eq_true rfl | omega) (rfl : _ = Value.agg #[_, _, _])) ?_
                    refine r_val .none rfl (p_move rfl) ?_
                    refine r_callm (vs := [_, _, _]) .none rfl cl58 rfl (fun w hw => c_rfitB (rs.getD 0 d0).1.h.v0 (rs.getD 0 d0).1.h.n0 (rs.getD 0 d0).1.h.v1 (rs.getD 0 d0).1.h.n1 (rs.getD 0 d0).1.h.v2 (rs.getD 0 d0).1.h.n2 (fs.getD k f0).2.1 (fs.getD k f0).2.2.1 (fs.getD k f0).2.2.2 _ ps hps (by omega) w hw) (fun G_25 v_28 hn_26 hr_27 => ?_)
                    replace hf := hf.mono hn_26.le
                    replace hr := hr.mono hn_26.le
                    replace hps := hps.mono hn_26.le
                    replace hi := hi.mono hn_26.le
                    replace hp := fun p hm0 => (hp p hm0).mono hn_26.le
                    replace R_6 := R_6.mono hn_26.le
                    replace hc_9 := hc_9.mono hn_26.le
                    replace hzc := fun p hm0 => (hzc p hm0).mono hn_26.le
                    replace R_22 := R_22.mono hn_26.le
                    obtain ⟨u_29, rfl, u_29s⟩ := hr_27
                    refine r_val .none rfl (p_move rfl) ?_
                    refine r_val .none rfl (p_extract rfl rfl) ?_
                    refine r_val .none rfl (p_extract rfl rfl) ?_
                    refine r_val .none rfl (p_assign rfl) ?_
                    refine r_val .none rfl (p_assign rfl) ?_
                    refine r_nil ?_
                    refine e_next ?_
                    refine c_seq ?_
                    refine c_seq ?_
                    refine c_region ?_
                    refine r_val .none rfl (p_move rfl) ?_
                    refine r_val .none rfl (p_not rfl) ?_
                    refine r_nil ?_
                    refine e_next ?_
                    refine c_splitn (d := 47) rfl (fun h_30 => ?_) (fun h_30 => ?_)
                    · skip
                      have hfit : (rf (rs.getD 0 d0).1.h (fs.getD k f0).2 ps).isSome = false := h_30
                      first
                        | (exfalso; omega)
                        | (
                          refine c_cond_t rfl ?_
                          refine c_exit ?_
                          refine e_exit_then ?_
                          refine e_exit_block ?_
                          refine e_next ?_
                          refine c_region ?_
                          refine r_val .none rfl (p_add rfl rfl (by omega)) ?_
                          refine r_val .none rfl (p_move rfl) ?_
                          refine r_nil ?_
                          refine e_round ((k + 1, _, z, _)) ⟨⟨by dsimp only; omega, by rw [tmTo_no (by omega) hfit, hzq], hzc, (hgn.trans hn_26)⟩, by dsimp only; omega⟩ rfl ⟨rfl, rfl, rfl, rfl, rfl, rfl, rfl, rfl, rfl, rfl, trivial⟩ (.drop (.keep (fun _ _ h => h) (.keep (fun _ _ h => h) (.nil))))
                          )
                    · skip
                      have hfit : (rf (rs.getD 0 d0).1.h (fs.getD k f0).2 ps).isSome = true := h_30
                      first
                        | (exfalso; omega)
                        | (
                          refine c_cond_f rfl ?_
                          refine c_skip ?_
                          refine e_next ?_
                          refine c_seq ?_
                          refine c_region ?_
                          refine r_val .none rfl (p_assign rfl) ?_
                          refine r_nil ?_
                          refine e_next ?_
                          refine c_seq ?_
                          refine c_region ?_
                          refine r_val .none rfl (p_move rfl) ?_
                          refine r_val .none rfl (p_move rfl) ?_
                          refine r_nilrow 3 1 ?_
                          refine r_append_g (k := 0) .none rfl Try.underlying22 el3 rfl (by decide) rfl rfl rfl hi (fun _ _ _ hj => one_lit rfl rfl _ hj) (by simp only [maxLen]; omega) (by omega) (fun v_31 => ?_)
                          refine r_row1 (k := 0) rfl (fun o_32 => ?_)
                          refine r_conv (B := rowA v_31 _ 1 ids.length (ids.flatMap cI)) (k := 0) rfl (fun _ _ h => rowA_congr (by simp) (by rw [List.nil_append, flat_all (cells := cI) (fun _ => rfl)]) _ _ h) ?_
                          refine r_val .none rfl (p_assign rfl) ?_
                          refine r_nil ?_
                          refine e_next ?_
                          refine c_seq ?_
                          refine c_region ?_
                          refine r_val .none rfl (p_move rfl) ?_
                          refine r_val .none rfl (p_field Try.underlying145 rfl sz3 rfl) ?_
                          refine r_val .none rfl (p_ld (k := 1) Try.underlying3 rfl rfl rfl (by first | exact of_decide_eq_true rfl | omega) (rfl : _ = Value.int _ _)) ?_
                          refine r_bslice (vs := [(0, Value.int _ _)]) (c := #[_]) .none rfl Try.underlying22 el3 rfl rfl rfl (bs3_10i2 _ _) (IsRow.lit _) (fun b_4 => ?_)
                          refine r_append (k := 1) (k2 := 0) .none rfl Try.underlying22 el3 rfl (by decide) rfl rfl rfl rfl rfl (one_lit rfl rfl) (by simp only [maxLen]; omega) (by omega) (fun v_33 => ?_)
                          refine r_row1 (k := 1) rfl (fun o_34 => ?_)
                          refine r_val .none rfl (p_assign rfl) ?_
                          refine r_nil ?_
                          refine e_next ?_
                          refine c_region ?_
                          refine r_freeze (k := 1) rfl (fun G_35 hn_36 hs_37 => ?_)
                          replace hf := hf.mono hn_36.le
                          replace hr := hr.mono hn_36.le
                          replace hps := hps.mono hn_36.le
                          replace hi := hi.mono hn_36.le
                          replace hp := fun p hm0 => (hp p hm0).mono hn_36.le
                          replace R_6 := R_6.mono hn_36.le
                          replace hc_9 := hc_9.mono hn_36.le
                          replace hzc := fun p hm0 => (hzc p hm0).mono hn_36.le
                          replace R_22 := R_22.mono hn_36.le
                          replace u_29s := u_29s.mono hn_36.le
                          have hnx : SlL G_35 v_33 1 cI 0 (ids ++ [(fs.getD k f0).1]) := SlL.of2 (0 : Int) (fun _ => rfl) (by simp) (by rw [List.flatMap_append, List.flatMap_cons, List.flatMap_nil, List.append_nil]; rfl) hs_37
                          refine r_val .none rfl (p_move rfl) ?_
                          refine r_val .none rfl (p_move rfl) ?_
                          refine r_val .none rfl (p_move rfl) ?_
                          refine r_slice (1) (_) (q' := .i64) .none rfl Try.underlying75 sz102 rfl hr rfl rfl (by first | exact of_decide_eq_true rfl | omega) (by first | exact of_decide_eq_true rfl | omega) (fun v_38 hs_39 => ?_)
                          have hR_41 := rs_drop hs_39 hp
                          refine r_val .none rfl (p_move rfl) ?_
                          refine r_val .none rfl (p_move rfl) ?_
                          refine r_callm (vs := [_, _, _, _]) .none rfl cl38 rfl (fun w hw => ih _ _ _ _ fs ((rs.drop 1).map Prod.fst) ((rf (rs.getD 0 d0).1.h (fs.getD k f0).2 ps).getD ps) (ids ++ [(fs.getD k f0).1]) _ w hzr hfl (by omega) (by have q : ((rf (rs.getD 0 d0).1.h (fs.getD k f0).2 ps).getD ps).length ≤ ps.length + 3 := rfit_len (some_getD (d := ps) hfit); omega) (by rw [List.length_append, List.length_singleton]; omega) hpr hf hR_41 u_29s hnx hw) (fun G_42 v_45 hn_43 hr_44 => ?_)
                          replace hf := hf.mono hn_43.le
                          replace hr := hr.mono hn_43.le
                          replace hps := hps.mono hn_43.le
                          replace hi := hi.mono hn_43.le
                          replace hp := fun p hm0 => (hp p hm0).mono hn_43.le
                          replace R_6 := R_6.mono hn_43.le
                          replace hc_9 := hc_9.mono hn_43.le
                          replace hzc := fun p hm0 => (hzc p hm0).mono hn_43.le
                          replace R_22 := R_22.mono hn_43.le
                          replace u_29s := u_29s.mono hn_43.le
                          replace hnx := hnx.mono hn_43.le
                          replace hs_39 := hs_39.mono hn_43.le
                          replace hR_41 := hR_41.mono hn_43.le
                          obtain ⟨ws, hws, hwp, hwl⟩ := hr_44
                          have hwn : ws.length ≤ 3000 := by have q := tm_small (ps := (rf (rs.getD 0 d0).1.h (fs.getD k f0).2 ps).getD ps) (ids := ids ++ [(fs.getD k f0).1]) hpr; rw [hwl, List.length_map] at q; exact q
                          refine r_append_g (k := 2) .none rfl Try.underlying79 el22 rfl (by decide) rfl rfl rfl hws (li_ones hwp) (by simp only [maxLen]; omega) (by omega) (fun v_47 => ?_)
                          refine r_row1 (k := 2) rfl (fun o_48 => ?_)
                          refine r_conv (B := rowA v_47 _ 1 (z ++ ws).length ((z ++ ws).flatMap lC)) (k := 2) rfl (fun _ _ h => rowA_congr (by simp) (by rw [flat_all (cells := lC) (fun _ => rfl), List.flatMap_append]) _ _ h) ?_
                          refine r_val .none rfl (p_assign rfl) ?_
                          refine r_nil ?_
                          refine e_norm_block ?_
                          refine e_next ?_
                          refine c_region ?_
                          refine r_val .none rfl (p_add rfl rfl (by omega)) ?_
                          refine r_val .none rfl (p_move rfl) ?_
                          refine r_nil ?_
                          refine e_round ((k + 1, _, z ++ ws, _)) ⟨⟨by dsimp only; omega, by rw [tmTo_yes (by omega) hfit, List.map_append, hzq, hwl], li_app hzc hwp, (((hgn.trans hn_26).trans hn_36).trans hn_43)⟩, by dsimp only; omega⟩ rfl ⟨rfl, rfl, rfl, rfl, rfl, rfl, rfl, rfl, rfl, rfl, trivial⟩ (.drop (.drop (.keep (fun _ _ h => h) (.keep (fun _ _ h => h) (.nil)))))
                          )
                    )
              · skip
                first
                  | (exfalso; omega)
                  | (
                    refine c_cond_f rfl ?_
                    refine c_exit ?_
                    refine e_exit_then ?_
                    refine e_exit_then ?_
                    refine e_exit_block ?_
                    refine e_next ?_
                    refine c_seq ?_
                    refine c_region ?_
                    refine r_val .none rfl (p_move rfl) ?_
                    refine r_val .none rfl (p_assign rfl) ?_
                    refine r_nil ?_
                    refine e_next ?_
                    refine c_ret ?_
                    refine e_ret_then ?_
                    refine e_freeze (k := 0) rfl (fun G_49 hn_50 hs_51 => ?_)
                    replace hf := hf.mono hn_50.le
                    replace hr := hr.mono hn_50.le
                    replace hps := hps.mono hn_50.le
                    replace hi := hi.mono hn_50.le
                    replace hp := fun p hm0 => (hp p hm0).mono hn_50.le
                    replace R_6 := R_6.mono hn_50.le
                    replace hc_9 := hc_9.mono hn_50.le
                    replace hzc := fun p hm0 => (hzc p hm0).mono hn_50.le
                    refine e_ret1 Try.results38 (.tmp rfl .nil) (fun w hm => ⟨_, (hgn.trans hn_50), hm.has, ?_, hm.since⟩)
                    rw [hcons, tm_pos (k := k) hk1 (by omega), ← hzq]
                    exact Ls.mk z (SlL.of (([] : List Int), Value.slice none 0 0) (fun _ => rfl) rfl hs_51) hzc
                    )
              )
        · skip
          have hk1 := h_10
          first
            | (exfalso; omega)
            | (
              refine c_cond_f rfl ?_
              refine c_skip ?_
              refine e_next ?_
              refine c_seq ?_
              refine c_seq ?_
              refine c_region ?_
              refine r_val .none rfl (p_field Try.underlying102 rfl sz3 rfl) ?_
              refine r_val .none rfl (p_ld (k := 0) Try.underlying3 rfl rfl rfl (by first | exact of_decide_eq_true rfl | omega) (rfl : _ = Value.int _ _)) ?_
              refine r_val .none rfl (p_eq rfl rfl) ?_
              refine r_nil ?_
              refine e_next ?_
              refine c_splitd (d := 68) rfl (fun h_52 => ?_) (fun h_52 => ?_)
              · skip
                have hk2 := h_52
                skip
                first
                  | (exfalso; omega)
                  | (
                    refine c_cond_t rfl ?_
                    refine c_seq ?_
                    refine c_region ?_
                    refine r_val .none rfl (p_move rfl) ?_
                    refine r_val .none rfl (p_leng Try.underlying87 rfl hf) ?_
                    have bd_53 := (hf).bound
                    refine r_val .none rfl (p_move rfl) ?_
                    refine r_nil ?_
                    refine e_next ?_
                    refine c_block ?_
                    refine c_name (d := 0) rfl (fun u_54 hu_54 => ?_)
                    refine c_name (d := 1) rfl (fun u_55 hu_55 => ?_)
                    refine c_name (d := 2) rfl (fun u_56 hu_56 => ?_)
                    refine c_name (d := 3) rfl (fun u_57 hu_57 => ?_)
                    refine c_name (d := 9) rfl (fun u_58 hu_58 => ?_)
                    refine c_name (d := 69) rfl (fun u_59 hu_59 => ?_)
                    refine c_name (d := 70) rfl (fun u_60 hu_60 => ?_)
                    refine c_nameL (k := 0) rfl (fun A_61 hA_61 => ?_)
                    refine c_loop (σ := Nat × Ghost) (fun s => [(71, Value.int .i64 (s.1 : Nat)), (0, u_54), (1, u_55), (2, u_56), (3, u_57), (9, u_58), (69, u_59), (70, u_60)]) (fun s => [A_61]) (fun s => s.2) (fun s => s.1 ≤ fs.length ∧ ((fs.take s.1).any fun f => (rf (rs.getD 0 d0).1.h f.2 ps).isSome) = false ∧ GNew w nX G s.2) (fun s => fs.length - s.1) ((0, _)) ⟨Nat.zero_le _, by simp, GNew.refl _ _ _⟩ rfl ⟨rfl, rfl, rfl, rfl, rfl, rfl, rfl, rfl, trivial⟩ (.keep (fun _ _ h => h) (.nil)) (fun s hphi => ?_)
                    subst hu_54
                    subst hu_55
                    subst hu_56
                    subst hu_57
                    subst hu_58
                    subst hu_59
                    subst hu_60
                    subst hA_61
                    obtain ⟨k, H⟩ := s
                    obtain ⟨hk, hany, hgn⟩ := hphi
                    dsimp only at hk hany hgn ⊢
                    replace hf := hf.mono hgn.le
                    replace hr := hr.mono hgn.le
                    replace hps := hps.mono hgn.le
                    replace hi := hi.mono hgn.le
                    replace hp := fun p hm0 => (hp p hm0).mono hgn.le
                    replace R_6 := R_6.mono hgn.le
                    replace hc_9 := hc_9.mono hgn.le
                    refine c_seq ?_
                    refine c_region ?_
                    refine r_val .none rfl (p_lt rfl rfl) ?_
                    refine r_nil ?_
                    refine e_next ?_
                    refine c_seq ?_
                    refine c_splitd (d := 72) rfl (fun h_62 => ?_) (fun h_62 => ?_)
                    · skip
                      first
                        | (exfalso; omega)
                        | (
                          refine c_cond_t rfl ?_
                          refine c_skip ?_
                          refine e_next ?_
                          refine c_seq ?_
                          refine c_block ?_
                          refine c_seq ?_
                          refine c_region ?_
                          refine r_iaddr_g .none rfl Try.underlying87 sz145 rfl hf rfl (by first | exact of_decide_eq_true rfl | omega) (fun p_64 o_65 R_63 => ?_)
                          refine r_val .none rfl (p_ldga0 Try.underlying145 rfl sz145 rfl R_63 (by first | exact of_decide_eq_true rfl | omega) (rfl : _ = Value.agg #[_, _, _, _])) ?_
                          refine r_alloc .none rfl zr145 (IsRow.lit _) (fun b_5 => ?_)
                          refine r_stw (k := 0) .none sz145 rfl rfl (IsRow.lit _) (one_lit rfl rfl) rfl ?_
                          refine r_nil ?_
                          refine e_next ?_
                          refine c_seq ?_
                          refine c_region ?_
                          refine r_val .none rfl (p_field Try.underlying102 rfl sz100 rfl) ?_
                          refine r_val .none rfl (p_lda (k := 1) Try.underlying100 rfl sz100 rfl rfl (by first | exact of_decide_eq_true rfl | omega) (rfl : _ = Value.agg #[_, _, _, _, _, _])) ?_
                          refine r_val .none rfl (p_field Try.underlying145 rfl sz105 rfl) ?_
                          refine r_val .none rfl (p_lda (k := 0) Try.underlying105 rfl sz105 rfl rfl (by first | exact of_decide_eq_true rfl | omega) (rfl : _ = Value.agg #[_, _, _])) ?_
                          refine r_val .none rfl (p_move rfl) ?_
                          refine r_callm (vs := [_, _, _]) .none rfl cl58 rfl (fun w hw => c_rfitB (rs.getD 0 d0).1.h.v0 (rs.getD 0 d0).1.h.n0 (rs.getD 0 d0).1.h.v1 (rs.getD 0 d0).1.h.n1 (rs.getD 0 d0).1.h.v2 (rs.getD 0 d0).1.h.n2 (fs.getD k f0).2.1 (fs.getD k f0).2.2.1 (fs.getD k f0).2.2.2 _ ps hps (by omega) w hw) (fun G_66 v_69 hn_67 hr_68 => ?_)
                          replace hf := hf.mono hn_67.le
                          replace hr := hr.mono hn_67.le
                          replace hps := hps.mono hn_67.le
                          replace hi := hi.mono hn_67.le
                          replace hp := fun p hm0 => (hp p hm0).mono hn_67.le
                          replace R_6 := R_6.mono hn_67.le
                          replace hc_9 := hc_9.mono hn_67.le
                          replace R_63 := R_63.mono hn_67.le
                          obtain ⟨u_70, rfl, u_70s⟩ := hr_68
                          refine r_val .none rfl (p_move rfl) ?_
                          refine r_val .none rfl (p_extract rfl rfl) ?_
                          refine r_val .none rfl (p_extract rfl rfl) ?_
                          refine r_val .none rfl (p_assign rfl) ?_
                          refine r_val .none rfl (p_assign rfl) ?_
                          refine r_nil ?_
                          refine e_next ?_
                          refine c_seq ?_
                          refine c_region ?_
                          refine r_val .none rfl (p_move rfl) ?_
                          refine r_nil ?_
                          refine e_next ?_
                          refine c_split (d := 84) rfl (fun h_71 => ?_) (fun h_71 => ?_)
                          · skip
                            have hfit : (rf (rs.getD 0 d0).1.h (fs.getD k f0).2 ps).isSome = true := h_71
                            skip
                            first
                              | (exfalso; omega)
                              | (
                                refine c_cond_t rfl ?_
                                refine c_seq ?_
                                refine c_region ?_
                                refine r_val .none rfl (p_assign rfl) ?_
                                refine r_nil ?_
                                refine e_next ?_
                                refine c_ret ?_
                                refine e_ret_block ?_
                                refine e_ret_then ?_
                                refine e_ret_then ?_
                                refine e_ret_block ?_
                                refine e_ret_then ?_
                                refine e_ret1 Try.results38 (.tmp rfl .nil) (fun w hm => ⟨_, (hgn.trans hn_67), hm.has, ?_, hm.since⟩)
                                rw [hcons, tm_neg_no (k := k) hk2 (by omega) hfit]
                                exact li_nil
                                )
                          · skip
                            have hfit : (rf (rs.getD 0 d0).1.h (fs.getD k f0).2 ps).isSome = false := h_71
                            first
                              | (exfalso; omega)
                              | (
                                refine c_cond_f rfl ?_
                                refine c_skip ?_
                                refine e_norm_block ?_
                                refine e_next ?_
                                refine c_region ?_
                                refine r_val .none rfl (p_add rfl rfl (by omega)) ?_
                                refine r_val .none rfl (p_move rfl) ?_
                                refine r_nil ?_
                                refine e_round ((k + 1, _)) ⟨⟨by dsimp only; omega, any_step (by omega) hany hfit, (hgn.trans hn_67)⟩, by dsimp only; omega⟩ rfl ⟨rfl, rfl, rfl, rfl, rfl, rfl, rfl, rfl, trivial⟩ (.drop (.keep (fun _ _ h => h) (.nil)))
                                )
                          )
                    · skip
                      first
                        | (exfalso; omega)
                        | (
                          refine c_cond_f rfl ?_
                          refine c_exit ?_
                          refine e_exit_then ?_
                          refine e_exit_then ?_
                          refine e_exit_block ?_
                          refine e_next ?_
                          refine c_seq ?_
                          refine c_seq ?_
                          refine c_region ?_
                          refine r_val .none rfl (p_field Try.underlying102 rfl sz3 rfl) ?_
                          refine r_val .none rfl (p_ld (k := 0) Try.underlying3 rfl rfl rfl (by first | exact of_decide_eq_true rfl | omega) (rfl : _ = Value.int _ _)) ?_
                          refine r_val .none rfl (p_eq rfl rfl) ?_
                          refine r_val .none rfl (p_move rfl) ?_
                          refine r_splitd (d := 89) rfl (fun h_72 => ?_) (fun h_72 => ?_)
                          · skip
                            have hk3 := h_72
                            skip
                            first
                              | (exfalso; omega)
                              | (
                                refine r_val (.some rfl rfl) rfl (p_move rfl) ?_
                                refine r_val (.some rfl rfl) rfl (p_field Try.underlying102 rfl sz75 rfl) ?_
                                refine r_val (.some rfl rfl) rfl (p_ld (k := 0) Try.underlying75 rfl rfl rfl (by first | exact of_decide_eq_true rfl | omega) rfl) ?_
                                refine r_val (.some rfl rfl) rfl (p_move rfl) ?_
                                refine r_callm (vs := [_, _, _, _]) (.some rfl rfl) rfl cl38 rfl (fun w hw => ih _ _ _ _ fs (rs.getD 0 d0).1.subs ps [] _ w hzs hfl (by omega) (by omega) (by rw [List.length_nil]; omega) hpx hf hc_9 hps (SlG.nil _ _ _) hw) (fun G_73 v_76 hn_74 hr_75 => ?_)
                                replace hf := hf.mono hn_74.le
                                replace hr := hr.mono hn_74.le
                                replace hps := hps.mono hn_74.le
                                replace hi := hi.mono hn_74.le
                                replace hp := fun p hm0 => (hp p hm0).mono hn_74.le
                                replace R_6 := R_6.mono hn_74.le
                                replace hc_9 := hc_9.mono hn_74.le
                                obtain ⟨ws, hws, hwp, hwl⟩ := hr_75
                                have hwn := congrArg List.length hwl
                                rw [List.length_map] at hwn
                                refine r_val (.some rfl rfl) rfl (p_leng Try.underlying79 rfl hws) ?_
                                have bd_78 := (hws).bound
                                refine r_val (.some rfl rfl) rfl (p_gt rfl rfl) ?_
                                refine r_val .none rfl (p_pick_t rfl rfl) ?_
                                refine r_nil ?_
                                refine e_next ?_
                                refine c_splitd (d := 97) rfl (fun h_79 => ?_) (fun h_79 => ?_)
                                · skip
                                  have hw9 := h_79
                                  skip
                                  first
                                    | (exfalso; omega)
                                    | (
                                      refine c_cond_t rfl ?_
                                      refine c_seq ?_
                                      refine c_region ?_
                                      refine r_val .none rfl (p_assign rfl) ?_
                                      refine r_nil ?_
                                      refine e_next ?_
                                      refine c_ret ?_
                                      refine e_ret_then ?_
                                      refine e_ret1 Try.results38 (.tmp rfl .nil) (fun w hm => ⟨_, (hgn.trans hn_74), hm.has, ?_, hm.since⟩)
                                      rw [hcons, tm_ncc_no hk3 (by omega)]
                                      exact li_nil
                                      )
                                · skip
                                  have hw9 := h_79
                                  first
                                    | (exfalso; omega)
                                    | (
                                      refine c_cond_f rfl ?_
                                      refine c_skip ?_
                                      refine e_next ?_
                                      refine c_seq ?_
                                      refine c_region ?_
                                      refine r_val .none rfl (p_move rfl) ?_
                                      refine r_val .none rfl (p_move rfl) ?_
                                      refine r_slice (1) (_) (q' := .i64) .none rfl Try.underlying75 sz102 rfl hr rfl rfl (by first | exact of_decide_eq_true rfl | omega) (by first | exact of_decide_eq_true rfl | omega) (fun v_80 hs_81 => ?_)
                                      have hR_83 := rs_drop hs_81 hp
                                      refine r_val .none rfl (p_move rfl) ?_
                                      refine r_val .none rfl (p_move rfl) ?_
                                      refine r_callm (vs := [_, _, _, _]) .none rfl cl38 rfl (fun w hw => ih _ _ _ _ fs ((rs.drop 1).map Prod.fst) ps ids _ w hzr hfl (by omega) (by omega) (by omega) hpr hf hR_83 hps hi hw) (fun G_84 v_87 hn_85 hr_86 => ?_)
                                      replace hf := hf.mono hn_85.le
                                      replace hr := hr.mono hn_85.le
                                      replace hps := hps.mono hn_85.le
                                      replace hi := hi.mono hn_85.le
                                      replace hp := fun p hm0 => (hp p hm0).mono hn_85.le
                                      replace R_6 := R_6.mono hn_85.le
                                      replace hc_9 := hc_9.mono hn_85.le
                                      replace hws := hws.mono hn_85.le
                                      replace hs_81 := hs_81.mono hn_85.le
                                      replace hR_83 := hR_83.mono hn_85.le
                                      have u_88 := hr_86
                                      refine r_val .none rfl (p_assign rfl) ?_
                                      refine r_nil ?_
                                      refine e_next ?_
                                      refine c_ret ?_
                                      refine e_ret1 Try.results38 (.tmp rfl .nil) (fun w hm => ⟨_, ((hgn.trans hn_74).trans hn_85), hm.has, ?_, hm.since⟩)
                                      rw [hcons, tm_neg (k := k) hk2 hany (by omega)]
                                      exact u_88
                                      )
                                )
                          · skip
                            have hk3 := h_72
                            first
                              | (exfalso; omega)
                              | (
                                refine r_skip rfl (.no rfl rfl) ?_
                                refine r_skip rfl (.no rfl rfl) ?_
                                refine r_skip rfl (.no rfl rfl) ?_
                                refine r_skip rfl (.no rfl rfl) ?_
                                refine r_skip rfl (.no rfl rfl) ?_
                                refine r_skip rfl (.no rfl rfl) ?_
                                refine r_skip rfl (.no rfl rfl) ?_
                                refine r_val .none rfl (p_pick_f rfl rfl) ?_
                                refine r_nil ?_
                                refine e_next ?_
                                refine c_cond_f rfl ?_
                                refine c_skip ?_
                                refine e_next ?_
                                refine c_seq ?_
                                refine c_region ?_
                                refine r_val .none rfl (p_move rfl) ?_
                                refine r_val .none rfl (p_move rfl) ?_
                                refine r_slice (1) (_) (q' := .i64) .none rfl Try.underlying75 sz102 rfl hr rfl rfl (by first | exact of_decide_eq_true rfl | omega) (by first | exact of_decide_eq_true rfl | omega) (fun v_89 hs_90 => ?_)
                                have hR_92 := rs_drop hs_90 hp
                                refine r_val .none rfl (p_move rfl) ?_
                                refine r_val .none rfl (p_move rfl) ?_
                                refine r_callm (vs := [_, _, _, _]) .none rfl cl38 rfl (fun w hw => ih _ _ _ _ fs ((rs.drop 1).map Prod.fst) ps ids _ w hzr hfl (by omega) (by omega) (by omega) hpr hf hR_92 hps hi hw) (fun G_93 v_96 hn_94 hr_95 => ?_)
                                replace hf := hf.mono hn_94.le
                                replace hr := hr.mono hn_94.le
                                replace hps := hps.mono hn_94.le
                                replace hi := hi.mono hn_94.le
                                replace hp := fun p hm0 => (hp p hm0).mono hn_94.le
                                replace R_6 := R_6.mono hn_94.le
                                replace hc_9 := hc_9.mono hn_94.le
                                replace hs_90 := hs_90.mono hn_94.le
                                replace hR_92 := hR_92.mono hn_94.le
                                have u_97 := hr_95
                                refine r_val .none rfl (p_assign rfl) ?_
                                refine r_nil ?_
                                refine e_next ?_
                                refine c_ret ?_
                                refine e_ret1 Try.results38 (.tmp rfl .nil) (fun w hm => ⟨_, (hgn.trans hn_94), hm.has, ?_, hm.since⟩)
                                rw [hcons, tm_neg (k := k) hk2 hany (by omega)]
                                exact u_97
                                )
                          )
                    )
              · skip
                have hk2 := h_52
                first
                  | (exfalso; omega)
                  | (
                    refine c_cond_f rfl ?_
                    refine c_skip ?_
                    refine e_next ?_
                    refine c_seq ?_
                    refine c_seq ?_
                    refine c_region ?_
                    refine r_val .none rfl (p_field Try.underlying102 rfl sz3 rfl) ?_
                    refine r_val .none rfl (p_ld (k := 0) Try.underlying3 rfl rfl rfl (by first | exact of_decide_eq_true rfl | omega) (rfl : _ = Value.int _ _)) ?_
                    refine r_val .none rfl (p_eq rfl rfl) ?_
                    refine r_val .none rfl (p_move rfl) ?_
                    refine r_splitd (d := 89) rfl (fun h_98 => ?_) (fun h_98 => ?_)
                    · skip
                      have hk3 := h_98
                      skip
                      first
                        | (exfalso; omega)
                        | (
                          refine r_val (.some rfl rfl) rfl (p_move rfl) ?_
                          refine r_val (.some rfl rfl) rfl (p_field Try.underlying102 rfl sz75 rfl) ?_
                          refine r_val (.some rfl rfl) rfl (p_ld (k := 0) Try.underlying75 rfl rfl rfl (by first | exact of_decide_eq_true rfl | omega) rfl) ?_
                          refine r_val (.some rfl rfl) rfl (p_move rfl) ?_
                          refine r_callm (vs := [_, _, _, _]) (.some rfl rfl) rfl cl38 rfl (fun w hw => ih _ _ _ _ fs (rs.getD 0 d0).1.subs ps [] _ w hzs hfl (by omega) (by omega) (by rw [List.length_nil]; omega) hpx hf hc_9 hps (SlG.nil _ _ _) hw) (fun G_99 v_102 hn_100 hr_101 => ?_)
                          replace hf := hf.mono hn_100.le
                          replace hr := hr.mono hn_100.le
                          replace hps := hps.mono hn_100.le
                          replace hi := hi.mono hn_100.le
                          replace hp := fun p hm0 => (hp p hm0).mono hn_100.le
                          replace R_6 := R_6.mono hn_100.le
                          replace hc_9 := hc_9.mono hn_100.le
                          obtain ⟨ws, hws, hwp, hwl⟩ := hr_101
                          have hwn := congrArg List.length hwl
                          rw [List.length_map] at hwn
                          refine r_val (.some rfl rfl) rfl (p_leng Try.underlying79 rfl hws) ?_
                          have bd_104 := (hws).bound
                          refine r_val (.some rfl rfl) rfl (p_gt rfl rfl) ?_
                          refine r_val .none rfl (p_pick_t rfl rfl) ?_
                          refine r_nil ?_
                          refine e_next ?_
                          refine c_splitd (d := 97) rfl (fun h_105 => ?_) (fun h_105 => ?_)
                          · skip
                            have hw9 := h_105
                            skip
                            first
                              | (exfalso; omega)
                              | (
                                refine c_cond_t rfl ?_
                                refine c_seq ?_
                                refine c_region ?_
                                refine r_val .none rfl (p_assign rfl) ?_
                                refine r_nil ?_
                                refine e_next ?_
                                refine c_ret ?_
                                refine e_ret_then ?_
                                refine e_ret1 Try.results38 (.tmp rfl .nil) (fun w hm => ⟨_, hn_100, hm.has, ?_, hm.since⟩)
                                rw [hcons, tm_ncc_no hk3 (by omega)]
                                exact li_nil
                                )
                          · skip
                            have hw9 := h_105
                            first
                              | (exfalso; omega)
                              | (
                                refine c_cond_f rfl ?_
                                refine c_skip ?_
                                refine e_next ?_
                                refine c_seq ?_
                                refine c_region ?_
                                refine r_val .none rfl (p_move rfl) ?_
                                refine r_val .none rfl (p_move rfl) ?_
                                refine r_slice (1) (_) (q' := .i64) .none rfl Try.underlying75 sz102 rfl hr rfl rfl (by first | exact of_decide_eq_true rfl | omega) (by first | exact of_decide_eq_true rfl | omega) (fun v_106 hs_107 => ?_)
                                have hR_109 := rs_drop hs_107 hp
                                refine r_val .none rfl (p_move rfl) ?_
                                refine r_val .none rfl (p_move rfl) ?_
                                refine r_callm (vs := [_, _, _, _]) .none rfl cl38 rfl (fun w hw => ih _ _ _ _ fs ((rs.drop 1).map Prod.fst) ps ids _ w hzr hfl (by omega) (by omega) (by omega) hpr hf hR_109 hps hi hw) (fun G_110 v_113 hn_111 hr_112 => ?_)
                                replace hf := hf.mono hn_111.le
                                replace hr := hr.mono hn_111.le
                                replace hps := hps.mono hn_111.le
                                replace hi := hi.mono hn_111.le
                                replace hp := fun p hm0 => (hp p hm0).mono hn_111.le
                                replace R_6 := R_6.mono hn_111.le
                                replace hc_9 := hc_9.mono hn_111.le
                                replace hws := hws.mono hn_111.le
                                replace hs_107 := hs_107.mono hn_111.le
                                replace hR_109 := hR_109.mono hn_111.le
                                have u_114 := hr_112
                                refine r_val .none rfl (p_assign rfl) ?_
                                refine r_nil ?_
                                refine e_next ?_
                                refine c_ret ?_
                                refine e_ret1 Try.results38 (.tmp rfl .nil) (fun w hm => ⟨_, (hn_100.trans hn_111), hm.has, ?_, hm.since⟩)
                                rw [hcons, tm_other hk1 hk2 (fun _ => by omega)]
                                exact u_114
                                )
                          )
                    · skip
                      have hk3 := h_98
                      first
                        | (exfalso; omega)
                        | (
                          refine r_skip rfl (.no rfl rfl) ?_
                          refine r_skip rfl (.no rfl rfl) ?_
                          refine r_skip rfl (.no rfl rfl) ?_
                          refine r_skip rfl (.no rfl rfl) ?_
                          refine r_skip rfl (.no rfl rfl) ?_
                          refine r_skip rfl (.no rfl rfl) ?_
                          refine r_skip rfl (.no rfl rfl) ?_
                          refine r_val .none rfl (p_pick_f rfl rfl) ?_
                          refine r_nil ?_
                          refine e_next ?_
                          refine c_cond_f rfl ?_
                          refine c_skip ?_
                          refine e_next ?_
                          refine c_seq ?_
                          refine c_region ?_
                          refine r_val .none rfl (p_move rfl) ?_
                          refine r_val .none rfl (p_move rfl) ?_
                          refine r_slice (1) (_) (q' := .i64) .none rfl Try.underlying75 sz102 rfl hr rfl rfl (by first | exact of_decide_eq_true rfl | omega) (by first | exact of_decide_eq_true rfl | omega) (fun v_115 hs_116 => ?_)
                          have hR_118 := rs_drop hs_116 hp
                          refine r_val .none rfl (p_move rfl) ?_
                          refine r_val .none rfl (p_move rfl) ?_
                          refine r_callm (vs := [_, _, _, _]) .none rfl cl38 rfl (fun w hw => ih _ _ _ _ fs ((rs.drop 1).map Prod.fst) ps ids _ w hzr hfl (by omega) (by omega) (by omega) hpr hf hR_118 hps hi hw) (fun G_119 v_122 hn_120 hr_121 => ?_)
                          replace hf := hf.mono hn_120.le
                          replace hr := hr.mono hn_120.le
                          replace hps := hps.mono hn_120.le
                          replace hi := hi.mono hn_120.le
                          replace hp := fun p hm0 => (hp p hm0).mono hn_120.le
                          replace R_6 := R_6.mono hn_120.le
                          replace hc_9 := hc_9.mono hn_120.le
                          replace hs_116 := hs_116.mono hn_120.le
                          replace hR_118 := hR_118.mono hn_120.le
                          have u_123 := hr_121
                          refine r_val .none rfl (p_assign rfl) ?_
                          refine r_nil ?_
                          refine e_next ?_
                          refine c_ret ?_
                          refine e_ret1 Try.results38 (.tmp rfl .nil) (fun w hm => ⟨_, hn_120, hm.has, ?_, hm.since⟩)
                          rw [hcons, tm_other hk1 hk2 (fun h3 => absurd h3 hk3)]
                          exact u_123
                          )
                    )
              )
        )
theorem c_terms_n : ∀ n, TermsIs n
  | 0 => fun vf vl vp vi fs l ps ids G w hz _ _ _ _ _ _ _ _ _ _ => absurd hz (by cases l <;> simp)
  | n + 1 => fun vf vl vp vi fs l ps ids G w hz hfl hsz hpl hil hpw hf hs hps hi hG => c_terms_s n (c_terms_n n) vf vl vp vi fs l ps ids hz hfl hsz hpl hil hpw hf hs hps hi w hG
end Go.Proofs.Ytpadfgomhojjnaa

/- Walks: what Go functions of this chapter come to, each as a function on plain data; no condition but those that each theorem names. Printed by a program of this work (gen.py). -/
namespace Go.Proofs.Ytpadfgomhojjnaa
open Go.Gx Go.Gx.T13 Go.Gx.T8 Go.Gx.T4 Go.Gx.T3 Go.Gx.T14 Go.Gx.T13 Go.Gx.T8 Go.Gx.T6 Go.Gx.T4 Go.Gx.T3 Go.Gx.T3 Go.Gx.T4 Go.Gx.T3 Go.Gx.T5 Go.Gx.T1 Go.Gx.T8 Go.Gx.T6 Go.Gx.T4 Go.Gx.T3 Go.Gx.T6 Go.Gx.T8 Go.Gx.T4 Go.Gx.T3 Go.Gx.T8 Go.Gx.T4 Go.Gx.T3 Go.Gx.T8 Go.Gx.T6 Go.Gx.T4 Go.Gx.T3
theorem cl39 : Callable Try.prog 39 := callable Try.func39 (by kernel_rfl) rfl
theorem bl145_0i1_1a3 (x0 : Int) (x1 : Value) (x2 : Value) (x3 : Value) : Program.built Try.prog 145 [(0, Value.int .i64 x0), (1, Value.agg #[x1, x2, x3])] = some #[Value.int .i64 x0, x1, x2, x3] := by
  kernel_rfl
theorem bs145_10a4 (a0 a1 a2 a3 : Value) : Instr.fill (fun i => some (i * 4, 4)) ((Array.range (1 * 4)).map ((Value.agg #[Value.int .i64 0, Value.int .i64 0, Value.int .i64 0, Value.int .i64 0]).cells[· % (Value.agg #[Value.int .i64 0, Value.int .i64 0, Value.int .i64 0, Value.int .i64 0]).cells.size]!)) [(0, Value.agg #[a0, a1, a2, a3])] = some #[a0, a1, a2, a3] := by
  kernel_rfl
theorem el145 : ElemIs Try.prog 145 4 32 (Value.agg #[Value.int .i64 0, Value.int .i64 0, Value.int .i64 0, Value.int .i64 0]) := by
  unfold ElemIs
  kernel_rfl
theorem c_ref12 (v : Value) (fs : List FD) {G : Ghost} (hln : fs.length ≤ 1000) (hf : SlL G v 4 fC f0 fs) (w : World) (hG : Has G w) :
    Calls Try.prog 39 #[v] w (Ret fun r w' => ∃ G', GNew w nX G G' ∧ Has G' w' ∧ SlL G' r 4 fC f0 fs ∧ Since nX w w') := by
  refine enter (args := [_]) (X := nX) (G := G) (l := [(0, v)]) Try.func39 rfl Try.ntmps39 hG ⟨rfl, trivial⟩ (Nat.le_of_ble_eq_true rfl) ?_
  refine c_seq ?_
  refine c_region ?_
  refine r_val .none rfl (p_assign rfl) ?_
  refine r_nil ?_
  refine e_next ?_
  refine c_seq ?_
  refine c_region ?_
  refine r_val .none rfl (p_assign rfl) ?_
  refine r_nil ?_
  refine e_next ?_
  refine c_seq ?_
  refine c_seq ?_
  refine c_region ?_
  refine r_val .none rfl (p_move rfl) ?_
  refine r_val .none rfl (p_leng Try.underlying72 rfl hf) ?_
  have bd_1 := (hf).bound
  refine r_val .none rfl (p_move rfl) ?_
  refine r_nil ?_
  refine e_next ?_
  refine c_block ?_
  refine c_nilrow 145 4 ?_
  refine c_name (d := 2) rfl (fun u_2 hu_2 => ?_)
  refine c_name (d := 6) rfl (fun u_3 hu_3 => ?_)
  refine c_name (d := 7) rfl (fun u_4 hu_4 => ?_)
  refine c_loop (σ := Nat × Value) (fun s => [(8, Value.int .i64 (s.1 : Nat)), (3, s.2), (2, u_2), (6, u_3), (7, u_4)]) (fun s => [rowA (s.2) 145 4 ((fs.take s.1)).length (((fs.take s.1)).flatMap fC)]) (fun _ => _) (fun s => s.1 ≤ fs.length) (fun s => fs.length - s.1) ((0, _)) (Nat.zero_le _) rfl ⟨rfl, rfl, rfl, rfl, rfl, trivial⟩ (.keep (fun _ _ h => rowA_nil rfl _ _ h) (.nil)) (fun s hphi => ?_)
  subst hu_2
  subst hu_3
  subst hu_4
  obtain ⟨k, u⟩ := s
  dsimp only at hphi ⊢
  refine c_seq ?_
  refine c_region ?_
  refine r_val .none rfl (p_lt rfl rfl) ?_
  refine r_nil ?_
  refine e_next ?_
  refine c_seq ?_
  refine c_splitd (d := 9) rfl (fun h_5 => ?_) (fun h_5 => ?_)
  · skip
    first
      | (exfalso; omega)
      | (
        refine c_cond_t rfl ?_
        refine c_skip ?_
        refine e_next ?_
        refine c_seq ?_
        refine c_block ?_
        refine c_seq ?_
        refine c_region ?_
        refine r_iaddr_g .none rfl Try.underlying72 sz120 rfl hf rfl (by first | exact of_decide_eq_true rfl | omega) (fun p_7 o_8 R_6 => ?_)
        refine r_val .none rfl (p_ldga0 Try.underlying120 rfl sz120 rfl R_6 (by first | exact of_decide_eq_true rfl | omega) (rfl : _ = Value.agg #[_, _, _, _])) ?_
        refine r_alloc .none rfl zr120 (IsRow.lit _) (fun b_1 => ?_)
        refine r_stw (k := 0) .none sz120 rfl rfl (IsRow.lit _) (one_lit rfl rfl) rfl ?_
        refine r_nil ?_
        refine e_next ?_
        refine c_region ?_
        refine r_val .none rfl (p_move rfl) ?_
        refine r_val .none rfl (p_field Try.underlying120 rfl sz3 rfl) ?_
        refine r_val .none rfl (p_ld (k := 0) Try.underlying3 rfl rfl rfl (by first | exact of_decide_eq_true rfl | omega) (rfl : _ = Value.int _ _)) ?_
        refine r_val .none rfl (p_field Try.underlying120 rfl sz106 rfl) ?_
        refine r_val .none rfl (p_lda (k := 0) Try.underlying106 rfl sz106 rfl rfl (by first | exact of_decide_eq_true rfl | omega) (rfl : _ = Value.agg #[_, _, _])) ?_
        refine r_val .none rfl (p_build (vs := [(0, Value.int _ _), (1, Value.agg #[_, _, _])]) rfl (bl145_0i1_1a3 _ _ _ _)) ?_
        refine r_bslice (vs := [(0, Value.agg #[_, _, _, _])]) (c := #[_, _, _, _]) .none rfl Try.underlying87 el145 rfl rfl rfl (bs145_10a4 _ _ _ _) (IsRow.lit _) (fun b_2 => ?_)
        refine r_append (k := 2) (k2 := 0) .none rfl Try.underlying87 el145 rfl (by decide) rfl rfl rfl rfl rfl (one_lit rfl rfl) (by rw [List.length_take]; simp only [maxLen]; omega) (by rw [List.length_take]; omega) (fun v_9 => ?_)
        refine r_row1 (k := 2) rfl (fun o_10 => ?_)
        refine r_val .none rfl (p_assign rfl) ?_
        refine r_nil ?_
        refine e_norm_block ?_
        refine e_next ?_
        refine c_region ?_
        refine r_val .none rfl (p_add rfl rfl (by omega)) ?_
        refine r_val .none rfl (p_move rfl) ?_
        refine r_nil ?_
        refine e_round ((k + 1, _)) ⟨by dsimp only; omega, by dsimp only; omega⟩ rfl ⟨rfl, rfl, rfl, rfl, rfl, trivial⟩ (.drop (.drop (.keep (fun _ _ h => rowA_snoc (x := fs.getD k f0) (by rw [List.take_succ_eq_append_getElem (show k < fs.length by omega)]; simp [List.getD, show k < fs.length by omega]) rfl rfl rfl _ _ h) (.nil))))
        )
  · skip
    first
      | (exfalso; omega)
      | (
        refine c_cond_f rfl ?_
        refine c_exit ?_
        refine e_exit_then ?_
        refine e_exit_then ?_
        refine e_exit_block ?_
        refine e_next ?_
        refine c_seq ?_
        refine c_region ?_
        refine r_val .none rfl (p_move rfl) ?_
        refine r_val .none rfl (p_assign rfl) ?_
        refine r_nil ?_
        refine e_next ?_
        refine c_ret ?_
        refine e_freeze (k := 0) rfl (fun G_11 hn_12 hs_13 => ?_)
        replace hf := hf.mono hn_12.le
        refine e_ret1 Try.results39 (.tmp rfl .nil) (fun w hm => ⟨_, hn_12, hm.has, ?_, hm.since⟩)
        have hk9 : fs.take k = fs := List.take_of_length_le (by omega)
        exact SlL.of2 f0 (fun _ => rfl) (by rw [hk9]) (by rw [hk9]) hs_13
        )
theorem c_PlainTerms (nm : ByteArray) (cv : Value) (l : List CT) (vt : Value) (t : List Tri) {G : Ghost} (hs : Cs G cv l) (ht : SlL G vt 3 triL z3 t) (w : World) (hG : Has G w) :
    Calls Try.prog 6 #[Value.agg #[Value.string nm, cv], vt] w (Ret fun r w' => r = Value.bool true ∧ Since nX w w') := by
  refine enter (args := [_, _]) (X := nX) (G := G) (l := [(0, Value.agg #[Value.string nm, cv]), (1, vt)]) Try.func6 rfl Try.ntmps6 hG ⟨rfl, rfl, trivial⟩ (Nat.le_of_ble_eq_true rfl) ?_
  refine c_seq ?_
  refine c_region ?_
  refine r_box .none rfl rfl (IsRow.lit _) (fun b_1 => ?_)
  refine r_val .none rfl (p_assign rfl) ?_
  refine r_nil ?_
  refine e_next ?_
  refine c_seq ?_
  refine c_seq ?_
  refine c_region ?_
  refine r_val .none rfl (p_ldw (k := 0) Try.underlying69 rfl sz69 rfl rfl (rfl : _ = Value.agg #[_, _])) ?_
  refine r_val .none rfl (p_move rfl) ?_
  refine r_val .none rfl (p_leng Try.underlying70 rfl ht) ?_
  have bd_1 := (ht).bound
  refine r_call (vs := [_, _]) .none rfl cl30 rfl (fun w hw => c_fine14 nm _ l t.length hs w hw) ?_
  refine r_val .none rfl (p_not rfl) ?_
  refine r_nil ?_
  refine e_next ?_
  refine c_splitn (d := 13) rfl (fun h_2 => ?_) (fun h_2 => ?_)
  · skip
    first
      | (exfalso; first | omega | assumption)
      | (
        refine c_cond_t rfl ?_
        refine c_seq ?_
        refine c_region ?_
        refine r_call (vs := []) .none rfl cl31 rfl (fun w hw => c_awake14 w) ?_
        refine r_val .none rfl (p_assign rfl) ?_
        refine r_nil ?_
        refine e_next ?_
        refine c_ret ?_
        refine e_ret_then ?_
        refine e_ret1 Try.results6 (.tmp rfl .nil) (fun w hm => ⟨?_, hm.since⟩)
        rfl
        )
  · skip
    have hfy := fine14_yes (h_2)
    have hsz : sizeL l ≤ 1000 := by omega
    have hcost := hfy.2.2.1
    have hss : sszL (stepsOf [] l) ≤ 1000 := Nat.le_trans (sszL_of l []) (by omega)
    have hoks : okSL (stepsOf [] l) := okSL_of l [] (by simp; omega)
    first
      | (exfalso; first | omega | assumption)
      | (
        refine c_cond_f rfl ?_
        refine c_skip ?_
        refine e_next ?_
        refine c_seq ?_
        refine c_region ?_
        refine r_val .none rfl (p_move rfl) ?_
        refine r_callm (vs := [_, _]) .none rfl cl32 rfl (fun w hw => c_facts _ t 2 (by omega) (by decide) ht w hw) (fun G_3 v_6 hn_4 hr_5 => ?_)
        replace ht := ht.mono hn_4.le
        replace hs := hs.mono hn_4.le
        obtain ⟨fv, rfl, hF⟩ := hr_5
        refine r_val .none rfl (p_move rfl) ?_
        refine r_val .none rfl (p_extract rfl rfl) ?_
        refine r_val .none rfl (p_extract rfl rfl) ?_
        refine r_val .none rfl (p_assign rfl) ?_
        refine r_val .none rfl (p_assign rfl) ?_
        refine r_nil ?_
        refine e_next ?_
        refine c_seq ?_
        refine c_seq ?_
        refine c_region ?_
        refine r_val .none rfl (p_move rfl) ?_
        refine r_val .none rfl (p_not rfl) ?_
        refine r_nil ?_
        refine e_next ?_
        refine c_splitn (d := 21) rfl (fun h_8 => ?_) (fun h_8 => ?_)
        · skip
          first
            | (exfalso; first | omega | assumption)
            | (
              refine c_cond_t rfl ?_
              refine c_seq ?_
              refine c_region ?_
              refine r_call (vs := []) .none rfl cl31 rfl (fun w hw => c_awake14 w) ?_
              refine r_val .none rfl (p_assign rfl) ?_
              refine r_nil ?_
              refine e_next ?_
              refine c_ret ?_
              refine e_ret_then ?_
              refine e_ret1 Try.results6 (.tmp rfl .nil) (fun w hm => ⟨?_, hm.since⟩)
              rfl
              )
        · skip
          have hall : allOk t = true := h_8
          rw [fcts_yes hall] at hF
          have hfl := fTo_len t 2 t.length
          first
            | (exfalso; first | omega | assumption)
            | (
              refine c_cond_f rfl ?_
              refine c_skip ?_
              refine e_next ?_
              refine c_seq ?_
              refine c_region ?_
              refine r_val .none rfl (p_ldw (k := 0) Try.underlying69 rfl sz69 rfl rfl (rfl : _ = Value.agg #[_, _])) ?_
              refine r_callm (vs := [_]) .none rfl cl33 rfl (fun w hw => c_ref5 nm _ l hsz hs w hw) (fun G_9 v_12 hn_10 hr_11 => ?_)
              replace ht := ht.mono hn_10.le
              replace hs := hs.mono hn_10.le
              replace hF := hF.mono hn_10.le
              obtain ⟨u_13, rfl, u_13s⟩ := hr_11
              obtain ⟨u_13a, u_13c, rfl⟩ := Tr.len u_13s
              refine r_val .none rfl (p_field1 Try.underlying77 rfl Try.underlying75 rfl sz75 rfl (IsRow.lit _) rfl (by first | exact of_decide_eq_true rfl | omega) (rfl : _ = Value.slice _ _ _)) ?_
              refine r_val .none rfl (p_assign rfl) ?_
              refine r_nil ?_
              refine e_next ?_
              refine c_seq ?_
              refine c_region ?_
              refine r_val .none rfl (p_move rfl) ?_
              refine r_val .none rfl (p_move rfl) ?_
              refine r_callm (vs := [_]) .none rfl cl36 rfl (fun w hw => c_compile _ l hsz u_13s w hw) (fun G_14 v_17 hn_15 hr_16 => ?_)
              replace ht := ht.mono hn_15.le
              replace hs := hs.mono hn_15.le
              replace hF := hF.mono hn_15.le
              replace u_13s := u_13s.mono hn_15.le
              have u_18 := hr_16
              refine r_callm (vs := [_]) .none rfl cl35 rfl (fun w hw => c_steps _ _ (by omega) u_18 w hw) (fun G_19 v_22 hn_20 hr_21 => ?_)
              replace ht := ht.mono hn_20.le
              replace hs := hs.mono hn_20.le
              replace hF := hF.mono hn_20.le
              replace u_13s := u_13s.mono hn_20.le
              replace u_18 := u_18.mono hn_20.le
              have u_23 := hr_21
              refine r_callm (vs := [_, _]) .none rfl cl34 rfl (fun w hw => c_partial _ _ (fTo t 2 t.length) (stepsOf [] l) ⟨by rw [fTo_len]; omega, hss⟩ hoks (Nat.le_trans (gm_small0 hcost (by rw [fTo_len]; omega) _) (by decide)) hF u_23 w hw) (fun G_24 v_27 hn_25 hr_26 => ?_)
              replace ht := ht.mono hn_25.le
              replace hs := hs.mono hn_25.le
              replace hF := hF.mono hn_25.le
              replace u_13s := u_13s.mono hn_25.le
              replace u_18 := u_18.mono hn_25.le
              replace u_23 := u_23.mono hn_25.le
              have hP := hr_26
              rw [terms_law hall hfy.2.2.2] at hP
              refine r_val .none rfl (p_assign rfl) ?_
              refine r_nil ?_
              refine e_next ?_
              refine c_seq ?_
              refine c_region ?_
              refine r_val .none rfl (p_move rfl) ?_
              refine r_val .none rfl (p_move rfl) ?_
              refine r_callm (vs := [_]) .none rfl cl39 rfl (fun w hw => c_ref12 _ _ (by rw [fTo_len]; omega) hF w hw) (fun G_29 v_32 hn_30 hr_31 => ?_)
              replace ht := ht.mono hn_30.le
              replace hs := hs.mono hn_30.le
              replace hF := hF.mono hn_30.le
              replace u_13s := u_13s.mono hn_30.le
              replace u_18 := u_18.mono hn_30.le
              replace u_23 := u_23.mono hn_30.le
              replace hP := LI.mono hP hn_30.le
              have u_33 := hr_31
              refine r_val .none rfl (p_move rfl) ?_
              refine r_callm (vs := [_, _, _, _]) .none rfl cl38 rfl (fun w hw => c_terms_n _ _ _ _ _ (fTo t 2 t.length) l [] [] _ w (Nat.le_refl _) (by rw [fTo_len]; omega) (by omega) (by rw [List.length_nil]; omega) (by rw [List.length_nil]; omega) (by rw [fTo_len]; exact of_decide_eq_true hcost) u_33 u_13s (SlG.nil _ _ _) (SlG.nil _ _ _) hw) (fun G_34 v_37 hn_35 hr_36 => ?_)
              replace ht := ht.mono hn_35.le
              replace hs := hs.mono hn_35.le
              replace hF := hF.mono hn_35.le
              replace u_13s := u_13s.mono hn_35.le
              replace u_18 := u_18.mono hn_35.le
              replace u_23 := u_23.mono hn_35.le
              replace hP := LI.mono hP hn_35.le
              replace u_33 := u_33.mono hn_35.le
              have hQ := hr_36
              refine r_call (vs := [_, _]) .none rfl cl37 rfl (fun w hw => c_same14_t _ _ _ _ rfl hP hQ w hw) ?_
              refine r_val .none rfl (p_move rfl) ?_
              refine r_call (vs := []) (.some rfl rfl) rfl cl31 rfl (fun w hw => c_awake14 w) ?_
              refine r_val .none rfl (p_pick_t rfl rfl) ?_
              refine r_val .none rfl (p_assign rfl) ?_
              refine r_nil ?_
              refine e_next ?_
              refine c_ret ?_
              refine e_ret1 Try.results6 (.tmp rfl .nil) (fun w hm => ⟨?_, hm.since⟩)
              rfl
              )
        )
end Go.Proofs.Ytpadfgomhojjnaa

/- Walks: what Go functions of this chapter come to, each as a function on plain data; no condition but those that each theorem names. Printed by a program of this work (gen.py). -/
namespace Go.Proofs.Ytpadfgomhojjnaa
open Go.Gx Go.Gx.T3 Go.Gx.T4 Go.Gx.T3 Go.ChangeShapes Go.WideShapes Go.ChangeAt Go.RowKit

theorem open_cond_l : leafT Try.prog 10 97 = some [3, 4, 3, 4, 3, 4, 3, 67] := by kernel_rfl
theorem open_cond_n {H : Type} {enc : TypeId × Value → H} {W : World} {base : Nat} {sp : Nat → Bool} {held : Bool} : ∀ (B n : Nat) (cs : List Value) (x : DataW H × List MemPlace), n ≤ B → DataW.trod enc Try.prog W base sp held n 97 cs = some x → ∃ a : CT × Value, cs = cvC a ∧ Cs (GW W) a.2 a.1.subs
  | 0, n, cs, x, hn, h => by
    obtain rfl : n = 0 := by omega
    simp [DataW.trod] at h
  | B + 1, n, cs, x, hn, h => by
    obtain ⟨n', rfl, hl⟩ := leavesB_struct 9 Try.underlying97 open_cond_l h
    obtain ⟨x0, r0, e0, f0, g0⟩ := hl.inv
    obtain ⟨a0, rfl, _⟩ := f0.leaf.int Try.underlying3
    obtain ⟨x1, r1, e1, f1, g1⟩ := g0.inv
    obtain ⟨a1, rfl⟩ := f1.leaf.bool Try.underlying4
    obtain ⟨x2, r2, e2, f2, g2⟩ := g1.inv
    obtain ⟨a2, rfl, _⟩ := f2.leaf.int Try.underlying3
    obtain ⟨x3, r3, e3, f3, g3⟩ := g2.inv
    obtain ⟨a3, rfl⟩ := f3.leaf.bool Try.underlying4
    obtain ⟨x4, r4, e4, f4, g4⟩ := g3.inv
    obtain ⟨a4, rfl, _⟩ := f4.leaf.int Try.underlying3
    obtain ⟨x5, r5, e5, f5, g5⟩ := g4.inv
    obtain ⟨a5, rfl⟩ := f5.leaf.bool Try.underlying4
    obtain ⟨x6, r6, e6, f6, g6⟩ := g5.inv
    obtain ⟨a6, rfl, _⟩ := f6.leaf.int Try.underlying3
    obtain ⟨x7, r7, e7, f7, g7⟩ := g6.inv
    have z := g7.inv0
    obtain ⟨l, h1, h2⟩ := open_slB (cells := cvC) (Qa := fun a => Cs (GW W) a.2 a.1.subs) d0 Try.underlying67 (show Program.cellsOf Try.prog 97 = 8 by kernel_rfl) (by decide) (fun m cs' y hm hy => open_cond_n B m cs' y (by omega) hy) f7
    refine ⟨(CT.mk ⟨a0, a1, a2, a3, a4, a5, a6⟩ (l.map Prod.fst), x7), ?_, Tr.mk l h1 h2⟩
    rw [e0, e1, e2, e3, e4, e5, e6, e7, z]; rfl
end Go.Proofs.Ytpadfgomhojjnaa

/- Walks: what Go functions of this chapter come to, each as a function on plain data; no condition but those that each theorem names. Printed by a program of this work (gen.py). -/
namespace Go.Proofs.Ytpadfgomhojjnaa
open Go.Gx Go.Gx.T1 Go.Gx.T3 Go.Gx.T4 Go.Gx.T3 Go.Gx.T5 Go.Gx.T1 Go.Gx.T8 Go.Gx.T6 Go.Gx.T4 Go.Gx.T3 Go.Gx.T6 Go.Gx.T8 Go.Gx.T4 Go.Gx.T3 Go.Gx.T8 Go.Gx.T4 Go.Gx.T3 Go.Gx.T8 Go.Gx.T6 Go.Gx.T4 Go.Gx.T3

theorem open_rule_l : leafT Try.prog 10 69 = some [9, 67] := by kernel_rfl
set_option maxRecDepth 100000 in
theorem open_rule {H : Type} {enc : TypeId × Value → H} {W : World} {base : Nat} {sp : Nat → Bool} {held : Bool} {r : Reach} {b0 : Nat} {v : Value} {y : DataW H} {ps : List MemPlace} (hv : Value.okWide Try.prog W r b0 69 v) (h : DataW.Trod enc Try.prog W base sp held 69 v y ps) : ∃ (nm : ByteArray) (cv : Value) (l : List CT), v = Value.agg #[Value.string nm, cv] ∧ Cs (GW W) cv l := by
  obtain ⟨cs, rfl⟩ := agg_of_wide Try.underlying69 rfl hv
  obtain ⟨fuel, hf⟩ := h
  cases fuel with
  | zero => simp [DataW.trod] at hf
  | succ B =>
    obtain ⟨n', _, hl⟩ := leavesB_struct 9 Try.underlying69 open_rule_l hf
    obtain ⟨x0, r0, e0, f0, g0⟩ := hl.inv
    obtain ⟨a0, rfl, _⟩ := f0.leaf.string Try.underlying9
    obtain ⟨x1, r1, e1, f1, g1⟩ := g0.inv
    have z := g1.inv0
    obtain ⟨l, h1, h2⟩ := open_slB (cells := cvC) (Qa := fun a => Cs (GW W) a.2 a.1.subs) d0 Try.underlying67 (show Program.cellsOf Try.prog 97 = 8 by kernel_rfl) (by decide) (fun m cs' y hm hy => open_cond_n m m cs' y (Nat.le_refl _) hy) f1
    refine ⟨a0, x1, l.map Prod.fst, ?_, Tr.mk l h1 h2⟩
    have : cs = #[Value.string a0, x1] := by apply Array.ext'; rw [show (Value.agg cs).cells.toList = cs.toList from rfl] at e0; rw [e0, e1, z]
    rw [this]
end Go.Proofs.Ytpadfgomhojjnaa
