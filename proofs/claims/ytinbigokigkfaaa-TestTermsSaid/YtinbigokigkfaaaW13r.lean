/- Walks: what Go functions of this chapter come to, each as a function on plain data; no condition but those that each theorem names. Printed by a program of this work (gen.py). -/
import Derived.Test.YtinbigokigkfaaaPl03b
import Derived.Test.YtinbigokigkfaaaGxJoin
import Derived.Test.YtinbigokigkfaaaGxMap
import Derived.Test.YtinbigokigkfaaaGxOwn
import Derived.Test.YtinbigokigkfaaaRows
namespace Go.Proofs.Ytinbigokigkfaaa
open Go.Gx Go.Gx.T3
theorem mixed : Try.prog.follows .mixedOrders = true := by
  kernel_rfl
theorem sz3 : SzIs Try.prog 3 1 := by
  unfold SzIs
  kernel_rfl
theorem sz51 : SzIs Try.prog 51 2 := by
  unfold SzIs
  kernel_rfl
theorem sz133 : SzIs Try.prog 133 2 := by
  unfold SzIs
  kernel_rfl
theorem zr51 : ZeroIs Try.prog 51 (Value.agg #[Value.int .i64 0, Value.int .i64 0]) := by
  unfold ZeroIs
  kernel_rfl
theorem zr133 : ZeroIs Try.prog 133 (Value.agg #[Value.int .i64 0, Value.int .i64 0]) := by
  unfold ZeroIs
  kernel_rfl
theorem cl66 : Callable Try.prog 66 := callable Try.func66 (by kernel_rfl) rfl
theorem bl133_0i1_1i1 (x0 : Int) (x1 : Int) : Program.built Try.prog 133 [(0, Value.int .i64 x0), (1, Value.int .i64 x1)] = some #[Value.int .i64 x0, Value.int .i64 x1] := by
  kernel_rfl
theorem bs133_10a2 (a0 a1 : Value) : Instr.fill (fun i => some (i * 2, 2)) ((Array.range (1 * 2)).map ((Value.agg #[Value.int .i64 0, Value.int .i64 0]).cells[· % (Value.agg #[Value.int .i64 0, Value.int .i64 0]).cells.size]!)) [(0, Value.agg #[a0, a1])] = some #[a0, a1] := by
  kernel_rfl
theorem el133 : ElemIs Try.prog 133 2 16 (Value.agg #[Value.int .i64 0, Value.int .i64 0]) := by
  unfold ElemIs
  kernel_rfl
theorem c_get (s : Value) (v : Int) (ps : List Pr) {G : Ghost} (hs : SlL G s 2 pr (0, 0) ps) (w : World) (hG : Has G w) :
    Calls Try.prog 66 #[s, Value.int .i64 v] w (Ret fun r w' => r = Value.int .i64 (getP ps v) ∧ Since nX w w') := by
  refine enter (args := [_, _]) (X := nX) (G := G) (l := [(0, s), (1, Value.int .i64 v)]) Try.func66 rfl Try.ntmps66 hG ⟨rfl, rfl, trivial⟩ (Nat.le_of_ble_eq_true rfl) ?_
  refine c_seq ?_
  refine c_region ?_
  refine r_val .none rfl (p_assign rfl) ?_
  refine r_nil ?_
  refine e_next ?_
  refine c_seq ?_
  refine c_seq ?_
  refine c_region ?_
  refine r_val .none rfl (p_move rfl) ?_
  refine r_val .none rfl (p_leng Try.underlying42 rfl hs) ?_
  have bd_1 := (hs).bound
  refine r_val .none rfl (p_move rfl) ?_
  refine r_nil ?_
  refine e_next ?_
  refine c_block ?_
  refine c_name (d := 1) rfl (fun u_2 hu_2 => ?_)
  refine c_name (d := 7) rfl (fun u_3 hu_3 => ?_)
  refine c_name (d := 8) rfl (fun u_4 hu_4 => ?_)
  refine c_loop (σ := Nat) (fun k => [(9, Value.int .i64 (k : Int)), (1, u_2), (7, u_3), (8, u_4)]) (fun k => []) (fun _ => _) (fun k => k ≤ ps.length ∧ getP (ps.drop k) v = getP ps v) (fun k => ps.length - k) (0) ⟨Nat.zero_le _, rfl⟩ rfl ⟨rfl, rfl, rfl, rfl, trivial⟩ (.nil) (fun k hphi => ?_)
  subst hu_2
  subst hu_3
  subst hu_4
  refine c_seq ?_
  refine c_region ?_
  refine r_val .none rfl (p_lt rfl rfl) ?_
  refine r_nil ?_
  refine e_next ?_
  refine c_seq ?_
  refine c_splitd (d := 10) rfl (fun h_5 => ?_) (fun h_5 => ?_)
  · skip
    first
      | (exfalso; omega)
      | (
        refine c_cond_t rfl ?_
        refine c_skip ?_
        refine e_next ?_
        refine c_seq ?_
        refine c_block ?_
        refine c_seq ?_
        refine c_region ?_
        refine r_iaddr_g .none rfl Try.underlying42 sz133 rfl hs rfl (by first | exact of_decide_eq_true rfl | omega) (fun p_7 o_8 R_6 => ?_)
        refine r_val .none rfl (p_ldga0 Try.underlying133 rfl sz133 rfl R_6 (by first | exact of_decide_eq_true rfl | omega) (rfl : _ = Value.agg #[_, _])) ?_
        refine r_alloc .none rfl zr133 (IsRow.lit _) (fun b_1 => ?_)
        refine r_stw (k := 0) .none sz133 rfl rfl (IsRow.lit _) (one_lit rfl rfl) rfl ?_
        refine r_nil ?_
        refine e_next ?_
        refine c_seq ?_
        refine c_region ?_
        refine r_val .none rfl (p_field Try.underlying133 rfl sz3 rfl) ?_
        refine r_val .none rfl (p_ld (k := 0) Try.underlying3 rfl rfl rfl (by first | exact of_decide_eq_true rfl | omega) (rfl : _ = Value.int _ _)) ?_
        refine r_val .none rfl (p_move rfl) ?_
        refine r_val .none rfl (p_eq rfl rfl) ?_
        refine r_nil ?_
        refine e_next ?_
        refine c_splitd (d := 16) rfl (fun h_9 => ?_) (fun h_9 => ?_)
        · skip
          first
            | (exfalso; omega)
            | (
              refine c_cond_t rfl ?_
              refine c_seq ?_
              refine c_region ?_
              refine r_val .none rfl (p_field Try.underlying133 rfl sz3 rfl) ?_
              refine r_val .none rfl (p_ld (k := 0) Try.underlying3 rfl rfl rfl (by first | exact of_decide_eq_true rfl | omega) (rfl : _ = Value.int _ _)) ?_
              refine r_val .none rfl (p_assign rfl) ?_
              refine r_nil ?_
              refine e_next ?_
              refine c_ret ?_
              refine e_ret_block ?_
              refine e_ret_then ?_
              refine e_ret_then ?_
              refine e_ret_block ?_
              refine e_ret_then ?_
              refine e_ret1 Try.results66 (.tmp rfl .nil) (fun w hm => ⟨?_, hm.since⟩)
              first
              | (rw [← hphi.2, getP_drop (i := k) (e := (0, 0)) (by omega), if_pos ‹(ps.getD k (0, 0)).1 = v›]; done)
              | (rw [← hphi.2, List.drop_eq_nil_of_le (by omega)]; rfl)
              )
        · skip
          first
            | (exfalso; omega)
            | (
              refine c_cond_f rfl ?_
              refine c_skip ?_
              refine e_norm_block ?_
              refine e_next ?_
              refine c_region ?_
              refine r_val .none rfl (p_add rfl rfl (by omega)) ?_
              refine r_val .none rfl (p_move rfl) ?_
              refine r_nil ?_
              refine e_round (k + 1) ⟨⟨by omega, by rw [← hphi.2, getP_drop (i := k) (e := (0, 0)) (by omega), if_neg ‹¬ (ps.getD k (0, 0)).1 = v›]⟩, by omega⟩ rfl ⟨rfl, rfl, rfl, rfl, trivial⟩ (.drop (.nil))
              )
        )
  · skip
    first
      | (exfalso; omega)
      | (
        refine c_cond_f rfl ?_
        refine c_exit ?_
        refine e_exit_then ?_
        refine e_exit_then ?_
        refine e_exit_block ?_
        refine e_next ?_
        refine c_seq ?_
        refine c_region ?_
        refine r_val .none rfl (p_assign rfl) ?_
        refine r_nil ?_
        refine e_next ?_
        refine c_ret ?_
        refine e_ret1 Try.results66 (.tmp rfl .nil) (fun w hm => ⟨?_, hm.since⟩)
        first
        | (rw [← hphi.2, getP_drop (i := k) (e := (0, 0)) (by omega), if_pos ‹(ps.getD k (0, 0)).1 = v›]; done)
        | (rw [← hphi.2, List.drop_eq_nil_of_le (by omega)]; rfl)
        )
theorem c_rfit (v0 : Bool) (n0 : Int) (v1 : Bool) (n1 : Int) (v2 : Bool) (n2 : Int) (t0 t1 t2 : Int) (s : Value) (ps : List Pr) {G : Ghost} (hs : SlL G s 2 pr (0, 0) ps) (hl : ps.length ≤ 33) (w : World) (hG : Has G w) :
    Calls Try.prog 25 #[Value.agg #[Value.int .i64 (vi v0), Value.int .i64 n0, Value.int .i64 (vi v1), Value.int .i64 n1, Value.int .i64 (vi v2), Value.int .i64 n2], Value.agg #[Value.int .i64 t0, Value.int .i64 t1, Value.int .i64 t2], s] w (Ret fun r w' => ∃ G', GNew w nX G G' ∧ Has G' w' ∧ (∃ v, r = .tuple #[v, .bool (rfit v0 n0 v1 n1 v2 n2 t0 t1 t2 ps 3).isSome] ∧ SlL G' v 2 pr (0, 0) ((rfit v0 n0 v1 n1 v2 n2 t0 t1 t2 ps 3).getD ps)) ∧ Since nX w w') := by
  refine enter (args := [_, _, _]) (X := nX) (G := G) (l := [(0, Value.agg #[Value.int .i64 (vi v0), Value.int .i64 n0, Value.int .i64 (vi v1), Value.int .i64 n1, Value.int .i64 (vi v2), Value.int .i64 n2]), (1, Value.agg #[Value.int .i64 t0, Value.int .i64 t1, Value.int .i64 t2]), (2, s)]) Try.func25 rfl Try.ntmps25 hG ⟨rfl, rfl, rfl, trivial⟩ (Nat.le_of_ble_eq_true rfl) ?_
  refine c_seq ?_
  refine c_region ?_
  refine r_box .none rfl rfl (IsRow.lit _) (fun b_1 => ?_)
  refine r_box .none rfl rfl (IsRow.lit _) (fun b_2 => ?_)
  refine r_val .none rfl (p_assign rfl) ?_
  refine r_val .none rfl (p_assign rfl) ?_
  refine r_nil ?_
  refine e_next ?_
  refine c_seq ?_
  refine c_region ?_
  refine r_val .none rfl (p_assign rfl) ?_
  refine r_nil ?_
  refine e_next ?_
  refine c_seq ?_
  refine c_region ?_
  refine r_val .none rfl (p_move rfl) ?_
  refine r_val .none rfl (p_move rfl) ?_
  refine r_nilrow 133 2 ?_
  refine r_append_g (k := 0) .none rfl Try.underlying42 el133 rfl (by decide) rfl rfl rfl hs (fun _ _ _ hj => one_lit rfl rfl _ hj) (by simp only [maxLen]; omega) (by omega) (fun v_1 => ?_)
  refine r_row1 (k := 0) rfl (fun o_2 => ?_)
  refine r_val .none rfl (p_assign rfl) ?_
  refine r_nil ?_
  refine e_next ?_
  refine c_seq ?_
  refine c_seq ?_
  refine c_region ?_
  refine r_val .none rfl (p_assign rfl) ?_
  refine r_nil ?_
  refine e_next ?_
  refine c_block ?_
  refine c_name (d := 2) rfl (fun u_3 hu_3 => ?_)
  refine c_name (d := 3) rfl (fun u_4 hu_4 => ?_)
  refine c_name (d := 4) rfl (fun u_5 hu_5 => ?_)
  refine c_nameL (k := 1) rfl (fun A_6 hA_6 => ?_)
  refine c_nameL (k := 2) rfl (fun A_7 hA_7 => ?_)
  refine c_loop (σ := Nat × Value × List Pr) (fun s => [(9, Value.int .i64 (s.1 : Int)), (8, s.2.1), (2, u_3), (3, u_4), (4, u_5)]) (fun s => [rowA (s.2.1) 133 2 (s.2.2).length ((s.2.2).flatMap pr), A_6, A_7]) (fun _ => _) (fun s => s.1 ≤ 3 ∧ rfit v0 n0 v1 n1 v2 n2 t0 t1 t2 ps s.1 = some s.2.2) (fun s => 3 - s.1) ((0, _, ps)) ⟨by omega, rfl⟩ rfl ⟨rfl, rfl, rfl, rfl, rfl, trivial⟩ (.keep (fun _ _ h => rowA_congr (Nat.zero_add _) ((List.nil_append _).trans (flat_pr0 ps)) _ _ h) (.keep (fun _ _ h => h) (.keep (fun _ _ h => h) (.nil)))) (fun s hphi => ?_)
  subst hu_3
  subst hu_4
  subst hu_5
  subst hA_6
  subst hA_7
  obtain ⟨k, v, qs⟩ := s
  obtain ⟨hk, hfit⟩ := hphi
  dsimp only at hk hfit ⊢
  have hlen := rfit_len hfit
  obtain rfl | rfl | rfl | rfl : k = 0 ∨ k = 1 ∨ k = 2 ∨ k = 3 := by omega
  · skip
    refine c_seq ?_
    refine c_seq ?_
    refine c_region ?_
    refine r_val .none rfl (p_move rfl) ?_
    refine r_val .none rfl (p_lt rfl rfl) ?_
    refine r_say (d := 16) (v := Value.bool true) rfl ?_
    refine r_nil ?_
    refine e_next ?_
    refine c_cond_t rfl ?_
    refine c_skip ?_
    refine e_next ?_
    refine c_seq ?_
    refine c_block ?_
    refine c_seq ?_
    refine c_region ?_
    refine r_val .none rfl (p_move rfl) ?_
    refine r_val .none rfl (p_iaddr (k := 0) Try.underlying52 sz51 rfl rfl (by first | exact of_decide_eq_true rfl | omega)) ?_
    refine r_val .none rfl (p_lda (k := 2) Try.underlying51 rfl sz51 rfl rfl (by first | exact of_decide_eq_true rfl | omega) (rfl : _ = Value.agg #[_, _])) ?_
    refine r_alloc .none rfl zr51 (IsRow.lit _) (fun b_3 => ?_)
    refine r_stw (k := 0) .none sz51 rfl rfl (IsRow.lit _) (one_lit rfl rfl) rfl ?_
    refine r_nil ?_
    refine e_next ?_
    refine c_seq ?_
    refine c_seq ?_
    refine c_region ?_
    refine r_val .none rfl (p_field Try.underlying51 rfl sz3 rfl) ?_
    refine r_val .none rfl (p_ld (k := 0) Try.underlying3 rfl rfl rfl (by first | exact of_decide_eq_true rfl | omega) (rfl : _ = Value.int _ _)) ?_
    refine r_val .none rfl (p_eq rfl rfl) ?_
    refine r_nil ?_
    refine e_next ?_
    refine c_splitd (d := 24) rfl (fun h_8 => ?_) (fun h_8 => ?_)
    · skip
      first
        | (exfalso; omega)
        | (
          refine c_cond_t rfl ?_
          refine c_seq ?_
          refine c_seq ?_
          refine c_region_q mixed (by kernel_rfl) ?_
          refine q_val .none rfl (p_field Try.underlying51 rfl sz3 rfl) ?_
          refine q_val .none rfl (p_ld (k := 0) Try.underlying3 rfl rfl rfl (by first | exact of_decide_eq_true rfl | omega) (rfl : _ = Value.int _ _)) ?_
          refine q_val .none rfl (p_move rfl) ?_
          refine q_val .none rfl (p_iaddr (k := 0) Try.underlying25 sz3 rfl rfl (by first | exact of_decide_eq_true rfl | omega)) ?_
          refine q_val .none rfl (p_ld (k := 2) Try.underlying3 rfl rfl rfl (by first | exact of_decide_eq_true rfl | omega) (rfl : _ = Value.int _ _)) ?_
          refine q_val .none rfl (p_ne rfl rfl) ?_
          refine q_nil ?_
          refine e_next ?_
          refine c_splitd (d := 30) rfl (fun h_9 => ?_) (fun h_9 => ?_)
          · skip
            first
              | (exfalso; omega)
              | (
                refine c_cond_t rfl ?_
                refine c_seq ?_
                refine c_region ?_
                refine r_val .none rfl (p_move rfl) ?_
                refine r_val .none rfl (p_assign rfl) ?_
                refine r_val .none rfl (p_assign rfl) ?_
                refine r_nil ?_
                refine e_next ?_
                refine c_ret ?_
                refine e_ret_then ?_
                refine e_ret_then ?_
                refine e_ret_block ?_
                refine e_ret_then ?_
                refine e_ret_then ?_
                refine e_ret_block ?_
                refine e_ret_then ?_
                refine e_retn Try.results25 (.tmp rfl (.tmp rfl .nil)) rfl (fun w hm => ⟨_, (GNew.refl _ _ _), hm.has, ?_, hm.since⟩)
                rw [show rfit v0 n0 v1 n1 v2 n2 t0 t1 t2 ps 3 = none from upTo_no hfit (by cases v0 <;> simp_all [rfit1, selB, sel3, vi]) (Nat.le_of_ble_eq_true rfl)]; exact ⟨_, rfl, hs⟩
                )
          · skip
            first
              | (exfalso; omega)
              | (
                refine c_cond_f rfl ?_
                refine c_skip ?_
                refine e_next ?_
                refine c_exit ?_
                refine e_exit_then ?_
                refine e_exit_block ?_
                refine e_next ?_
                refine c_region ?_
                refine r_val .none rfl (p_move rfl) ?_
                refine r_val .none rfl (p_add rfl rfl (by omega)) ?_
                refine r_val .none rfl (p_assign rfl) ?_
                refine r_nil ?_
                refine e_round ((1, _, qs)) ⟨⟨Nat.le_of_ble_eq_true rfl, ?_⟩, Nat.le_of_ble_eq_true rfl⟩ rfl ⟨rfl, rfl, rfl, rfl, rfl, trivial⟩ (.drop (.keep (fun _ _ h => rowA_same rfl _ _ h) (.keep (fun _ _ h => h) (.keep (fun _ _ h => h) (.nil)))))
                refine (upTo_next hfit).trans ?_
                cases v0 <;> simp_all [rfit1, selB, sel3, vi]
                )
          )
    · skip
      first
        | (exfalso; omega)
        | (
          refine c_cond_f rfl ?_
          refine c_skip ?_
          refine e_next ?_
          refine c_seq ?_
          refine c_region ?_
          refine r_val .none rfl (p_move rfl) ?_
          refine r_val .none rfl (p_field Try.underlying51 rfl sz3 rfl) ?_
          refine r_val .none rfl (p_ld (k := 0) Try.underlying3 rfl rfl rfl (by first | exact of_decide_eq_true rfl | omega) (rfl : _ = Value.int _ _)) ?_
          refine r_callr (k := 1) (vs := [_, _]) .none rfl cl66 rfl rfl (fun w G_10 hw hle_11 hs_12 => c_get _ _ _ (SlL.of (0, 0) (fun _ => rfl) rfl hs_12) w hw) ?_
          refine r_val .none rfl (p_assign rfl) ?_
          refine r_nil ?_
          refine e_next ?_
          refine c_seq ?_
          refine c_region ?_
          refine r_val .none rfl (p_move rfl) ?_
          refine r_val .none rfl (p_eq rfl rfl) ?_
          refine r_nil ?_
          refine e_next ?_
          refine c_splitd (d := 37) rfl (fun h_13 => ?_) (fun h_13 => ?_)
          · skip
            first
              | (exfalso; omega)
              | (
                refine c_cond_t rfl ?_
                refine c_region_d (fun _ => false) _ mixed (.keep (fun _ _ h => h) (.drop (.keep (fun _ _ h => h) (.keep (fun _ _ h => h) (.nil))))) ?_
                refine d_val1 0 rfl rfl (by kernel_rfl) (fun _ _ => rfl) .none rfl (p_move rfl) ?_
                refine d_val1 1 rfl rfl (by kernel_rfl) (fun _ _ => rfl) .none rfl (p_field Try.underlying51 rfl sz3 rfl) ?_
                refine d_val1 2 rfl rfl (by kernel_rfl) (fun _ _ => rfl) .none rfl (p_ld (k := 0) Try.underlying3 rfl rfl rfl (by first | exact of_decide_eq_true rfl | omega) (rfl : _ = Value.int _ _)) ?_
                refine d_val1 3 rfl rfl (by kernel_rfl) (fun _ _ => rfl) .none rfl (p_move rfl) ?_
                refine d_val1 4 rfl rfl (by kernel_rfl) (fun _ _ => rfl) .none rfl (p_iaddr (k := 0) Try.underlying25 sz3 rfl rfl (by first | exact of_decide_eq_true rfl | omega)) ?_
                refine d_val1 5 rfl rfl (by kernel_rfl) (fun _ _ => rfl) .none rfl (p_ld (k := 1) Try.underlying3 rfl rfl rfl (by first | exact of_decide_eq_true rfl | omega) (rfl : _ = Value.int _ _)) ?_
                refine d_val1 6 rfl rfl (by kernel_rfl) (fun _ _ => rfl) .none rfl (p_build (vs := [(0, Value.int _ _), (1, Value.int _ _)]) rfl (bl133_0i1_1i1 _ _)) ?_
                refine d_eff 7 rfl (by kernel_rfl) (fun K_14 hKK_14 hcK_14 => ?_)
                refine r_bslice (vs := [(0, Value.agg #[_, _])]) (c := #[_, _]) .none rfl Try.underlying42 el133 rfl rfl rfl (bs133_10a2 _ _) (IsRow.lit _) (fun b_4 => ?_)
                refine r_nil (e_d (i := 7) (brk := (fun _ => false)) (ph' := true) hKK_14 hcK_14 rfl (fun _ => GLe.refl _) (fun _ => .drop (.keep (fun _ _ h => h) (.drop (.keep (fun _ _ h => h) (.keep (fun _ _ h => h) (.nil)))))) ?_)
                clear hKK_14 hcK_14 K_14
                refine d_eff 8 rfl (by kernel_rfl) (fun K_15 hKK_15 hcK_15 => ?_)
                refine r_append (k := 2) (k2 := 0) .none rfl Try.underlying42 el133 rfl (by decide) rfl rfl rfl rfl rfl (one_lit rfl rfl) (by simp only [maxLen]; omega) (by omega) (fun v_16 => ?_)
                refine r_row1 (k := 2) rfl (fun o_17 => ?_)
                refine r_nil (e_d (i := 8) (brk := (fun _ => false)) (ph' := true) hKK_15 hcK_15 rfl (fun _ => GLe.refl _) (fun _ => .drop (.keep (fun _ _ h => h) (.drop (.keep (fun _ _ h => h) (.keep (fun _ _ h => h) (.nil)))))) ?_)
                clear hKK_15 hcK_15 K_15
                refine d_val1 9 rfl rfl (by kernel_rfl) (fun _ _ => rfl) .none rfl (p_assign rfl) ?_
                refine d_nil (by kernel_rfl) ?_
                refine e_norm_block ?_
                refine e_next ?_
                refine c_region ?_
                refine r_val .none rfl (p_move rfl) ?_
                refine r_val .none rfl (p_add rfl rfl (by omega)) ?_
                refine r_val .none rfl (p_assign rfl) ?_
                refine r_nil ?_
                refine e_round ((1, _, qs ++ [(n0, t0)])) ⟨⟨Nat.le_of_ble_eq_true rfl, ?_⟩, Nat.le_of_ble_eq_true rfl⟩ rfl ⟨rfl, rfl, rfl, rfl, rfl, trivial⟩ (.drop (.drop (.keep (fun _ _ h => rowA_snoc (l := qs) (x := (n0, t0)) rfl rfl rfl rfl _ _ h) (.keep (fun _ _ h => h) (.keep (fun _ _ h => h) (.nil))))))
                refine (upTo_next hfit).trans ?_
                cases v0 <;> simp_all [rfit1, selB, sel3, vi]
                )
          · skip
            first
              | (exfalso; omega)
              | (
                refine c_cond_f rfl ?_
                refine c_seq ?_
                refine c_region ?_
                refine r_val .none rfl (p_move rfl) ?_
                refine r_val .none rfl (p_move rfl) ?_
                refine r_val .none rfl (p_iaddr (k := 0) Try.underlying25 sz3 rfl rfl (by first | exact of_decide_eq_true rfl | omega)) ?_
                refine r_val .none rfl (p_ld (k := 2) Try.underlying3 rfl rfl rfl (by first | exact of_decide_eq_true rfl | omega) (rfl : _ = Value.int _ _)) ?_
                refine r_val .none rfl (p_ne rfl rfl) ?_
                refine r_nil ?_
                refine e_next ?_
                refine c_splitd (d := 51) rfl (fun h_18 => ?_) (fun h_18 => ?_)
                · skip
                  first
                    | (exfalso; omega)
                    | (
                      refine c_cond_t rfl ?_
                      refine c_seq ?_
                      refine c_region ?_
                      refine r_val .none rfl (p_move rfl) ?_
                      refine r_val .none rfl (p_assign rfl) ?_
                      refine r_val .none rfl (p_assign rfl) ?_
                      refine r_nil ?_
                      refine e_next ?_
                      refine c_ret ?_
                      refine e_ret_block ?_
                      refine e_ret_then ?_
                      refine e_ret_then ?_
                      refine e_ret_block ?_
                      refine e_ret_then ?_
                      refine e_retn Try.results25 (.tmp rfl (.tmp rfl .nil)) rfl (fun w hm => ⟨_, (GNew.refl _ _ _), hm.has, ?_, hm.since⟩)
                      rw [show rfit v0 n0 v1 n1 v2 n2 t0 t1 t2 ps 3 = none from upTo_no hfit (by cases v0 <;> simp_all [rfit1, selB, sel3, vi]) (Nat.le_of_ble_eq_true rfl)]; exact ⟨_, rfl, hs⟩
                      )
                · skip
                  first
                    | (exfalso; omega)
                    | (
                      refine c_cond_f rfl ?_
                      refine c_skip ?_
                      refine e_norm_block ?_
                      refine e_next ?_
                      refine c_region ?_
                      refine r_val .none rfl (p_move rfl) ?_
                      refine r_val .none rfl (p_add rfl rfl (by omega)) ?_
                      refine r_val .none rfl (p_assign rfl) ?_
                      refine r_nil ?_
                      refine e_round ((1, _, qs)) ⟨⟨Nat.le_of_ble_eq_true rfl, ?_⟩, Nat.le_of_ble_eq_true rfl⟩ rfl ⟨rfl, rfl, rfl, rfl, rfl, trivial⟩ (.drop (.keep (fun _ _ h => rowA_same rfl _ _ h) (.keep (fun _ _ h => h) (.keep (fun _ _ h => h) (.nil)))))
                      refine (upTo_next hfit).trans ?_
                      cases v0 <;> simp_all [rfit1, selB, sel3, vi]
                      )
                )
          )
  · skip
    refine c_seq ?_
    refine c_seq ?_
    refine c_region ?_
    refine r_val .none rfl (p_move rfl) ?_
    refine r_val .none rfl (p_lt rfl rfl) ?_
    refine r_say (d := 16) (v := Value.bool true) rfl ?_
    refine r_nil ?_
    refine e_next ?_
    refine c_cond_t rfl ?_
    refine c_skip ?_
    refine e_next ?_
    refine c_seq ?_
    refine c_block ?_
    refine c_seq ?_
    refine c_region ?_
    refine r_val .none rfl (p_move rfl) ?_
    refine r_val .none rfl (p_iaddr (k := 1) Try.underlying52 sz51 rfl rfl (by first | exact of_decide_eq_true rfl | omega)) ?_
    refine r_val .none rfl (p_lda (k := 2) Try.underlying51 rfl sz51 rfl rfl (by first | exact of_decide_eq_true rfl | omega) (rfl : _ = Value.agg #[_, _])) ?_
    refine r_alloc .none rfl zr51 (IsRow.lit _) (fun b_5 => ?_)
    refine r_stw (k := 0) .none sz51 rfl rfl (IsRow.lit _) (one_lit rfl rfl) rfl ?_
    refine r_nil ?_
    refine e_next ?_
    refine c_seq ?_
    refine c_seq ?_
    refine c_region ?_
    refine r_val .none rfl (p_field Try.underlying51 rfl sz3 rfl) ?_
    refine r_val .none rfl (p_ld (k := 0) Try.underlying3 rfl rfl rfl (by first | exact of_decide_eq_true rfl | omega) (rfl : _ = Value.int _ _)) ?_
    refine r_val .none rfl (p_eq rfl rfl) ?_
    refine r_nil ?_
    refine e_next ?_
    refine c_splitd (d := 24) rfl (fun h_19 => ?_) (fun h_19 => ?_)
    · skip
      first
        | (exfalso; omega)
        | (
          refine c_cond_t rfl ?_
          refine c_seq ?_
          refine c_seq ?_
          refine c_region_q mixed (by kernel_rfl) ?_
          refine q_val .none rfl (p_field Try.underlying51 rfl sz3 rfl) ?_
          refine q_val .none rfl (p_ld (k := 0) Try.underlying3 rfl rfl rfl (by first | exact of_decide_eq_true rfl | omega) (rfl : _ = Value.int _ _)) ?_
          refine q_val .none rfl (p_move rfl) ?_
          refine q_val .none rfl (p_iaddr (k := 1) Try.underlying25 sz3 rfl rfl (by first | exact of_decide_eq_true rfl | omega)) ?_
          refine q_val .none rfl (p_ld (k := 2) Try.underlying3 rfl rfl rfl (by first | exact of_decide_eq_true rfl | omega) (rfl : _ = Value.int _ _)) ?_
          refine q_val .none rfl (p_ne rfl rfl) ?_
          refine q_nil ?_
          refine e_next ?_
          refine c_splitd (d := 30) rfl (fun h_20 => ?_) (fun h_20 => ?_)
          · skip
            first
              | (exfalso; omega)
              | (
                refine c_cond_t rfl ?_
                refine c_seq ?_
                refine c_region ?_
                refine r_val .none rfl (p_move rfl) ?_
                refine r_val .none rfl (p_assign rfl) ?_
                refine r_val .none rfl (p_assign rfl) ?_
                refine r_nil ?_
                refine e_next ?_
                refine c_ret ?_
                refine e_ret_then ?_
                refine e_ret_then ?_
                refine e_ret_block ?_
                refine e_ret_then ?_
                refine e_ret_then ?_
                refine e_ret_block ?_
                refine e_ret_then ?_
                refine e_retn Try.results25 (.tmp rfl (.tmp rfl .nil)) rfl (fun w hm => ⟨_, (GNew.refl _ _ _), hm.has, ?_, hm.since⟩)
                rw [show rfit v0 n0 v1 n1 v2 n2 t0 t1 t2 ps 3 = none from upTo_no hfit (by cases v1 <;> simp_all [rfit1, selB, sel3, vi]) (Nat.le_of_ble_eq_true rfl)]; exact ⟨_, rfl, hs⟩
                )
          · skip
            first
              | (exfalso; omega)
              | (
                refine c_cond_f rfl ?_
                refine c_skip ?_
                refine e_next ?_
                refine c_exit ?_
                refine e_exit_then ?_
                refine e_exit_block ?_
                refine e_next ?_
                refine c_region ?_
                refine r_val .none rfl (p_move rfl) ?_
                refine r_val .none rfl (p_add rfl rfl (by omega)) ?_
                refine r_val .none rfl (p_assign rfl) ?_
                refine r_nil ?_
                refine e_round ((2, _, qs)) ⟨⟨Nat.le_of_ble_eq_true rfl, ?_⟩, Nat.le_of_ble_eq_true rfl⟩ rfl ⟨rfl, rfl, rfl, rfl, rfl, trivial⟩ (.drop (.keep (fun _ _ h => rowA_same rfl _ _ h) (.keep (fun _ _ h => h) (.keep (fun _ _ h => h) (.nil)))))
                refine (upTo_next hfit).trans ?_
                cases v1 <;> simp_all [rfit1, selB, sel3, vi]
                )
          )
    · skip
      first
        | (exfalso; omega)
        | (
          refine c_cond_f rfl ?_
          refine c_skip ?_
          refine e_next ?_
          refine c_seq ?_
          refine c_region ?_
          refine r_val .none rfl (p_move rfl) ?_
          refine r_val .none rfl (p_field Try.underlying51 rfl sz3 rfl) ?_
          refine r_val .none rfl (p_ld (k := 0) Try.underlying3 rfl rfl rfl (by first | exact of_decide_eq_true rfl | omega) (rfl : _ = Value.int _ _)) ?_
          refine r_callr (k := 1) (vs := [_, _]) .none rfl cl66 rfl rfl (fun w G_21 hw hle_22 hs_23 => c_get _ _ _ (SlL.of (0, 0) (fun _ => rfl) rfl hs_23) w hw) ?_
          refine r_val .none rfl (p_assign rfl) ?_
          refine r_nil ?_
          refine e_next ?_
          refine c_seq ?_
          refine c_region ?_
          refine r_val .none rfl (p_move rfl) ?_
          refine r_val .none rfl (p_eq rfl rfl) ?_
          refine r_nil ?_
          refine e_next ?_
          refine c_splitd (d := 37) rfl (fun h_24 => ?_) (fun h_24 => ?_)
          · skip
            first
              | (exfalso; omega)
              | (
                refine c_cond_t rfl ?_
                refine c_region_d (fun _ => false) _ mixed (.keep (fun _ _ h => h) (.drop (.keep (fun _ _ h => h) (.keep (fun _ _ h => h) (.nil))))) ?_
                refine d_val1 0 rfl rfl (by kernel_rfl) (fun _ _ => rfl) .none rfl (p_move rfl) ?_
                refine d_val1 1 rfl rfl (by kernel_rfl) (fun _ _ => rfl) .none rfl (p_field Try.underlying51 rfl sz3 rfl) ?_
                refine d_val1 2 rfl rfl (by kernel_rfl) (fun _ _ => rfl) .none rfl (p_ld (k := 0) Try.underlying3 rfl rfl rfl (by first | exact of_decide_eq_true rfl | omega) (rfl : _ = Value.int _ _)) ?_
                refine d_val1 3 rfl rfl (by kernel_rfl) (fun _ _ => rfl) .none rfl (p_move rfl) ?_
                refine d_val1 4 rfl rfl (by kernel_rfl) (fun _ _ => rfl) .none rfl (p_iaddr (k := 1) Try.underlying25 sz3 rfl rfl (by first | exact of_decide_eq_true rfl | omega)) ?_
                refine d_val1 5 rfl rfl (by kernel_rfl) (fun _ _ => rfl) .none rfl (p_ld (k := 1) Try.underlying3 rfl rfl rfl (by first | exact of_decide_eq_true rfl | omega) (rfl : _ = Value.int _ _)) ?_
                refine d_val1 6 rfl rfl (by kernel_rfl) (fun _ _ => rfl) .none rfl (p_build (vs := [(0, Value.int _ _), (1, Value.int _ _)]) rfl (bl133_0i1_1i1 _ _)) ?_
                refine d_eff 7 rfl (by kernel_rfl) (fun K_25 hKK_25 hcK_25 => ?_)
                refine r_bslice (vs := [(0, Value.agg #[_, _])]) (c := #[_, _]) .none rfl Try.underlying42 el133 rfl rfl rfl (bs133_10a2 _ _) (IsRow.lit _) (fun b_6 => ?_)
                refine r_nil (e_d (i := 7) (brk := (fun _ => false)) (ph' := true) hKK_25 hcK_25 rfl (fun _ => GLe.refl _) (fun _ => .drop (.keep (fun _ _ h => h) (.drop (.keep (fun _ _ h => h) (.keep (fun _ _ h => h) (.nil)))))) ?_)
                clear hKK_25 hcK_25 K_25
                refine d_eff 8 rfl (by kernel_rfl) (fun K_26 hKK_26 hcK_26 => ?_)
                refine r_append (k := 2) (k2 := 0) .none rfl Try.underlying42 el133 rfl (by decide) rfl rfl rfl rfl rfl (one_lit rfl rfl) (by simp only [maxLen]; omega) (by omega) (fun v_27 => ?_)
                refine r_row1 (k := 2) rfl (fun o_28 => ?_)
                refine r_nil (e_d (i := 8) (brk := (fun _ => false)) (ph' := true) hKK_26 hcK_26 rfl (fun _ => GLe.refl _) (fun _ => .drop (.keep (fun _ _ h => h) (.drop (.keep (fun _ _ h => h) (.keep (fun _ _ h => h) (.nil)))))) ?_)
                clear hKK_26 hcK_26 K_26
                refine d_val1 9 rfl rfl (by kernel_rfl) (fun _ _ => rfl) .none rfl (p_assign rfl) ?_
                refine d_nil (by kernel_rfl) ?_
                refine e_norm_block ?_
                refine e_next ?_
                refine c_region ?_
                refine r_val .none rfl (p_move rfl) ?_
                refine r_val .none rfl (p_add rfl rfl (by omega)) ?_
                refine r_val .none rfl (p_assign rfl) ?_
                refine r_nil ?_
                refine e_round ((2, _, qs ++ [(n1, t1)])) ⟨⟨Nat.le_of_ble_eq_true rfl, ?_⟩, Nat.le_of_ble_eq_true rfl⟩ rfl ⟨rfl, rfl, rfl, rfl, rfl, trivial⟩ (.drop (.drop (.keep (fun _ _ h => rowA_snoc (l := qs) (x := (n1, t1)) rfl rfl rfl rfl _ _ h) (.keep (fun _ _ h => h) (.keep (fun _ _ h => h) (.nil))))))
                refine (upTo_next hfit).trans ?_
                cases v1 <;> simp_all [rfit1, selB, sel3, vi]
                )
          · skip
            first
              | (exfalso; omega)
              | (
                refine c_cond_f rfl ?_
                refine c_seq ?_
                refine c_region ?_
                refine r_val .none rfl (p_move rfl) ?_
                refine r_val .none rfl (p_move rfl) ?_
                refine r_val .none rfl (p_iaddr (k := 1) Try.underlying25 sz3 rfl rfl (by first | exact of_decide_eq_true rfl | omega)) ?_
                refine r_val .none rfl (p_ld (k := 2) Try.underlying3 rfl rfl rfl (by first | exact of_decide_eq_true rfl | omega) (rfl : _ = Value.int _ _)) ?_
                refine r_val .none rfl (p_ne rfl rfl) ?_
                refine r_nil ?_
                refine e_next ?_
                refine c_splitd (d := 51) rfl (fun h_29 => ?_) (fun h_29 => ?_)
                · skip
                  first
                    | (exfalso; omega)
                    | (
                      refine c_cond_t rfl ?_
                      refine c_seq ?_
                      refine c_region ?_
                      refine r_val .none rfl (p_move rfl) ?_
                      refine r_val .none rfl (p_assign rfl) ?_
                      refine r_val .none rfl (p_assign rfl) ?_
                      refine r_nil ?_
                      refine e_next ?_
                      refine c_ret ?_
                      refine e_ret_block ?_
                      refine e_ret_then ?_
                      refine e_ret_then ?_
                      refine e_ret_block ?_
                      refine e_ret_then ?_
                      refine e_retn Try.results25 (.tmp rfl (.tmp rfl .nil)) rfl (fun w hm => ⟨_, (GNew.refl _ _ _), hm.has, ?_, hm.since⟩)
                      rw [show rfit v0 n0 v1 n1 v2 n2 t0 t1 t2 ps 3 = none from upTo_no hfit (by cases v1 <;> simp_all [rfit1, selB, sel3, vi]) (Nat.le_of_ble_eq_true rfl)]; exact ⟨_, rfl, hs⟩
                      )
                · skip
                  first
                    | (exfalso; omega)
                    | (
                      refine c_cond_f rfl ?_
                      refine c_skip ?_
                      refine e_norm_block ?_
                      refine e_next ?_
                      refine c_region ?_
                      refine r_val .none rfl (p_move rfl) ?_
                      refine r_val .none rfl (p_add rfl rfl (by omega)) ?_
                      refine r_val .none rfl (p_assign rfl) ?_
                      refine r_nil ?_
                      refine e_round ((2, _, qs)) ⟨⟨Nat.le_of_ble_eq_true rfl, ?_⟩, Nat.le_of_ble_eq_true rfl⟩ rfl ⟨rfl, rfl, rfl, rfl, rfl, trivial⟩ (.drop (.keep (fun _ _ h => rowA_same rfl _ _ h) (.keep (fun _ _ h => h) (.keep (fun _ _ h => h) (.nil)))))
                      refine (upTo_next hfit).trans ?_
                      cases v1 <;> simp_all [rfit1, selB, sel3, vi]
                      )
                )
          )
  · skip
    refine c_seq ?_
    refine c_seq ?_
    refine c_region ?_
    refine r_val .none rfl (p_move rfl) ?_
    refine r_val .none rfl (p_lt rfl rfl) ?_
    refine r_say (d := 16) (v := Value.bool true) rfl ?_
    refine r_nil ?_
    refine e_next ?_
    refine c_cond_t rfl ?_
    refine c_skip ?_
    refine e_next ?_
    refine c_seq ?_
    refine c_block ?_
    refine c_seq ?_
    refine c_region ?_
    refine r_val .none rfl (p_move rfl) ?_
    refine r_val .none rfl (p_iaddr (k := 2) Try.underlying52 sz51 rfl rfl (by first | exact of_decide_eq_true rfl | omega)) ?_
    refine r_val .none rfl (p_lda (k := 2) Try.underlying51 rfl sz51 rfl rfl (by first | exact of_decide_eq_true rfl | omega) (rfl : _ = Value.agg #[_, _])) ?_
    refine r_alloc .none rfl zr51 (IsRow.lit _) (fun b_7 => ?_)
    refine r_stw (k := 0) .none sz51 rfl rfl (IsRow.lit _) (one_lit rfl rfl) rfl ?_
    refine r_nil ?_
    refine e_next ?_
    refine c_seq ?_
    refine c_seq ?_
    refine c_region ?_
    refine r_val .none rfl (p_field Try.underlying51 rfl sz3 rfl) ?_
    refine r_val .none rfl (p_ld (k := 0) Try.underlying3 rfl rfl rfl (by first | exact of_decide_eq_true rfl | omega) (rfl : _ = Value.int _ _)) ?_
    refine r_val .none rfl (p_eq rfl rfl) ?_
    refine r_nil ?_
    refine e_next ?_
    refine c_splitd (d := 24) rfl (fun h_30 => ?_) (fun h_30 => ?_)
    · skip
      first
        | (exfalso; omega)
        | (
          refine c_cond_t rfl ?_
          refine c_seq ?_
          refine c_seq ?_
          refine c_region_q mixed (by kernel_rfl) ?_
          refine q_val .none rfl (p_field Try.underlying51 rfl sz3 rfl) ?_
          refine q_val .none rfl (p_ld (k := 0) Try.underlying3 rfl rfl rfl (by first | exact of_decide_eq_true rfl | omega) (rfl : _ = Value.int _ _)) ?_
          refine q_val .none rfl (p_move rfl) ?_
          refine q_val .none rfl (p_iaddr (k := 2) Try.underlying25 sz3 rfl rfl (by first | exact of_decide_eq_true rfl | omega)) ?_
          refine q_val .none rfl (p_ld (k := 2) Try.underlying3 rfl rfl rfl (by first | exact of_decide_eq_true rfl | omega) (rfl : _ = Value.int _ _)) ?_
          refine q_val .none rfl (p_ne rfl rfl) ?_
          refine q_nil ?_
          refine e_next ?_
          refine c_splitd (d := 30) rfl (fun h_31 => ?_) (fun h_31 => ?_)
          · skip
            first
              | (exfalso; omega)
              | (
                refine c_cond_t rfl ?_
                refine c_seq ?_
                refine c_region ?_
                refine r_val .none rfl (p_move rfl) ?_
                refine r_val .none rfl (p_assign rfl) ?_
                refine r_val .none rfl (p_assign rfl) ?_
                refine r_nil ?_
                refine e_next ?_
                refine c_ret ?_
                refine e_ret_then ?_
                refine e_ret_then ?_
                refine e_ret_block ?_
                refine e_ret_then ?_
                refine e_ret_then ?_
                refine e_ret_block ?_
                refine e_ret_then ?_
                refine e_retn Try.results25 (.tmp rfl (.tmp rfl .nil)) rfl (fun w hm => ⟨_, (GNew.refl _ _ _), hm.has, ?_, hm.since⟩)
                rw [show rfit v0 n0 v1 n1 v2 n2 t0 t1 t2 ps 3 = none from upTo_no hfit (by cases v2 <;> simp_all [rfit1, selB, sel3, vi]) (Nat.le_of_ble_eq_true rfl)]; exact ⟨_, rfl, hs⟩
                )
          · skip
            first
              | (exfalso; omega)
              | (
                refine c_cond_f rfl ?_
                refine c_skip ?_
                refine e_next ?_
                refine c_exit ?_
                refine e_exit_then ?_
                refine e_exit_block ?_
                refine e_next ?_
                refine c_region ?_
                refine r_val .none rfl (p_move rfl) ?_
                refine r_val .none rfl (p_add rfl rfl (by omega)) ?_
                refine r_val .none rfl (p_assign rfl) ?_
                refine r_nil ?_
                refine e_round ((3, _, qs)) ⟨⟨Nat.le_of_ble_eq_true rfl, ?_⟩, Nat.le_of_ble_eq_true rfl⟩ rfl ⟨rfl, rfl, rfl, rfl, rfl, trivial⟩ (.drop (.keep (fun _ _ h => rowA_same rfl _ _ h) (.keep (fun _ _ h => h) (.keep (fun _ _ h => h) (.nil)))))
                refine (upTo_next hfit).trans ?_
                cases v2 <;> simp_all [rfit1, selB, sel3, vi]
                )
          )
    · skip
      first
        | (exfalso; omega)
        | (
          refine c_cond_f rfl ?_
          refine c_skip ?_
          refine e_next ?_
          refine c_seq ?_
          refine c_region ?_
          refine r_val .none rfl (p_move rfl) ?_
          refine r_val .none rfl (p_field Try.underlying51 rfl sz3 rfl) ?_
          refine r_val .none rfl (p_ld (k := 0) Try.underlying3 rfl rfl rfl (by first | exact of_decide_eq_true rfl | omega) (rfl : _ = Value.int _ _)) ?_
          refine r_callr (k := 1) (vs := [_, _]) .none rfl cl66 rfl rfl (fun w G_32 hw hle_33 hs_34 => c_get _ _ _ (SlL.of (0, 0) (fun _ => rfl) rfl hs_34) w hw) ?_
          refine r_val .none rfl (p_assign rfl) ?_
          refine r_nil ?_
          refine e_next ?_
          refine c_seq ?_
          refine c_region ?_
          refine r_val .none rfl (p_move rfl) ?_
          refine r_val .none rfl (p_eq rfl rfl) ?_
          refine r_nil ?_
          refine e_next ?_
          refine c_splitd (d := 37) rfl (fun h_35 => ?_) (fun h_35 => ?_)
          · skip
            first
              | (exfalso; omega)
              | (
                refine c_cond_t rfl ?_
                refine c_region_d (fun _ => false) _ mixed (.keep (fun _ _ h => h) (.drop (.keep (fun _ _ h => h) (.keep (fun _ _ h => h) (.nil))))) ?_
                refine d_val1 0 rfl rfl (by kernel_rfl) (fun _ _ => rfl) .none rfl (p_move rfl) ?_
                refine d_val1 1 rfl rfl (by kernel_rfl) (fun _ _ => rfl) .none rfl (p_field Try.underlying51 rfl sz3 rfl) ?_
                refine d_val1 2 rfl rfl (by kernel_rfl) (fun _ _ => rfl) .none rfl (p_ld (k := 0) Try.underlying3 rfl rfl rfl (by first | exact of_decide_eq_true rfl | omega) (rfl : _ = Value.int _ _)) ?_
                refine d_val1 3 rfl rfl (by kernel_rfl) (fun _ _ => rfl) .none rfl (p_move rfl) ?_
                refine d_val1 4 rfl rfl (by kernel_rfl) (fun _ _ => rfl) .none rfl (p_iaddr (k := 2) Try.underlying25 sz3 rfl rfl (by first | exact of_decide_eq_true rfl | omega)) ?_
                refine d_val1 5 rfl rfl (by kernel_rfl) (fun _ _ => rfl) .none rfl (p_ld (k := 1) Try.underlying3 rfl rfl rfl (by first | exact of_decide_eq_true rfl | omega) (rfl : _ = Value.int _ _)) ?_
                refine d_val1 6 rfl rfl (by kernel_rfl) (fun _ _ => rfl) .none rfl (p_build (vs := [(0, Value.int _ _), (1, Value.int _ _)]) rfl (bl133_0i1_1i1 _ _)) ?_
                refine d_eff 7 rfl (by kernel_rfl) (fun K_36 hKK_36 hcK_36 => ?_)
                refine r_bslice (vs := [(0, Value.agg #[_, _])]) (c := #[_, _]) .none rfl Try.underlying42 el133 rfl rfl rfl (bs133_10a2 _ _) (IsRow.lit _) (fun b_8 => ?_)
                refine r_nil (e_d (i := 7) (brk := (fun _ => false)) (ph' := true) hKK_36 hcK_36 rfl (fun _ => GLe.refl _) (fun _ => .drop (.keep (fun _ _ h => h) (.drop (.keep (fun _ _ h => h) (.keep (fun _ _ h => h) (.nil)))))) ?_)
                clear hKK_36 hcK_36 K_36
                refine d_eff 8 rfl (by kernel_rfl) (fun K_37 hKK_37 hcK_37 => ?_)
                refine r_append (k := 2) (k2 := 0) .none rfl Try.underlying42 el133 rfl (by decide) rfl rfl rfl rfl rfl (one_lit rfl rfl) (by simp only [maxLen]; omega) (by omega) (fun v_38 => ?_)
                refine r_row1 (k := 2) rfl (fun o_39 => ?_)
                refine r_nil (e_d (i := 8) (brk := (fun _ => false)) (ph' := true) hKK_37 hcK_37 rfl (fun _ => GLe.refl _) (fun _ => .drop (.keep (fun _ _ h => h) (.drop (.keep (fun _ _ h => h) (.keep (fun _ _ h => h) (.nil)))))) ?_)
                clear hKK_37 hcK_37 K_37
                refine d_val1 9 rfl rfl (by kernel_rfl) (fun _ _ => rfl) .none rfl (p_assign rfl) ?_
                refine d_nil (by kernel_rfl) ?_
                refine e_norm_block ?_
                refine e_next ?_
                refine c_region ?_
                refine r_val .none rfl (p_move rfl) ?_
                refine r_val .none rfl (p_add rfl rfl (by omega)) ?_
                refine r_val .none rfl (p_assign rfl) ?_
                refine r_nil ?_
                refine e_round ((3, _, qs ++ [(n2, t2)])) ⟨⟨Nat.le_of_ble_eq_true rfl, ?_⟩, Nat.le_of_ble_eq_true rfl⟩ rfl ⟨rfl, rfl, rfl, rfl, rfl, trivial⟩ (.drop (.drop (.keep (fun _ _ h => rowA_snoc (l := qs) (x := (n2, t2)) rfl rfl rfl rfl _ _ h) (.keep (fun _ _ h => h) (.keep (fun _ _ h => h) (.nil))))))
                refine (upTo_next hfit).trans ?_
                cases v2 <;> simp_all [rfit1, selB, sel3, vi]
                )
          · skip
            first
              | (exfalso; omega)
              | (
                refine c_cond_f rfl ?_
                refine c_seq ?_
                refine c_region ?_
                refine r_val .none rfl (p_move rfl) ?_
                refine r_val .none rfl (p_move rfl) ?_
                refine r_val .none rfl (p_iaddr (k := 2) Try.underlying25 sz3 rfl rfl (by first | exact of_decide_eq_true rfl | omega)) ?_
                refine r_val .none rfl (p_ld (k := 2) Try.underlying3 rfl rfl rfl (by first | exact of_decide_eq_true rfl | omega) (rfl : _ = Value.int _ _)) ?_
                refine r_val .none rfl (p_ne rfl rfl) ?_
                refine r_nil ?_
                refine e_next ?_
                refine c_splitd (d := 51) rfl (fun h_40 => ?_) (fun h_40 => ?_)
                · skip
                  first
                    | (exfalso; omega)
                    | (
                      refine c_cond_t rfl ?_
                      refine c_seq ?_
                      refine c_region ?_
                      refine r_val .none rfl (p_move rfl) ?_
                      refine r_val .none rfl (p_assign rfl) ?_
                      refine r_val .none rfl (p_assign rfl) ?_
                      refine r_nil ?_
                      refine e_next ?_
                      refine c_ret ?_
                      refine e_ret_block ?_
                      refine e_ret_then ?_
                      refine e_ret_then ?_
                      refine e_ret_block ?_
                      refine e_ret_then ?_
                      refine e_retn Try.results25 (.tmp rfl (.tmp rfl .nil)) rfl (fun w hm => ⟨_, (GNew.refl _ _ _), hm.has, ?_, hm.since⟩)
                      rw [show rfit v0 n0 v1 n1 v2 n2 t0 t1 t2 ps 3 = none from upTo_no hfit (by cases v2 <;> simp_all [rfit1, selB, sel3, vi]) (Nat.le_of_ble_eq_true rfl)]; exact ⟨_, rfl, hs⟩
                      )
                · skip
                  first
                    | (exfalso; omega)
                    | (
                      refine c_cond_f rfl ?_
                      refine c_skip ?_
                      refine e_norm_block ?_
                      refine e_next ?_
                      refine c_region ?_
                      refine r_val .none rfl (p_move rfl) ?_
                      refine r_val .none rfl (p_add rfl rfl (by omega)) ?_
                      refine r_val .none rfl (p_assign rfl) ?_
                      refine r_nil ?_
                      refine e_round ((3, _, qs)) ⟨⟨Nat.le_of_ble_eq_true rfl, ?_⟩, Nat.le_of_ble_eq_true rfl⟩ rfl ⟨rfl, rfl, rfl, rfl, rfl, trivial⟩ (.drop (.keep (fun _ _ h => rowA_same rfl _ _ h) (.keep (fun _ _ h => h) (.keep (fun _ _ h => h) (.nil)))))
                      refine (upTo_next hfit).trans ?_
                      cases v2 <;> simp_all [rfit1, selB, sel3, vi]
                      )
                )
          )
  · skip
    refine c_seq ?_
    refine c_seq ?_
    refine c_region ?_
    refine r_val .none rfl (p_move rfl) ?_
    refine r_val .none rfl (p_lt rfl rfl) ?_
    refine r_say (d := 16) (v := Value.bool false) rfl ?_
    refine r_nil ?_
    refine e_next ?_
    refine c_cond_f rfl ?_
    refine c_exit ?_
    refine e_exit_then ?_
    refine e_exit_then ?_
    refine e_exit_block ?_
    refine e_next ?_
    refine c_seq ?_
    refine c_region ?_
    refine r_val .none rfl (p_move rfl) ?_
    refine r_val .none rfl (p_assign rfl) ?_
    refine r_val .none rfl (p_assign rfl) ?_
    refine r_nil ?_
    refine e_next ?_
    refine c_ret ?_
    refine e_freeze (k := 0) rfl (fun G_41 hn_42 hs_43 => ?_)
    replace hs := hs.mono hn_42.le
    refine e_retn Try.results25 (.tmp rfl (.tmp rfl .nil)) rfl (fun w hm => ⟨_, hn_42, hm.has, ?_, hm.since⟩)
    rw [show rfit v0 n0 v1 n1 v2 n2 t0 t1 t2 ps 3 = some qs from hfit]; exact ⟨_, rfl, SlL.of (0, 0) (fun _ => rfl) rfl hs_43⟩
end Go.Proofs.Ytinbigokigkfaaa
