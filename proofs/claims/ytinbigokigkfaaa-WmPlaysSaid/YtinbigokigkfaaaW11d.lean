/- Walks: what Go functions of this chapter come to, each as a function on plain data; no condition but those that each theorem names. Printed by a program of this work (gen.py). -/
import Derived.Test.YtinbigokigkfaaaW11c
import Derived.Test.YtinbigokigkfaaaRows
namespace Go.Proofs.Ytinbigokigkfaaa
open Go.Gx Go.Gx.T11
theorem sz5 : SzIs Try.prog 5 1 := by
  unfold SzIs
  kernel_rfl
theorem sz72 : SzIs Try.prog 72 4 := by
  unfold SzIs
  kernel_rfl
theorem zr72 : ZeroIs Try.prog 72 (Value.agg #[Value.int .i64 0, Value.int .i64 0, Value.int .i64 0, Value.int .i64 0]) := by
  unfold ZeroIs
  kernel_rfl
theorem cl57 : Callable Try.prog 57 := callable Try.func57 (by kernel_rfl) rfl
theorem c_WmIds (v : Value) (ns : List Tri) (u : Value) (gs : List Nat) {G : Ghost} (hs : SlL G v 3 triL (0, 0, 0) ns) (hg : SlL G u 1 cU (0 : Nat) gs) (w : World) (hG : Has G w) :
    Calls Try.prog 10 #[v, u] w (Ret fun r w' => r = Value.bool true ∧ Since nX w w') := by
  refine enter (args := [_, _]) (X := nX) (G := G) (l := [(0, v), (1, u)]) Try.func10 rfl Try.ntmps10 hG ⟨rfl, rfl, trivial⟩ (Nat.le_of_ble_eq_true rfl) ?_
  refine c_seq ?_
  refine c_region ?_
  refine r_val .none rfl (p_assign rfl) ?_
  refine r_nil ?_
  refine e_next ?_
  refine c_seq ?_
  refine c_region ?_
  refine r_callnew (vs := [_]) (vr := fun p => .tuple #[.pointer (some ⟨p, 0, none⟩), .int .i64 0]) .none rfl cl31 rfl (fun w hw => c_mnew _ (by omega) w hw) (fun p_1 => ?_)
  refine r_val .none rfl (p_move rfl) ?_
  refine r_val .none rfl (p_extract rfl rfl) ?_
  refine r_val .none rfl (p_extract rfl rfl) ?_
  refine r_val .none rfl (p_assign rfl) ?_
  refine r_val .none rfl (p_assign rfl) ?_
  refine r_nil ?_
  refine e_next ?_
  refine c_seq ?_
  refine c_seq ?_
  refine c_region ?_
  refine r_val .none rfl (p_move rfl) ?_
  refine r_val .none rfl (p_leng Try.underlying22 rfl hs) ?_
  have bd_2 := (hs).bound
  refine r_val .none rfl (p_gt rfl rfl) ?_
  refine r_val .none rfl (p_move rfl) ?_
  refine' r_or (c := 29) (d := 32) [_, _, _] rfl (fun h_3 Q_4 hQ_5 => ?_) (fun h_3 Q_4 hQ_5 => ?_) ?_
  rotate_left 1
  · skip
    replace h_3 := of_decide_eq_false h_3
    refine r_val (.some rfl rfl) rfl (p_move rfl) ?_
    refine r_val (.some rfl rfl) rfl (p_ne rfl rfl) ?_
    refine r_say (d := 31) (v := Value.bool false) rfl ?_
    refine r_val .none rfl (p_pick_f rfl rfl) ?_
    refine r_nil (e_fin (d := 32) hQ_5 rfl (by repeat (first | exact .refl | refine .put rfl ?_ | refine .say rfl ?_ | refine .say2 rfl (by first | assumption | simp_all) ?_)))
  · skip
    repeat (first | refine r_skip rfl (.no rfl rfl) ?_ | refine r_skip rfl (.un rfl rfl) ?_)
    refine r_val (by first | exact .none | exact .some rfl rfl) rfl (p_pick_t rfl rfl) ?_
    refine r_nil (e_fin (d := 32) hQ_5 rfl (by repeat (first | exact .refl | refine .put rfl ?_ | refine .say rfl ?_ | refine .say2 rfl (by first | assumption | simp_all) ?_)))
  refine r_val .none rfl (p_move rfl) ?_
  refine' r_or (c := 33) (d := 36) [_, _, _] rfl (fun h_7 Q_8 hQ_9 => ?_) (fun h_7 Q_8 hQ_9 => ?_) ?_
  rotate_left 1
  · skip
    try simp only [norms] at h_7
    refine r_val (.some rfl rfl) rfl (p_move rfl) ?_
    refine r_val (.some rfl rfl) rfl (p_eq_ptr Try.underlying76 (by first | exact .inr rfl | exact .inl rfl) rfl rfl) ?_
    refine r_say (d := 35) (v := Value.bool false) rfl ?_
    refine r_val .none rfl (p_pick_f rfl rfl) ?_
    refine r_nil (e_fin (d := 36) hQ_9 rfl (by repeat (first | exact .refl | refine .put rfl ?_ | refine .say rfl ?_ | refine .say2 rfl (by first | assumption | simp_all) ?_)))
  · skip
    repeat (first | refine r_skip rfl (.no rfl rfl) ?_ | refine r_skip rfl (.un rfl rfl) ?_)
    refine r_val (by first | exact .none | exact .some rfl rfl) rfl (p_pick_t rfl rfl) ?_
    refine r_nil (e_fin (d := 36) hQ_9 rfl (by repeat (first | exact .refl | refine .put rfl ?_ | refine .say rfl ?_ | refine .say2 rfl (by first | assumption | simp_all) ?_)))
  refine r_nil ?_
  refine e_next ?_
  refine c_split (d := 36) rfl (fun h_11 => ?_) (fun h_11 => ?_)
  · skip
    try simp only [norms] at h_11
    first
      | (exfalso; omega)
      | (
        refine c_cond_t rfl ?_
        refine c_seq ?_
        refine c_region ?_
        refine r_val .none rfl (p_move rfl) ?_
        refine r_val .none rfl (p_eq rfl rfl) ?_
        refine r_say (d := 38) (v := Value.bool true) rfl ?_
        refine r_val .none rfl (p_move rfl) ?_
        refine r_val (.some rfl rfl) rfl (p_move rfl) ?_
        refine r_val (.some rfl rfl) rfl (p_ne_ptr Try.underlying76 (by first | exact .inr rfl | exact .inl rfl) rfl rfl) ?_
        refine r_say (d := 41) (v := Value.bool true) rfl ?_
        refine r_val .none rfl (p_pick_t rfl rfl) ?_
        refine r_val .none rfl (p_move rfl) ?_
        refine r_call (vs := []) (.some rfl rfl) rfl cl37 rfl (fun w hw => c_awake11 w) ?_
        refine r_val .none rfl (p_pick_t rfl rfl) ?_
        refine r_val .none rfl (p_assign rfl) ?_
        refine r_nil ?_
        refine e_next ?_
        refine c_ret ?_
        refine e_ret_then ?_
        refine e_ret1 Try.results10 (.tmp rfl .nil) (fun w hm => ⟨?_, hm.since⟩)
        first
        | rfl
        | (exfalso; revert hB; generalize (lkp (mput l (last + 1) (ns.getD j (0, 0, 0))) _).isSome = b; cases b <;> simp; done)
        | (exfalso; obtain ⟨h1, h2⟩ := fact_there (l := l) (k := k) (by rw [← facts_len l]; omega); rcases hC with h | h; (rw [h1] at h; cases h); exact h h2)
        | (simp [facts_len]; done)
        )
  · skip
    try simp only [norms] at h_11
    first
      | (exfalso; omega)
      | (
        refine c_cond_f rfl ?_
        refine c_skip ?_
        refine e_next ?_
        refine c_seq ?_
        refine c_region ?_
        refine r_val .none rfl (p_assign rfl) ?_
        refine r_nil ?_
        refine e_next ?_
        refine c_seq ?_
        refine c_region ?_
        refine r_makemap .none rfl kI kT (fun m_12 => ?_)
        refine r_val .none rfl (p_assign rfl) ?_
        refine r_nil ?_
        refine e_next ?_
        refine c_seq ?_
        refine c_seq ?_
        refine c_region ?_
        refine r_val .none rfl (p_move rfl) ?_
        refine r_val .none rfl (p_leng Try.underlying22 rfl hs) ?_
        have bd_13 := (hs).bound
        refine r_val .none rfl (p_move rfl) ?_
        refine r_nil ?_
        refine e_next ?_
        refine c_block ?_
        refine c_name (d := 1) rfl (fun u_14 hu_14 => ?_)
        refine c_name (d := 5) rfl (fun u_15 hu_15 => ?_)
        refine c_name (d := 8) rfl (fun u_16 hu_16 => ?_)
        refine c_name (d := 47) rfl (fun u_17 hu_17 => ?_)
        refine c_name (d := 48) rfl (fun u_18 hu_18 => ?_)
        refine c_loop (σ := Nat × List (Int × Tri) × Int) (fun s => [(49, Value.int .i64 (s.1 : Nat)), (7, Value.int .i64 s.2.2), (1, u_14), (5, u_15), (8, u_16), (47, u_17), (48, u_18)]) (fun s => [mapA m_12 kI kT s.2.1, memA p_1 s.2.1 60 s.2.2]) (fun _ => _) (fun s => s.1 ≤ ns.length ∧ Ids s.2.1 s.2.2 s.1) (fun s => ns.length - s.1) ((0, [], 0)) ⟨Nat.zero_le _, Ids.nil⟩ rfl ⟨rfl, rfl, rfl, rfl, rfl, rfl, rfl, trivial⟩ (.keep (fun _ _ h => h) (.keep (fun _ _ h => h) (.nil))) (fun s hphi => ?_)
        subst hu_14
        subst hu_15
        subst hu_16
        subst hu_17
        subst hu_18
        obtain ⟨j, l, last⟩ := s
        obtain ⟨hj, H⟩ := hphi
        dsimp only at hj H ⊢
        have hlo := H.lo
        have hhi := H.hi
        have hll := H.len
        refine c_seq ?_
        refine c_region ?_
        refine r_val .none rfl (p_lt rfl rfl) ?_
        refine r_nil ?_
        refine e_next ?_
        refine c_seq ?_
        refine c_splitd (d := 50) rfl (fun h_19 => ?_) (fun h_19 => ?_)
        · skip
          first
            | (exfalso; omega)
            | (
              refine c_cond_t rfl ?_
              refine c_skip ?_
              refine e_next ?_
              refine c_seq ?_
              refine c_block ?_
              refine c_seq ?_
              refine c_region ?_
              refine r_val .none rfl (p_move rfl) ?_
              refine r_iaddr_g .none rfl Try.underlying22 sz26 rfl hs rfl (by first | exact of_decide_eq_true rfl | omega) (fun p_21 o_22 R_20 => ?_)
              refine r_val .none rfl (p_ldga0 Try.underlying26 rfl sz26 rfl R_20 (by first | exact of_decide_eq_true rfl | omega) (rfl : _ = Value.agg #[_, _, _])) ?_
              refine r_alloc .none rfl zr26 (IsRow.lit _) (fun b_1 => ?_)
              refine r_val .none rfl (p_assign rfl) ?_
              refine r_stw (k := 0) .none sz26 rfl rfl (IsRow.lit _) (one_lit rfl rfl) rfl ?_
              refine r_nil ?_
              refine e_next ?_
              refine c_seq ?_
              refine c_region ?_
              refine r_val .none rfl (p_move rfl) ?_
              refine r_val .none rfl (p_ldw (k := 0) Try.underlying26 rfl sz26 rfl rfl (rfl : _ = Value.agg #[_, _, _])) ?_
              refine r_callo (k := 2) (vs := [_, _]) .none rfl cl32 rfl rfl (fun w F hw hA hFG => c_madd _ (ns.getD j (0, 0, 0)) _ _ _ (by omega) w hw hA hFG) ?_
              refine r_val .none rfl (p_move rfl) ?_
              refine r_val .none rfl (p_extract rfl rfl) ?_
              refine r_val .none rfl (p_extract rfl rfl) ?_
              refine r_val .none rfl (p_assign rfl) ?_
              refine r_val .none rfl (p_assign rfl) ?_
              refine r_nil ?_
              refine e_next ?_
              refine c_seq ?_
              refine c_seq ?_
              refine c_region ?_
              refine r_val .none rfl (p_move rfl) ?_
              refine r_val .none rfl (p_ne rfl rfl) ?_
              refine r_nil ?_
              refine e_next ?_
              refine c_splitd (d := 61) rfl (fun h_23 => ?_) (fun h_23 => ?_)
              · skip
                have hE := h_23
                simp only [wAdd_err hE]
                first
                  | (exfalso; omega)
                  | (
                    refine c_cond_t rfl ?_
                    refine c_exit ?_
                    refine e_exit_then ?_
                    refine e_exit_block ?_
                    refine e_next ?_
                    refine c_region ?_
                    refine r_val .none rfl (p_add rfl rfl (by omega)) ?_
                    refine r_val .none rfl (p_move rfl) ?_
                    refine r_nil ?_
                    refine e_round ((j + 1, _, _)) ⟨⟨by dsimp only; omega, by first | exact H.skip | exact (H.add _).del _ | exact H.add _⟩, by dsimp only; omega⟩ rfl ⟨rfl, rfl, rfl, rfl, rfl, rfl, rfl, trivial⟩ (.drop (.keep (fun _ _ h => h) (.keep (fun _ _ h => h) (.nil))))
                    )
              · skip
                have hE := Decidable.not_not.1 h_23
                simp only [wAdd_good hE]
                first
                  | (exfalso; omega)
                  | (
                    refine c_cond_f rfl ?_
                    refine c_skip ?_
                    refine e_next ?_
                    refine c_seq ?_
                    refine c_seq ?_
                    refine c_region ?_
                    refine r_val .none rfl (p_move rfl) ?_
                    refine r_val .none rfl (p_move rfl) ?_
                    refine r_val .none rfl (p_le rfl rfl) ?_
                    refine r_nil ?_
                    refine e_next ?_
                    refine c_splitd (d := 64) rfl (fun h_24 => ?_) (fun h_24 => ?_)
                    · skip
                      first
                        | (exfalso; omega)
                        | (
                          refine c_cond_t rfl ?_
                          refine c_seq ?_
                          refine c_region ?_
                          refine r_val .none rfl (p_assign rfl) ?_
                          refine r_nil ?_
                          refine e_next ?_
                          refine c_ret ?_
                          refine e_ret_then ?_
                          refine e_ret_block ?_
                          refine e_ret_then ?_
                          refine e_ret_then ?_
                          refine e_ret_block ?_
                          refine e_ret_then ?_
                          refine e_ret1 Try.results10 (.tmp rfl .nil) (fun w hm => ⟨?_, hm.since⟩)
                          first
                          | rfl
                          | (exfalso; revert hB; generalize (lkp (mput l (last + 1) (ns.getD j (0, 0, 0))) _).isSome = b; cases b <;> simp; done)
                          | (exfalso; obtain ⟨h1, h2⟩ := fact_there (l := l) (k := k) (by rw [← facts_len l]; omega); rcases hC with h | h; (rw [h1] at h; cases h); exact h h2)
                          | (simp [facts_len]; done)
                          )
                    · skip
                      first
                        | (exfalso; omega)
                        | (
                          refine c_cond_f rfl ?_
                          refine c_skip ?_
                          refine e_next ?_
                          refine c_seq ?_
                          refine c_region ?_
                          refine r_val .none rfl (p_move rfl) ?_
                          refine r_val .none rfl (p_assign rfl) ?_
                          refine r_nil ?_
                          refine e_next ?_
                          refine c_seq ?_
                          refine c_region ?_
                          refine r_val .none rfl (p_move rfl) ?_
                          refine r_val .none rfl (p_move rfl) ?_
                          refine r_val .none rfl (p_ldw (k := 0) Try.underlying26 rfl sz26 rfl rfl (rfl : _ = Value.agg #[_, _, _])) ?_
                          refine r_mapup (i := 1) (a := (ns.getD j (0, 0, 0))) .none Try.underlying106 (KeyT.int Try.underlying3) rfl rfl rfl rfl ?_
                          refine r_nil ?_
                          refine e_next ?_
                          refine c_seq ?_
                          refine c_region ?_
                          refine r_val .none rfl (p_move rfl) ?_
                          refine r_val .none rfl (p_move rfl) ?_
                          refine r_val .none rfl (p_leng Try.underlying105 rfl hg) ?_
                          have bd_25 := (hg).bound
                          refine r_val .none rfl (p_lt rfl rfl) ?_
                          refine r_val .none rfl (p_move rfl) ?_
                          refine' r_and (c := 73) (d := 80) [_, _, _, _, _, _, _] rfl (fun h_26 Q_27 hQ_28 => ?_) (fun h_26 Q_27 hQ_28 => ?_) ?_
                          rotate_left 1
                          · skip
                            replace h_26 := of_decide_eq_true h_26
                            refine r_val (.some rfl rfl) rfl (p_move rfl) ?_
                            refine r_val (.some rfl rfl) rfl (p_move rfl) ?_
                            refine r_iaddr_g (.some rfl rfl) rfl Try.underlying105 sz5 rfl hg rfl (by first | exact of_decide_eq_true rfl | omega) (fun p_31 o_32 R_30 => ?_)
                            refine r_val (.some rfl rfl) rfl (p_ldg0 Try.underlying5 rfl rfl R_30 (by first | exact of_decide_eq_true rfl | omega) (rfl : _ = Value.int _ _)) ?_
                            refine r_val (.some rfl rfl) rfl (p_remk rfl rfl (by omega)) ?_
                            refine r_val (.some rfl rfl) rfl (p_eq rfl rfl) ?_
                            refine r_val .none rfl (p_pick_t rfl rfl) ?_
                            refine r_nil (e_fin (d := 80) hQ_28 rfl (by repeat (first | exact .refl | refine .put rfl ?_ | refine .say rfl ?_ | refine .say2 rfl (by first | assumption | simp_all) ?_)))
                          · skip
                            repeat (first | refine r_skip rfl (.no rfl rfl) ?_ | refine r_skip rfl (.un rfl rfl) ?_)
                            refine r_val (by first | exact .none | exact .some rfl rfl) rfl (p_pick_f rfl rfl) ?_
                            refine r_nil (e_fin (d := 80) hQ_28 rfl (by repeat (first | exact .refl | refine .put rfl ?_ | refine .say rfl ?_ | refine .say2 rfl (by first | assumption | simp_all) ?_)))
                          refine r_nil ?_
                          refine e_next ?_
                          refine c_split (d := 80) rfl (fun h_33 => ?_) (fun h_33 => ?_)
                          · skip
                            try simp only [norms] at h_33
                            first
                              | (exfalso; omega)
                              | (
                                refine c_cond_t rfl ?_
                                refine c_seq ?_
                                refine c_region ?_
                                refine r_val .none rfl (p_move rfl) ?_
                                refine r_val .none rfl (p_move rfl) ?_
                                refine r_iaddr_g .none rfl Try.underlying105 sz5 rfl hg rfl (by first | exact of_decide_eq_true rfl | omega) (fun p_35 o_36 R_34 => ?_)
                                refine r_val .none rfl (p_ldg0 Try.underlying5 rfl rfl R_34 (by first | exact of_decide_eq_true rfl | omega) (rfl : _ = Value.int _ _)) ?_
                                refine r_val .none rfl (p_conv Try.underlying5 Try.underlying3 rfl (IntWalk.i64_in _ (by omega))) ?_
                                refine r_val .none rfl (p_move rfl) ?_
                                refine r_val .none rfl (p_rem rfl rfl (by omega)) ?_
                                have hm0 := Int.emod_nonneg ((gs.getD j 0 % 256 : Nat) : Int) (show (last + 1 : Int) ≠ 0 by omega)
                                have hm1 := Int.emod_lt_of_pos ((gs.getD j 0 % 256 : Nat) : Int) (show (0 : Int) < last + 1 by omega)
                                refine r_val .none rfl (p_add rfl rfl (by omega)) ?_
                                refine r_val .none rfl (p_assign rfl) ?_
                                refine r_nil ?_
                                refine e_next ?_
                                refine c_seq ?_
                                refine c_region ?_
                                refine r_val .none rfl (p_move rfl) ?_
                                refine r_val .none rfl (p_move rfl) ?_
                                refine r_val .none rfl (p_lookup2 (i := 1) (z0 := zT) Try.underlying106 (KeyT.int Try.underlying3) zr26 rfl rfl rfl) ?_
                                refine r_val .none rfl (p_move rfl) ?_
                                refine r_val .none rfl (p_extract rfl rfl) ?_
                                refine r_val .none rfl (p_extract rfl rfl) ?_
                                refine r_alloc .none rfl zr26 (IsRow.lit _) (fun b_2 => ?_)
                                refine r_stw (k := 0) .none sz26 rfl rfl (IsRow.lit _) (one_lit rfl rfl) rfl ?_
                                refine r_val .none rfl (p_assign rfl) ?_
                                refine r_nil ?_
                                refine e_next ?_
                                refine c_seq ?_
                                refine c_seq ?_
                                refine c_region ?_
                                refine r_val .none rfl (p_move rfl) ?_
                                refine r_val .none rfl (p_move rfl) ?_
                                refine r_callo (k := 3) (vs := [_, _]) .none rfl cl33 rfl rfl (fun w F hw hA hFG => c_mrem _ _ _ _ _ w hw hA hFG) ?_
                                refine r_val .none rfl (p_move rfl) ?_
                                refine r_val .none rfl (p_extract rfl rfl) ?_
                                refine r_val .none rfl (p_extract rfl rfl) ?_
                                refine r_alloc .none rfl zr26 (IsRow.lit _) (fun b_3 => ?_)
                                refine r_stw (k := 0) .none sz26 rfl rfl (IsRow.lit _) (one_lit rfl rfl) rfl ?_
                                refine r_val .none rfl (p_assign rfl) ?_
                                refine r_nil ?_
                                refine e_next ?_
                                refine c_seq ?_
                                refine c_region ?_
                                refine r_val .none rfl (p_move rfl) ?_
                                refine r_val .none rfl (p_eq rfl rfl) ?_
                                refine r_val .none rfl (p_move rfl) ?_
                                refine r_val .none rfl (p_neb Try.underlying4 rfl rfl) ?_
                                refine r_nil ?_
                                refine e_next ?_
                                refine c_splitn (d := 104) rfl (fun h_37 => ?_) (fun h_37 => ?_)
                                · skip
                                  have hB := h_37
                                  first
                                    | (exfalso; omega)
                                    | (
                                      refine c_cond_t rfl ?_
                                      refine c_seq ?_
                                      refine c_region ?_
                                      refine r_val .none rfl (p_assign rfl) ?_
                                      refine r_nil ?_
                                      refine e_next ?_
                                      refine c_ret ?_
                                      refine e_ret_then ?_
                                      refine e_ret_block ?_
                                      refine e_ret_then ?_
                                      refine e_ret_then ?_
                                      refine e_ret_block ?_
                                      refine e_ret_then ?_
                                      refine e_ret1 Try.results10 (.tmp rfl .nil) (fun w hm => ⟨?_, hm.since⟩)
                                      first
                                      | rfl
                                      | (exfalso; revert hB; generalize (lkp (mput l (last + 1) (ns.getD j (0, 0, 0))) _).isSome = b; cases b <;> simp; done)
                                      | (exfalso; obtain ⟨h1, h2⟩ := fact_there (l := l) (k := k) (by rw [← facts_len l]; omega); rcases hC with h | h; (rw [h1] at h; cases h); exact h h2)
                                      | (simp [facts_len]; done)
                                      )
                                · skip
                                  first
                                    | (exfalso; omega)
                                    | (
                                      refine c_cond_f rfl ?_
                                      refine c_skip ?_
                                      refine e_next ?_
                                      refine c_region ?_
                                      refine r_val .none rfl (p_move rfl) ?_
                                      refine r_val .none rfl (p_move rfl) ?_
                                      refine r_delete (i := 3) .none Try.underlying106 (KeyT.int Try.underlying3) rfl rfl rfl rfl ?_
                                      refine r_nil ?_
                                      refine e_norm_block ?_
                                      refine e_next ?_
                                      refine c_region ?_
                                      refine r_val .none rfl (p_add rfl rfl (by omega)) ?_
                                      refine r_val .none rfl (p_move rfl) ?_
                                      refine r_nil ?_
                                      refine e_round ((j + 1, _, _)) ⟨⟨by dsimp only; omega, by first | exact H.skip | exact (H.add _).del _ | exact H.add _⟩, by dsimp only; omega⟩ rfl ⟨rfl, rfl, rfl, rfl, rfl, rfl, rfl, trivial⟩ (.drop (.drop (.drop (.keep (fun _ _ h => h) (.keep (fun _ _ h => h) (.nil))))))
                                      )
                                )
                          · skip
                            try simp only [norms] at h_33
                            first
                              | (exfalso; omega)
                              | (
                                refine c_cond_f rfl ?_
                                refine c_skip ?_
                                refine e_norm_block ?_
                                refine e_next ?_
                                refine c_region ?_
                                refine r_val .none rfl (p_add rfl rfl (by omega)) ?_
                                refine r_val .none rfl (p_move rfl) ?_
                                refine r_nil ?_
                                refine e_round ((j + 1, _, _)) ⟨⟨by dsimp only; omega, by first | exact H.skip | exact (H.add _).del _ | exact H.add _⟩, by dsimp only; omega⟩ rfl ⟨rfl, rfl, rfl, rfl, rfl, rfl, rfl, trivial⟩ (.drop (.keep (fun _ _ h => h) (.keep (fun _ _ h => h) (.nil))))
                                )
                          )
                    )
              )
        · skip
          first
            | (exfalso; omega)
            | (
              refine c_cond_f rfl ?_
              refine c_exit ?_
              refine e_exit_then ?_
              refine e_exit_then ?_
              refine e_exit_block ?_
              refine e_next ?_
              refine c_seq ?_
              refine c_seq ?_
              refine c_region ?_
              refine r_val .none rfl (p_move rfl) ?_
              have hwf := H.wf (by omega)
              have hln : l.length ≤ 2000 := (by omega)
              refine r_callom (k := 1) (vs := [_]) .none rfl cl57 rfl rfl (fun w F hw hA hFG => c_mall _ _ _ _ hwf hln w hw hA hFG) (fun G_38 v_41 hn_39 hr_40 => ?_)
              replace hs := hs.mono hn_39.le
              replace hg := hg.mono hn_39.le
              have u_42 := hr_40
              refine r_val .none rfl (p_leng Try.underlying73 rfl u_42) ?_
              have bd_43 := (u_42).bound
              refine r_val .none rfl (p_move rfl) ?_
              refine r_nil ?_
              refine e_next ?_
              refine c_block ?_
              refine c_name (d := 5) rfl (fun u_44 hu_44 => ?_)
              refine c_name (d := 7) rfl (fun u_45 hu_45 => ?_)
              refine c_name (d := 8) rfl (fun u_46 hu_46 => ?_)
              refine c_name (d := 109) rfl (fun u_47 hu_47 => ?_)
              refine c_name (d := 110) rfl (fun u_48 hu_48 => ?_)
              refine c_nameL (k := 0) rfl (fun A_49 hA_49 => ?_)
              refine c_nameL (k := 1) rfl (fun A_50 hA_50 => ?_)
              refine c_loop (σ := Nat) (fun k => [(111, Value.int .i64 (k : Nat)), (5, u_44), (7, u_45), (8, u_46), (109, u_47), (110, u_48)]) (fun k => [A_49, A_50]) (fun _ => _) (fun k => k ≤ (facts l).length) (fun k => (facts l).length - k) (0) (Nat.zero_le _) rfl ⟨rfl, rfl, rfl, rfl, rfl, rfl, trivial⟩ (.keep (fun _ _ h => h) (.keep (fun _ _ h => h) (.nil))) (fun k hphi => ?_)
              subst hu_44
              subst hu_45
              subst hu_46
              subst hu_47
              subst hu_48
              subst hA_49
              subst hA_50
              refine c_seq ?_
              refine c_region ?_
              refine r_val .none rfl (p_lt rfl rfl) ?_
              refine r_nil ?_
              refine e_next ?_
              refine c_seq ?_
              refine c_splitd (d := 112) rfl (fun h_51 => ?_) (fun h_51 => ?_)
              · skip
                first
                  | (exfalso; omega)
                  | (
                    refine c_cond_t rfl ?_
                    refine c_skip ?_
                    refine e_next ?_
                    refine c_seq ?_
                    refine c_block ?_
                    refine c_seq ?_
                    refine c_region ?_
                    refine r_iaddr_g .none rfl Try.underlying73 sz72 rfl u_42 rfl (by first | exact of_decide_eq_true rfl | omega) (fun p_53 o_54 R_52 => ?_)
                    refine r_val .none rfl (p_ldga0 Try.underlying72 rfl sz72 rfl R_52 (by first | exact of_decide_eq_true rfl | omega) (rfl : _ = Value.agg #[_, _, _, _])) ?_
                    refine r_alloc .none rfl zr72 (IsRow.lit _) (fun b_4 => ?_)
                    refine r_stw (k := 0) .none sz72 rfl rfl (IsRow.lit _) (one_lit rfl rfl) rfl ?_
                    refine r_nil ?_
                    refine e_next ?_
                    refine c_seq ?_
                    refine c_region ?_
                    refine r_val .none rfl (p_move rfl) ?_
                    refine r_val .none rfl (p_field Try.underlying72 rfl sz3 rfl) ?_
                    refine r_val .none rfl (p_ld (k := 0) Try.underlying3 rfl rfl rfl (by first | exact of_decide_eq_true rfl | omega) (rfl : _ = Value.int _ _)) ?_
                    refine r_val .none rfl (p_lookup2 (i := 1) (z0 := zT) Try.underlying106 (KeyT.int Try.underlying3) zr26 rfl rfl rfl) ?_
                    refine r_val .none rfl (p_move rfl) ?_
                    refine r_val .none rfl (p_extract rfl rfl) ?_
                    refine r_val .none rfl (p_extract rfl rfl) ?_
                    refine r_alloc .none rfl zr26 (IsRow.lit _) (fun b_5 => ?_)
                    refine r_stw (k := 0) .none sz26 rfl rfl (IsRow.lit _) (one_lit rfl rfl) rfl ?_
                    refine r_val .none rfl (p_assign rfl) ?_
                    refine r_nil ?_
                    refine e_next ?_
                    refine c_seq ?_
                    refine c_region ?_
                    refine r_val .none rfl (p_move rfl) ?_
                    refine r_val .none rfl (p_not rfl) ?_
                    refine r_val .none rfl (p_move rfl) ?_
                    refine' r_or (c := 124) (d := 129) [_, _, _, _, _] rfl (fun h_55 Q_56 hQ_57 => ?_) (fun h_55 Q_56 hQ_57 => ?_) ?_
                    rotate_left 1
                    · skip
                      try simp only [norms] at h_55
                      refine r_val (.some rfl rfl) rfl (p_ldw (k := 0) Try.underlying26 rfl sz26 rfl rfl (rfl : _ = Value.agg #[_, _, _])) ?_
                      refine r_val (.some rfl rfl) rfl (p_field Try.underlying72 rfl sz26 rfl) ?_
                      refine r_val (.some rfl rfl) rfl (p_lda (k := 1) Try.underlying26 rfl sz26 rfl rfl (by first | exact of_decide_eq_true rfl | omega) (rfl : _ = Value.agg #[_, _, _])) ?_
                      refine r_val (.some rfl rfl) rfl (p_nea rfl rfl (eq_tri Try.underlying26 Try.underlying3 lf26 ef26 eg26 ((lkp l ((facts l).getD k (0, zT)).1).getD zT) ((facts l).getD k (0, zT)).2)) ?_
                      refine r_val .none rfl (p_pick_f rfl rfl) ?_
                      refine r_nil (e_fin (d := 129) hQ_57 rfl (by repeat (first | exact .refl | refine .put rfl ?_ | refine .say rfl ?_ | refine .say2 rfl (by first | assumption | simp_all) ?_)))
                    · skip
                      repeat (first | refine r_skip rfl (.no rfl rfl) ?_ | refine r_skip rfl (.un rfl rfl) ?_)
                      refine r_val (by first | exact .none | exact .some rfl rfl) rfl (p_pick_t rfl rfl) ?_
                      refine r_nil (e_fin (d := 129) hQ_57 rfl (by repeat (first | exact .refl | refine .put rfl ?_ | refine .say rfl ?_ | refine .say2 rfl (by first | assumption | simp_all) ?_)))
                    refine r_nil ?_
                    refine e_next ?_
                    refine c_split (d := 129) rfl (fun h_59 => ?_) (fun h_59 => ?_)
                    · skip
                      try simp only [norms] at h_59
                      have hC := h_59
                      first
                        | (exfalso; omega)
                        | (
                          refine c_cond_t rfl ?_
                          refine c_seq ?_
                          refine c_region ?_
                          refine r_val .none rfl (p_assign rfl) ?_
                          refine r_nil ?_
                          refine e_next ?_
                          refine c_ret ?_
                          refine e_ret_block ?_
                          refine e_ret_then ?_
                          refine e_ret_then ?_
                          refine e_ret_block ?_
                          refine e_ret_then ?_
                          refine e_ret1 Try.results10 (.tmp rfl .nil) (fun w hm => ⟨?_, hm.since⟩)
                          first
                          | rfl
                          | (exfalso; revert hB; generalize (lkp (mput l (last + 1) (ns.getD j (0, 0, 0))) _).isSome = b; cases b <;> simp; done)
                          | (exfalso; obtain ⟨h1, h2⟩ := fact_there (l := l) (k := k) (by rw [← facts_len l]; omega); rcases hC with h | h; (rw [h1] at h; cases h); exact h h2)
                          | (simp [facts_len]; done)
                          )
                    · skip
                      try simp only [norms] at h_59
                      first
                        | (exfalso; omega)
                        | (
                          refine c_cond_f rfl ?_
                          refine c_skip ?_
                          refine e_norm_block ?_
                          refine e_next ?_
                          refine c_region ?_
                          refine r_val .none rfl (p_add rfl rfl (by omega)) ?_
                          refine r_val .none rfl (p_move rfl) ?_
                          refine r_nil ?_
                          refine e_round (k + 1) ⟨by omega, by omega⟩ rfl ⟨rfl, rfl, rfl, rfl, rfl, rfl, trivial⟩ (.drop (.drop (.keep (fun _ _ h => h) (.keep (fun _ _ h => h) (.nil)))))
                          )
                    )
              · skip
                first
                  | (exfalso; omega)
                  | (
                    refine c_cond_f rfl ?_
                    refine c_exit ?_
                    refine e_exit_then ?_
                    refine e_exit_then ?_
                    refine e_exit_block ?_
                    refine e_next ?_
                    refine c_seq ?_
                    refine c_region ?_
                    refine r_val .none rfl (p_move rfl) ?_
                    refine r_callom (k := 1) (vs := [_]) .none rfl cl57 rfl rfl (fun w F hw hA hFG => c_mall _ _ _ _ hwf hln w hw hA hFG) (fun G_60 v_63 hn_61 hr_62 => ?_)
                    replace hs := hs.mono hn_61.le
                    replace hg := hg.mono hn_61.le
                    replace u_42 := u_42.mono hn_61.le
                    have u_64 := hr_62
                    refine r_val .none rfl (p_leng Try.underlying73 rfl u_64) ?_
                    have bd_65 := (u_64).bound
                    refine r_val .none rfl (p_move rfl) ?_
                    refine r_val .none rfl (p_len_map (i := 0) Try.underlying106 rfl rfl) ?_
                    refine r_val .none rfl (p_eq rfl rfl) ?_
                    refine r_val .none rfl (p_move rfl) ?_
                    refine' r_and (c := 137) (d := 142) [_, _, _, _, _] rfl (fun h_66 Q_67 hQ_68 => ?_) (fun h_66 Q_67 hQ_68 => ?_) ?_
                    rotate_left 1
                    · skip
                      replace h_66 := of_decide_eq_true h_66
                      refine r_val (.some rfl rfl) rfl (p_move rfl) ?_
                      refine r_callo (k := 1) (vs := [_]) (.some rfl rfl) rfl cl36 rfl rfl (fun w F hw hA hFG => c_mlast _ _ _ _ w hw hA hFG) ?_
                      refine r_val (.some rfl rfl) rfl (p_move rfl) ?_
                      refine r_val (.some rfl rfl) rfl (p_eq rfl rfl) ?_
                      refine r_val .none rfl (p_pick_t rfl rfl) ?_
                      refine r_nil (e_fin (d := 142) hQ_68 rfl (by repeat (first | exact .refl | refine .put rfl ?_ | refine .say rfl ?_ | refine .say2 rfl (by first | assumption | simp_all) ?_)))
                    · skip
                      repeat (first | refine r_skip rfl (.no rfl rfl) ?_ | refine r_skip rfl (.un rfl rfl) ?_)
                      refine r_val (by first | exact .none | exact .some rfl rfl) rfl (p_pick_f rfl rfl) ?_
                      refine r_nil (e_fin (d := 142) hQ_68 rfl (by repeat (first | exact .refl | refine .put rfl ?_ | refine .say rfl ?_ | refine .say2 rfl (by first | assumption | simp_all) ?_)))
                    refine r_val .none rfl (p_move rfl) ?_
                    refine' r_and (c := 143) (d := 145) [_, _] rfl (fun h_70 Q_71 hQ_72 => ?_) (fun h_70 Q_71 hQ_72 => ?_) ?_
                    rotate_left 1
                    · skip
                      try simp only [norms] at h_70
                      refine r_call (vs := []) (.some rfl rfl) rfl cl37 rfl (fun w hw => c_awake11 w) ?_
                      refine r_val .none rfl (p_pick_t rfl rfl) ?_
                      refine r_nil (e_fin (d := 145) hQ_72 rfl (by repeat (first | exact .refl | refine .put rfl ?_ | refine .say rfl ?_ | refine .say2 rfl (by first | assumption | simp_all) ?_)))
                    · skip
                      repeat (first | refine r_skip rfl (.no rfl rfl) ?_ | refine r_skip rfl (.un rfl rfl) ?_)
                      refine r_val (by first | exact .none | exact .some rfl rfl) rfl (p_pick_f rfl rfl) ?_
                      refine r_nil (e_fin (d := 145) hQ_72 rfl (by repeat (first | exact .refl | refine .put rfl ?_ | refine .say rfl ?_ | refine .say2 rfl (by first | assumption | simp_all) ?_)))
                    refine r_val .none rfl (p_assign rfl) ?_
                    refine r_nil ?_
                    refine e_next ?_
                    refine c_ret ?_
                    refine e_ret1 Try.results10 (.tmp rfl .nil) (fun w hm => ⟨?_, hm.since⟩)
                    first
                    | rfl
                    | (exfalso; revert hB; generalize (lkp (mput l (last + 1) (ns.getD j (0, 0, 0))) _).isSome = b; cases b <;> simp; done)
                    | (exfalso; obtain ⟨h1, h2⟩ := fact_there (l := l) (k := k) (by rw [← facts_len l]; omega); rcases hC with h | h; (rw [h1] at h; cases h); exact h h2)
                    | (simp [facts_len]; done)
                    )
              )
        )
end Go.Proofs.Ytinbigokigkfaaa
