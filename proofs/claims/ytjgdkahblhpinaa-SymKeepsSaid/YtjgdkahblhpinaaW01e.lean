/- Walks: what Go functions of this chapter come to, each as a function on plain data; no condition but those that each theorem names. Printed by a program of this work (gen.py). -/
import Derived.Test.YtjgdkahblhpinaaW01c
import Derived.Test.YtjgdkahblhpinaaGxRange
import Derived.Test.YtjgdkahblhpinaaRows
namespace Go.Proofs.Ytjgdkahblhpinaa
open Go.Gx Go.Gx.T1
theorem zr9 : ZeroIs Try.prog 9 (Value.string ⟨#[]⟩) := by
  unfold ZeroIs
  kernel_rfl
theorem cl37 : Callable Try.prog 37 := callable Try.func37 (by kernel_rfl) rfl
theorem c_SymKeeps (v : Value) (ns : List ByteArray) {G : Ghost} (hs : SlL G v 1 sc ByteArray.empty ns) (w : World) (hG : Has G w) :
    Calls Try.prog 11 #[v] w (Ret fun r w' => r = Value.bool true ∧ Since nX w w') := by
  refine enter (args := [_]) (X := nX) (G := G) (l := [(0, v)]) Try.func11 rfl Try.ntmps11 hG ⟨rfl, trivial⟩ (Nat.le_of_ble_eq_true rfl) ?_
  refine c_seq ?_
  refine c_region ?_
  refine r_val .none rfl (p_assign rfl) ?_
  refine r_nil ?_
  refine e_next ?_
  refine c_seq ?_
  refine c_region ?_
  refine r_callnew (vs := []) .none rfl cl26 rfl (fun w hw => c_tnew w hw) (fun p_1 => ?_)
  refine r_val .none rfl (p_assign rfl) ?_
  refine r_nil ?_
  refine e_next ?_
  refine c_seq ?_
  refine c_seq ?_
  refine c_region ?_
  refine r_val .none rfl (p_move rfl) ?_
  refine r_val .none rfl (p_leng Try.underlying54 rfl hs) ?_
  have bd_2 := (hs).bound
  refine r_val .none rfl (p_gt rfl rfl) ?_
  refine r_val .none rfl (p_move rfl) ?_
  refine' r_or (c := 21) (d := 24) [_, _, _] rfl (fun h_3 Q_4 hQ_5 => ?_) (fun h_3 Q_4 hQ_5 => ?_) ?_
  rotate_left 1
  · skip
    replace h_3 := of_decide_eq_false h_3
    refine r_val (.some rfl rfl) rfl (p_move rfl) ?_
    refine r_val (.some rfl rfl) rfl (p_eq_ptr Try.underlying45 (by first | exact .inr rfl | exact .inl rfl) rfl rfl) ?_
    refine r_say (d := 23) (v := Value.bool false) rfl ?_
    refine r_val .none rfl (p_pick_f rfl rfl) ?_
    refine r_nil (e_fin (d := 24) hQ_5 rfl (by repeat (first | exact .refl | refine .put rfl ?_ | refine .say rfl ?_ | refine .say2 rfl (by first | assumption | simp_all) ?_)))
  · skip
    repeat (first | refine r_skip rfl (.no rfl rfl) ?_ | refine r_skip rfl (.un rfl rfl) ?_)
    refine r_val (by first | exact .none | exact .some rfl rfl) rfl (p_pick_t rfl rfl) ?_
    refine r_nil (e_fin (d := 24) hQ_5 rfl (by repeat (first | exact .refl | refine .put rfl ?_ | refine .say rfl ?_ | refine .say2 rfl (by first | assumption | simp_all) ?_)))
  refine r_nil ?_
  refine e_next ?_
  refine c_split (d := 24) rfl (fun h_7 => ?_) (fun h_7 => ?_)
  · skip
    try simp only [norms] at h_7
    first
      | (exfalso; omega)
      | (
        refine c_cond_t rfl ?_
        refine c_seq ?_
        refine c_region ?_
        refine r_val .none rfl (p_move rfl) ?_
        refine r_val .none rfl (p_ne_ptr Try.underlying45 (by first | exact .inr rfl | exact .inl rfl) rfl rfl) ?_
        refine r_say (d := 26) (v := Value.bool true) rfl ?_
        refine r_val .none rfl (p_move rfl) ?_
        refine r_call (vs := []) (.some rfl rfl) rfl cl18 rfl (fun w hw => c_awake1 w) ?_
        refine r_val .none rfl (p_pick_t rfl rfl) ?_
        refine r_val .none rfl (p_assign rfl) ?_
        refine r_nil ?_
        refine e_next ?_
        refine c_ret ?_
        refine e_ret_then ?_
        refine e_ret1 Try.results11 (.tmp rfl .nil) (fun w hm => ⟨?_, hm.since⟩)
        first
        | rfl
        | (exfalso; obtain ⟨u, hu⟩ := Option.isSome_iff_exists.1 hA.1; have h2 := (H.step hE).2 u hu; rw [hu] at hA; exact hA.2 h2)
        | (exfalso; obtain ⟨q1, q2, q3⟩ := hq; rcases hC with ((h1 | h1) | h1) | h1; exact h1 (by omega); exact h1 q1; exact h1 q2; exact h1 q3)
        | (simp [H.len]; done)
        )
  · skip
    try simp only [norms] at h_7
    first
      | (exfalso; omega)
      | (
        refine c_cond_f rfl ?_
        refine c_skip ?_
        refine e_next ?_
        refine c_seq ?_
        refine c_region ?_
        refine r_makemap .none rfl kI kS (fun m_8 => ?_)
        refine r_val .none rfl (p_assign rfl) ?_
        refine r_nil ?_
        refine e_next ?_
        refine c_seq ?_
        refine c_seq ?_
        refine c_region ?_
        refine r_val .none rfl (p_move rfl) ?_
        refine r_val .none rfl (p_leng Try.underlying54 rfl hs) ?_
        have bd_9 := (hs).bound
        refine r_val .none rfl (p_move rfl) ?_
        refine r_nil ?_
        refine e_next ?_
        refine c_block ?_
        refine c_name (d := 3) rfl (fun u_10 hu_10 => ?_)
        refine c_name (d := 4) rfl (fun u_11 hu_11 => ?_)
        refine c_name (d := 31) rfl (fun u_12 hu_12 => ?_)
        refine c_name (d := 32) rfl (fun u_13 hu_13 => ?_)
        refine c_loop (σ := Nat × List ByteArray × List (Int × ByteArray)) (fun s => [(33, Value.int .i64 (s.1 : Nat)), (3, u_10), (4, u_11), (31, u_12), (32, u_13)]) (fun s => [mapA m_8 kI kS s.2.2, tabA p_1 s.2.1]) (fun _ => _) (fun s => s.1 ≤ ns.length ∧ Had s.2.2 s.2.1 ∧ s.2.1.length ≤ s.1) (fun s => ns.length - s.1) ((0, [], [])) ⟨Nat.zero_le _, Had.nil, Nat.le_refl _⟩ rfl ⟨rfl, rfl, rfl, rfl, rfl, trivial⟩ (.keep (fun _ _ h => h) (.keep (fun _ _ h => h) (.nil))) (fun s hphi => ?_)
        subst hu_10
        subst hu_11
        subst hu_12
        subst hu_13
        obtain ⟨k, l, h⟩ := s
        obtain ⟨hk, H, hlen⟩ := hphi
        dsimp only at hk H hlen ⊢
        refine c_seq ?_
        refine c_region ?_
        refine r_val .none rfl (p_lt rfl rfl) ?_
        refine r_nil ?_
        refine e_next ?_
        refine c_seq ?_
        refine c_splitd (d := 34) rfl (fun h_14 => ?_) (fun h_14 => ?_)
        · skip
          first
            | (exfalso; omega)
            | (
              refine c_cond_t rfl ?_
              refine c_skip ?_
              refine e_next ?_
              refine c_seq ?_
              refine c_block ?_
              refine c_seq ?_
              refine c_region ?_
              refine r_iaddr_g .none rfl Try.underlying54 sz9 rfl hs rfl (by first | exact of_decide_eq_true rfl | omega) (fun p_16 o_17 R_15 => ?_)
              refine r_val .none rfl (p_ldg0 Try.underlying9 rfl rfl R_15 (by first | exact of_decide_eq_true rfl | omega) (rfl : _ = Value.string _)) ?_
              refine r_val .none rfl (p_assign rfl) ?_
              refine r_nil ?_
              refine e_next ?_
              refine c_seq ?_
              refine c_seq ?_
              refine c_region ?_
              refine r_val .none rfl (p_move rfl) ?_
              refine r_val .none rfl (p_len_str Try.underlying9 rfl) ?_
              refine r_val .none rfl (p_gt rfl rfl) ?_
              refine r_nil ?_
              refine e_next ?_
              refine c_splitd (d := 39) rfl (fun h_18 => ?_) (fun h_18 => ?_)
              · skip
                first
                  | (exfalso; omega)
                  | (
                    refine c_cond_t rfl ?_
                    refine c_seq ?_
                    refine c_region ?_
                    refine r_call (vs := []) .none rfl cl18 rfl (fun w hw => c_awake1 w) ?_
                    refine r_val .none rfl (p_assign rfl) ?_
                    refine r_nil ?_
                    refine e_next ?_
                    refine c_ret ?_
                    refine e_ret_then ?_
                    refine e_ret_block ?_
                    refine e_ret_then ?_
                    refine e_ret_then ?_
                    refine e_ret_block ?_
                    refine e_ret_then ?_
                    refine e_ret1 Try.results11 (.tmp rfl .nil) (fun w hm => ⟨?_, hm.since⟩)
                    first
                    | rfl
                    | (exfalso; obtain ⟨u, hu⟩ := Option.isSome_iff_exists.1 hA.1; have h2 := (H.step hE).2 u hu; rw [hu] at hA; exact hA.2 h2)
                    | (exfalso; obtain ⟨q1, q2, q3⟩ := hq; rcases hC with ((h1 | h1) | h1) | h1; exact h1 (by omega); exact h1 q1; exact h1 q2; exact h1 q3)
                    | (simp [H.len]; done)
                    )
              · skip
                first
                  | (exfalso; omega)
                  | (
                    refine c_cond_f rfl ?_
                    refine c_skip ?_
                    refine e_next ?_
                    refine c_seq ?_
                    refine c_region ?_
                    refine r_val .none rfl (p_move rfl) ?_
                    refine r_val .none rfl (p_move rfl) ?_
                    refine r_callo (k := 1) (vs := [_, _]) .none rfl cl27 rfl rfl (fun w F hw hA hFG => c_intern _ _ _ w hw hA hFG) ?_
                    refine r_val .none rfl (p_move rfl) ?_
                    refine r_val .none rfl (p_extract rfl rfl) ?_
                    refine r_val .none rfl (p_extract rfl rfl) ?_
                    refine r_val .none rfl (p_assign rfl) ?_
                    refine r_val .none rfl (p_assign rfl) ?_
                    refine r_nil ?_
                    refine e_next ?_
                    refine c_seq ?_
                    refine c_seq ?_
                    refine c_region ?_
                    refine r_val .none rfl (p_move rfl) ?_
                    refine r_val .none rfl (p_ne rfl rfl) ?_
                    refine r_nil ?_
                    refine e_next ?_
                    refine c_splitd (d := 48) rfl (fun h_19 => ?_) (fun h_19 => ?_)
                    · skip
                      have hE := h_19
                      first
                        | (exfalso; omega)
                        | (
                          refine c_cond_t rfl ?_
                          refine c_exit ?_
                          refine e_exit_then ?_
                          refine e_exit_block ?_
                          refine e_next ?_
                          refine c_region ?_
                          refine r_val .none rfl (p_add rfl rfl (by omega)) ?_
                          refine r_val .none rfl (p_move rfl) ?_
                          refine r_nil ?_
                          refine e_round ((k + 1, l, h)) ⟨⟨by dsimp only; omega, H, by dsimp only; omega⟩, by dsimp only; omega⟩ rfl ⟨rfl, rfl, rfl, rfl, rfl, trivial⟩ (.keep (fun _ _ h => h) (.keep (fun _ _ h => by rw [intern_err hE] at h; exact h) (.nil)))
                          )
                    · skip
                      have hE := Decidable.not_not.1 h_19
                      first
                        | (exfalso; omega)
                        | (
                          refine c_cond_f rfl ?_
                          refine c_skip ?_
                          refine e_next ?_
                          refine c_seq ?_
                          refine c_seq ?_
                          refine c_region ?_
                          refine r_val .none rfl (p_move rfl) ?_
                          refine r_val .none rfl (p_move rfl) ?_
                          refine r_val .none rfl (p_lookup2 (i := 0) (z0 := ByteArray.empty) Try.underlying71 (KeyT.int Try.underlying3) zr9 rfl rfl rfl) ?_
                          refine r_val .none rfl (p_move rfl) ?_
                          refine r_val .none rfl (p_extract rfl rfl) ?_
                          refine r_val .none rfl (p_extract rfl rfl) ?_
                          refine r_val .none rfl (p_assign rfl) ?_
                          refine r_val .none rfl (p_assign rfl) ?_
                          refine r_nil ?_
                          refine e_next ?_
                          refine c_seq ?_
                          refine c_region ?_
                          refine r_val .none rfl (p_move rfl) ?_
                          refine r_val .none rfl (p_move rfl) ?_
                          refine' r_and (c := 56) (d := 60) [_, _, _, _] rfl (fun h_20 Q_21 hQ_22 => ?_) (fun h_20 Q_21 hQ_22 => ?_) ?_
                          rotate_left 1
                          · skip
                            refine r_val (.some rfl rfl) rfl (p_move rfl) ?_
                            refine r_val (.some rfl rfl) rfl (p_move rfl) ?_
                            refine r_val (.some rfl rfl) rfl (p_nes rfl rfl) ?_
                            refine r_val .none rfl (p_pick_t rfl rfl) ?_
                            refine r_nil (e_fin (d := 60) hQ_22 rfl (by repeat (first | exact .refl | refine .put rfl ?_ | refine .say rfl ?_ | refine .say2 rfl (by first | assumption | simp_all) ?_)))
                          · skip
                            repeat (first | refine r_skip rfl (.no rfl rfl) ?_ | refine r_skip rfl (.un rfl rfl) ?_)
                            refine r_val (by first | exact .none | exact .some rfl rfl) rfl (p_pick_f rfl rfl) ?_
                            refine r_nil (e_fin (d := 60) hQ_22 rfl (by repeat (first | exact .refl | refine .put rfl ?_ | refine .say rfl ?_ | refine .say2 rfl (by first | assumption | simp_all) ?_)))
                          refine r_nil ?_
                          refine e_next ?_
                          refine c_split (d := 60) rfl (fun h_24 => ?_) (fun h_24 => ?_)
                          · skip
                            try simp only [norms] at h_24
                            have hA := h_24
                            first
                              | (exfalso; omega)
                              | (
                                refine c_cond_t rfl ?_
                                refine c_seq ?_
                                refine c_region ?_
                                refine r_val .none rfl (p_assign rfl) ?_
                                refine r_nil ?_
                                refine e_next ?_
                                refine c_ret ?_
                                refine e_ret_then ?_
                                refine e_ret_block ?_
                                refine e_ret_then ?_
                                refine e_ret_then ?_
                                refine e_ret_block ?_
                                refine e_ret_then ?_
                                refine e_ret1 Try.results11 (.tmp rfl .nil) (fun w hm => ⟨?_, hm.since⟩)
                                first
                                | rfl
                                | (exfalso; obtain ⟨u, hu⟩ := Option.isSome_iff_exists.1 hA.1; have h2 := (H.step hE).2 u hu; rw [hu] at hA; exact hA.2 h2)
                                | (exfalso; obtain ⟨q1, q2, q3⟩ := hq; rcases hC with ((h1 | h1) | h1) | h1; exact h1 (by omega); exact h1 q1; exact h1 q2; exact h1 q3)
                                | (simp [H.len]; done)
                                )
                          · skip
                            try simp only [norms] at h_24
                            first
                              | (exfalso; omega)
                              | (
                                refine c_cond_f rfl ?_
                                refine c_skip ?_
                                refine e_next ?_
                                refine c_region ?_
                                refine r_val .none rfl (p_move rfl) ?_
                                refine r_val .none rfl (p_move rfl) ?_
                                refine r_val .none rfl (p_move rfl) ?_
                                refine r_mapup (i := 0) .none Try.underlying71 (KeyT.int Try.underlying3) rfl rfl rfl rfl ?_
                                refine r_nil ?_
                                refine e_norm_block ?_
                                refine e_next ?_
                                refine c_region ?_
                                refine r_val .none rfl (p_add rfl rfl (by omega)) ?_
                                refine r_val .none rfl (p_move rfl) ?_
                                refine r_nil ?_
                                refine e_round ((k + 1, (intern l (ns.getD k ByteArray.empty)).1, mput h ((intern l (ns.getD k ByteArray.empty)).2.1 : Nat) (ns.getD k ByteArray.empty))) ⟨⟨by dsimp only; omega, (H.step hE).1, by have := intern_len l (ns.getD k ByteArray.empty); dsimp only; omega⟩, by dsimp only; omega⟩ rfl ⟨rfl, rfl, rfl, rfl, rfl, trivial⟩ (.keep (fun _ _ h => h) (.keep (fun _ _ h => h) (.nil)))
                                )
                          )
                    )
              )
        · skip
          first
            | (exfalso; omega)
            | (
              refine c_cond_f rfl ?_
              refine c_exit ?_
              refine e_exit_then ?_
              refine e_exit_then ?_
              refine e_exit_block ?_
              refine e_next ?_
              refine c_seq ?_
              refine c_seq ?_
              refine c_region ?_
              refine r_val .none rfl (p_move rfl) ?_
              refine r_range_map (i := 0) .none rfl Try.underlying71 rfl rfl (fun r_25 => ?_)
              refine r_nil ?_
              refine e_next ?_
              refine c_block ?_
              refine c_name (d := 3) rfl (fun u_26 hu_26 => ?_)
              refine c_name (d := 4) rfl (fun u_27 hu_27 => ?_)
              refine c_name (d := 66) rfl (fun u_28 hu_28 => ?_)
              refine c_nameL (k := 1) rfl (fun A_29 hA_29 => ?_)
              refine c_loop (σ := List (Int × ByteArray)) (fun lf => [(3, u_26), (4, u_27), (66, u_28)]) (fun lf => [ranA m_8 r_25 kI kS h lf, A_29]) (fun _ => _) (fun lf => ∀ q ∈ lf, q ∈ h) (fun lf => lf.length) (h) (fun _ h => h) rfl ⟨rfl, rfl, rfl, trivial⟩ (.keep (fun _ _ h => h) (.keep (fun _ _ h => h) (.nil))) (fun lf hphi => ?_)
              subst hu_26
              subst hu_27
              subst hu_28
              subst hA_29
              refine c_seq ?_
              refine c_region ?_
              refine r_next_map (i := 0) .none rfl rfl rfl (fun a_31 q_32 b_33 h_30 => ?_) (fun h_30 => ?_)
              · skip
                have hq := H.says (hphi q_32 (by rw [h_30]; simp))
                refine r_val .none rfl (p_extract rfl rfl) ?_
                refine r_nil ?_
                refine e_next ?_
                refine c_seq ?_
                refine c_cond_t rfl ?_
                refine c_skip ?_
                refine e_next ?_
                refine c_block ?_
                refine c_seq ?_
                refine c_region ?_
                refine r_val .none rfl (p_entry (i := 0) rfl rfl) ?_
                refine r_val .none rfl (p_extract rfl rfl) ?_
                refine r_val .none rfl (p_extract rfl rfl) ?_
                refine r_val .none rfl (p_assign rfl) ?_
                refine r_val .none rfl (p_assign rfl) ?_
                refine r_nil ?_
                refine e_next ?_
                refine c_seq ?_
                refine c_region ?_
                refine r_val .none rfl (p_move rfl) ?_
                refine r_val .none rfl (p_move rfl) ?_
                refine r_callo (k := 1) (vs := [_, _]) .none rfl cl28 rfl rfl (fun w F hw hA hFG => c_find _ _ _ w hw hA hFG) ?_
                refine r_val .none rfl (p_move rfl) ?_
                refine r_val .none rfl (p_extract rfl rfl) ?_
                refine r_val .none rfl (p_extract rfl rfl) ?_
                refine r_val .none rfl (p_assign rfl) ?_
                refine r_val .none rfl (p_assign rfl) ?_
                refine r_nil ?_
                refine e_next ?_
                refine c_seq ?_
                refine c_region ?_
                refine r_val .none rfl (p_move rfl) ?_
                refine r_val .none rfl (p_move rfl) ?_
                refine r_callo (k := 1) (vs := [_, _]) .none rfl cl37 rfl rfl (fun w F hw hA hFG => c_name1 _ _ _ w hw hA hFG) ?_
                refine r_val .none rfl (p_move rfl) ?_
                refine r_val .none rfl (p_extract rfl rfl) ?_
                refine r_val .none rfl (p_extract rfl rfl) ?_
                refine r_val .none rfl (p_assign rfl) ?_
                refine r_val .none rfl (p_assign rfl) ?_
                refine r_nil ?_
                refine e_next ?_
                refine c_seq ?_
                refine c_region ?_
                refine r_val .none rfl (p_move rfl) ?_
                refine r_val .none rfl (p_not rfl) ?_
                refine r_val .none rfl (p_move rfl) ?_
                refine' r_or (c := 86) (d := 90) [_, _, _, _] rfl (fun h_34 Q_35 hQ_36 => ?_) (fun h_34 Q_35 hQ_36 => ?_) ?_
                rotate_left 1
                · skip
                  try simp only [norms] at h_34
                  refine r_val (.some rfl rfl) rfl (p_move rfl) ?_
                  refine r_val (.some rfl rfl) rfl (p_move rfl) ?_
                  refine r_val (.some rfl rfl) rfl (p_ne rfl rfl) ?_
                  refine r_val .none rfl (p_pick_f rfl rfl) ?_
                  refine r_nil (e_fin (d := 90) hQ_36 rfl (by repeat (first | exact .refl | refine .put rfl ?_ | refine .say rfl ?_ | refine .say2 rfl (by first | assumption | simp_all) ?_)))
                · skip
                  repeat (first | refine r_skip rfl (.no rfl rfl) ?_ | refine r_skip rfl (.un rfl rfl) ?_)
                  refine r_val (by first | exact .none | exact .some rfl rfl) rfl (p_pick_t rfl rfl) ?_
                  refine r_nil (e_fin (d := 90) hQ_36 rfl (by repeat (first | exact .refl | refine .put rfl ?_ | refine .say rfl ?_ | refine .say2 rfl (by first | assumption | simp_all) ?_)))
                refine r_val .none rfl (p_move rfl) ?_
                refine' r_or (c := 91) (d := 94) [_, _, _] rfl (fun h_38 Q_39 hQ_40 => ?_) (fun h_38 Q_39 hQ_40 => ?_) ?_
                rotate_left 1
                · skip
                  try simp only [norms] at h_38
                  refine r_val (.some rfl rfl) rfl (p_move rfl) ?_
                  refine r_val (.some rfl rfl) rfl (p_not rfl) ?_
                  refine r_val .none rfl (p_pick_f rfl rfl) ?_
                  refine r_nil (e_fin (d := 94) hQ_40 rfl (by repeat (first | exact .refl | refine .put rfl ?_ | refine .say rfl ?_ | refine .say2 rfl (by first | assumption | simp_all) ?_)))
                · skip
                  repeat (first | refine r_skip rfl (.no rfl rfl) ?_ | refine r_skip rfl (.un rfl rfl) ?_)
                  refine r_val (by first | exact .none | exact .some rfl rfl) rfl (p_pick_t rfl rfl) ?_
                  refine r_nil (e_fin (d := 94) hQ_40 rfl (by repeat (first | exact .refl | refine .put rfl ?_ | refine .say rfl ?_ | refine .say2 rfl (by first | assumption | simp_all) ?_)))
                refine r_val .none rfl (p_move rfl) ?_
                refine' r_or (c := 95) (d := 99) [_, _, _, _] rfl (fun h_42 Q_43 hQ_44 => ?_) (fun h_42 Q_43 hQ_44 => ?_) ?_
                rotate_left 1
                · skip
                  try simp only [norms] at h_42
                  refine r_val (.some rfl rfl) rfl (p_move rfl) ?_
                  refine r_val (.some rfl rfl) rfl (p_move rfl) ?_
                  refine r_val (.some rfl rfl) rfl (p_nes rfl rfl) ?_
                  refine r_val .none rfl (p_pick_f rfl rfl) ?_
                  refine r_nil (e_fin (d := 99) hQ_44 rfl (by repeat (first | exact .refl | refine .put rfl ?_ | refine .say rfl ?_ | refine .say2 rfl (by first | assumption | simp_all) ?_)))
                · skip
                  repeat (first | refine r_skip rfl (.no rfl rfl) ?_ | refine r_skip rfl (.un rfl rfl) ?_)
                  refine r_val (by first | exact .none | exact .some rfl rfl) rfl (p_pick_t rfl rfl) ?_
                  refine r_nil (e_fin (d := 99) hQ_44 rfl (by repeat (first | exact .refl | refine .put rfl ?_ | refine .say rfl ?_ | refine .say2 rfl (by first | assumption | simp_all) ?_)))
                refine r_nil ?_
                refine e_next ?_
                refine c_split (d := 99) rfl (fun h_46 => ?_) (fun h_46 => ?_)
                · skip
                  try simp only [norms] at h_46
                  have hC := h_46
                  first
                    | (exfalso; omega)
                    | (
                      refine c_cond_t rfl ?_
                      refine c_seq ?_
                      refine c_region ?_
                      refine r_val .none rfl (p_assign rfl) ?_
                      refine r_nil ?_
                      refine e_next ?_
                      refine c_ret ?_
                      refine e_ret_block ?_
                      refine e_ret_then ?_
                      refine e_ret_block ?_
                      refine e_ret_then ?_
                      refine e_ret1 Try.results11 (.tmp rfl .nil) (fun w hm => ⟨?_, hm.since⟩)
                      first
                      | rfl
                      | (exfalso; obtain ⟨u, hu⟩ := Option.isSome_iff_exists.1 hA.1; have h2 := (H.step hE).2 u hu; rw [hu] at hA; exact hA.2 h2)
                      | (exfalso; obtain ⟨q1, q2, q3⟩ := hq; rcases hC with ((h1 | h1) | h1) | h1; exact h1 (by omega); exact h1 q1; exact h1 q2; exact h1 q3)
                      | (simp [H.len]; done)
                      )
                · skip
                  try simp only [norms] at h_46
                  first
                    | (exfalso; omega)
                    | (
                      refine c_cond_f rfl ?_
                      refine c_skip ?_
                      refine e_norm_block ?_
                      refine e_round (a_31 ++ b_33) ⟨fun q hq => hphi q (by rw [h_30]; rcases List.mem_append.1 hq with hq | hq; simp [hq]; simp [hq]), by rw [h_30]; simp⟩ rfl ⟨rfl, rfl, rfl, trivial⟩ (.keep (fun _ _ h => ranE_A h) (.keep (fun _ _ h => h) (.nil)))
                      )
              · skip
                refine r_unrange (i := 0) rfl ?_
                refine r_val .none rfl (p_extract rfl rfl) ?_
                refine r_nil ?_
                refine e_next ?_
                refine c_seq ?_
                refine c_cond_f rfl ?_
                refine c_exit ?_
                refine e_exit_then ?_
                refine e_exit_then ?_
                refine e_exit_block ?_
                refine e_next ?_
                refine c_seq ?_
                refine c_region ?_
                refine r_val .none rfl (p_move rfl) ?_
                refine r_val .none rfl (p_len_map (i := 0) Try.underlying71 rfl rfl) ?_
                refine r_val .none rfl (p_move rfl) ?_
                refine r_callo (k := 1) (vs := [_]) .none rfl cl29 rfl rfl (fun w F hw hA hFG => c_tlen _ _ w hw hA hFG) ?_
                refine r_val .none rfl (p_eq rfl rfl) ?_
                refine r_val .none rfl (p_move rfl) ?_
                refine' r_and (c := 105) (d := 107) [_, _] rfl (fun h_47 Q_48 hQ_49 => ?_) (fun h_47 Q_48 hQ_49 => ?_) ?_
                rotate_left 1
                · skip
                  replace h_47 := of_decide_eq_true h_47
                  refine r_call (vs := []) (.some rfl rfl) rfl cl18 rfl (fun w hw => c_awake1 w) ?_
                  refine r_val .none rfl (p_pick_t rfl rfl) ?_
                  refine r_nil (e_fin (d := 107) hQ_49 rfl (by repeat (first | exact .refl | refine .put rfl ?_ | refine .say rfl ?_ | refine .say2 rfl (by first | assumption | simp_all) ?_)))
                · skip
                  repeat (first | refine r_skip rfl (.no rfl rfl) ?_ | refine r_skip rfl (.un rfl rfl) ?_)
                  refine r_val (by first | exact .none | exact .some rfl rfl) rfl (p_pick_f rfl rfl) ?_
                  refine r_nil (e_fin (d := 107) hQ_49 rfl (by repeat (first | exact .refl | refine .put rfl ?_ | refine .say rfl ?_ | refine .say2 rfl (by first | assumption | simp_all) ?_)))
                refine r_val .none rfl (p_assign rfl) ?_
                refine r_nil ?_
                refine e_next ?_
                refine c_ret ?_
                refine e_ret1 Try.results11 (.tmp rfl .nil) (fun w hm => ⟨?_, hm.since⟩)
                first
                | rfl
                | (exfalso; obtain ⟨u, hu⟩ := Option.isSome_iff_exists.1 hA.1; have h2 := (H.step hE).2 u hu; rw [hu] at hA; exact hA.2 h2)
                | (exfalso; obtain ⟨q1, q2, q3⟩ := hq; rcases hC with ((h1 | h1) | h1) | h1; exact h1 (by omega); exact h1 q1; exact h1 q2; exact h1 q3)
                | (simp [H.len]; done)
              )
        )
end Go.Proofs.Ytjgdkahblhpinaa
