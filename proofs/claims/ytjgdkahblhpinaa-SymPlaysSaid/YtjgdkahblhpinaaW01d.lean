/- Walks: what Go functions of this chapter come to, each as a function on plain data; no condition but those that each theorem names. Printed by a program of this work (gen.py). -/
import Derived.Test.YtjgdkahblhpinaaW01c
import Derived.Test.YtjgdkahblhpinaaRows
namespace Go.Proofs.Ytjgdkahblhpinaa
open Go.Gx Go.Gx.T1
theorem cl36 : Callable Try.prog 36 := callable Try.func36 (by kernel_rfl) rfl
theorem cl37 : Callable Try.prog 37 := callable Try.func37 (by kernel_rfl) rfl
theorem c_SymPlays (v : Value) (ns : List ByteArray) {G : Ghost} (hs : SlL G v 1 sc ByteArray.empty ns) (w : World) (hG : Has G w) :
    Calls Try.prog 10 #[v] w (Ret fun r w' => r = Value.bool true ∧ Since nX w w') := by
  refine enter (args := [_]) (X := nX) (G := G) (l := [(0, v)]) Try.func10 rfl Try.ntmps10 hG ⟨rfl, trivial⟩ (Nat.le_of_ble_eq_true rfl) ?_
  refine c_seq ?_
  refine c_region ?_
  refine r_val .none rfl (p_assign rfl) ?_
  refine r_nil ?_
  refine e_next ?_
  refine c_seq ?_
  refine c_region ?_
  refine r_callnew (vs := []) .none rfl cl26 rfl (fun w hw => c_tnew w hw) (fun p_1 => ?_)
  refine r_val .none rfl (p_assign rfl) ?_
  refine r_nil ?_
  refine e_next ?_
  refine c_seq ?_
  refine c_seq ?_
  refine c_region ?_
  refine r_val .none rfl (p_move rfl) ?_
  refine r_val .none rfl (p_leng Try.underlying54 rfl hs) ?_
  have bd_2 := (hs).bound
  refine r_val .none rfl (p_gt rfl rfl) ?_
  refine r_val .none rfl (p_move rfl) ?_
  refine' r_or (c := 22) (d := 25) [_, _, _] rfl (fun h_3 Q_4 hQ_5 => ?_) (fun h_3 Q_4 hQ_5 => ?_) ?_
  rotate_left 1
  · skip
    replace h_3 := of_decide_eq_false h_3
    refine r_val (.some rfl rfl) rfl (p_move rfl) ?_
    refine r_val (.some rfl rfl) rfl (p_eq_ptr Try.underlying45 (by first | exact .inr rfl | exact .inl rfl) rfl rfl) ?_
    refine r_say (d := 24) (v := Value.bool false) rfl ?_
    refine r_val .none rfl (p_pick_f rfl rfl) ?_
    refine r_nil (e_fin (d := 25) hQ_5 rfl (by repeat (first | exact .refl | refine .put rfl ?_ | refine .say rfl ?_ | refine .say2 rfl (by first | assumption | simp_all) ?_)))
  · skip
    repeat (first | refine r_skip rfl (.no rfl rfl) ?_ | refine r_skip rfl (.un rfl rfl) ?_)
    refine r_val (by first | exact .none | exact .some rfl rfl) rfl (p_pick_t rfl rfl) ?_
    refine r_nil (e_fin (d := 25) hQ_5 rfl (by repeat (first | exact .refl | refine .put rfl ?_ | refine .say rfl ?_ | refine .say2 rfl (by first | assumption | simp_all) ?_)))
  refine r_nil ?_
  refine e_next ?_
  refine c_split (d := 25) rfl (fun h_7 => ?_) (fun h_7 => ?_)
  · skip
    try simp only [norms] at h_7
    first
      | (exfalso; omega)
      | (
        refine c_cond_t rfl ?_
        refine c_seq ?_
        refine c_region ?_
        refine r_val .none rfl (p_move rfl) ?_
        refine r_val .none rfl (p_ne_ptr Try.underlying45 (by first | exact .inr rfl | exact .inl rfl) rfl rfl) ?_
        refine r_say (d := 27) (v := Value.bool true) rfl ?_
        refine r_val .none rfl (p_move rfl) ?_
        refine r_call (vs := []) (.some rfl rfl) rfl cl18 rfl (fun w hw => c_awake1 w) ?_
        refine r_val .none rfl (p_pick_t rfl rfl) ?_
        refine r_val .none rfl (p_assign rfl) ?_
        refine r_nil ?_
        refine e_next ?_
        refine c_ret ?_
        refine e_ret_then ?_
        refine e_ret1 Try.results10 (.tmp rfl .nil) (fun w hm => ⟨?_, hm.since⟩)
        first
        | rfl
        | (exfalso; simp at hA; done)
        | (exfalso; simp at hB; done)
        | (exfalso; rcases hC with (h | ⟨h, h'⟩) | ⟨h, h'⟩; exact h (by simp); exact h' (nameAt_at h.1 h.2); exact h' (nameAt_no (by omega)))
        )
  · skip
    try simp only [norms] at h_7
    first
      | (exfalso; omega)
      | (
        refine c_cond_f rfl ?_
        refine c_skip ?_
        refine e_next ?_
        refine c_seq ?_
        refine c_region ?_
        refine r_val .none rfl (p_assign rfl) ?_
        refine r_nil ?_
        refine e_next ?_
        refine c_seq ?_
        refine c_seq ?_
        refine c_region ?_
        refine r_val .none rfl (p_move rfl) ?_
        refine r_val .none rfl (p_leng Try.underlying54 rfl hs) ?_
        have bd_8 := (hs).bound
        refine r_val .none rfl (p_move rfl) ?_
        refine r_nil ?_
        refine e_next ?_
        refine c_block ?_
        refine c_name (d := 3) rfl (fun u_9 hu_9 => ?_)
        refine c_name (d := 31) rfl (fun u_10 hu_10 => ?_)
        refine c_name (d := 32) rfl (fun u_11 hu_11 => ?_)
        refine c_loop (σ := Nat × Value × List ByteArray × Ghost) (fun s => [(33, Value.int .i64 (s.1 : Nat)), (4, s.2.1), (3, u_9), (31, u_10), (32, u_11)]) (fun s => [tabA p_1 s.2.2.1]) (fun s => s.2.2.2) (fun s => s.1 ≤ ns.length ∧ s.2.2.1.length ≤ s.1 ∧ SlL s.2.2.2 s.2.1 1 sc ByteArray.empty s.2.2.1 ∧ GNew w nX G s.2.2.2) (fun s => ns.length - s.1) ((0, _, [], _)) ⟨Nat.zero_le _, Nat.le_refl _, SlG.nil _ _ _, GNew.refl _ _ _⟩ rfl ⟨rfl, rfl, rfl, rfl, rfl, trivial⟩ (.keep (fun _ _ h => h) (.nil)) (fun s hphi => ?_)
        subst hu_9
        subst hu_10
        subst hu_11
        obtain ⟨k, u, l, H⟩ := s
        obtain ⟨hk, hlen, hl, hgn⟩ := hphi
        dsimp only at hk hlen hl hgn ⊢
        replace hs := hs.mono hgn.le
        refine c_seq ?_
        refine c_region ?_
        refine r_val .none rfl (p_lt rfl rfl) ?_
        refine r_nil ?_
        refine e_next ?_
        refine c_seq ?_
        refine c_splitd (d := 34) rfl (fun h_12 => ?_) (fun h_12 => ?_)
        · skip
          first
            | (exfalso; omega)
            | (
              refine c_cond_t rfl ?_
              refine c_skip ?_
              refine e_next ?_
              refine c_seq ?_
              refine c_block ?_
              refine c_seq ?_
              refine c_region ?_
              refine r_iaddr_g .none rfl Try.underlying54 sz9 rfl hs rfl (by first | exact of_decide_eq_true rfl | omega) (fun p_14 o_15 R_13 => ?_)
              refine r_val .none rfl (p_ldg0 Try.underlying9 rfl rfl R_13 (by first | exact of_decide_eq_true rfl | omega) (rfl : _ = Value.string _)) ?_
              refine r_val .none rfl (p_assign rfl) ?_
              refine r_nil ?_
              refine e_next ?_
              refine c_seq ?_
              refine c_seq ?_
              refine c_region ?_
              refine r_val .none rfl (p_move rfl) ?_
              refine r_val .none rfl (p_len_str Try.underlying9 rfl) ?_
              refine r_val .none rfl (p_gt rfl rfl) ?_
              refine r_nil ?_
              refine e_next ?_
              refine c_splitd (d := 39) rfl (fun h_16 => ?_) (fun h_16 => ?_)
              · skip
                first
                  | (exfalso; omega)
                  | (
                    refine c_cond_t rfl ?_
                    refine c_seq ?_
                    refine c_region ?_
                    refine r_call (vs := []) .none rfl cl18 rfl (fun w hw => c_awake1 w) ?_
                    refine r_val .none rfl (p_assign rfl) ?_
                    refine r_nil ?_
                    refine e_next ?_
                    refine c_ret ?_
                    refine e_ret_then ?_
                    refine e_ret_block ?_
                    refine e_ret_then ?_
                    refine e_ret_then ?_
                    refine e_ret_block ?_
                    refine e_ret_then ?_
                    refine e_ret1 Try.results10 (.tmp rfl .nil) (fun w hm => ⟨?_, hm.since⟩)
                    first
                    | rfl
                    | (exfalso; simp at hA; done)
                    | (exfalso; simp at hB; done)
                    | (exfalso; rcases hC with (h | ⟨h, h'⟩) | ⟨h, h'⟩; exact h (by simp); exact h' (nameAt_at h.1 h.2); exact h' (nameAt_no (by omega)))
                    )
              · skip
                first
                  | (exfalso; omega)
                  | (
                    refine c_cond_f rfl ?_
                    refine c_skip ?_
                    refine e_next ?_
                    refine c_seq ?_
                    refine c_region ?_
                    refine r_val .none rfl (p_move rfl) ?_
                    refine r_val .none rfl (p_move rfl) ?_
                    refine r_callo (k := 0) (vs := [_, _]) .none rfl cl28 rfl rfl (fun w F hw hA hFG => c_find _ _ _ w hw hA hFG) ?_
                    refine r_val .none rfl (p_move rfl) ?_
                    refine r_val .none rfl (p_extract rfl rfl) ?_
                    refine r_val .none rfl (p_extract rfl rfl) ?_
                    refine r_val .none rfl (p_assign rfl) ?_
                    refine r_val .none rfl (p_assign rfl) ?_
                    refine r_nil ?_
                    refine e_next ?_
                    refine c_seq ?_
                    refine c_seq ?_
                    refine c_region ?_
                    refine r_val .none rfl (p_move rfl) ?_
                    refine r_val .none rfl (p_move rfl) ?_
                    refine r_val .none rfl (p_move rfl) ?_
                    refine r_call (vs := [_, _]) .none rfl cl35 rfl (fun w hw => c_rfind _ _ _ hl w hw) ?_
                    refine r_val .none rfl (p_ne rfl rfl) ?_
                    refine r_val .none rfl (p_move rfl) ?_
                    refine' r_or (c := 52) (d := 57) [_, _, _, _, _] rfl (fun h_17 Q_18 hQ_19 => ?_) (fun h_17 Q_18 hQ_19 => ?_) ?_
                    rotate_left 1
                    · skip
                      replace h_17 := of_decide_eq_false h_17
                      refine r_val (.some rfl rfl) rfl (p_move rfl) ?_
                      refine r_val (.some rfl rfl) rfl (p_move rfl) ?_
                      refine r_val (.some rfl rfl) rfl (p_gt rfl rfl) ?_
                      refine r_val (.some rfl rfl) rfl (p_neb Try.underlying4 rfl rfl) ?_
                      refine r_val .none rfl (p_pick_f rfl rfl) ?_
                      refine r_nil (e_fin (d := 57) hQ_19 rfl (by repeat (first | exact .refl | refine .put rfl ?_ | refine .say rfl ?_ | refine .say2 rfl (by first | assumption | simp_all) ?_)))
                    · skip
                      repeat (first | refine r_skip rfl (.no rfl rfl) ?_ | refine r_skip rfl (.un rfl rfl) ?_)
                      refine r_val (by first | exact .none | exact .some rfl rfl) rfl (p_pick_t rfl rfl) ?_
                      refine r_nil (e_fin (d := 57) hQ_19 rfl (by repeat (first | exact .refl | refine .put rfl ?_ | refine .say rfl ?_ | refine .say2 rfl (by first | assumption | simp_all) ?_)))
                    refine r_nil ?_
                    refine e_next ?_
                    refine c_split (d := 57) rfl (fun h_21 => ?_) (fun h_21 => ?_)
                    · skip
                      try simp only [norms] at h_21
                      have hA := h_21
                      first
                        | (exfalso; omega)
                        | (
                          refine c_cond_t rfl ?_
                          refine c_seq ?_
                          refine c_region ?_
                          refine r_val .none rfl (p_assign rfl) ?_
                          refine r_nil ?_
                          refine e_next ?_
                          refine c_ret ?_
                          refine e_ret_then ?_
                          refine e_ret_block ?_
                          refine e_ret_then ?_
                          refine e_ret_then ?_
                          refine e_ret_block ?_
                          refine e_ret_then ?_
                          refine e_ret1 Try.results10 (.tmp rfl .nil) (fun w hm => ⟨?_, hm.since⟩)
                          first
                          | rfl
                          | (exfalso; simp at hA; done)
                          | (exfalso; simp at hB; done)
                          | (exfalso; rcases hC with (h | ⟨h, h'⟩) | ⟨h, h'⟩; exact h (by simp); exact h' (nameAt_at h.1 h.2); exact h' (nameAt_no (by omega)))
                          )
                    · skip
                      try simp only [norms] at h_21
                      first
                        | (exfalso; omega)
                        | (
                          refine c_cond_f rfl ?_
                          refine c_skip ?_
                          refine e_next ?_
                          refine c_seq ?_
                          refine c_region ?_
                          refine r_val .none rfl (p_move rfl) ?_
                          refine r_val .none rfl (p_move rfl) ?_
                          refine r_callm (vs := [_, _]) .none rfl cl36 rfl (fun w hw => c_rintern _ _ _ hl w hw) (fun G_22 v_25 hn_23 hr_24 => ?_)
                          replace hs := hs.mono hn_23.le
                          replace hl := hl.mono hn_23.le
                          replace R_13 := R_13.mono hn_23.le
                          obtain ⟨u_26, rfl, u_26s⟩ := hr_24
                          refine r_val .none rfl (p_move rfl) ?_
                          refine r_val .none rfl (p_extract rfl rfl) ?_
                          refine r_val .none rfl (p_extract rfl rfl) ?_
                          refine r_val .none rfl (p_extract rfl rfl) ?_
                          refine r_val .none rfl (p_assign rfl) ?_
                          refine r_val .none rfl (p_assign rfl) ?_
                          refine r_val .none rfl (p_assign rfl) ?_
                          refine r_nil ?_
                          refine e_next ?_
                          refine c_seq ?_
                          refine c_region ?_
                          refine r_val .none rfl (p_move rfl) ?_
                          refine r_val .none rfl (p_assign rfl) ?_
                          refine r_nil ?_
                          refine e_next ?_
                          refine c_seq ?_
                          refine c_region ?_
                          refine r_val .none rfl (p_move rfl) ?_
                          refine r_val .none rfl (p_move rfl) ?_
                          refine r_callo (k := 0) (vs := [_, _]) .none rfl cl27 rfl rfl (fun w F hw hA hFG => c_intern _ _ _ w hw hA hFG) ?_
                          refine r_val .none rfl (p_move rfl) ?_
                          refine r_val .none rfl (p_extract rfl rfl) ?_
                          refine r_val .none rfl (p_extract rfl rfl) ?_
                          refine r_val .none rfl (p_assign rfl) ?_
                          refine r_val .none rfl (p_assign rfl) ?_
                          refine r_nil ?_
                          refine e_next ?_
                          refine c_seq ?_
                          refine c_region ?_
                          refine r_val .none rfl (p_move rfl) ?_
                          refine r_val .none rfl (p_move rfl) ?_
                          refine r_val .none rfl (p_ne rfl rfl) ?_
                          refine r_val .none rfl (p_move rfl) ?_
                          refine' r_or (c := 75) (d := 79) [_, _, _, _] rfl (fun h_27 Q_28 hQ_29 => ?_) (fun h_27 Q_28 hQ_29 => ?_) ?_
                          rotate_left 1
                          · skip
                            replace h_27 := of_decide_eq_false h_27
                            refine r_val (.some rfl rfl) rfl (p_move rfl) ?_
                            refine r_val (.some rfl rfl) rfl (p_move rfl) ?_
                            refine r_val (.some rfl rfl) rfl (p_ne rfl rfl) ?_
                            refine r_val .none rfl (p_pick_f rfl rfl) ?_
                            refine r_nil (e_fin (d := 79) hQ_29 rfl (by repeat (first | exact .refl | refine .put rfl ?_ | refine .say rfl ?_ | refine .say2 rfl (by first | assumption | simp_all) ?_)))
                          · skip
                            repeat (first | refine r_skip rfl (.no rfl rfl) ?_ | refine r_skip rfl (.un rfl rfl) ?_)
                            refine r_val (by first | exact .none | exact .some rfl rfl) rfl (p_pick_t rfl rfl) ?_
                            refine r_nil (e_fin (d := 79) hQ_29 rfl (by repeat (first | exact .refl | refine .put rfl ?_ | refine .say rfl ?_ | refine .say2 rfl (by first | assumption | simp_all) ?_)))
                          refine r_val .none rfl (p_move rfl) ?_
                          refine' r_or (c := 80) (d := 86) [_, _, _, _, _, _] rfl (fun h_31 Q_32 hQ_33 => ?_) (fun h_31 Q_32 hQ_33 => ?_) ?_
                          rotate_left 1
                          · skip
                            try simp only [norms] at h_31
                            refine r_val (.some rfl rfl) rfl (p_move rfl) ?_
                            refine r_callo (k := 0) (vs := [_]) (.some rfl rfl) rfl cl29 rfl rfl (fun w F hw hA hFG => c_tlen _ _ w hw hA hFG) ?_
                            refine r_val (.some rfl rfl) rfl (p_move rfl) ?_
                            refine r_val (.some rfl rfl) rfl (p_leng Try.underlying54 rfl u_26s) ?_
                            have bd_35 := (u_26s).bound
                            refine r_val (.some rfl rfl) rfl (p_ne rfl rfl) ?_
                            refine r_val .none rfl (p_pick_f rfl rfl) ?_
                            refine r_nil (e_fin (d := 86) hQ_33 rfl (by repeat (first | exact .refl | refine .put rfl ?_ | refine .say rfl ?_ | refine .say2 rfl (by first | assumption | simp_all) ?_)))
                          · skip
                            repeat (first | refine r_skip rfl (.no rfl rfl) ?_ | refine r_skip rfl (.un rfl rfl) ?_)
                            refine r_val (by first | exact .none | exact .some rfl rfl) rfl (p_pick_t rfl rfl) ?_
                            refine r_nil (e_fin (d := 86) hQ_33 rfl (by repeat (first | exact .refl | refine .put rfl ?_ | refine .say rfl ?_ | refine .say2 rfl (by first | assumption | simp_all) ?_)))
                          refine r_nil ?_
                          refine e_next ?_
                          refine c_split (d := 86) rfl (fun h_36 => ?_) (fun h_36 => ?_)
                          · skip
                            try simp only [norms] at h_36
                            have hB := h_36
                            first
                              | (exfalso; omega)
                              | (
                                refine c_cond_t rfl ?_
                                refine c_seq ?_
                                refine c_region ?_
                                refine r_val .none rfl (p_assign rfl) ?_
                                refine r_nil ?_
                                refine e_next ?_
                                refine c_ret ?_
                                refine e_ret_block ?_
                                refine e_ret_then ?_
                                refine e_ret_then ?_
                                refine e_ret_block ?_
                                refine e_ret_then ?_
                                refine e_ret1 Try.results10 (.tmp rfl .nil) (fun w hm => ⟨?_, hm.since⟩)
                                first
                                | rfl
                                | (exfalso; simp at hA; done)
                                | (exfalso; simp at hB; done)
                                | (exfalso; rcases hC with (h | ⟨h, h'⟩) | ⟨h, h'⟩; exact h (by simp); exact h' (nameAt_at h.1 h.2); exact h' (nameAt_no (by omega)))
                                )
                          · skip
                            try simp only [norms] at h_36
                            first
                              | (exfalso; omega)
                              | (
                                refine c_cond_f rfl ?_
                                refine c_skip ?_
                                refine e_norm_block ?_
                                refine e_next ?_
                                refine c_region ?_
                                refine r_val .none rfl (p_add rfl rfl (by omega)) ?_
                                refine r_val .none rfl (p_move rfl) ?_
                                refine r_nil ?_
                                refine e_round ((k + 1, _, (intern l (ns.getD k ByteArray.empty)).1, _)) ⟨⟨by dsimp only; omega, by have := intern_len l (ns.getD k ByteArray.empty); dsimp only; omega, u_26s, (hgn.trans hn_23)⟩, by dsimp only; omega⟩ rfl ⟨rfl, rfl, rfl, rfl, rfl, trivial⟩ (.keep (fun _ _ h => h) (.nil))
                                )
                          )
                    )
              )
        · skip
          first
            | (exfalso; omega)
            | (
              refine c_cond_f rfl ?_
              refine c_exit ?_
              refine e_exit_then ?_
              refine e_exit_then ?_
              refine e_exit_block ?_
              refine e_next ?_
              refine c_seq ?_
              refine c_seq ?_
              refine c_region ?_
              refine r_val .none rfl (p_assign rfl) ?_
              refine r_nil ?_
              refine e_next ?_
              refine c_block ?_
              refine c_name (d := 3) rfl (fun u_37 hu_37 => ?_)
              refine c_name (d := 4) rfl (fun u_38 hu_38 => ?_)
              refine c_nameL (k := 0) rfl (fun A_39 hA_39 => ?_)
              refine c_loop (σ := Nat) (fun j => [(14, Value.int .i64 ((j : Int) - 1)), (3, u_37), (4, u_38)]) (fun j => [A_39]) (fun _ => _) (fun j => j ≤ l.length + 3) (fun j => l.length + 3 - j) (0) (by omega) rfl ⟨rfl, rfl, rfl, trivial⟩ (.keep (fun _ _ h => h) (.nil)) (fun j hphi => ?_)
              subst hu_37
              subst hu_38
              subst hA_39
              refine c_seq ?_
              refine c_seq ?_
              refine c_region ?_
              refine r_val .none rfl (p_move rfl) ?_
              refine r_val .none rfl (p_move rfl) ?_
              refine r_val .none rfl (p_leng Try.underlying54 rfl hl) ?_
              have bd_40 := (hl).bound
              refine r_val .none rfl (p_add rfl rfl (by omega)) ?_
              refine r_val .none rfl (p_le rfl rfl) ?_
              refine r_nil ?_
              refine e_next ?_
              refine c_splitd (d := 92) rfl (fun h_41 => ?_) (fun h_41 => ?_)
              · skip
                first
                  | (exfalso; omega)
                  | (
                    refine c_cond_t rfl ?_
                    refine c_skip ?_
                    refine e_next ?_
                    refine c_seq ?_
                    refine c_block ?_
                    refine c_seq ?_
                    refine c_region ?_
                    refine r_val .none rfl (p_move rfl) ?_
                    refine r_val .none rfl (p_move rfl) ?_
                    refine r_callo (k := 0) (vs := [_, _]) .none rfl cl37 rfl rfl (fun w F hw hA hFG => c_name1 _ _ _ w hw hA hFG) ?_
                    refine r_val .none rfl (p_move rfl) ?_
                    refine r_val .none rfl (p_extract rfl rfl) ?_
                    refine r_val .none rfl (p_extract rfl rfl) ?_
                    refine r_val .none rfl (p_assign rfl) ?_
                    refine r_val .none rfl (p_assign rfl) ?_
                    refine r_nil ?_
                    refine e_next ?_
                    refine c_seq ?_
                    refine c_region ?_
                    refine r_val .none rfl (p_move rfl) ?_
                    refine r_val .none rfl (p_ge rfl rfl) ?_
                    refine r_val .none rfl (p_move rfl) ?_
                    refine' r_and (c := 103) (d := 108) [_, _, _, _, _] rfl (fun h_42 Q_43 hQ_44 => ?_) (fun h_42 Q_43 hQ_44 => ?_) ?_
                    rotate_left 1
                    · skip
                      replace h_42 := of_decide_eq_true h_42
                      refine r_val (.some rfl rfl) rfl (p_move rfl) ?_
                      refine r_val (.some rfl rfl) rfl (p_move rfl) ?_
                      refine r_val (.some rfl rfl) rfl (p_leng Try.underlying54 rfl hl) ?_
                      have bd_46 := (hl).bound
                      refine r_val (.some rfl rfl) rfl (p_le rfl rfl) ?_
                      refine r_val .none rfl (p_pick_t rfl rfl) ?_
                      refine r_nil (e_fin (d := 108) hQ_44 rfl (by repeat (first | exact .refl | refine .put rfl ?_ | refine .say rfl ?_ | refine .say2 rfl (by first | assumption | simp_all) ?_)))
                    · skip
                      repeat (first | refine r_skip rfl (.no rfl rfl) ?_ | refine r_skip rfl (.un rfl rfl) ?_)
                      refine r_val (by first | exact .none | exact .some rfl rfl) rfl (p_pick_f rfl rfl) ?_
                      refine r_nil (e_fin (d := 108) hQ_44 rfl (by repeat (first | exact .refl | refine .put rfl ?_ | refine .say rfl ?_ | refine .say2 rfl (by first | assumption | simp_all) ?_)))
                    refine r_val .none rfl (p_assign rfl) ?_
                    refine r_nil ?_
                    refine e_next ?_
                    refine c_seq ?_
                    refine c_region ?_
                    refine r_val .none rfl (p_move rfl) ?_
                    refine r_val .none rfl (p_move rfl) ?_
                    refine r_val .none rfl (p_neb Try.underlying4 rfl rfl) ?_
                    refine r_val .none rfl (p_move rfl) ?_
                    refine' r_or (c := 112) (d := 123) [_, _, _, _, _, _, _, _, _, _, _] rfl (fun h_47 Q_48 hQ_49 => ?_) (fun h_47 Q_48 hQ_49 => ?_) ?_
                    rotate_left 1
                    · skip
                      try simp only [norms] at h_47
                      refine r_val (.some rfl rfl) rfl (p_move rfl) ?_
                      refine r_val (.some rfl rfl) rfl (p_move rfl) ?_
                      refine' r_and (c := 114) (d := 122) [_, _, _, _, _, _, _, _] rfl (fun h_51 Q_52 hQ_53 => ?_) (fun h_51 Q_52 hQ_53 => ?_) ?_
                      rotate_left 1
                      · skip
                        try simp only [norms] at h_51
                        refine r_val (.some rfl rfl) rfl (p_move rfl) ?_
                        refine r_val (.some rfl rfl) rfl (p_move rfl) ?_
                        refine r_val (.some rfl rfl) rfl (p_move rfl) ?_
                        refine r_val (.some rfl rfl) rfl (p_sub rfl rfl (by omega)) ?_
                        refine r_say (d := 118) (v := Value.int .i64 ((j - 2 : Nat) : Int)) (congrArg (fun x => some (Value.int .i64 x)) (by omega)) ?_
                        refine r_iaddr_g (.some rfl rfl) rfl Try.underlying54 sz9 rfl hl rfl (by first | exact of_decide_eq_true rfl | omega) (fun p_56 o_57 R_55 => ?_)
                        refine r_val (.some rfl rfl) rfl (p_ldg0 Try.underlying9 rfl rfl R_55 (by first | exact of_decide_eq_true rfl | omega) (rfl : _ = Value.string _)) ?_
                        refine r_val (.some rfl rfl) rfl (p_nes rfl rfl) ?_
                        refine r_val (.some rfl rfl) rfl (p_pick_t rfl rfl) ?_
                        refine r_nil (e_fin (d := 122) hQ_53 rfl (by repeat (first | exact .refl | refine .put rfl ?_ | refine .say rfl ?_ | refine .say2 rfl (by first | assumption | simp_all) ?_)))
                      · skip
                        repeat (first | refine r_skip rfl (.no rfl rfl) ?_ | refine r_skip rfl (.un rfl rfl) ?_)
                        refine r_val (by first | exact .none | exact .some rfl rfl) rfl (p_pick_f rfl rfl) ?_
                        refine r_nil (e_fin (d := 122) hQ_53 rfl (by repeat (first | exact .refl | refine .put rfl ?_ | refine .say rfl ?_ | refine .say2 rfl (by first | assumption | simp_all) ?_)))
                      refine r_val .none rfl (p_pick_f rfl rfl) ?_
                      refine r_nil (e_fin (d := 123) hQ_49 rfl (by repeat (first | exact .refl | refine .put rfl ?_ | refine .say rfl ?_ | refine .say2 rfl (by first | assumption | simp_all) ?_)))
                    · skip
                      repeat (first | refine r_skip rfl (.no rfl rfl) ?_ | refine r_skip rfl (.un rfl rfl) ?_)
                      refine r_val (by first | exact .none | exact .some rfl rfl) rfl (p_pick_t rfl rfl) ?_
                      refine r_nil (e_fin (d := 123) hQ_49 rfl (by repeat (first | exact .refl | refine .put rfl ?_ | refine .say rfl ?_ | refine .say2 rfl (by first | assumption | simp_all) ?_)))
                    refine r_val .none rfl (p_move rfl) ?_
                    refine' r_or (c := 124) (d := 131) [_, _, _, _, _, _, _] rfl (fun h_58 Q_59 hQ_60 => ?_) (fun h_58 Q_59 hQ_60 => ?_) ?_
                    rotate_left 1
                    · skip
                      try simp only [norms] at h_58
                      refine r_val (.some rfl rfl) rfl (p_move rfl) ?_
                      refine r_val (.some rfl rfl) rfl (p_not rfl) ?_
                      refine r_val (.some rfl rfl) rfl (p_move rfl) ?_
                      refine' r_and (c := 127) (d := 130) [_, _, _] rfl (fun h_62 Q_63 hQ_64 => ?_) (fun h_62 Q_63 hQ_64 => ?_) ?_
                      rotate_left 1
                      · skip
                        try simp only [norms] at h_62
                        refine r_val (.some rfl rfl) rfl (p_move rfl) ?_
                        refine r_val (.some rfl rfl) rfl (p_nes rfl rfl) ?_
                        refine r_val (.some rfl rfl) rfl (p_pick_t rfl rfl) ?_
                        refine r_nil (e_fin (d := 130) hQ_64 rfl (by repeat (first | exact .refl | refine .put rfl ?_ | refine .say rfl ?_ | refine .say2 rfl (by first | assumption | simp_all) ?_)))
                      · skip
                        repeat (first | refine r_skip rfl (.no rfl rfl) ?_ | refine r_skip rfl (.un rfl rfl) ?_)
                        refine r_val (by first | exact .none | exact .some rfl rfl) rfl (p_pick_f rfl rfl) ?_
                        refine r_nil (e_fin (d := 130) hQ_64 rfl (by repeat (first | exact .refl | refine .put rfl ?_ | refine .say rfl ?_ | refine .say2 rfl (by first | assumption | simp_all) ?_)))
                      refine r_val .none rfl (p_pick_f rfl rfl) ?_
                      refine r_nil (e_fin (d := 131) hQ_60 rfl (by repeat (first | exact .refl | refine .put rfl ?_ | refine .say rfl ?_ | refine .say2 rfl (by first | assumption | simp_all) ?_)))
                    · skip
                      repeat (first | refine r_skip rfl (.no rfl rfl) ?_ | refine r_skip rfl (.un rfl rfl) ?_)
                      refine r_val (by first | exact .none | exact .some rfl rfl) rfl (p_pick_t rfl rfl) ?_
                      refine r_nil (e_fin (d := 131) hQ_60 rfl (by repeat (first | exact .refl | refine .put rfl ?_ | refine .say rfl ?_ | refine .say2 rfl (by first | assumption | simp_all) ?_)))
                    refine r_nil ?_
                    refine e_next ?_
                    refine c_split (d := 131) rfl (fun h_66 => ?_) (fun h_66 => ?_)
                    · skip
                      try simp only [norms] at h_66
                      have hC := h_66
                      first
                        | (exfalso; omega)
                        | (
                          refine c_cond_t rfl ?_
                          refine c_seq ?_
                          refine c_region ?_
                          refine r_val .none rfl (p_assign rfl) ?_
                          refine r_nil ?_
                          refine e_next ?_
                          refine c_ret ?_
                          refine e_ret_block ?_
                          refine e_ret_then ?_
                          refine e_ret_then ?_
                          refine e_ret_block ?_
                          refine e_ret_then ?_
                          refine e_ret1 Try.results10 (.tmp rfl .nil) (fun w hm => ⟨?_, hm.since⟩)
                          first
                          | rfl
                          | (exfalso; simp at hA; done)
                          | (exfalso; simp at hB; done)
                          | (exfalso; rcases hC with (h | ⟨h, h'⟩) | ⟨h, h'⟩; exact h (by simp); exact h' (nameAt_at h.1 h.2); exact h' (nameAt_no (by omega)))
                          )
                    · skip
                      try simp only [norms] at h_66
                      first
                        | (exfalso; omega)
                        | (
                          refine c_cond_f rfl ?_
                          refine c_skip ?_
                          refine e_norm_block ?_
                          refine e_next ?_
                          refine c_region ?_
                          refine r_val .none rfl (p_move rfl) ?_
                          refine r_val .none rfl (p_add rfl rfl (by omega)) ?_
                          refine r_val .none rfl (p_assign rfl) ?_
                          refine r_nil ?_
                          refine e_round (j + 1) ⟨by omega, by omega⟩ rfl ⟨(congrArg (fun n => some (Value.int .i64 n)) (by omega)), rfl, rfl, trivial⟩ (.keep (fun _ _ h => h) (.nil))
                          )
                    )
              · skip
                first
                  | (exfalso; omega)
                  | (
                    refine c_cond_f rfl ?_
                    refine c_exit ?_
                    refine e_exit_then ?_
                    refine e_exit_then ?_
                    refine e_exit_block ?_
                    refine e_next ?_
                    refine c_seq ?_
                    refine c_region ?_
                    refine r_call (vs := []) .none rfl cl18 rfl (fun w hw => c_awake1 w) ?_
                    refine r_val .none rfl (p_assign rfl) ?_
                    refine r_nil ?_
                    refine e_next ?_
                    refine c_ret ?_
                    refine e_ret1 Try.results10 (.tmp rfl .nil) (fun w hm => ⟨?_, hm.since⟩)
                    first
                    | rfl
                    | (exfalso; simp at hA; done)
                    | (exfalso; simp at hB; done)
                    | (exfalso; rcases hC with (h | ⟨h, h'⟩) | ⟨h, h'⟩; exact h (by simp); exact h' (nameAt_at h.1 h.2); exact h' (nameAt_no (by omega)))
                    )
              )
        )
end Go.Proofs.Ytjgdkahblhpinaa
