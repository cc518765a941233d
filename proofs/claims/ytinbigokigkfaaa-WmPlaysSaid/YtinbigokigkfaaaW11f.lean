/- Walks: what Go functions of this chapter come to, each as a function on plain data; no condition but those that each theorem names. Printed by a program of this work (gen.py). -/
import Derived.Test.YtinbigokigkfaaaW11e
import Derived.Test.YtinbigokigkfaaaRows
namespace Go.Proofs.Ytinbigokigkfaaa
open Go.Gx Go.Gx.T11
theorem sz4 : SzIs Try.prog 4 1 := by
  unfold SzIs
  kernel_rfl
theorem sz114 : SzIs Try.prog 114 5 := by
  unfold SzIs
  kernel_rfl
theorem zr114 : ZeroIs Try.prog 114 (Value.agg #[Value.bool false, Value.int .i64 0, Value.int .i64 0, Value.int .i64 0, Value.int .i64 0]) := by
  unfold ZeroIs
  kernel_rfl
theorem cl59 : Callable Try.prog 59 := callable Try.func59 (by kernel_rfl) rfl
theorem cl60 : Callable Try.prog 60 := callable Try.func60 (by kernel_rfl) rfl
theorem cl62 : Callable Try.prog 62 := callable Try.func62 (by kernel_rfl) rfl
theorem bl112_2i1 (x0 : Int) : Program.built Try.prog 112 [(2, Value.int .i64 x0)] = some #[Value.slice none 0 0, Value.slice none 0 0, Value.int .i64 x0] := by
  kernel_rfl
theorem c_WmPlays_bad (lim : Int) (v : Value) (os : List OpD) {G : Ghost} (hs : SlL G v 5 opC (false, (0, 0, 0), (0 : Int)) os) (hl : ¬ (1 ≤ lim ∧ lim ≤ 1024)) (w : World) (hG : Has G w) :
    Calls Try.prog 11 #[Value.int .i64 lim, v] w (Ret fun r w' => r = Value.bool true ∧ Since nX w w') := by
  refine enter (args := [_, _]) (X := nX) (G := G) (l := [(0, Value.int .i64 lim), (1, v)]) Try.func11 rfl Try.ntmps11 hG ⟨rfl, rfl, trivial⟩ (Nat.le_of_ble_eq_true rfl) ?_
  refine c_seq ?_
  refine c_region ?_
  refine r_val .none rfl (p_assign rfl) ?_
  refine r_nil ?_
  refine e_next ?_
  refine c_seq ?_
  refine c_seq ?_
  refine c_region ?_
  refine r_val .none rfl (p_move rfl) ?_
  refine r_val .none rfl (p_leng Try.underlying109 rfl hs) ?_
  have bd_1 := (hs).bound
  refine r_val .none rfl (p_gt rfl rfl) ?_
  refine r_nil ?_
  refine e_next ?_
  refine c_splitd (d := 28) rfl (fun h_2 => ?_) (fun h_2 => ?_)
  · skip
    first
      | (exfalso; omega)
      | (
        refine c_cond_t rfl ?_
        refine c_seq ?_
        refine c_region ?_
        refine r_call (vs := []) .none rfl cl37 rfl (fun w hw => c_awake11 w) ?_
        refine r_val .none rfl (p_assign rfl) ?_
        refine r_nil ?_
        refine e_next ?_
        refine c_ret ?_
        refine e_ret_then ?_
        refine e_ret1 Try.results11 (.tmp rfl .nil) (fun w hm => ⟨?_, hm.since⟩)
        rfl
        )
  · skip
    first
      | (exfalso; omega)
      | (
        refine c_cond_f rfl ?_
        refine c_skip ?_
        refine e_next ?_
        refine c_seq ?_
        refine c_region ?_
        refine r_val .none rfl (p_move rfl) ?_
        refine r_call (vs := [_]) .none rfl cl31 rfl (fun w hw => c_mnew_bad _ hl w) ?_
        refine r_val .none rfl (p_move rfl) ?_
        refine r_val .none rfl (p_extract rfl rfl) ?_
        refine r_val .none rfl (p_extract rfl rfl) ?_
        refine r_val .none rfl (p_assign rfl) ?_
        refine r_val .none rfl (p_assign rfl) ?_
        refine r_nil ?_
        refine e_next ?_
        refine c_seq ?_
        refine c_seq ?_
        refine c_region ?_
        refine r_val .none rfl (p_move rfl) ?_
        refine r_val .none rfl (p_lt rfl rfl) ?_
        refine r_val .none rfl (p_move rfl) ?_
        refine' r_or (c := 37) (d := 40) [_, _, _] rfl (fun h_3 Q_4 hQ_5 => ?_) (fun h_3 Q_4 hQ_5 => ?_) ?_
        rotate_left 1
        · skip
          replace h_3 := of_decide_eq_false h_3
          refine r_val (.some rfl rfl) rfl (p_move rfl) ?_
          refine r_val (.some rfl rfl) rfl (p_gt rfl rfl) ?_
          refine r_val .none rfl (p_pick_f rfl rfl) ?_
          refine r_nil (e_fin (d := 40) hQ_5 rfl (by repeat (first | exact .refl | refine .put rfl ?_ | refine .say rfl ?_ | refine .say2 rfl (by first | assumption | simp_all) ?_)))
        · skip
          repeat (first | refine r_skip rfl (.no rfl rfl) ?_ | refine r_skip rfl (.un rfl rfl) ?_)
          refine r_val (by first | exact .none | exact .some rfl rfl) rfl (p_pick_t rfl rfl) ?_
          refine r_nil (e_fin (d := 40) hQ_5 rfl (by repeat (first | exact .refl | refine .put rfl ?_ | refine .say rfl ?_ | refine .say2 rfl (by first | assumption | simp_all) ?_)))
        refine r_nil ?_
        refine e_next ?_
        refine c_split (d := 40) rfl (fun h_7 => ?_) (fun h_7 => ?_)
        · skip
          try simp only [norms] at h_7
          first
            | (exfalso; omega)
            | (
              refine c_cond_t rfl ?_
              refine c_seq ?_
              refine c_region ?_
              refine r_val .none rfl (p_move rfl) ?_
              refine r_val .none rfl (p_eq rfl rfl) ?_
              refine r_say (d := 42) (v := Value.bool true) rfl ?_
              refine r_val .none rfl (p_move rfl) ?_
              refine r_val (.some rfl rfl) rfl (p_move rfl) ?_
              refine r_val (.some rfl rfl) rfl (p_eq_ptr Try.underlying76 (by first | exact .inr rfl | exact .inl rfl) rfl rfl) ?_
              refine r_say (d := 45) (v := Value.bool true) rfl ?_
              refine r_val .none rfl (p_pick_t rfl rfl) ?_
              refine r_val .none rfl (p_move rfl) ?_
              refine r_call (vs := []) (.some rfl rfl) rfl cl37 rfl (fun w hw => c_awake11 w) ?_
              refine r_val .none rfl (p_pick_t rfl rfl) ?_
              refine r_val .none rfl (p_assign rfl) ?_
              refine r_nil ?_
              refine e_next ?_
              refine c_ret ?_
              refine e_ret_then ?_
              refine e_ret1 Try.results11 (.tmp rfl .nil) (fun w hm => ⟨?_, hm.since⟩)
              rfl
              )
        · skip
          try simp only [norms] at h_7
          first
            | (exfalso; omega)
            | (
              refine c_cond_f rfl ?_
              refine c_skip ?_
              refine e_next ?_
              refine c_seq ?_
              refine c_seq ?_
              refine c_region ?_
              refine r_val .none rfl (p_move rfl) ?_
              refine r_val .none rfl (p_ne rfl rfl) ?_
              refine r_say (d := 51) (v := Value.bool true) rfl ?_
              refine r_val .none rfl (p_move rfl) ?_
              refine r_skip rfl (.no rfl rfl) ?_
              refine r_skip rfl (.no rfl rfl) ?_
              refine r_val .none rfl (p_pick_t rfl rfl) ?_
              refine r_nil ?_
              refine e_next ?_
              refine c_cond_t rfl ?_
              refine c_seq ?_
              refine c_region ?_
              refine r_val .none rfl (p_assign rfl) ?_
              refine r_nil ?_
              refine e_next ?_
              refine c_ret ?_
              refine e_ret_then ?_
              refine e_ret1 Try.results11 (.tmp rfl .nil) (fun w hm => ⟨?_, hm.since⟩)
              rfl
              )
        )
theorem c_WmPlays_ok (lim : Int) (v : Value) (os : List OpD) {G : Ghost} (hs : SlL G v 5 opC (false, (0, 0, 0), (0 : Int)) os) (hl : 1 ≤ lim ∧ lim ≤ 1024) (w : World) (hG : Has G w) :
    Calls Try.prog 11 #[Value.int .i64 lim, v] w (Ret fun r w' => r = Value.bool true ∧ Since nX w w') := by
  refine enter (args := [_, _]) (X := nX) (G := G) (l := [(0, Value.int .i64 lim), (1, v)]) Try.func11 rfl Try.ntmps11 hG ⟨rfl, rfl, trivial⟩ (Nat.le_of_ble_eq_true rfl) ?_
  refine c_seq ?_
  refine c_region ?_
  refine r_val .none rfl (p_assign rfl) ?_
  refine r_nil ?_
  refine e_next ?_
  refine c_seq ?_
  refine c_seq ?_
  refine c_region ?_
  refine r_val .none rfl (p_move rfl) ?_
  refine r_val .none rfl (p_leng Try.underlying109 rfl hs) ?_
  have bd_1 := (hs).bound
  refine r_val .none rfl (p_gt rfl rfl) ?_
  refine r_nil ?_
  refine e_next ?_
  refine c_splitd (d := 28) rfl (fun h_2 => ?_) (fun h_2 => ?_)
  · skip
    first
      | (exfalso; omega)
      | (
        refine c_cond_t rfl ?_
        refine c_seq ?_
        refine c_region ?_
        refine r_call (vs := []) .none rfl cl37 rfl (fun w hw => c_awake11 w) ?_
        refine r_val .none rfl (p_assign rfl) ?_
        refine r_nil ?_
        refine e_next ?_
        refine c_ret ?_
        refine e_ret_then ?_
        refine e_ret1 Try.results11 (.tmp rfl .nil) (fun w hm => ⟨?_, hm.since⟩)
        first
        | rfl
        | (exfalso; simp at hA; done)
        | (exfalso; simp at hB; done)
        | (exfalso; simp at hC; done)
        | (rw [hwm.facts]; simp; done)
        | (exfalso; have hx : decide (facts (rf all gone) = rf all gone) = false := (by assumption); rw [hwm.facts] at hx; simp at hx; done)
        )
  · skip
    first
      | (exfalso; omega)
      | (
        refine c_cond_f rfl ?_
        refine c_skip ?_
        refine e_next ?_
        refine c_seq ?_
        refine c_region ?_
        refine r_val .none rfl (p_move rfl) ?_
        refine r_callnew (vs := [_]) (vr := fun p => .tuple #[.pointer (some ⟨p, 0, none⟩), .int .i64 0]) .none rfl cl31 rfl (fun w hw => c_mnew _ (by omega) w hw) (fun p_3 => ?_)
        refine r_val .none rfl (p_move rfl) ?_
        refine r_val .none rfl (p_extract rfl rfl) ?_
        refine r_val .none rfl (p_extract rfl rfl) ?_
        refine r_val .none rfl (p_assign rfl) ?_
        refine r_val .none rfl (p_assign rfl) ?_
        refine r_nil ?_
        refine e_next ?_
        refine c_seq ?_
        refine c_seq ?_
        refine c_region ?_
        refine r_val .none rfl (p_move rfl) ?_
        refine r_val .none rfl (p_lt rfl rfl) ?_
        refine r_val .none rfl (p_move rfl) ?_
        refine' r_or (c := 37) (d := 40) [_, _, _] rfl (fun h_4 Q_5 hQ_6 => ?_) (fun h_4 Q_5 hQ_6 => ?_) ?_
        rotate_left 1
        · skip
          replace h_4 := of_decide_eq_false h_4
          refine r_val (.some rfl rfl) rfl (p_move rfl) ?_
          refine r_val (.some rfl rfl) rfl (p_gt rfl rfl) ?_
          refine r_val .none rfl (p_pick_f rfl rfl) ?_
          refine r_nil (e_fin (d := 40) hQ_6 rfl (by repeat (first | exact .refl | refine .put rfl ?_ | refine .say rfl ?_ | refine .say2 rfl (by first | assumption | simp_all) ?_)))
        · skip
          repeat (first | refine r_skip rfl (.no rfl rfl) ?_ | refine r_skip rfl (.un rfl rfl) ?_)
          refine r_val (by first | exact .none | exact .some rfl rfl) rfl (p_pick_t rfl rfl) ?_
          refine r_nil (e_fin (d := 40) hQ_6 rfl (by repeat (first | exact .refl | refine .put rfl ?_ | refine .say rfl ?_ | refine .say2 rfl (by first | assumption | simp_all) ?_)))
        refine r_nil ?_
        refine e_next ?_
        refine c_split (d := 40) rfl (fun h_8 => ?_) (fun h_8 => ?_)
        · skip
          try simp only [norms] at h_8
          first
            | (exfalso; omega)
            | (
              refine c_cond_t rfl ?_
              refine c_seq ?_
              refine c_region ?_
              refine r_val .none rfl (p_move rfl) ?_
              refine r_val .none rfl (p_eq rfl rfl) ?_
              refine r_say (d := 42) (v := Value.bool false) rfl ?_
              refine r_val .none rfl (p_move rfl) ?_
              refine r_skip rfl (.no rfl rfl) ?_
              refine r_skip rfl (.no rfl rfl) ?_
              refine r_val .none rfl (p_pick_f rfl rfl) ?_
              refine r_val .none rfl (p_move rfl) ?_
              refine r_skip rfl (.no rfl rfl) ?_
              refine r_val .none rfl (p_pick_f rfl rfl) ?_
              refine r_val .none rfl (p_assign rfl) ?_
              refine r_nil ?_
              refine e_next ?_
              refine c_ret ?_
              refine e_ret_then ?_
              refine e_ret1 Try.results11 (.tmp rfl .nil) (fun w hm => ⟨?_, hm.since⟩)
              first
              | rfl
              | (exfalso; simp at hA; done)
              | (exfalso; simp at hB; done)
              | (exfalso; simp at hC; done)
              | (rw [hwm.facts]; simp; done)
              | (exfalso; have hx : decide (facts (rf all gone) = rf all gone) = false := (by assumption); rw [hwm.facts] at hx; simp at hx; done)
              )
        · skip
          try simp only [norms] at h_8
          first
            | (exfalso; omega)
            | (
              refine c_cond_f rfl ?_
              refine c_skip ?_
              refine e_next ?_
              refine c_seq ?_
              refine c_seq ?_
              refine c_region ?_
              refine r_val .none rfl (p_move rfl) ?_
              refine r_val .none rfl (p_ne rfl rfl) ?_
              refine r_say (d := 51) (v := Value.bool false) rfl ?_
              refine r_val .none rfl (p_move rfl) ?_
              refine r_val (.some rfl rfl) rfl (p_move rfl) ?_
              refine r_val (.some rfl rfl) rfl (p_eq_ptr Try.underlying76 (by first | exact .inr rfl | exact .inl rfl) rfl rfl) ?_
              refine r_say (d := 54) (v := Value.bool false) rfl ?_
              refine r_val .none rfl (p_pick_f rfl rfl) ?_
              refine r_nil ?_
              refine e_next ?_
              refine c_cond_f rfl ?_
              refine c_skip ?_
              refine e_next ?_
              refine c_seq ?_
              refine c_region ?_
              refine r_val .none rfl (p_move rfl) ?_
              refine r_val .none rfl (p_build (vs := [(2, Value.int _ _)]) rfl (bl112_2i1 _)) ?_
              refine r_alloc .none rfl zr112 (IsRow.lit _) (fun b_1 => ?_)
              refine r_stw (k := 0) .none sz112 rfl rfl (IsRow.lit _) (one_lit rfl rfl) rfl ?_
              refine r_nil ?_
              refine e_next ?_
              refine c_seq ?_
              refine c_seq ?_
              refine c_region ?_
              refine r_val .none rfl (p_move rfl) ?_
              refine r_val .none rfl (p_leng Try.underlying109 rfl hs) ?_
              have bd_9 := (hs).bound
              refine r_val .none rfl (p_move rfl) ?_
              refine r_nil ?_
              refine e_next ?_
              refine c_block ?_
              refine c_name (d := 5) rfl (fun u_10 hu_10 => ?_)
              refine c_name (d := 7) rfl (fun u_11 hu_11 => ?_)
              refine c_name (d := 58) rfl (fun u_12 hu_12 => ?_)
              refine c_name (d := 59) rfl (fun u_13 hu_13 => ?_)
              refine c_loop (σ := Nat × Value × Value × List FD × List Int × Ghost) (fun s => [(60, Value.int .i64 (s.1 : Nat)), (5, u_10), (7, u_11), (58, u_12), (59, u_13)]) (fun s => [box b_1 3 112 (at_ [s.2.1, s.2.2.1, .int .i64 lim]), memA p_3 (rf s.2.2.2.1 s.2.2.2.2.1) lim (s.2.2.2.1.length : Nat)]) (fun s => s.2.2.2.2.2) (fun s => s.1 ≤ os.length ∧ SlL s.2.2.2.2.2 s.2.1 4 fC (0, zT) s.2.2.2.1 ∧ SlL s.2.2.2.2.2 s.2.2.1 1 cI (0 : Int) s.2.2.2.2.1 ∧ Wm s.2.2.2.1 s.2.2.2.2.1 s.1 ∧ GNew w nX G s.2.2.2.2.2) (fun s => os.length - s.1) ((0, _, _, [], [], _)) ⟨Nat.zero_le _, SlG.nil _ _ _, SlG.nil _ _ _, Wm.nil, GNew.refl _ _ _⟩ rfl ⟨rfl, rfl, rfl, rfl, rfl, trivial⟩ (.keep (fun _ _ h => box_congr (fun i hi => by match i, hi with | 0, _ => rfl | 1, _ => rfl | 2, _ => rfl) _ _ h) (.keep (fun _ _ h => h) (.nil))) (fun s hphi => ?_)
              subst hu_10
              subst hu_11
              subst hu_12
              subst hu_13
              obtain ⟨j, va, vg, all, gone, H⟩ := s
              obtain ⟨hj, ha, hg, hwm, hgn⟩ := hphi
              dsimp only at hj ha hg hwm hgn ⊢
              have hna := hwm.na
              have hng := hwm.ng
              replace hs := hs.mono hgn.le
              refine c_seq ?_
              refine c_region ?_
              refine r_val .none rfl (p_lt rfl rfl) ?_
              refine r_nil ?_
              refine e_next ?_
              refine c_seq ?_
              refine c_splitd (d := 61) rfl (fun h_14 => ?_) (fun h_14 => ?_)
              · skip
                first
                  | (exfalso; omega)
                  | (
                    refine c_cond_t rfl ?_
                    refine c_skip ?_
                    refine e_next ?_
                    refine c_seq ?_
                    refine c_block ?_
                    refine c_seq ?_
                    refine c_region ?_
                    refine r_iaddr_g .none rfl Try.underlying109 sz114 rfl hs rfl (by first | exact of_decide_eq_true rfl | omega) (fun p_16 o_17 R_15 => ?_)
                    refine r_val .none rfl (p_ldga0 Try.underlying114 rfl sz114 rfl R_15 (by first | exact of_decide_eq_true rfl | omega) (rfl : _ = Value.agg #[_, _, _, _, _])) ?_
                    refine r_alloc .none rfl zr114 (IsRow.lit _) (fun b_2 => ?_)
                    refine r_stw (k := 0) .none sz114 rfl rfl (IsRow.lit _) (one_lit rfl rfl) rfl ?_
                    refine r_nil ?_
                    refine e_next ?_
                    refine c_seq ?_
                    refine c_seq ?_
                    refine c_region ?_
                    refine r_val .none rfl (p_field Try.underlying114 rfl sz4 rfl) ?_
                    refine r_val .none rfl (p_ld (k := 0) Try.underlying4 rfl rfl rfl (by first | exact of_decide_eq_true rfl | omega) (rfl : _ = Value.bool _)) ?_
                    refine r_nil ?_
                    refine e_next ?_
                    refine c_split (d := 65) rfl (fun h_18 => ?_) (fun h_18 => ?_)
                    · skip
                      first
                        | (exfalso; omega)
                        | (
                          refine c_cond_t rfl ?_
                          refine c_seq ?_
                          refine c_region ?_
                          refine r_val .none rfl (p_ldw (k := 1) Try.underlying112 rfl sz112 rfl rfl (rfl : _ = Value.agg #[_, _, _])) ?_
                          refine r_val .none rfl (p_field Try.underlying114 rfl sz3 rfl) ?_
                          refine r_val .none rfl (p_ld (k := 0) Try.underlying3 rfl rfl rfl (by first | exact of_decide_eq_true rfl | omega) (rfl : _ = Value.int _ _)) ?_
                          refine r_call (vs := [_, _]) .none rfl cl58 rfl (fun w hw => c_rget _ _ _ _ _ _ (by omega) (by omega) ha hg w hw) ?_
                          refine r_val .none rfl (p_move rfl) ?_
                          refine r_val .none rfl (p_extract rfl rfl) ?_
                          refine r_val .none rfl (p_extract rfl rfl) ?_
                          refine r_alloc .none rfl zr25 (IsRow.lit _) (fun b_3 => ?_)
                          refine r_stw (k := 0) .none sz25 rfl rfl (IsRow.lit _) (one_lit rfl rfl) rfl ?_
                          refine r_val .none rfl (p_assign rfl) ?_
                          refine r_nil ?_
                          refine e_next ?_
                          refine c_seq ?_
                          refine c_region ?_
                          refine r_val .none rfl (p_ldw (k := 2) Try.underlying112 rfl sz112 rfl rfl (rfl : _ = Value.agg #[_, _, _])) ?_
                          refine r_val .none rfl (p_field Try.underlying114 rfl sz3 rfl) ?_
                          refine r_val .none rfl (p_ld (k := 1) Try.underlying3 rfl rfl rfl (by first | exact of_decide_eq_true rfl | omega) (rfl : _ = Value.int _ _)) ?_
                          refine r_callm (vs := [_, _]) .none rfl cl59 rfl (fun w hw => c_rrem _ _ _ _ _ _ (by omega) (by omega) ha hg w hw) (fun G_19 v_22 hn_20 hr_21 => ?_)
                          replace hs := hs.mono hn_20.le
                          replace ha := ha.mono hn_20.le
                          replace hg := hg.mono hn_20.le
                          replace R_15 := R_15.mono hn_20.le
                          obtain ⟨u_23a, u_23b, rfl, u_23s, u_23t⟩ := hr_21
                          refine r_val .none rfl (p_move rfl) ?_
                          refine r_val .none rfl (p_extract rfl rfl) ?_
                          refine r_val .none rfl (p_extract rfl rfl) ?_
                          refine r_alloc .none rfl zr112 (IsRow.lit _) (fun b_4 => ?_)
                          refine r_stw (k := 0) .none sz112 rfl rfl (IsRow.lit _) (one_lit rfl (all_cons (u_23s).one (all_cons (u_23t).one (all_cons rfl rfl)))) rfl ?_
                          refine r_val .none rfl (p_assign rfl) ?_
                          refine r_nil ?_
                          refine e_next ?_
                          refine c_seq ?_
                          refine c_region ?_
                          refine r_val .none rfl (p_ldw (k := 0) Try.underlying112 rfl sz112 rfl rfl (rfl : _ = Value.agg #[_, _, _])) ?_
                          refine r_stw (k := 3) .none sz112 rfl rfl (IsRow.lit _) (one_lit rfl (all_cons (u_23s).one (all_cons (u_23t).one (all_cons rfl rfl)))) rfl ?_
                          refine r_nil ?_
                          refine e_next ?_
                          refine c_seq ?_
                          refine c_region ?_
                          refine r_val .none rfl (p_move rfl) ?_
                          refine r_val .none rfl (p_field Try.underlying114 rfl sz3 rfl) ?_
                          refine r_val .none rfl (p_ld (k := 2) Try.underlying3 rfl rfl rfl (by first | exact of_decide_eq_true rfl | omega) (rfl : _ = Value.int _ _)) ?_
                          refine r_callo (k := 4) (vs := [_, _]) .none rfl cl33 rfl rfl (fun w F hw hA hFG => c_mrem _ _ _ _ _ w hw hA hFG) ?_
                          simp only [(both_del hwm (os.getD j (false, (0, 0, 0), (0 : Int))).2.2).1]
                          have hna2 := (both_del hwm (os.getD j (false, (0, 0, 0), (0 : Int))).2.2).2.na
                          have hng2 := (both_del hwm (os.getD j (false, (0, 0, 0), (0 : Int))).2.2).2.ng
                          refine r_val .none rfl (p_move rfl) ?_
                          refine r_val .none rfl (p_extract rfl rfl) ?_
                          refine r_val .none rfl (p_extract rfl rfl) ?_
                          refine r_alloc .none rfl zr26 (IsRow.lit _) (fun b_5 => ?_)
                          refine r_stw (k := 0) .none sz26 rfl rfl (IsRow.lit _) (one_lit rfl rfl) rfl ?_
                          refine r_val .none rfl (p_assign rfl) ?_
                          refine r_nil ?_
                          refine e_next ?_
                          refine c_seq ?_
                          refine c_region ?_
                          refine r_val .none rfl (p_move rfl) ?_
                          refine r_val .none rfl (p_move rfl) ?_
                          refine r_val .none rfl (p_ne rfl rfl) ?_
                          refine r_val .none rfl (p_move rfl) ?_
                          refine' r_or (c := 91) (d := 95) [_, _, _, _] rfl (fun h_24 Q_25 hQ_26 => ?_) (fun h_24 Q_25 hQ_26 => ?_) ?_
                          rotate_left 1
                          · skip
                            replace h_24 := of_decide_eq_false h_24
                            refine r_val (.some rfl rfl) rfl (p_ldw (k := 0) Try.underlying26 rfl sz26 rfl rfl (rfl : _ = Value.agg #[_, _, _])) ?_
                            refine r_val (.some rfl rfl) rfl (p_ldw (k := 2) Try.underlying25 rfl sz25 rfl rfl (rfl : _ = Value.agg #[_, _, _])) ?_
                            refine r_val (.some rfl rfl) rfl (p_nea rfl rfl (eq_tri Try.underlying26 Try.underlying3 lf26 ef26 eg26 ((lkp (rf all gone) (os.getD j (false, (0, 0, 0), (0 : Int))).2.2).getD zT) ((lkp (rf all gone) (os.getD j (false, (0, 0, 0), (0 : Int))).2.2).getD zT))) ?_
                            refine r_val .none rfl (p_pick_f rfl rfl) ?_
                            refine r_nil (e_fin (d := 95) hQ_26 rfl (by repeat (first | exact .refl | refine .put rfl ?_ | refine .say rfl ?_ | refine .say2 rfl (by first | assumption | simp_all) ?_)))
                          · skip
                            repeat (first | refine r_skip rfl (.no rfl rfl) ?_ | refine r_skip rfl (.un rfl rfl) ?_)
                            refine r_val (by first | exact .none | exact .some rfl rfl) rfl (p_pick_t rfl rfl) ?_
                            refine r_nil (e_fin (d := 95) hQ_26 rfl (by repeat (first | exact .refl | refine .put rfl ?_ | refine .say rfl ?_ | refine .say2 rfl (by first | assumption | simp_all) ?_)))
                          refine r_nil ?_
                          refine e_next ?_
                          refine c_split (d := 95) rfl (fun h_28 => ?_) (fun h_28 => ?_)
                          · skip
                            try simp only [norms] at h_28
                            have hA := h_28
                            first
                              | (exfalso; omega)
                              | (
                                refine c_cond_t rfl ?_
                                refine c_seq ?_
                                refine c_region ?_
                                refine r_val .none rfl (p_assign rfl) ?_
                                refine r_nil ?_
                                refine e_next ?_
                                refine c_ret ?_
                                refine e_ret_then ?_
                                refine e_ret_block ?_
                                refine e_ret_then ?_
                                refine e_ret_then ?_
                                refine e_ret_block ?_
                                refine e_ret_then ?_
                                refine e_ret1 Try.results11 (.tmp rfl .nil) (fun w hm => ⟨?_, hm.since⟩)
                                first
                                | rfl
                                | (exfalso; simp at hA; done)
                                | (exfalso; simp at hB; done)
                                | (exfalso; simp at hC; done)
                                | (rw [hwm.facts]; simp; done)
                                | (exfalso; have hx : decide (facts (rf all gone) = rf all gone) = false := (by assumption); rw [hwm.facts] at hx; simp at hx; done)
                                )
                          · skip
                            try simp only [norms] at h_28
                            first
                              | (exfalso; omega)
                              | (
                                refine c_cond_f rfl ?_
                                refine c_skip ?_
                                refine e_next ?_
                                refine c_seq ?_
                                refine c_region_d (fun _ => false) _ mixed (.keep (fun _ _ h => h) (.keep (fun _ _ h => h) (.keep (fun _ _ h => h) (.keep (fun _ _ h => h) (.keep (fun _ _ h => h) (.keep (fun _ _ h => h) (.nil))))))) ?_
                                refine d_val1 0 rfl rfl (by kernel_rfl) (fun _ _ => rfl) .none rfl (p_move rfl) ?_
                                refine d_val1 2 rfl rfl (by kernel_rfl) (fun _ _ => rfl) .none rfl (p_field Try.underlying112 rfl sz110 rfl) ?_
                                refine d_val1 3 rfl rfl (by kernel_rfl) (fun _ _ => rfl) .none rfl (p_ld (k := 4) Try.underlying110 rfl rfl rfl (by first | exact of_decide_eq_true rfl | omega) rfl) ?_
                                refine d_val1 4 rfl rfl (by kernel_rfl) (fun _ _ => rfl) .none rfl (p_leng Try.underlying110 rfl u_23s) ?_
                                have bd_29 := (u_23s).bound
                                refine d_eff 1 rfl (by kernel_rfl) (fun K_30 hKK_30 hcK_30 => ?_)
                                refine r_callo (k := 5) (vs := [_]) .none rfl cl36 rfl rfl (fun w F hw hA hFG => c_mlast _ _ _ _ w hw hA hFG) ?_
                                refine r_nil (e_d (i := 1) (brk := (fun _ => false)) (ph' := true) hKK_30 hcK_30 rfl (fun _ => GLe.refl _) (fun _ => .keep (fun _ _ h => h) (.keep (fun _ _ h => h) (.keep (fun _ _ h => h) (.keep (fun _ _ h => h) (.keep (fun _ _ h => h) (.keep (fun _ _ h => h) (.nil))))))) ?_)
                                clear hKK_30 hcK_30 K_30
                                refine d_val1 5 rfl rfl (by kernel_rfl) (fun _ _ => rfl) .none rfl (p_ne rfl rfl) ?_
                                refine d_val1 6 rfl rfl (by kernel_rfl) (fun _ _ => rfl) .none rfl (p_move rfl) ?_
                                refine d_splitd (d := 126) rfl (fun h_31 => ?_) (fun h_31 => ?_)
                                · skip
                                  first
                                    | (exfalso; omega)
                                    | (
                                      refine d_skip1 7 rfl rfl (by kernel_rfl) (fun _ _ => rfl) rfl (.no rfl rfl) ?_
                                      refine d_skip1 8 rfl rfl (by kernel_rfl) (fun _ _ => rfl) rfl (.no rfl rfl) ?_
                                      refine d_skip1 9 rfl rfl (by kernel_rfl) (fun _ _ => rfl) rfl (.no rfl rfl) ?_
                                      refine d_skip1 10 rfl rfl (by kernel_rfl) (fun _ _ => rfl) rfl (.no rfl rfl) ?_
                                      refine d_skip1 11 rfl rfl (by kernel_rfl) (fun _ _ => rfl) rfl (.no rfl rfl) ?_
                                      refine d_skip1 12 rfl rfl (by kernel_rfl) (fun _ _ => rfl) rfl (.no rfl rfl) ?_
                                      refine d_val1 13 rfl rfl (by kernel_rfl) (fun _ _ => rfl) .none rfl (p_pick_t rfl rfl) ?_
                                      refine d_nil (by kernel_rfl) ?_
                                      refine e_next ?_
                                      refine c_cond_t rfl ?_
                                      refine c_seq ?_
                                      refine c_region ?_
                                      refine r_val .none rfl (p_assign rfl) ?_
                                      refine r_nil ?_
                                      refine e_next ?_
                                      refine c_ret ?_
                                      refine e_ret_block ?_
                                      refine e_ret_then ?_
                                      refine e_ret_then ?_
                                      refine e_ret_block ?_
                                      refine e_ret_then ?_
                                      refine e_ret1 Try.results11 (.tmp rfl .nil) (fun w hm => ⟨?_, hm.since⟩)
                                      first
                                      | rfl
                                      | (exfalso; simp at hA; done)
                                      | (exfalso; simp at hB; done)
                                      | (exfalso; simp at hC; done)
                                      | (rw [hwm.facts]; simp; done)
                                      | (exfalso; have hx : decide (facts (rf all gone) = rf all gone) = false := (by assumption); rw [hwm.facts] at hx; simp at hx; done)
                                      )
                                · skip
                                  first
                                    | (exfalso; omega)
                                    | (
                                      refine d_val1 7 rfl rfl (by kernel_rfl) (fun _ _ => rfl) (.some rfl rfl) rfl (p_move rfl) ?_
                                      refine d_val1 9 rfl rfl (by kernel_rfl) (fun _ _ => rfl) (.some rfl rfl) rfl (p_ldw (k := 4) Try.underlying112 rfl sz112 rfl rfl (rfl : _ = Value.agg #[_, _, _])) ?_
                                      refine d_eff 8 rfl (by kernel_rfl) (fun K_32 hKK_32 hcK_32 => ?_)
                                      refine r_callo (k := 5) (vs := [_]) (.some rfl rfl) rfl cl35 rfl rfl (fun w F hw hA hFG => c_mlen _ _ _ _ w hw hA hFG) ?_
                                      refine r_nil (e_d (i := 8) (brk := (fun _ => false)) (ph' := true) hKK_32 hcK_32 rfl (fun _ => GLe.refl _) (fun _ => .keep (fun _ _ h => h) (.keep (fun _ _ h => h) (.keep (fun _ _ h => h) (.keep (fun _ _ h => h) (.keep (fun _ _ h => h) (.keep (fun _ _ h => h) (.nil))))))) ?_)
                                      clear hKK_32 hcK_32 K_32
                                      refine d_eff 10 rfl (by kernel_rfl) (fun K_33 hKK_33 hcK_33 => ?_)
                                      refine r_callm (vs := [_]) (.some rfl rfl) rfl cl61 rfl (fun w hw => c_rfacts _ _ _ _ _ (by omega) (by omega) u_23s u_23t w hw) (fun G_34 v_37 hn_35 hr_36 => ?_)
                                      replace hs := hs.mono hn_35.le
                                      replace ha := ha.mono hn_35.le
                                      replace hg := hg.mono hn_35.le
                                      replace R_15 := R_15.mono hn_35.le
                                      replace u_23s := u_23s.mono hn_35.le
                                      replace u_23t := u_23t.mono hn_35.le
                                      have u_38 := hr_36
                                      refine r_nil (e_d (i := 10) (brk := (fun _ => false)) (ph' := true) hKK_33 hcK_33 rfl (fun _ => hn_35.le) (fun _ => .keep (fun _ _ h => h) (.keep (fun _ _ h => h) (.keep (fun _ _ h => h) (.keep (fun _ _ h => h) (.keep (fun _ _ h => h) (.keep (fun _ _ h => h) (.nil))))))) ?_)
                                      clear hKK_33 hcK_33 K_33
                                      refine d_val1 11 rfl rfl (by kernel_rfl) (fun _ _ => rfl) (.some rfl rfl) rfl (p_lengx Try.underlying110 rfl u_38) ?_
                                      have bd_39 := (u_38).bound
                                      refine d_val1 12 rfl rfl (by kernel_rfl) (fun _ _ => rfl) (.some rfl rfl) rfl (p_ne rfl rfl) ?_
                                      refine d_val1 13 rfl rfl (by kernel_rfl) (fun _ _ => rfl) .none rfl (p_pick_f rfl rfl) ?_
                                      refine d_nil (by kernel_rfl) ?_
                                      refine e_next ?_
                                      refine c_splitd (d := 133) rfl (fun h_40 => ?_) (fun h_40 => ?_)
                                      · skip
                                        have hB := h_40
                                        first
                                          | (exfalso; omega)
                                          | (
                                            refine c_cond_t rfl ?_
                                            refine c_seq ?_
                                            refine c_region ?_
                                            refine r_val .none rfl (p_assign rfl) ?_
                                            refine r_nil ?_
                                            refine e_next ?_
                                            refine c_ret ?_
                                            refine e_ret_block ?_
                                            refine e_ret_then ?_
                                            refine e_ret_then ?_
                                            refine e_ret_block ?_
                                            refine e_ret_then ?_
                                            refine e_ret1 Try.results11 (.tmp rfl .nil) (fun w hm => ⟨?_, hm.since⟩)
                                            first
                                            | rfl
                                            | (exfalso; simp at hA; done)
                                            | (exfalso; simp at hB; done)
                                            | (exfalso; simp at hC; done)
                                            | (rw [hwm.facts]; simp; done)
                                            | (exfalso; have hx : decide (facts (rf all gone) = rf all gone) = false := (by assumption); rw [hwm.facts] at hx; simp at hx; done)
                                            )
                                      · skip
                                        first
                                          | (exfalso; omega)
                                          | (
                                            refine c_cond_f rfl ?_
                                            refine c_skip ?_
                                            refine e_norm_block ?_
                                            refine e_next ?_
                                            refine c_region ?_
                                            refine r_val .none rfl (p_add rfl rfl (by omega)) ?_
                                            refine r_val .none rfl (p_move rfl) ?_
                                            refine r_nil ?_
                                            refine e_round ((j + 1, _, _, _, _, _)) ⟨⟨by dsimp only; omega, u_23s, u_23t, (by first | exact (both_add hwm _).2 | exact (both_del hwm _).2), ((hgn.trans hn_20).trans hn_35)⟩, by dsimp only; omega⟩ rfl ⟨rfl, rfl, rfl, rfl, rfl, trivial⟩ (.drop (.drop (.drop (.drop (.keep (fun _ _ h => by first | exact h | exact box_congr (fun i hi => by match i, hi with | 0, _ => rfl | 1, _ => rfl | 2, _ => rfl) _ _ h) (.keep (fun _ _ h => by first | exact h | exact box_congr (fun i hi => by match i, hi with | 0, _ => rfl | 1, _ => rfl | 2, _ => rfl) _ _ h) (.nil)))))))
                                            )
                                      )
                                )
                          )
                    · skip
                      first
                        | (exfalso; omega)
                        | (
                          refine c_cond_f rfl ?_
                          refine c_seq ?_
                          refine c_region ?_
                          refine r_val .none rfl (p_ldw (k := 1) Try.underlying112 rfl sz112 rfl rfl (rfl : _ = Value.agg #[_, _, _])) ?_
                          refine r_val .none rfl (p_field Try.underlying114 rfl sz26 rfl) ?_
                          refine r_val .none rfl (p_lda (k := 0) Try.underlying26 rfl sz26 rfl rfl (by first | exact of_decide_eq_true rfl | omega) (rfl : _ = Value.agg #[_, _, _])) ?_
                          refine r_callm (vs := [_, _]) .none rfl cl60 rfl (fun w hw => c_radd _ _ _ _ _ (os.getD j (false, (0, 0, 0), (0 : Int))).2.1 (by omega) (by omega) ha hg w hw) (fun G_41 v_44 hn_42 hr_43 => ?_)
                          replace hs := hs.mono hn_42.le
                          replace ha := ha.mono hn_42.le
                          replace hg := hg.mono hn_42.le
                          replace R_15 := R_15.mono hn_42.le
                          obtain ⟨u_45a, u_45b, rfl, u_45s, u_45t⟩ := hr_43
                          refine r_val .none rfl (p_move rfl) ?_
                          refine r_val .none rfl (p_extract rfl rfl) ?_
                          refine r_val .none rfl (p_extract rfl rfl) ?_
                          refine r_val .none rfl (p_extract rfl rfl) ?_
                          refine r_alloc .none rfl zr112 (IsRow.lit _) (fun b_6 => ?_)
                          refine r_stw (k := 0) .none sz112 rfl rfl (IsRow.lit _) (one_lit rfl (all_cons (u_45s).one (all_cons (u_45t).one (all_cons rfl rfl)))) rfl ?_
                          refine r_val .none rfl (p_assign rfl) ?_
                          refine r_val .none rfl (p_assign rfl) ?_
                          refine r_nil ?_
                          refine e_next ?_
                          refine c_seq ?_
                          refine c_region ?_
                          refine r_val .none rfl (p_ldw (k := 0) Try.underlying112 rfl sz112 rfl rfl (rfl : _ = Value.agg #[_, _, _])) ?_
                          refine r_stw (k := 2) .none sz112 rfl rfl (IsRow.lit _) (one_lit rfl (all_cons (u_45s).one (all_cons (u_45t).one (all_cons rfl rfl)))) rfl ?_
                          refine r_nil ?_
                          refine e_next ?_
                          refine c_seq ?_
                          refine c_region ?_
                          refine r_val .none rfl (p_move rfl) ?_
                          refine r_val .none rfl (p_field Try.underlying114 rfl sz26 rfl) ?_
                          refine r_val .none rfl (p_lda (k := 1) Try.underlying26 rfl sz26 rfl rfl (by first | exact of_decide_eq_true rfl | omega) (rfl : _ = Value.agg #[_, _, _])) ?_
                          refine r_callo (k := 3) (vs := [_, _]) .none rfl cl32 rfl rfl (fun w F hw hA hFG => c_madd _ (os.getD j (false, (0, 0, 0), (0 : Int))).2.1 _ _ _ (by omega) w hw hA hFG) ?_
                          simp only [(both_add hwm (os.getD j (false, (0, 0, 0), (0 : Int))).2.1).1]
                          have hna2 := (both_add (lim := lim) hwm (os.getD j (false, (0, 0, 0), (0 : Int))).2.1).2.na
                          refine r_val .none rfl (p_move rfl) ?_
                          refine r_val .none rfl (p_extract rfl rfl) ?_
                          refine r_val .none rfl (p_extract rfl rfl) ?_
                          refine r_val .none rfl (p_assign rfl) ?_
                          refine r_val .none rfl (p_assign rfl) ?_
                          refine r_nil ?_
                          refine e_next ?_
                          refine c_seq ?_
                          refine c_region ?_
                          refine r_val .none rfl (p_move rfl) ?_
                          refine r_val .none rfl (p_move rfl) ?_
                          refine r_val .none rfl (p_ne rfl rfl) ?_
                          refine r_val .none rfl (p_move rfl) ?_
                          refine' r_or (c := 115) (d := 119) [_, _, _, _] rfl (fun h_46 Q_47 hQ_48 => ?_) (fun h_46 Q_47 hQ_48 => ?_) ?_
                          rotate_left 1
                          · skip
                            replace h_46 := of_decide_eq_false h_46
                            refine r_val (.some rfl rfl) rfl (p_move rfl) ?_
                            refine r_val (.some rfl rfl) rfl (p_move rfl) ?_
                            refine r_val (.some rfl rfl) rfl (p_ne rfl rfl) ?_
                            refine r_val .none rfl (p_pick_f rfl rfl) ?_
                            refine r_nil (e_fin (d := 119) hQ_48 rfl (by repeat (first | exact .refl | refine .put rfl ?_ | refine .say rfl ?_ | refine .say2 rfl (by first | assumption | simp_all) ?_)))
                          · skip
                            repeat (first | refine r_skip rfl (.no rfl rfl) ?_ | refine r_skip rfl (.un rfl rfl) ?_)
                            refine r_val (by first | exact .none | exact .some rfl rfl) rfl (p_pick_t rfl rfl) ?_
                            refine r_nil (e_fin (d := 119) hQ_48 rfl (by repeat (first | exact .refl | refine .put rfl ?_ | refine .say rfl ?_ | refine .say2 rfl (by first | assumption | simp_all) ?_)))
                          refine r_nil ?_
                          refine e_next ?_
                          refine c_split (d := 119) rfl (fun h_50 => ?_) (fun h_50 => ?_)
                          · skip
                            try simp only [norms] at h_50
                            have hA := h_50
                            first
                              | (exfalso; omega)
                              | (
                                refine c_cond_t rfl ?_
                                refine c_seq ?_
                                refine c_region ?_
                                refine r_val .none rfl (p_assign rfl) ?_
                                refine r_nil ?_
                                refine e_next ?_
                                refine c_ret ?_
                                refine e_ret_then ?_
                                refine e_ret_block ?_
                                refine e_ret_then ?_
                                refine e_ret_then ?_
                                refine e_ret_block ?_
                                refine e_ret_then ?_
                                refine e_ret1 Try.results11 (.tmp rfl .nil) (fun w hm => ⟨?_, hm.since⟩)
                                first
                                | rfl
                                | (exfalso; simp at hA; done)
                                | (exfalso; simp at hB; done)
                                | (exfalso; simp at hC; done)
                                | (rw [hwm.facts]; simp; done)
                                | (exfalso; have hx : decide (facts (rf all gone) = rf all gone) = false := (by assumption); rw [hwm.facts] at hx; simp at hx; done)
                                )
                          · skip
                            try simp only [norms] at h_50
                            first
                              | (exfalso; omega)
                              | (
                                refine c_cond_f rfl ?_
                                refine c_skip ?_
                                refine e_next ?_
                                refine c_seq ?_
                                refine c_region_d (fun _ => false) _ mixed (.keep (fun _ _ h => h) (.keep (fun _ _ h => h) (.keep (fun _ _ h => h) (.keep (fun _ _ h => h) (.nil))))) ?_
                                refine d_val1 0 rfl rfl (by kernel_rfl) (fun _ _ => rfl) .none rfl (p_move rfl) ?_
                                refine d_val1 2 rfl rfl (by kernel_rfl) (fun _ _ => rfl) .none rfl (p_field Try.underlying112 rfl sz110 rfl) ?_
                                refine d_val1 3 rfl rfl (by kernel_rfl) (fun _ _ => rfl) .none rfl (p_ld (k := 2) Try.underlying110 rfl rfl rfl (by first | exact of_decide_eq_true rfl | omega) rfl) ?_
                                refine d_val1 4 rfl rfl (by kernel_rfl) (fun _ _ => rfl) .none rfl (p_leng Try.underlying110 rfl u_45s) ?_
                                have bd_51 := (u_45s).bound
                                refine d_eff 1 rfl (by kernel_rfl) (fun K_52 hKK_52 hcK_52 => ?_)
                                refine r_callo (k := 3) (vs := [_]) .none rfl cl36 rfl rfl (fun w F hw hA hFG => c_mlast _ _ _ _ w hw hA hFG) ?_
                                refine r_nil (e_d (i := 1) (brk := (fun _ => false)) (ph' := true) hKK_52 hcK_52 rfl (fun _ => GLe.refl _) (fun _ => .keep (fun _ _ h => h) (.keep (fun _ _ h => h) (.keep (fun _ _ h => h) (.keep (fun _ _ h => h) (.nil))))) ?_)
                                clear hKK_52 hcK_52 K_52
                                refine d_val1 5 rfl rfl (by kernel_rfl) (fun _ _ => rfl) .none rfl (p_ne rfl rfl) ?_
                                refine d_val1 6 rfl rfl (by kernel_rfl) (fun _ _ => rfl) .none rfl (p_move rfl) ?_
                                refine d_splitd (d := 126) rfl (fun h_53 => ?_) (fun h_53 => ?_)
                                · skip
                                  first
                                    | (exfalso; omega)
                                    | (
                                      refine d_skip1 7 rfl rfl (by kernel_rfl) (fun _ _ => rfl) rfl (.no rfl rfl) ?_
                                      refine d_skip1 8 rfl rfl (by kernel_rfl) (fun _ _ => rfl) rfl (.no rfl rfl) ?_
                                      refine d_skip1 9 rfl rfl (by kernel_rfl) (fun _ _ => rfl) rfl (.no rfl rfl) ?_
                                      refine d_skip1 10 rfl rfl (by kernel_rfl) (fun _ _ => rfl) rfl (.no rfl rfl) ?_
                                      refine d_skip1 11 rfl rfl (by kernel_rfl) (fun _ _ => rfl) rfl (.no rfl rfl) ?_
                                      refine d_skip1 12 rfl rfl (by kernel_rfl) (fun _ _ => rfl) rfl (.no rfl rfl) ?_
                                      refine d_val1 13 rfl rfl (by kernel_rfl) (fun _ _ => rfl) .none rfl (p_pick_t rfl rfl) ?_
                                      refine d_nil (by kernel_rfl) ?_
                                      refine e_next ?_
                                      refine c_cond_t rfl ?_
                                      refine c_seq ?_
                                      refine c_region ?_
                                      refine r_val .none rfl (p_assign rfl) ?_
                                      refine r_nil ?_
                                      refine e_next ?_
                                      refine c_ret ?_
                                      refine e_ret_block ?_
                                      refine e_ret_then ?_
                                      refine e_ret_then ?_
                                      refine e_ret_block ?_
                                      refine e_ret_then ?_
                                      refine e_ret1 Try.results11 (.tmp rfl .nil) (fun w hm => ⟨?_, hm.since⟩)
                                      first
                                      | rfl
                                      | (exfalso; simp at hA; done)
                                      | (exfalso; simp at hB; done)
                                      | (exfalso; simp at hC; done)
                                      | (rw [hwm.facts]; simp; done)
                                      | (exfalso; have hx : decide (facts (rf all gone) = rf all gone) = false := (by assumption); rw [hwm.facts] at hx; simp at hx; done)
                                      )
                                · skip
                                  first
                                    | (exfalso; omega)
                                    | (
                                      refine d_val1 7 rfl rfl (by kernel_rfl) (fun _ _ => rfl) (.some rfl rfl) rfl (p_move rfl) ?_
                                      refine d_val1 9 rfl rfl (by kernel_rfl) (fun _ _ => rfl) (.some rfl rfl) rfl (p_ldw (k := 2) Try.underlying112 rfl sz112 rfl rfl (rfl : _ = Value.agg #[_, _, _])) ?_
                                      refine d_eff 8 rfl (by kernel_rfl) (fun K_54 hKK_54 hcK_54 => ?_)
                                      refine r_callo (k := 3) (vs := [_]) (.some rfl rfl) rfl cl35 rfl rfl (fun w F hw hA hFG => c_mlen _ _ _ _ w hw hA hFG) ?_
                                      refine r_nil (e_d (i := 8) (brk := (fun _ => false)) (ph' := true) hKK_54 hcK_54 rfl (fun _ => GLe.refl _) (fun _ => .keep (fun _ _ h => h) (.keep (fun _ _ h => h) (.keep (fun _ _ h => h) (.keep (fun _ _ h => h) (.nil))))) ?_)
                                      clear hKK_54 hcK_54 K_54
                                      refine d_eff 10 rfl (by kernel_rfl) (fun K_55 hKK_55 hcK_55 => ?_)
                                      refine r_callm (vs := [_]) (.some rfl rfl) rfl cl61 rfl (fun w hw => c_rfacts _ _ _ _ _ (by omega) (by omega) u_45s u_45t w hw) (fun G_56 v_59 hn_57 hr_58 => ?_)
                                      replace hs := hs.mono hn_57.le
                                      replace ha := ha.mono hn_57.le
                                      replace hg := hg.mono hn_57.le
                                      replace R_15 := R_15.mono hn_57.le
                                      replace u_45s := u_45s.mono hn_57.le
                                      replace u_45t := u_45t.mono hn_57.le
                                      have u_60 := hr_58
                                      refine r_nil (e_d (i := 10) (brk := (fun _ => false)) (ph' := true) hKK_55 hcK_55 rfl (fun _ => hn_57.le) (fun _ => .keep (fun _ _ h => h) (.keep (fun _ _ h => h) (.keep (fun _ _ h => h) (.keep (fun _ _ h => h) (.nil))))) ?_)
                                      clear hKK_55 hcK_55 K_55
                                      refine d_val1 11 rfl rfl (by kernel_rfl) (fun _ _ => rfl) (.some rfl rfl) rfl (p_lengx Try.underlying110 rfl u_60) ?_
                                      have bd_61 := (u_60).bound
                                      refine d_val1 12 rfl rfl (by kernel_rfl) (fun _ _ => rfl) (.some rfl rfl) rfl (p_ne rfl rfl) ?_
                                      refine d_val1 13 rfl rfl (by kernel_rfl) (fun _ _ => rfl) .none rfl (p_pick_f rfl rfl) ?_
                                      refine d_nil (by kernel_rfl) ?_
                                      refine e_next ?_
                                      refine c_splitd (d := 133) rfl (fun h_62 => ?_) (fun h_62 => ?_)
                                      · skip
                                        have hB := h_62
                                        first
                                          | (exfalso; omega)
                                          | (
                                            refine c_cond_t rfl ?_
                                            refine c_seq ?_
                                            refine c_region ?_
                                            refine r_val .none rfl (p_assign rfl) ?_
                                            refine r_nil ?_
                                            refine e_next ?_
                                            refine c_ret ?_
                                            refine e_ret_block ?_
                                            refine e_ret_then ?_
                                            refine e_ret_then ?_
                                            refine e_ret_block ?_
                                            refine e_ret_then ?_
                                            refine e_ret1 Try.results11 (.tmp rfl .nil) (fun w hm => ⟨?_, hm.since⟩)
                                            first
                                            | rfl
                                            | (exfalso; simp at hA; done)
                                            | (exfalso; simp at hB; done)
                                            | (exfalso; simp at hC; done)
                                            | (rw [hwm.facts]; simp; done)
                                            | (exfalso; have hx : decide (facts (rf all gone) = rf all gone) = false := (by assumption); rw [hwm.facts] at hx; simp at hx; done)
                                            )
                                      · skip
                                        first
                                          | (exfalso; omega)
                                          | (
                                            refine c_cond_f rfl ?_
                                            refine c_skip ?_
                                            refine e_norm_block ?_
                                            refine e_next ?_
                                            refine c_region ?_
                                            refine r_val .none rfl (p_add rfl rfl (by omega)) ?_
                                            refine r_val .none rfl (p_move rfl) ?_
                                            refine r_nil ?_
                                            refine e_round ((j + 1, _, _, _, _, _)) ⟨⟨by dsimp only; omega, u_45s, u_45t, (by first | exact (both_add hwm _).2 | exact (both_del hwm _).2), ((hgn.trans hn_42).trans hn_57)⟩, by dsimp only; omega⟩ rfl ⟨rfl, rfl, rfl, rfl, rfl, trivial⟩ (.drop (.drop (.keep (fun _ _ h => by first | exact h | exact box_congr (fun i hi => by match i, hi with | 0, _ => rfl | 1, _ => rfl | 2, _ => rfl) _ _ h) (.keep (fun _ _ h => by first | exact h | exact box_congr (fun i hi => by match i, hi with | 0, _ => rfl | 1, _ => rfl | 2, _ => rfl) _ _ h) (.nil)))))
                                            )
                                      )
                                )
                          )
                    )
              · skip
                first
                  | (exfalso; omega)
                  | (
                    refine c_cond_f rfl ?_
                    refine c_exit ?_
                    refine e_exit_then ?_
                    refine e_exit_then ?_
                    refine e_exit_block ?_
                    refine e_next ?_
                    refine c_seq ?_
                    refine c_seq ?_
                    refine c_region ?_
                    refine r_val .none rfl (p_assign rfl) ?_
                    refine r_nil ?_
                    refine e_next ?_
                    refine c_block ?_
                    refine c_name (d := 5) rfl (fun u_63 hu_63 => ?_)
                    refine c_name (d := 7) rfl (fun u_64 hu_64 => ?_)
                    refine c_nameL (k := 0) rfl (fun A_65 hA_65 => ?_)
                    refine c_nameL (k := 1) rfl (fun A_66 hA_66 => ?_)
                    refine c_loop (σ := Nat) (fun k => [(21, Value.int .i64 ((k : Int) - 1)), (5, u_63), (7, u_64)]) (fun k => [A_65, A_66]) (fun _ => _) (fun k => k ≤ all.length + 3) (fun k => all.length + 3 - k) (0) (by omega) rfl ⟨rfl, rfl, rfl, trivial⟩ (.keep (fun _ _ h => h) (.keep (fun _ _ h => h) (.nil))) (fun k hphi => ?_)
                    subst hu_63
                    subst hu_64
                    subst hA_65
                    subst hA_66
                    refine c_seq ?_
                    refine c_seq ?_
                    refine c_region ?_
                    refine r_val .none rfl (p_move rfl) ?_
                    refine r_val .none rfl (p_field Try.underlying112 rfl sz110 rfl) ?_
                    refine r_val .none rfl (p_ld (k := 0) Try.underlying110 rfl rfl rfl (by first | exact of_decide_eq_true rfl | omega) rfl) ?_
                    refine r_val .none rfl (p_leng Try.underlying110 rfl ha) ?_
                    have bd_67 := (ha).bound
                    refine r_val .none rfl (p_add rfl rfl (by omega)) ?_
                    refine r_val .none rfl (p_le rfl rfl) ?_
                    refine r_nil ?_
                    refine e_next ?_
                    refine c_splitd (d := 140) rfl (fun h_68 => ?_) (fun h_68 => ?_)
                    · skip
                      first
                        | (exfalso; omega)
                        | (
                          refine c_cond_t rfl ?_
                          refine c_skip ?_
                          refine e_next ?_
                          refine c_seq ?_
                          refine c_block ?_
                          refine c_seq ?_
                          refine c_region ?_
                          refine r_val .none rfl (p_move rfl) ?_
                          refine r_val .none rfl (p_move rfl) ?_
                          refine r_callo (k := 1) (vs := [_, _]) .none rfl cl34 rfl rfl (fun w F hw hA hFG => c_mget _ _ _ _ _ w hw hA hFG) ?_
                          refine r_val .none rfl (p_move rfl) ?_
                          refine r_val .none rfl (p_extract rfl rfl) ?_
                          refine r_val .none rfl (p_extract rfl rfl) ?_
                          refine r_alloc .none rfl zr26 (IsRow.lit _) (fun b_7 => ?_)
                          refine r_stw (k := 0) .none sz26 rfl rfl (IsRow.lit _) (one_lit rfl rfl) rfl ?_
                          refine r_val .none rfl (p_assign rfl) ?_
                          refine r_nil ?_
                          refine e_next ?_
                          refine c_seq ?_
                          refine c_region ?_
                          refine r_val .none rfl (p_ldw (k := 1) Try.underlying112 rfl sz112 rfl rfl (rfl : _ = Value.agg #[_, _, _])) ?_
                          refine r_val .none rfl (p_move rfl) ?_
                          refine r_call (vs := [_, _]) .none rfl cl58 rfl (fun w hw => c_rget _ _ _ _ _ _ (by omega) (by omega) ha hg w hw) ?_
                          refine r_val .none rfl (p_move rfl) ?_
                          refine r_val .none rfl (p_extract rfl rfl) ?_
                          refine r_val .none rfl (p_extract rfl rfl) ?_
                          refine r_alloc .none rfl zr25 (IsRow.lit _) (fun b_8 => ?_)
                          refine r_stw (k := 0) .none sz25 rfl rfl (IsRow.lit _) (one_lit rfl rfl) rfl ?_
                          refine r_val .none rfl (p_assign rfl) ?_
                          refine r_nil ?_
                          refine e_next ?_
                          refine c_seq ?_
                          refine c_region ?_
                          refine r_val .none rfl (p_ldw (k := 1) Try.underlying26 rfl sz26 rfl rfl (rfl : _ = Value.agg #[_, _, _])) ?_
                          refine r_val .none rfl (p_ldw (k := 0) Try.underlying25 rfl sz25 rfl rfl (rfl : _ = Value.agg #[_, _, _])) ?_
                          refine r_val .none rfl (p_nea rfl rfl (eq_tri Try.underlying26 Try.underlying3 lf26 ef26 eg26 ((lkp (rf all gone) ((k : Int) - 1)).getD zT) ((lkp (rf all gone) ((k : Int) - 1)).getD zT))) ?_
                          refine r_val .none rfl (p_move rfl) ?_
                          refine' r_or (c := 158) (d := 162) [_, _, _, _] rfl (fun h_69 Q_70 hQ_71 => ?_) (fun h_69 Q_70 hQ_71 => ?_) ?_
                          rotate_left 1
                          · skip
                            try simp only [norms] at h_69
                            refine r_val (.some rfl rfl) rfl (p_move rfl) ?_
                            refine r_val (.some rfl rfl) rfl (p_move rfl) ?_
                            refine r_val (.some rfl rfl) rfl (p_neb Try.underlying4 rfl rfl) ?_
                            refine r_val .none rfl (p_pick_f rfl rfl) ?_
                            refine r_nil (e_fin (d := 162) hQ_71 rfl (by repeat (first | exact .refl | refine .put rfl ?_ | refine .say rfl ?_ | refine .say2 rfl (by first | assumption | simp_all) ?_)))
                          · skip
                            repeat (first | refine r_skip rfl (.no rfl rfl) ?_ | refine r_skip rfl (.un rfl rfl) ?_)
                            refine r_val (by first | exact .none | exact .some rfl rfl) rfl (p_pick_t rfl rfl) ?_
                            refine r_nil (e_fin (d := 162) hQ_71 rfl (by repeat (first | exact .refl | refine .put rfl ?_ | refine .say rfl ?_ | refine .say2 rfl (by first | assumption | simp_all) ?_)))
                          refine r_nil ?_
                          refine e_next ?_
                          refine c_split (d := 162) rfl (fun h_73 => ?_) (fun h_73 => ?_)
                          · skip
                            try simp only [norms] at h_73
                            have hC := h_73
                            first
                              | (exfalso; omega)
                              | (
                                refine c_cond_t rfl ?_
                                refine c_seq ?_
                                refine c_region ?_
                                refine r_val .none rfl (p_assign rfl) ?_
                                refine r_nil ?_
                                refine e_next ?_
                                refine c_ret ?_
                                refine e_ret_block ?_
                                refine e_ret_then ?_
                                refine e_ret_then ?_
                                refine e_ret_block ?_
                                refine e_ret_then ?_
                                refine e_ret1 Try.results11 (.tmp rfl .nil) (fun w hm => ⟨?_, hm.since⟩)
                                first
                                | rfl
                                | (exfalso; simp at hA; done)
                                | (exfalso; simp at hB; done)
                                | (exfalso; simp at hC; done)
                                | (rw [hwm.facts]; simp; done)
                                | (exfalso; have hx : decide (facts (rf all gone) = rf all gone) = false := (by assumption); rw [hwm.facts] at hx; simp at hx; done)
                                )
                          · skip
                            try simp only [norms] at h_73
                            first
                              | (exfalso; omega)
                              | (
                                refine c_cond_f rfl ?_
                                refine c_skip ?_
                                refine e_norm_block ?_
                                refine e_next ?_
                                refine c_region ?_
                                refine r_val .none rfl (p_move rfl) ?_
                                refine r_val .none rfl (p_add rfl rfl (by omega)) ?_
                                refine r_val .none rfl (p_assign rfl) ?_
                                refine r_nil ?_
                                refine e_round (k + 1) ⟨by omega, by omega⟩ rfl ⟨(congrArg (fun n => some (Value.int .i64 n)) (by omega)), rfl, rfl, trivial⟩ (.drop (.drop (.keep (fun _ _ h => h) (.keep (fun _ _ h => h) (.nil)))))
                                )
                          )
                    · skip
                      first
                        | (exfalso; omega)
                        | (
                          refine c_cond_f rfl ?_
                          refine c_exit ?_
                          refine e_exit_then ?_
                          refine e_exit_then ?_
                          refine e_exit_block ?_
                          refine e_next ?_
                          refine c_seq ?_
                          refine c_region_d (fun _ => false) _ mixed (.keep (fun _ _ h => h) (.keep (fun _ _ h => h) (.nil))) ?_
                          refine d_val1 0 rfl rfl (by kernel_rfl) (fun _ _ => rfl) .none rfl (p_move rfl) ?_
                          refine d_val1 2 rfl rfl (by kernel_rfl) (fun _ _ => rfl) .none rfl (p_ldw (k := 0) Try.underlying112 rfl sz112 rfl rfl (rfl : _ = Value.agg #[_, _, _])) ?_
                          have hwf := hwm.wf (by omega)
                          have hln : (rf all gone).length ≤ 2000 := (by have := rf_len all gone; omega)
                          refine d_eff 1 rfl (by kernel_rfl) (fun K_74 hKK_74 hcK_74 => ?_)
                          refine r_callom (k := 1) (vs := [_]) .none rfl cl57 rfl rfl (fun w F hw hA hFG => c_mall _ _ _ _ hwf hln w hw hA hFG) (fun G_75 v_78 hn_76 hr_77 => ?_)
                          replace hs := hs.mono hn_76.le
                          replace ha := ha.mono hn_76.le
                          replace hg := hg.mono hn_76.le
                          have u_79 := hr_77
                          refine r_nil (e_d (i := 1) (brk := (fun _ => false)) (ph' := true) hKK_74 hcK_74 rfl (fun _ => hn_76.le) (fun _ => .keep (fun _ _ h => h) (.keep (fun _ _ h => h) (.nil))) ?_)
                          clear hKK_74 hcK_74 K_74
                          refine d_eff 3 rfl (by kernel_rfl) (fun K_80 hKK_80 hcK_80 => ?_)
                          refine r_callm (vs := [_]) .none rfl cl61 rfl (fun w hw => c_rfacts _ _ _ _ _ (by omega) (by omega) ha hg w hw) (fun G_81 v_84 hn_82 hr_83 => ?_)
                          replace hs := hs.mono hn_82.le
                          replace ha := ha.mono hn_82.le
                          replace hg := hg.mono hn_82.le
                          replace u_79 := u_79.mono hn_82.le
                          have u_85 := hr_83
                          refine r_nil (e_d (i := 3) (brk := (fun _ => false)) (ph' := true) hKK_80 hcK_80 rfl (fun _ => (hn_76.trans hn_82).le) (fun _ => .keep (fun _ _ h => h) (.keep (fun _ _ h => h) (.nil))) ?_)
                          clear hKK_80 hcK_80 K_80
                          refine d_eff 4 rfl (by kernel_rfl) (fun K_86 hKK_86 hcK_86 => ?_)
                          refine r_call (vs := [_, _]) .none rfl cl62 rfl (fun w hw => c_same11 _ _ _ _ u_79 u_85 w hw) ?_
                          refine r_nil (e_d (i := 4) (brk := (fun _ => false)) (ph' := true) hKK_86 hcK_86 rfl (fun _ => (hn_76.trans hn_82).le) (fun _ => .keep (fun _ _ h => h) (.keep (fun _ _ h => h) (.nil))) ?_)
                          clear hKK_86 hcK_86 K_86
                          refine d_val1 5 rfl rfl (by kernel_rfl) (fun _ _ => rfl) .none rfl (p_move rfl) ?_
                          refine d_split (d := 168) rfl (fun h_87 => ?_) (fun h_87 => ?_)
                          · skip
                            first
                              | (exfalso; omega)
                              | (
                                refine d_eff 6 rfl (by kernel_rfl) (fun K_88 hKK_88 hcK_88 => ?_)
                                refine r_call (vs := []) (.some rfl rfl) rfl cl37 rfl (fun w hw => c_awake11 w) ?_
                                refine r_nil (e_d (i := 6) (brk := (fun _ => false)) (ph' := true) hKK_88 hcK_88 rfl (fun _ => (hn_76.trans hn_82).le) (fun _ => .keep (fun _ _ h => h) (.keep (fun _ _ h => h) (.nil))) ?_)
                                clear hKK_88 hcK_88 K_88
                                refine d_val1 7 rfl rfl (by kernel_rfl) (fun _ _ => rfl) .none rfl (p_pick_t rfl rfl) ?_
                                refine d_val1 8 rfl rfl (by kernel_rfl) (fun _ _ => rfl) .none rfl (p_assign rfl) ?_
                                refine d_nil (by kernel_rfl) ?_
                                refine e_next ?_
                                refine c_ret ?_
                                refine e_ret1 Try.results11 (.tmp rfl .nil) (fun w hm => ⟨?_, hm.since⟩)
                                first
                                | rfl
                                | (exfalso; simp at hA; done)
                                | (exfalso; simp at hB; done)
                                | (exfalso; simp at hC; done)
                                | (rw [hwm.facts]; simp; done)
                                | (exfalso; have hx : decide (facts (rf all gone) = rf all gone) = false := (by assumption); rw [hwm.facts] at hx; simp at hx; done)
                                )
                          · skip
                            first
                              | (exfalso; omega)
                              | (
                                refine d_skip1 6 rfl rfl (by kernel_rfl) (fun _ _ => rfl) rfl (.no rfl rfl) ?_
                                refine d_val1 7 rfl rfl (by kernel_rfl) (fun _ _ => rfl) .none rfl (p_pick_f rfl rfl) ?_
                                refine d_val1 8 rfl rfl (by kernel_rfl) (fun _ _ => rfl) .none rfl (p_assign rfl) ?_
                                refine d_nil (by kernel_rfl) ?_
                                refine e_next ?_
                                refine c_ret ?_
                                refine e_ret1 Try.results11 (.tmp rfl .nil) (fun w hm => ⟨?_, hm.since⟩)
                                first
                                | rfl
                                | (exfalso; simp at hA; done)
                                | (exfalso; simp at hB; done)
                                | (exfalso; simp at hC; done)
                                | (rw [hwm.facts]; simp; done)
                                | (exfalso; have hx : decide (facts (rf all gone) = rf all gone) = false := (by assumption); rw [hwm.facts] at hx; simp at hx; done)
                                )
                          )
                    )
              )
        )
theorem c_WmPlays (lim : Int) (v : Value) (os : List OpD) {G : Ghost} (hs : SlL G v 5 opC (false, (0, 0, 0), (0 : Int)) os) (w : World) (hG : Has G w) :
    Calls Try.prog 11 #[Value.int .i64 lim, v] w (Ret fun r w' => r = Value.bool true ∧ Since nX w w') := by
  by_cases hl : 1 ≤ lim ∧ lim ≤ 1024
  · exact c_WmPlays_ok lim v os hs hl w hG
  · exact c_WmPlays_bad lim v os hs hl w hG
end Go.Proofs.Ytinbigokigkfaaa
