/- Texts of this work, laid together: a logic of steps, plain laws, and walks of Go functions, each without a condition but those that its theorems name. -/
import Derived.Test.YtdcaehepmkhciaaKAlphaBack2
import Derived.Test.YtdcaehepmkhciaaRows
/- Walks: what Go functions of this chapter come to, each as a function on plain data; no condition but those that each theorem names. Printed by a program of this work (gen.py). -/
namespace Go.Proofs.Ytdcaehepmkhciaa
open Go.Gx Go.Gx Go.Gx.T10 Go.Gx.T12 Go.Gx.T10 Go.Gx.T11
theorem sz5 : SzIs Try.prog 5 1 := by
 unfold SzIs
 kernel_rfl
theorem sz56 : SzIs Try.prog 56 1 := by
 unfold SzIs
 kernel_rfl
theorem cl25 : Callable Try.prog 25 := callable Try.func25 (by kernel_rfl) rfl
theorem cl26 : Callable Try.prog 26 := callable Try.func26 (by kernel_rfl) rfl
theorem cl27 : Callable Try.prog 27 := callable Try.func27 (by kernel_rfl) rfl
theorem cl32 : Callable Try.prog 32 := callable Try.func32 (by kernel_rfl) rfl
theorem cl34 : Callable Try.prog 34 := callable Try.func34 (by kernel_rfl) rfl
theorem cl35 : Callable Try.prog 35 := callable Try.func35 (by kernel_rfl) rfl
theorem c_AlphaBack (v : Value) (ns : List Tri) (k o : Tri) (y : Int) {G : Ghost} (hs : SlL G v 3 triL (0, 0, 0) ns) (hy : 0 ≤ y ∧ y ≤ 255) (w : World) (hG : Has G w) :
  Calls Try.prog 6 #[Value.agg #[v, Value.int .i64 k.1, Value.int .i64 k.2.1, Value.int .i64 k.2.2, Value.int .i64 o.1, Value.int .i64 o.2.1, Value.int .i64 o.2.2, Value.int .u8 y]] w (Ret fun r w' => r = Value.bool true ∧ Since nX w w') := by
 refine enter (args := [_]) (X := nX) (G := G) (l := [(0, Value.agg #[v, Value.int .i64 k.1, Value.int .i64 k.2.1, Value.int .i64 k.2.2, Value.int .i64 o.1, Value.int .i64 o.2.1, Value.int .i64 o.2.2, Value.int .u8 y])]) Try.func6 rfl Try.ntmps6 hG ⟨rfl, trivial⟩ (Nat.le_of_ble_eq_true rfl) ?_
 refine c_seq ?_
 refine c_region ?_
 refine r_box .none rfl rfl (IsRow.lit _) (fun b_1 => ?_)
 refine r_val .none rfl (p_assign rfl) ?_
 refine r_nil ?_
 refine e_next ?_
 refine c_seq ?_
 refine c_region_d (fun _ => false) _ mixed (.keep (fun _ _ h => h) (.nil)) ?_
 refine d_val1 0 rfl rfl (by kernel_rfl) (fun _ _ => rfl) .none rfl (p_field Try.underlying73 rfl sz56 rfl) ?_
 refine d_val1 1 rfl rfl (by kernel_rfl) (fun _ _ => rfl) .none rfl (p_ld (k := 0) Try.underlying56 rfl rfl rfl (by first | exact of_decide_eq_true rfl | omega) rfl) ?_
 refine d_val1 2 rfl rfl (by kernel_rfl) (fun _ _ => rfl) .none rfl (p_field Try.underlying73 rfl sz61 rfl) ?_
 refine d_val1 3 rfl rfl (by kernel_rfl) (fun _ _ => rfl) .none rfl (p_lda (k := 0) Try.underlying61 rfl sz61 rfl rfl (by first | exact of_decide_eq_true rfl | omega) (rfl : _ = Value.agg #[_, _, _])) ?_
 refine d_val1 4 rfl rfl (by kernel_rfl) (fun _ _ => rfl) .none rfl (p_field Try.underlying73 rfl sz61 rfl) ?_
 refine d_val1 5 rfl rfl (by kernel_rfl) (fun _ _ => rfl) .none rfl (p_lda (k := 0) Try.underlying61 rfl sz61 rfl rfl (by first | exact of_decide_eq_true rfl | omega) (rfl : _ = Value.agg #[_, _, _])) ?_
 refine d_val1 6 rfl rfl (by kernel_rfl) (fun _ _ => rfl) .none rfl (p_field Try.underlying73 rfl sz5 rfl) ?_
 refine d_val1 7 rfl rfl (by kernel_rfl) (fun _ _ => rfl) .none rfl (p_ld (k := 0) Try.underlying5 rfl rfl rfl (by first | exact of_decide_eq_true rfl | omega) (rfl : _ = Value.int _ _)) ?_
 refine d_alloc2 8 9 rfl rfl rfl rfl rfl rfl (by kernel_rfl) (by kernel_rfl) (by kernel_rfl) (fun _ => .none) (fun _ => .none) rfl rfl zr61 (IsRow.lit _) zr61 (IsRow.lit _) (GLe.refl _) (.keep (fun _ _ h => h) (.nil)) (fun b_2 b_3 => ?_)
 refine d_val1 10 rfl rfl (by kernel_rfl) (fun _ _ => rfl) .none rfl (p_assign rfl) ?_
 refine d_eff 11 rfl (by kernel_rfl) (fun K_1 hKK_1 hcK_1 => ?_)
 refine r_stw (k := 1) .none sz61 rfl rfl (IsRow.lit _) (one_lit rfl rfl) rfl ?_
 refine r_nil (e_d (i := 11) (brk := (fun _ => false)) (ph' := true) hKK_1 hcK_1 rfl (fun _ => GLe.refl _) (fun _ => .drop (.drop (.keep (fun _ _ h => h) (.nil)))) ?_)
 clear hKK_1 hcK_1 K_1
 refine d_eff 12 rfl (by kernel_rfl) (fun K_2 hKK_2 hcK_2 => ?_)
 refine r_stw (k := 0) .none sz61 rfl rfl (IsRow.lit _) (one_lit rfl rfl) rfl ?_
 refine r_nil (e_d (i := 12) (brk := (fun _ => false)) (ph' := true) hKK_2 hcK_2 rfl (fun _ => GLe.refl _) (fun _ => .drop (.drop (.keep (fun _ _ h => h) (.nil)))) ?_)
 clear hKK_2 hcK_2 K_2
 refine d_val1 13 rfl rfl (by kernel_rfl) (fun _ _ => rfl) .none rfl (p_assign rfl) ?_
 refine d_nil (by kernel_rfl) ?_
 refine e_next ?_
 refine c_seq ?_
 refine c_region ?_
 refine r_callnew (vs := []) .none rfl cl24 rfl (fun w hw => c_snew w hw) (fun p_3 => ?_)
 refine r_val .none rfl (p_assign rfl) ?_
 refine r_nil ?_
 refine e_next ?_
 refine c_seq ?_
 refine c_seq ?_
 refine c_region ?_
 refine r_val .none rfl (p_move rfl) ?_
 refine r_val .none rfl (p_leng Try.underlying56 rfl hs) ?_
 have bd_4 := (hs).bound
 refine r_val .none rfl (p_gt rfl rfl) ?_
 refine r_val .none rfl (p_move rfl) ?_
 refine r_splitd (d := 30) rfl (fun h_5 => ?_) (fun h_5 => ?_)
 ·
  first
   | (exfalso; first | omega | assumption)
   | (
    refine r_skip rfl (.no rfl rfl) ?_
    refine r_skip rfl (.no rfl rfl) ?_
    refine r_val .none rfl (p_pick_t rfl rfl) ?_
    refine r_val .none rfl (p_move rfl) ?_
    refine r_skip rfl (.no rfl rfl) ?_
    refine r_skip rfl (.no rfl rfl) ?_
    refine r_skip rfl (.no rfl rfl) ?_
    refine r_val .none rfl (p_pick_t rfl rfl) ?_
    refine r_val .none rfl (p_move rfl) ?_
    refine r_skip rfl (.no rfl rfl) ?_
    refine r_skip rfl (.no rfl rfl) ?_
    refine r_skip rfl (.no rfl rfl) ?_
    refine r_val .none rfl (p_pick_t rfl rfl) ?_
    refine r_val .none rfl (p_move rfl) ?_
    refine r_skip rfl (.no rfl rfl) ?_
    refine r_skip rfl (.no rfl rfl) ?_
    refine r_skip rfl (.no rfl rfl) ?_
    refine r_val .none rfl (p_pick_t rfl rfl) ?_
    refine r_nil ?_
    refine e_next ?_
    refine c_cond_t rfl ?_
    refine c_seq ?_
    refine c_region ?_
    refine r_val .none rfl (p_move rfl) ?_
    refine r_val .none rfl (p_ne_ptr Try.underlying58 (by first | exact .inr rfl | exact .inl rfl) rfl rfl) ?_
    refine r_say (d := 50) (v := Value.bool true) rfl ?_
    refine r_val .none rfl (p_move rfl) ?_
    refine r_call (vs := []) (.some rfl rfl) rfl cl25 rfl (fun w hw => c_awake12 w) ?_
    refine r_val .none rfl (p_pick_t rfl rfl) ?_
    refine r_val .none rfl (p_assign rfl) ?_
    refine r_nil ?_
    refine e_next ?_
    refine c_ret ?_
    refine e_ret_then ?_
    refine e_ret1 Try.results6 (.tmp rfl .nil) (fun w hm => ⟨?_, hm.since⟩)
    first
    | rfl
    | (simp; done)
    )
 ·
  first
   | (exfalso; first | omega | assumption)
   | (
    refine r_val (.some rfl rfl) rfl (p_move rfl) ?_
    refine r_val (.some rfl rfl) rfl (p_eq_ptr Try.underlying58 (by first | exact .inr rfl | exact .inl rfl) rfl rfl) ?_
    refine r_say (d := 32) (v := Value.bool false) rfl ?_
    refine r_val .none rfl (p_pick_f rfl rfl) ?_
    refine r_val .none rfl (p_move rfl) ?_
    refine r_val (.some rfl rfl) rfl (p_ldw (k := 2) Try.underlying61 rfl sz61 rfl rfl (rfl : _ = Value.agg #[_, _, _])) ?_
    refine r_call (vs := [_]) (.some rfl rfl) rfl cl26 rfl (fun w hw => c_r7right k w) ?_
    refine r_val (.some rfl rfl) rfl (p_not rfl) ?_
    refine r_val .none rfl (p_pick_f rfl rfl) ?_
    refine r_val .none rfl (p_move rfl) ?_
    refine r_splitn (d := 39) rfl (fun h_6 => ?_) (fun h_6 => ?_)
    ·
     first
      | (exfalso; first | omega | assumption)
      | (
       refine r_skip rfl (.no rfl rfl) ?_
       refine r_skip rfl (.no rfl rfl) ?_
       refine r_skip rfl (.no rfl rfl) ?_
       refine r_val .none rfl (p_pick_t rfl rfl) ?_
       refine r_val .none rfl (p_move rfl) ?_
       refine r_skip rfl (.no rfl rfl) ?_
       refine r_skip rfl (.no rfl rfl) ?_
       refine r_skip rfl (.no rfl rfl) ?_
       refine r_val .none rfl (p_pick_t rfl rfl) ?_
       refine r_nil ?_
       refine e_next ?_
       refine c_cond_t rfl ?_
       refine c_seq ?_
       refine c_region ?_
       refine r_val .none rfl (p_move rfl) ?_
       refine r_val .none rfl (p_ne_ptr Try.underlying58 (by first | exact .inr rfl | exact .inl rfl) rfl rfl) ?_
       refine r_say (d := 50) (v := Value.bool true) rfl ?_
       refine r_val .none rfl (p_move rfl) ?_
       refine r_call (vs := []) (.some rfl rfl) rfl cl25 rfl (fun w hw => c_awake12 w) ?_
       refine r_val .none rfl (p_pick_t rfl rfl) ?_
       refine r_val .none rfl (p_assign rfl) ?_
       refine r_nil ?_
       refine e_next ?_
       refine c_ret ?_
       refine e_ret_then ?_
       refine e_ret1 Try.results6 (.tmp rfl .nil) (fun w hm => ⟨?_, hm.since⟩)
       first
       | rfl
       | (simp; done)
       )
    ·
     first
      | (exfalso; first | omega | assumption)
      | (
       refine r_val (.some rfl rfl) rfl (p_ldw (k := 1) Try.underlying61 rfl sz61 rfl rfl (rfl : _ = Value.agg #[_, _, _])) ?_
       refine r_call (vs := [_]) (.some rfl rfl) rfl cl26 rfl (fun w hw => c_r7right o w) ?_
       refine r_val (.some rfl rfl) rfl (p_not rfl) ?_
       refine r_val .none rfl (p_pick_f rfl rfl) ?_
       refine r_val .none rfl (p_move rfl) ?_
       refine r_splitn (d := 44) rfl (fun h_7 => ?_) (fun h_7 => ?_)
       ·
        first
         | (exfalso; first | omega | assumption)
         | (
          refine r_skip rfl (.no rfl rfl) ?_
          refine r_skip rfl (.no rfl rfl) ?_
          refine r_skip rfl (.no rfl rfl) ?_
          refine r_val .none rfl (p_pick_t rfl rfl) ?_
          refine r_nil ?_
          refine e_next ?_
          refine c_cond_t rfl ?_
          refine c_seq ?_
          refine c_region ?_
          refine r_val .none rfl (p_move rfl) ?_
          refine r_val .none rfl (p_ne_ptr Try.underlying58 (by first | exact .inr rfl | exact .inl rfl) rfl rfl) ?_
          refine r_say (d := 50) (v := Value.bool true) rfl ?_
          refine r_val .none rfl (p_move rfl) ?_
          refine r_call (vs := []) (.some rfl rfl) rfl cl25 rfl (fun w hw => c_awake12 w) ?_
          refine r_val .none rfl (p_pick_t rfl rfl) ?_
          refine r_val .none rfl (p_assign rfl) ?_
          refine r_nil ?_
          refine e_next ?_
          refine c_ret ?_
          refine e_ret_then ?_
          refine e_ret1 Try.results6 (.tmp rfl .nil) (fun w hm => ⟨?_, hm.since⟩)
          first
          | rfl
          | (simp; done)
          )
       ·
        first
         | (exfalso; first | omega | assumption)
         | (
          refine r_val (.some rfl rfl) rfl (p_ldw (k := 2) Try.underlying61 rfl sz61 rfl rfl (rfl : _ = Value.agg #[_, _, _])) ?_
          refine r_val (.some rfl rfl) rfl (p_ldw (k := 1) Try.underlying61 rfl sz61 rfl rfl (rfl : _ = Value.agg #[_, _, _])) ?_
          refine r_val (.some rfl rfl) rfl (p_eqa rfl rfl (eq_tri Try.underlying61 Try.underlying3 lf61 ef61 eg61 k o)) ?_
          refine r_val .none rfl (p_pick_f rfl rfl) ?_
          refine r_nil ?_
          refine e_next ?_
          refine c_split (d := 48) rfl (fun h_8 => ?_) (fun h_8 => ?_)
          ·
           first
            | (exfalso; first | omega | assumption)
            | (
             refine c_cond_t rfl ?_
             refine c_seq ?_
             refine c_region ?_
             refine r_val .none rfl (p_move rfl) ?_
             refine r_val .none rfl (p_ne_ptr Try.underlying58 (by first | exact .inr rfl | exact .inl rfl) rfl rfl) ?_
             refine r_say (d := 50) (v := Value.bool true) rfl ?_
             refine r_val .none rfl (p_move rfl) ?_
             refine r_call (vs := []) (.some rfl rfl) rfl cl25 rfl (fun w hw => c_awake12 w) ?_
             refine r_val .none rfl (p_pick_t rfl rfl) ?_
             refine r_val .none rfl (p_assign rfl) ?_
             refine r_nil ?_
             refine e_next ?_
             refine c_ret ?_
             refine e_ret_then ?_
             refine e_ret1 Try.results6 (.tmp rfl .nil) (fun w hm => ⟨?_, hm.since⟩)
             first
             | rfl
             | (simp; done)
             )
          ·
           have hok : ¬ o = k := fun e => by simp [e] at *
           first
            | (exfalso; first | omega | assumption)
            | (
             refine c_cond_f rfl ?_
             refine c_skip ?_
             refine e_next ?_
             refine c_seq ?_
             refine c_region ?_
             refine r_val .none rfl (p_move rfl) ?_
             refine r_val .none rfl (p_ldw (k := 1) Try.underlying61 rfl sz61 rfl rfl (rfl : _ = Value.agg #[_, _, _])) ?_
             refine r_callo (k := 0) (vs := [_, _, _]) .none rfl cl28 rfl rfl (fun w F hw hA hFG => c_swant _ o _ [] [] 0 [] (by simp [cnt, lkp]) (by decide) (SlG.nil _ _ _) (fun _ => rfl) w hw hA hFG) ?_
             refine r_nil ?_
             refine e_next ?_
             refine c_seq ?_
             refine c_seq ?_
             refine c_region ?_
             refine r_val .none rfl (p_move rfl) ?_
             refine r_val .none rfl (p_leng Try.underlying56 rfl hs) ?_
             have bd_9 := (hs).bound
             refine r_val .none rfl (p_move rfl) ?_
             refine r_nil ?_
             refine e_next ?_
             refine c_block ?_
             refine c_name (d := 4) rfl (fun u_10 hu_10 => ?_)
             refine c_name (d := 5) rfl (fun u_11 hu_11 => ?_)
             refine c_name (d := 6) rfl (fun u_12 hu_12 => ?_)
             refine c_name (d := 7) rfl (fun u_13 hu_13 => ?_)
             refine c_name (d := 57) rfl (fun u_14 hu_14 => ?_)
             refine c_name (d := 58) rfl (fun u_15 hu_15 => ?_)
             refine c_nameL (k := 1) rfl (fun A_16 hA_16 => ?_)
             refine c_nameL (k := 2) rfl (fun A_17 hA_17 => ?_)
             refine c_nameL (k := 3) rfl (fun A_18 hA_18 => ?_)
             refine c_loop (σ := Nat × SC) (fun s => [(59, Value.int .i64 (s.1 : Nat)), (4, u_10), (5, u_11), (6, u_12), (7, u_13), (57, u_14), (58, u_15)]) (fun s => [storeA p_3 (uK o k 0) 1 s.2, A_16, A_17, A_18]) (fun _ => _) (fun s => s.1 ≤ ns.length ∧ OneM o s.1 (8 * s.1) s.2) (fun s => ns.length - s.1) ((0, wantC [] o [] (cnt [] o))) ⟨Nat.zero_le _, OneM.start o⟩ rfl ⟨rfl, rfl, rfl, rfl, rfl, rfl, rfl, trivial⟩ (.keep (fun _ _ h => by rw [uK_start o k] at h; exact h) (.keep (fun _ _ h => h) (.keep (fun _ _ h => h) (.keep (fun _ _ h => h) (.nil))))) (fun s hphi => ?_)
             subst hu_10
             subst hu_11
             subst hu_12
             subst hu_13
             subst hu_14
             subst hu_15
             subst hA_16
             subst hA_17
             subst hA_18
             obtain ⟨j, c⟩ := s
             obtain ⟨hj, hone⟩ := hphi
             dsimp only at hj hone ⊢
             refine c_seq ?_
             refine c_region ?_
             refine r_val .none rfl (p_lt rfl rfl) ?_
             refine r_nil ?_
             refine e_next ?_
             refine c_seq ?_
             refine c_splitd (d := 60) rfl (fun h_19 => ?_) (fun h_19 => ?_)
             ·
              first
               | (exfalso; first | omega | assumption)
               | (
                refine c_cond_t rfl ?_
                refine c_skip ?_
                refine e_next ?_
                refine c_seq ?_
                refine c_block ?_
                refine c_seq ?_
                refine c_region ?_
                refine r_val .none rfl (p_move rfl) ?_
                refine r_iaddr_g .none rfl Try.underlying56 sz61 rfl hs rfl (by first | exact of_decide_eq_true rfl | omega) (fun p_21 o_22 R_20 => ?_)
                refine r_val .none rfl (p_ldga0 Try.underlying61 rfl sz61 rfl R_20 (by first | exact of_decide_eq_true rfl | omega) (rfl : _ = Value.agg #[_, _, _])) ?_
                refine r_alloc .none rfl zr61 (IsRow.lit _) (fun b_4 => ?_)
                refine r_val .none rfl (p_assign rfl) ?_
                refine r_stw (k := 0) .none sz61 rfl rfl (IsRow.lit _) (one_lit rfl rfl) rfl ?_
                refine r_nil ?_
                refine e_next ?_
                refine c_seq ?_
                refine c_seq ?_
                refine c_region ?_
                refine r_val .none rfl (p_ldw (k := 0) Try.underlying61 rfl sz61 rfl rfl (rfl : _ = Value.agg #[_, _, _])) ?_
                refine r_call (vs := [_]) .none rfl cl27 rfl (fun w hw => c_rtri (ns.getD j (0, 0, 0)) w) ?_
                refine r_val .none rfl (p_not rfl) ?_
                refine r_nil ?_
                refine e_next ?_
                refine c_splitn (d := 66) rfl (fun h_23 => ?_) (fun h_23 => ?_)
                ·
                 first
                  | (exfalso; first | omega | assumption)
                  | (
                   refine c_cond_t rfl ?_
                   refine c_seq ?_
                   refine c_region ?_
                   refine r_call (vs := []) .none rfl cl25 rfl (fun w hw => c_awake12 w) ?_
                   refine r_val .none rfl (p_assign rfl) ?_
                   refine r_nil ?_
                   refine e_next ?_
                   refine c_ret ?_
                   refine e_ret_then ?_
                   refine e_ret_block ?_
                   refine e_ret_then ?_
                   refine e_ret_then ?_
                   refine e_ret_block ?_
                   refine e_ret_then ?_
                   refine e_ret1 Try.results6 (.tmp rfl .nil) (fun w hm => ⟨?_, hm.since⟩)
                   first
                   | rfl
                   | (simp; done)
                   )
                ·
                 first
                  | (exfalso; first | omega | assumption)
                  | (
                   refine c_cond_f rfl ?_
                   refine c_skip ?_
                   refine e_next ?_
                   refine c_region ?_
                   refine r_val .none rfl (p_move rfl) ?_
                   refine r_val .none rfl (p_move rfl) ?_
                   refine r_val .none rfl (p_add rfl rfl (by omega)) ?_
                   refine r_val .none rfl (p_ldw (k := 0) Try.underlying61 rfl sz61 rfl rfl (rfl : _ = Value.agg #[_, _, _])) ?_
                   refine r_val .none rfl (p_build (vs := [(0, Value.int _ _), (1, Value.agg #[_, _, _])]) rfl (bl66_0i1_1a3 _ _ _ _)) ?_
                   refine r_front (k := 1) rfl ?_
                   refine r_callor (k := 0) (vs := [_, _]) .none rfl cl29 rfl rfl (fun w F hw hA hFG => c_sadd _ ((j : Int) + 1, (ns.getD j (0, 0, 0))) (uK o k 0) 1 c w hw hA hFG) (fun r_24 => ?_)
                   refine r_unpack ?_
                   refine r_nil ?_
                   refine e_norm_block ?_
                   refine e_next ?_
                   refine c_region ?_
                   refine r_val .none rfl (p_add rfl rfl (by omega)) ?_
                   refine r_val .none rfl (p_move rfl) ?_
                   refine r_nil ?_
                   refine e_round ((j + 1, (doneC putC (uK o k 0) c ((j : Int) + 1, (ns.getD j (0, 0, 0)))).2)) ⟨⟨by dsimp only; omega, by dsimp only; have h9 := hone.add (t := (ns.getD j (0, 0, 0))) k; rw [show 8 * (j + 1) = 8 * j + 8 by omega]; exact h9⟩, by dsimp only; omega⟩ rfl ⟨rfl, rfl, rfl, rfl, rfl, rfl, rfl, trivial⟩ (.drop (.keep (fun _ _ h => h) (.drop (.keep (fun _ _ h => h) (.keep (fun _ _ h => h) (.keep (fun _ _ h => h) (.nil)))))))
                   )
                )
             ·
              first
               | (exfalso; first | omega | assumption)
               | (
                refine c_cond_f rfl ?_
                refine c_exit ?_
                refine e_exit_then ?_
                refine e_exit_then ?_
                refine e_exit_block ?_
                refine e_next ?_
                refine c_seq ?_
                refine c_region ?_
                refine r_val .none rfl (p_move rfl) ?_
                refine r_val .none rfl (p_ldw (k := 1) Try.underlying61 rfl sz61 rfl rfl (rfl : _ = Value.agg #[_, _, _])) ?_
                refine r_callom (k := 0) (vs := [_, _]) .none rfl cl33 rfl rfl (fun w F hw hA hFG => c_sitems _ o _ _ _ (hone.wf (by omega) (by omega)) w hw hA hFG) (fun G_25 v_28 hn_26 hr_27 => ?_)
                have u_29 := hr_27
                refine r_val .none rfl (p_assign rfl) ?_
                refine r_nil ?_
                refine e_next ?_
                refine c_seq ?_
                refine c_region ?_
                refine r_val .none rfl (p_move rfl) ?_
                refine r_val .none rfl (p_conv Try.underlying5 Try.underlying3 rfl (IntWalk.i64_in _ (by omega))) ?_
                refine r_val .none rfl (p_rem rfl rfl (by omega)) ?_
                refine r_val .none rfl (p_add rfl rfl (by omega)) ?_
                refine r_val .none rfl (p_assign rfl) ?_
                refine r_nil ?_
                refine e_next ?_
                refine c_seq ?_
                refine c_seq ?_
                refine c_region ?_
                have hlk := hone.none hok
                obtain ⟨n, hn, hn1, hn9⟩ : ∃ n : Nat, 1 + y % 9 = (n : Int) ∧ 1 ≤ n ∧ n ≤ 9 := ⟨(1 + y % 9).toNat, by omega, by omega, by omega⟩
                rw [hn]
                refine r_val .none rfl (p_move rfl) ?_
                refine r_val .none rfl (p_move rfl) ?_
                refine r_nil ?_
                refine e_next ?_
                refine c_block ?_
                refine c_name (d := 4) rfl (fun u_30 hu_30 => ?_)
                refine c_name (d := 5) rfl (fun u_31 hu_31 => ?_)
                refine c_name (d := 7) rfl (fun u_32 hu_32 => ?_)
                refine c_name (d := 10) rfl (fun u_33 hu_33 => ?_)
                refine c_name (d := 11) rfl (fun u_34 hu_34 => ?_)
                refine c_name (d := 82) rfl (fun u_35 hu_35 => ?_)
                refine c_nameL (k := 1) rfl (fun A_36 hA_36 => ?_)
                refine c_nameL (k := 2) rfl (fun A_37 hA_37 => ?_)
                refine c_nameL (k := 3) rfl (fun A_38 hA_38 => ?_)
                refine c_loop (σ := Nat) (fun i => [(83, Value.int .i64 (i : Nat)), (4, u_30), (5, u_31), (7, u_32), (10, u_33), (11, u_34), (82, u_35)]) (fun i => [storeA p_3 (uK o k i) (1 + i) (cK c k i), A_36, A_37, A_38]) (fun _ => _) (fun i => i ≤ n) (fun i => n - i) (0) (Nat.zero_le _) rfl ⟨rfl, rfl, rfl, rfl, rfl, rfl, rfl, trivial⟩ (.keep (fun _ _ h => h) (.keep (fun _ _ h => h) (.keep (fun _ _ h => h) (.keep (fun _ _ h => h) (.nil))))) (fun i hphi => ?_)
                subst hu_30
                subst hu_31
                subst hu_32
                subst hu_33
                subst hu_34
                subst hu_35
                subst hA_36
                subst hA_37
                subst hA_38
                refine c_seq ?_
                refine c_region ?_
                refine r_val .none rfl (p_lt rfl rfl) ?_
                refine r_nil ?_
                refine e_next ?_
                refine c_seq ?_
                refine c_splitd (d := 84) rfl (fun h_39 => ?_) (fun h_39 => ?_)
                ·
                 first
                  | (exfalso; first | omega | assumption)
                  | (
                   refine c_cond_t rfl ?_
                   refine c_skip ?_
                   refine e_next ?_
                   refine c_seq ?_
                   refine c_block ?_
                   refine c_seq ?_
                   refine c_region ?_
                   refine r_val .none rfl (p_move rfl) ?_
                   refine r_val .none rfl (p_assign rfl) ?_
                   refine r_nil ?_
                   refine e_next ?_
                   refine c_seq ?_
                   refine c_region ?_
                   refine r_val .none rfl (p_move rfl) ?_
                   refine r_val .none rfl (p_ldw (k := 2) Try.underlying61 rfl sz61 rfl rfl (rfl : _ = Value.agg #[_, _, _])) ?_
                   refine r_callo (k := 0) (vs := [_, _, _]) .none rfl cl28 rfl rfl (fun w F hw hA hFG => c_swant _ k _ [] (uK o k i) (1 + i) (cK c k i) (by rw [uK_cnt hok]; omega) (by omega) (SlG.nil _ _ _) (fun h0 => (cK_lkp hlk i).2 (by rw [uK_cnt hok] at h0; omega)) w hw hA hFG) ?_
                   have hcn := uK_cnt hok i
                   have hl2 : (tAdd (uK o k i) k).length = 2 := by rw [uK_add hok, uK_len]; simp
                   refine r_val .none rfl (p_move rfl) ?_
                   refine r_val .none rfl (p_add rfl rfl (by omega)) ?_
                   refine r_val .none rfl (p_ne rfl rfl) ?_
                   refine r_val .none rfl (p_move rfl) ?_
                   refine r_splitd (d := 92) rfl (fun h_40 => ?_) (fun h_40 => ?_)
                   ·
                    first
                     | (exfalso; first | omega | assumption)
                     | (
                      refine r_skip rfl (.no rfl rfl) ?_
                      refine r_skip rfl (.no rfl rfl) ?_
                      refine r_skip rfl (.no rfl rfl) ?_
                      refine r_val .none rfl (p_pick_t rfl rfl) ?_
                      refine r_nil ?_
                      refine e_next ?_
                      refine c_cond_t rfl ?_
                      refine c_seq ?_
                      refine c_region ?_
                      refine r_val .none rfl (p_assign rfl) ?_
                      refine r_nil ?_
                      refine e_next ?_
                      refine c_ret ?_
                      refine e_ret_block ?_
                      refine e_ret_then ?_
                      refine e_ret_then ?_
                      refine e_ret_block ?_
                      refine e_ret_then ?_
                      refine e_ret1 Try.results6 (.tmp rfl .nil) (fun w hm => ⟨?_, hm.since⟩)
                      first
                      | rfl
                      | (simp; done)
                      )
                   ·
                    first
                     | (exfalso; first | omega | assumption)
                     | (
                      refine r_val (.some rfl rfl) rfl (p_move rfl) ?_
                      refine r_callo (k := 0) (vs := [_]) (.some rfl rfl) rfl cl34 rfl rfl (fun w F hw hA hFG => c_slen _ _ _ _ w hw hA hFG) ?_
                      refine r_val (.some rfl rfl) rfl (p_ne rfl rfl) ?_
                      refine r_val .none rfl (p_pick_f rfl rfl) ?_
                      refine r_nil ?_
                      refine e_next ?_
                      refine c_splitd (d := 96) rfl (fun h_41 => ?_) (fun h_41 => ?_)
                      ·
                       first
                        | (exfalso; first | omega | assumption)
                        | (
                         refine c_cond_t rfl ?_
                         refine c_seq ?_
                         refine c_region ?_
                         refine r_val .none rfl (p_assign rfl) ?_
                         refine r_nil ?_
                         refine e_next ?_
                         refine c_ret ?_
                         refine e_ret_block ?_
                         refine e_ret_then ?_
                         refine e_ret_then ?_
                         refine e_ret_block ?_
                         refine e_ret_then ?_
                         refine e_ret1 Try.results6 (.tmp rfl .nil) (fun w hm => ⟨?_, hm.since⟩)
                         first
                         | rfl
                         | (simp; done)
                         )
                      ·
                       first
                        | (exfalso; first | omega | assumption)
                        | (
                         refine c_cond_f rfl ?_
                         refine c_skip ?_
                         refine e_norm_block ?_
                         refine e_next ?_
                         refine c_region ?_
                         refine r_val .none rfl (p_add rfl rfl (by omega)) ?_
                         refine r_val .none rfl (p_move rfl) ?_
                         refine r_nil ?_
                         refine e_round (i + 1) ⟨by omega, by omega⟩ rfl ⟨rfl, rfl, rfl, rfl, rfl, rfl, rfl, trivial⟩ (.keep (fun _ _ h => by rw [uK_add hok, cK_want i (uK_cnt hok i)] at h; rw [show (1 : Int) + ((i + 1 : Nat) : Int) = 1 + i + 1 by omega]; exact h) (.keep (fun _ _ h => h) (.keep (fun _ _ h => h) (.keep (fun _ _ h => h) (.nil)))))
                         )
                      )
                   )
                ·
                 first
                  | (exfalso; first | omega | assumption)
                  | (
                   refine c_cond_f rfl ?_
                   refine c_exit ?_
                   refine e_exit_then ?_
                   refine e_exit_then ?_
                   refine e_exit_block ?_
                   refine e_next ?_
                   refine c_seq ?_
                   refine c_seq ?_
                   refine c_region ?_
                   refine r_val .none rfl (p_move rfl) ?_
                   refine r_val .none rfl (p_move rfl) ?_
                   refine r_nil ?_
                   refine e_next ?_
                   refine c_block ?_
                   refine c_name (d := 4) rfl (fun u_42 hu_42 => ?_)
                   refine c_name (d := 5) rfl (fun u_43 hu_43 => ?_)
                   refine c_name (d := 7) rfl (fun u_44 hu_44 => ?_)
                   refine c_name (d := 10) rfl (fun u_45 hu_45 => ?_)
                   refine c_name (d := 11) rfl (fun u_46 hu_46 => ?_)
                   refine c_name (d := 98) rfl (fun u_47 hu_47 => ?_)
                   refine c_nameL (k := 1) rfl (fun A_48 hA_48 => ?_)
                   refine c_nameL (k := 2) rfl (fun A_49 hA_49 => ?_)
                   refine c_nameL (k := 3) rfl (fun A_50 hA_50 => ?_)
                   refine c_loop (σ := Nat) (fun i => [(99, Value.int .i64 (i : Nat)), (4, u_42), (5, u_43), (7, u_44), (10, u_45), (11, u_46), (98, u_47)]) (fun i => [storeA p_3 (uK o k (n - i)) (1 + (n - i : Nat)) (cK c k (n - i)), A_48, A_49, A_50]) (fun _ => _) (fun i => i ≤ n) (fun i => n - i) (0) (Nat.zero_le _) rfl ⟨rfl, rfl, rfl, rfl, rfl, rfl, rfl, trivial⟩ (.keep (fun _ _ h => by have hin : i = n := (by omega); subst hin; simpa using h) (.keep (fun _ _ h => h) (.keep (fun _ _ h => h) (.keep (fun _ _ h => h) (.nil))))) (fun i hphi => ?_)
                   subst hu_42
                   subst hu_43
                   subst hu_44
                   subst hu_45
                   subst hu_46
                   subst hu_47
                   subst hA_48
                   subst hA_49
                   subst hA_50
                   have hcn := uK_cnt hok (n - i)
                   refine c_seq ?_
                   refine c_region ?_
                   refine r_val .none rfl (p_lt rfl rfl) ?_
                   refine r_nil ?_
                   refine e_next ?_
                   refine c_seq ?_
                   refine c_splitd (d := 100) rfl (fun h_51 => ?_) (fun h_51 => ?_)
                   ·
                    first
                     | (exfalso; first | omega | assumption)
                     | (
                      refine c_cond_t rfl ?_
                      refine c_skip ?_
                      refine e_next ?_
                      refine c_seq ?_
                      refine c_block ?_
                      refine c_seq ?_
                      refine c_region ?_
                      refine r_val .none rfl (p_move rfl) ?_
                      refine r_val .none rfl (p_assign rfl) ?_
                      refine r_nil ?_
                      refine e_next ?_
                      refine c_seq ?_
                      refine c_region ?_
                      refine r_val .none rfl (p_move rfl) ?_
                      refine r_val .none rfl (p_ldw (k := 2) Try.underlying61 rfl sz61 rfl rfl (rfl : _ = Value.agg #[_, _, _])) ?_
                      refine r_callo (k := 0) (vs := [_, _]) .none rfl cl35 rfl rfl (fun w F hw hA hFG => c_sdrop _ k (uK o k (n - i)) (1 + (n - i : Nat)) (cK c k (n - i)) (by rw [uK_cnt hok]; omega) (by omega) w hw hA hFG) ?_
                      rw [hcn, if_neg (by omega), if_neg (by omega)]
                      refine r_val .none rfl (p_move rfl) ?_
                      refine r_val .none rfl (p_extract rfl rfl) ?_
                      refine r_val .none rfl (p_extract rfl rfl) ?_
                      refine r_val .none rfl (p_assign rfl) ?_
                      refine r_val .none rfl (p_assign rfl) ?_
                      refine r_nil ?_
                      refine e_next ?_
                      refine c_seq ?_
                      refine c_region ?_
                      refine r_val .none rfl (p_move rfl) ?_
                      refine r_val .none rfl (p_move rfl) ?_
                      refine r_val .none rfl (p_sub rfl rfl (by omega)) ?_
                      refine r_val .none rfl (p_move rfl) ?_
                      refine r_val .none rfl (p_sub rfl rfl (by omega)) ?_
                      refine r_val .none rfl (p_ne rfl rfl) ?_
                      refine r_val .none rfl (p_move rfl) ?_
                      refine r_splitd (d := 114) rfl (fun h_52 => ?_) (fun h_52 => ?_)
                      ·
                       first
                        | (exfalso; first | omega | assumption)
                        | (
                         refine r_skip rfl (.no rfl rfl) ?_
                         refine r_skip rfl (.no rfl rfl) ?_
                         refine r_val .none rfl (p_pick_t rfl rfl) ?_
                         refine r_nil ?_
                         refine e_next ?_
                         refine c_cond_t rfl ?_
                         refine c_seq ?_
                         refine c_region ?_
                         refine r_val .none rfl (p_assign rfl) ?_
                         refine r_nil ?_
                         refine e_next ?_
                         refine c_ret ?_
                         refine e_ret_block ?_
                         refine e_ret_then ?_
                         refine e_ret_then ?_
                         refine e_ret_block ?_
                         refine e_ret_then ?_
                         refine e_ret1 Try.results6 (.tmp rfl .nil) (fun w hm => ⟨?_, hm.since⟩)
                         first
                         | rfl
                         | (simp; done)
                         )
                      ·
                       first
                        | (exfalso; first | omega | assumption)
                        | (
                         refine r_val (.some rfl rfl) rfl (p_move rfl) ?_
                         refine r_val (.some rfl rfl) rfl (p_ne rfl rfl) ?_
                         refine r_val .none rfl (p_pick_f rfl rfl) ?_
                         refine r_nil ?_
                         refine e_next ?_
                         refine c_splitd (d := 117) rfl (fun h_53 => ?_) (fun h_53 => ?_)
                         ·
                          have hx : False := by (have h9 := h_53; first | omega | (simp at h9; done))
                          first
                           | (exfalso; first | omega | assumption)
                           | (
                            refine c_cond_t rfl ?_
                            refine c_seq ?_
                            refine c_region ?_
                            refine r_val .none rfl (p_assign rfl) ?_
                            refine r_nil ?_
                            refine e_next ?_
                            refine c_ret ?_
                            refine e_ret_block ?_
                            refine e_ret_then ?_
                            refine e_ret_then ?_
                            refine e_ret_block ?_
                            refine e_ret_then ?_
                            refine e_ret1 Try.results6 (.tmp rfl .nil) (fun w hm => ⟨?_, hm.since⟩)
                            first
                            | rfl
                            | (simp; done)
                            )
                         ·
                          first
                           | (exfalso; first | omega | assumption)
                           | (
                            refine c_cond_f rfl ?_
                            refine c_skip ?_
                            refine e_norm_block ?_
                            refine e_next ?_
                            refine c_region ?_
                            refine r_val .none rfl (p_add rfl rfl (by omega)) ?_
                            refine r_val .none rfl (p_move rfl) ?_
                            refine r_nil ?_
                            refine e_round (i + 1) ⟨by omega, by omega⟩ rfl ⟨rfl, rfl, rfl, rfl, rfl, rfl, rfl, trivial⟩ (.keep (fun _ _ h => by have e1 : n - i = n - (i + 1) + 1 := (by omega); rw [e1] at h; rw [uK_drop hok, cK_drop hlk _ rfl, if_neg (by omega)] at h; rw [show (1 : Int) + ((n - (i + 1) : Nat) : Int) = 1 + ((n - (i + 1) + 1 : Nat) : Int) - 1 by omega]; exact h) (.keep (fun _ _ h => h) (.keep (fun _ _ h => h) (.keep (fun _ _ h => h) (.nil)))))
                            )
                         )
                      )
                   ·
                    first
                     | (exfalso; first | omega | assumption)
                     | (
                      refine c_cond_f rfl ?_
                      refine c_exit ?_
                      refine e_exit_then ?_
                      refine e_exit_then ?_
                      refine e_exit_block ?_
                      refine e_next ?_
                      refine c_seq ?_
                      refine c_region ?_
                      obtain rfl : i = n := by omega
                      rw [Nat.sub_self]
                      refine r_val .none rfl (p_move rfl) ?_
                      refine r_val .none rfl (p_ldw (k := 2) Try.underlying61 rfl sz61 rfl rfl (rfl : _ = Value.agg #[_, _, _])) ?_
                      refine r_callo (k := 0) (vs := [_, _]) .none rfl cl35 rfl rfl (fun w F hw hA hFG => c_sdrop _ k (uK o k 0) (1 + (0 : Nat)) (cK c k 0) (by rw [uK_cnt hok]; omega) (by omega) w hw hA hFG) ?_
                      have hl1 : (tDrop (uK o k 0) k).length = 1 := by rw [drop_zero (uK_cnt hok 0)]; rfl
                      have hdc : dropC (cK c k 0) k (cnt (uK o k 0) k) = c := by rw [uK_cnt hok]; rfl
                      have hc0 : cnt (uK o k 0) k = 0 := uK_cnt hok 0
                      rw [hdc, hc0]
                      repeat rw [if_pos (rfl : (0 : Int) = 0)]
                      refine r_val .none rfl (p_move rfl) ?_
                      refine r_val .none rfl (p_extract rfl rfl) ?_
                      refine r_val .none rfl (p_extract rfl rfl) ?_
                      refine r_val .none rfl (p_assign rfl) ?_
                      refine r_val .none rfl (p_assign rfl) ?_
                      refine r_nil ?_
                      refine e_next ?_
                      refine c_seq ?_
                      refine c_region ?_
                      refine r_val .none rfl (p_move rfl) ?_
                      refine r_val .none rfl (p_eq rfl rfl) ?_
                      refine r_val .none rfl (p_move rfl) ?_
                      refine r_splitd (d := 127) rfl (fun h_54 => ?_) (fun h_54 => ?_)
                      ·
                       first
                        | (exfalso; first | omega | assumption)
                        | (
                         refine r_val (.some rfl rfl) rfl (p_move rfl) ?_
                         refine r_callo (k := 0) (vs := [_]) (.some rfl rfl) rfl cl34 rfl rfl (fun w F hw hA hFG => c_slen _ _ _ _ w hw hA hFG) ?_
                         refine r_val (.some rfl rfl) rfl (p_eq rfl rfl) ?_
                         refine r_val .none rfl (p_pick_t rfl rfl) ?_
                         refine r_val .none rfl (p_move rfl) ?_
                         refine r_splitd (d := 132) rfl (fun h_55 => ?_) (fun h_55 => ?_)
                         ·
                          first
                           | (exfalso; first | omega | assumption)
                           | (
                            refine r_val (.some rfl rfl) rfl (p_move rfl) ?_
                            refine r_val (.some rfl rfl) rfl (p_ldw (k := 2) Try.underlying61 rfl sz61 rfl rfl (rfl : _ = Value.agg #[_, _, _])) ?_
                            refine r_callom (k := 0) (vs := [_, _]) (.some rfl rfl) rfl cl33 rfl rfl (fun w F hw hA hFG => c_sitems _ k _ _ _ (hwf_none hlk) w hw hA hFG) (fun G_56 v_59 hn_57 hr_58 => ?_)
                            replace u_29 := u_29.mono hn_57.le
                            have u_60 := hr_58
                            rw [items_none hlk] at u_60
                            refine r_val (.some rfl rfl) rfl (p_leng Try.underlying42 rfl u_60) ?_
                            have bd_61 := (u_60).bound
                            refine r_val (.some rfl rfl) rfl (p_eq rfl rfl) ?_
                            refine r_val .none rfl (p_pick_t rfl rfl) ?_
                            refine r_val .none rfl (p_move rfl) ?_
                            refine r_splitd (d := 139) rfl (fun h_62 => ?_) (fun h_62 => ?_)
                            ·
                             first
                              | (exfalso; first | omega | assumption)
                              | (
                               refine r_val (.some rfl rfl) rfl (p_move rfl) ?_
                               refine r_val (.some rfl rfl) rfl (p_ldw (k := 1) Try.underlying61 rfl sz61 rfl rfl (rfl : _ = Value.agg #[_, _, _])) ?_
                               refine r_callom (k := 0) (vs := [_, _]) (.some rfl rfl) rfl cl33 rfl rfl (fun w F hw hA hFG => c_sitems _ o _ _ _ (hone.wf (by omega) (by omega)) w hw hA hFG) (fun G_63 v_66 hn_64 hr_65 => ?_)
                               replace u_29 := u_29.mono hn_64.le
                               replace u_60 := u_60.mono hn_64.le
                               have u_67 := hr_65
                               refine r_val (.some rfl rfl) rfl (p_move rfl) ?_
                               refine r_call (vs := [_, _]) (.some rfl rfl) rfl cl32 rfl (fun w hw => c_ints12 _ _ _ _ u_67 u_29 w hw) ?_
                               refine r_val .none rfl (p_pick_t rfl rfl) ?_
                               refine r_val .none rfl (p_move rfl) ?_
                               refine r_split (d := 146) rfl (fun h_68 => ?_) (fun h_68 => ?_)
                               ·
                                first
                                 | (exfalso; first | omega | assumption)
                                 | (
                                  refine r_call (vs := []) (.some rfl rfl) rfl cl25 rfl (fun w hw => c_awake12 w) ?_
                                  refine r_val .none rfl (p_pick_t rfl rfl) ?_
                                  refine r_val .none rfl (p_assign rfl) ?_
                                  refine r_nil ?_
                                  refine e_next ?_
                                  refine c_ret ?_
                                  refine e_ret1 Try.results6 (.tmp rfl .nil) (fun w hm => ⟨?_, hm.since⟩)
                                  first
                                  | rfl
                                  | (simp; done)
                                  )
                               ·
                                have hx : False := by (have h9 := h_68; simp at h9)
                                first
                                 | (exfalso; first | omega | assumption)
                                 | (
                                  refine r_skip rfl (.no rfl rfl) ?_
                                  refine r_val .none rfl (p_pick_f rfl rfl) ?_
                                  refine r_val .none rfl (p_assign rfl) ?_
                                  refine r_nil ?_
                                  refine e_next ?_
                                  refine c_ret ?_
                                  refine e_ret1 Try.results6 (.tmp rfl .nil) (fun w hm => ⟨?_, hm.since⟩)
                                  first
                                  | rfl
                                  | (simp; done)
                                  )
                               )
                            ·
                             have hx : False := by (have h9 := h_62; simp at h9)
                             first
                              | (exfalso; first | omega | assumption)
                              | (
                               refine r_skip rfl (.no rfl rfl) ?_
                               refine r_skip rfl (.no rfl rfl) ?_
                               refine r_skip rfl (.no rfl rfl) ?_
                               refine r_skip rfl (.no rfl rfl) ?_
                               refine r_skip rfl (.no rfl rfl) ?_
                               refine r_val .none rfl (p_pick_f rfl rfl) ?_
                               refine r_val .none rfl (p_move rfl) ?_
                               refine r_skip rfl (.no rfl rfl) ?_
                               refine r_val .none rfl (p_pick_f rfl rfl) ?_
                               refine r_val .none rfl (p_assign rfl) ?_
                               refine r_nil ?_
                               refine e_next ?_
                               refine c_ret ?_
                               refine e_ret1 Try.results6 (.tmp rfl .nil) (fun w hm => ⟨?_, hm.since⟩)
                               first
                               | rfl
                               | (simp; done)
                               )
                            )
                         ·
                          first
                           | (exfalso; first | omega | assumption)
                           | (
                            refine r_skip rfl (.no rfl rfl) ?_
                            refine r_skip rfl (.no rfl rfl) ?_
                            refine r_skip rfl (.no rfl rfl) ?_
                            refine r_skip rfl (.no rfl rfl) ?_
                            refine r_skip rfl (.no rfl rfl) ?_
                            refine r_val .none rfl (p_pick_f rfl rfl) ?_
                            refine r_val .none rfl (p_move rfl) ?_
                            refine r_skip rfl (.no rfl rfl) ?_
                            refine r_skip rfl (.no rfl rfl) ?_
                            refine r_skip rfl (.no rfl rfl) ?_
                            refine r_skip rfl (.no rfl rfl) ?_
                            refine r_skip rfl (.no rfl rfl) ?_
                            refine r_val .none rfl (p_pick_f rfl rfl) ?_
                            refine r_val .none rfl (p_move rfl) ?_
                            refine r_skip rfl (.no rfl rfl) ?_
                            refine r_val .none rfl (p_pick_f rfl rfl) ?_
                            refine r_val .none rfl (p_assign rfl) ?_
                            refine r_nil ?_
                            refine e_next ?_
                            refine c_ret ?_
                            refine e_ret1 Try.results6 (.tmp rfl .nil) (fun w hm => ⟨?_, hm.since⟩)
                            first
                            | rfl
                            | (simp; done)
                            )
                         )
                      ·
                       first
                        | (exfalso; first | omega | assumption)
                        | (
                         refine r_skip rfl (.no rfl rfl) ?_
                         refine r_skip rfl (.no rfl rfl) ?_
                         refine r_skip rfl (.no rfl rfl) ?_
                         refine r_val .none rfl (p_pick_f rfl rfl) ?_
                         refine r_val .none rfl (p_move rfl) ?_
                         refine r_skip rfl (.no rfl rfl) ?_
                         refine r_skip rfl (.no rfl rfl) ?_
                         refine r_skip rfl (.no rfl rfl) ?_
                         refine r_skip rfl (.no rfl rfl) ?_
                         refine r_skip rfl (.no rfl rfl) ?_
                         refine r_val .none rfl (p_pick_f rfl rfl) ?_
                         refine r_val .none rfl (p_move rfl) ?_
                         refine r_skip rfl (.no rfl rfl) ?_
                         refine r_skip rfl (.no rfl rfl) ?_
                         refine r_skip rfl (.no rfl rfl) ?_
                         refine r_skip rfl (.no rfl rfl) ?_
                         refine r_skip rfl (.no rfl rfl) ?_
                         refine r_val .none rfl (p_pick_f rfl rfl) ?_
                         refine r_val .none rfl (p_move rfl) ?_
                         refine r_skip rfl (.no rfl rfl) ?_
                         refine r_val .none rfl (p_pick_f rfl rfl) ?_
                         refine r_val .none rfl (p_assign rfl) ?_
                         refine r_nil ?_
                         refine e_next ?_
                         refine c_ret ?_
                         refine e_ret1 Try.results6 (.tmp rfl .nil) (fun w hm => ⟨?_, hm.since⟩)
                         first
                         | rfl
                         | (simp; done)
                         )
                      )
                   )
                )
             )
          )
       )
    )
end Go.Proofs.Ytdcaehepmkhciaa

/- Walks: what Go functions of this chapter come to, each as a function on plain data; no condition but those that each theorem names. Printed by a program of this work (gen.py). -/
namespace Go.Proofs.Ytdcaehepmkhciaa
open Go.Gx Go.Gx Go.Gx.T10 Go.Gx.T12 Go.Gx.T10 Go.Gx.T11
theorem open_back_l : leafT Try.prog 10 73 = some [56, 3, 3, 3, 3, 3, 3, 5] := by kernel_rfl
theorem open_tri_l : leafT Try.prog 9 61 = some [3, 3, 3] := by kernel_rfl
set_option maxRecDepth 100000 in
theorem open_back {H : Type} {enc : TypeId × Value → H} {W : World} {base : Nat} {sp : Nat → Bool} {held : Bool} {r : Reach} {b0 : Nat} {v : Value} {y : DataW H} {ps : List MemPlace} (hv : Value.okWide Try.prog W r b0 73 v) (h : DataW.Trod enc Try.prog W base sp held 73 v y ps) :
  ∃ (va : Value) (ns : List Tri) (k o : Tri) (yy : Int), v = Value.agg #[va, Value.int .i64 k.1, Value.int .i64 k.2.1, Value.int .i64 k.2.2, Value.int .i64 o.1, Value.int .i64 o.2.1, Value.int .i64 o.2.2, Value.int .u8 yy] ∧ SlL (GW W) va 3 triL (0, 0, 0) ns ∧ (0 ≤ yy ∧ yy ≤ 255) := by
 obtain ⟨cs, rfl⟩ := agg_of_wide Try.underlying73 rfl hv
 obtain ⟨fuel, hf⟩ := h
 obtain ⟨n', _, hl⟩ := leavesB_struct 9 Try.underlying73 open_back_l hf
 obtain ⟨x0, r0, e0, f0, g0⟩ := hl.inv
 obtain ⟨x1, r1, e1, f1, g1⟩ := g0.inv
 obtain ⟨a1, rfl, _⟩ := f1.leaf.int Try.underlying3
 obtain ⟨x2, r2, e2, f2, g2⟩ := g1.inv
 obtain ⟨a2, rfl, _⟩ := f2.leaf.int Try.underlying3
 obtain ⟨x3, r3, e3, f3, g3⟩ := g2.inv
 obtain ⟨a3, rfl, _⟩ := f3.leaf.int Try.underlying3
 obtain ⟨x4, r4, e4, f4, g4⟩ := g3.inv
 obtain ⟨a4, rfl, _⟩ := f4.leaf.int Try.underlying3
 obtain ⟨x5, r5, e5, f5, g5⟩ := g4.inv
 obtain ⟨a5, rfl, _⟩ := f5.leaf.int Try.underlying3
 obtain ⟨x6, r6, e6, f6, g6⟩ := g5.inv
 obtain ⟨a6, rfl, _⟩ := f6.leaf.int Try.underlying3
 obtain ⟨x7, r7, e7, f7, g7⟩ := g6.inv
 obtain ⟨a7, rfl, w7⟩ := f7.leaf.int Try.underlying5
 have z := g7.inv0
 obtain ⟨ns, h1, _⟩ := open_slB (cells := triL) (Qa := fun _ => True) (0, 0, 0) Try.underlying56 (show Program.cellsOf Try.prog 61 = 3 by kernel_rfl) (by decide) (fun m cs' y hm hy => by obtain ⟨a, b, c, e⟩ := trod_tri Try.underlying3 open_tri_l hy; exact ⟨(a, b, c), e, trivial⟩) f0
 have : cs = #[x0, .int .i64 a1, .int .i64 a2, .int .i64 a3, .int .i64 a4, .int .i64 a5, .int .i64 a6, .int .u8 a7] := by apply Array.ext'; exact e0.trans (by rw [e1, e2, e3, e4, e5, e6, e7, z])
 exact ⟨x0, ns, (a1, a2, a3), (a4, a5, a6), a7, by rw [this], h1, wf_u8 w7⟩
end Go.Proofs.Ytdcaehepmkhciaa
