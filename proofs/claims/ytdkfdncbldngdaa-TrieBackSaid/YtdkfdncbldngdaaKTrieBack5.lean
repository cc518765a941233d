/- Texts of this work, laid together: a logic of steps, plain laws, and walks of Go functions, each without a condition but those that its theorems name. -/
import Derived.Test.YtdkfdncbldngdaaKTrieBack4
import Derived.Test.YtdkfdncbldngdaaRows
/- Walks: what Go functions of this chapter come to, each as a function on plain data; no condition but those that each theorem names. Printed by a program of this work (gen.py). -/
namespace Go.Proofs.Ytdkfdncbldngdaa
open Go.Gx Go.Gx.T16 Go.Gx.T8 Go.Gx.T6 Go.Gx.T4 Go.Gx.T3 Go.Gx.T4 Go.Gx.T3 Go.Gx.T6 Go.Gx.T8 Go.Gx.T4 Go.Gx.T3 Go.Gx.T8 Go.Gx.T4 Go.Gx.T3 Go.Gx.T8 Go.Gx.T6 Go.Gx.T4 Go.Gx.T3
theorem cl7 : Callable Try.prog 7 := callable Try.func7 (by kernel_rfl) rfl
theorem cl12 : Callable Try.prog 12 := callable Try.func12 (by kernel_rfl) rfl
theorem cl15 : Callable Try.prog 15 := callable Try.func15 (by kernel_rfl) rfl
theorem cl22 : Callable Try.prog 22 := callable Try.func22 (by kernel_rfl) rfl
theorem cl23 : Callable Try.prog 23 := callable Try.func23 (by kernel_rfl) rfl
theorem bl50_0i1 (x0 : Int) : Program.built Try.prog 50 [(0, Value.int .i64 x0)] = some #[Value.int .i64 x0, Value.int .i64 0, Value.int .i64 0, Value.int .i64 0, Value.slice none 0 0, Value.slice none 0 0] := by
 kernel_rfl
theorem bl47_0i1_1i1_2i1 (x0 : Int) (x1 : Int) (x2 : Int) : Program.built Try.prog 47 [(0, Value.int .i64 x0), (1, Value.int .i64 x1), (2, Value.int .i64 x2)] = some #[Value.int .i64 x0, Value.int .i64 x1, Value.int .i64 x2] := by
 kernel_rfl
theorem bl50_0i1_1a3 (x0 : Int) (x1 : Value) (x2 : Value) (x3 : Value) : Program.built Try.prog 50 [(0, Value.int .i64 x0), (1, Value.agg #[x1, x2, x3])] = some #[Value.int .i64 x0, x1, x2, x3, Value.slice none 0 0, Value.slice none 0 0] := by
 kernel_rfl
theorem bs3_20i2_1i2 (a0 : IntKind) (a1 : Int) (a2 : IntKind) (a3 : Int) : Instr.fill (fun i => some (i * 1, 1)) ((Array.range (2 * 1)).map ((Value.int .i64 0).cells[· % (Value.int .i64 0).cells.size]!)) [(0, Value.int a0 a1), (1, Value.int a2 a3)] = some #[Value.int a0 a1, Value.int a2 a3] := by
 kernel_rfl
theorem bs50_20a6_1a6 (a0 a1 a2 a3 a4 a5 : Value) (a6 a7 a8 a9 a10 a11 : Value) : Instr.fill (fun i => some (i * 6, 6)) ((Array.range (2 * 6)).map ((Value.agg #[Value.int .i64 0, Value.int .i64 0, Value.int .i64 0, Value.int .i64 0, Value.slice none 0 0, Value.slice none 0 0]).cells[· % (Value.agg #[Value.int .i64 0, Value.int .i64 0, Value.int .i64 0, Value.int .i64 0, Value.slice none 0 0, Value.slice none 0 0]).cells.size]!)) [(0, Value.agg #[a0, a1, a2, a3, a4, a5]), (1, Value.agg #[a6, a7, a8, a9, a10, a11])] = some #[a0, a1, a2, a3, a4, a5, a6, a7, a8, a9, a10, a11] := by
 kernel_rfl
abbrev lAB : List ST := [.mk ⟨1, 0, 0, 0, []⟩ [], .mk ⟨1, 1, 0, 0, []⟩ []]
abbrev lAC : List ST := [.mk ⟨1, 0, 0, 0, []⟩ [], .mk ⟨2, 0, 0, 0, []⟩ []]
abbrev rA1 : RT := addR R0 lAB
abbrev rA2 : RT := addR rA1 lAC
theorem c_ints15 (v v2 : Value) (a b : List Int) {G : Ghost} (hs : SlL G v 1 cI (0 : Int) a) (hs2 : SlL G v2 1 cI (0 : Int) b) (w : World) (hG : Has G w) :
    Calls Try.prog 23 #[v, v2] w (Ret fun r w' => r = Value.bool (decide (a = b)) ∧ Since nX w w') := by
 refine enter (args := [_, _]) (X := nX) (G := G) (l := [(0, v), (1, v2)]) Try.func23 rfl Try.ntmps23 hG ⟨rfl, rfl, trivial⟩ (Nat.le_of_ble_eq_true rfl) ?_
 refine c_seq (c_region (r_val .none rfl (p_assign rfl) (r_nil (e_next ?_))))
 refine c_seq (c_seq (c_region (r_val .none rfl (p_move rfl) ?_)))
 refine r_val .none rfl (p_leng Try.underlying33 rfl hs) ?_
 have bd_1 := (hs).bound
 refine r_val .none rfl (p_move rfl) ?_
 refine r_val .none rfl (p_leng Try.underlying33 rfl hs2) ?_
 have bd_2 := (hs2).bound
 refine r_val .none rfl (p_ne rfl rfl) ?_
 refine r_nil (e_next ?_)
 refine c_splitd (d := 10) rfl (fun h_3 => ?_) (fun h_3 => ?_)
 · (
 have hL := h_3
 first
 | (exfalso; omega)
 | (
 refine c_cond_t rfl (c_seq (c_region (r_val .none rfl (p_assign rfl) (r_nil ?_))))
 refine e_next ?_
 refine c_ret ?_
 refine e_ret_then ?_
 refine e_ret1 Try.results23 (.tmp rfl .nil) (fun w hm => ⟨?_, hm.since⟩)
 first
 | (rw [decide_eq_false (fun e => hL (by rw [e]))]; done)
 | (rw [decide_eq_false (fun e => hF (by rw [e]))]; done)
 | (rw [decide_eq_true (ints_eq (by omega) (fun i hi => hphi.2 i (by omega)))]; done)))
 · (
 have hL := Decidable.not_not.1 h_3
 first
 | (exfalso; omega)
 | (
 refine c_cond_f rfl (c_skip (e_next (c_seq (c_seq ?_))))
 refine c_region (r_val .none rfl (p_move rfl) ?_)
 refine r_val .none rfl (p_leng Try.underlying33 rfl hs) ?_
 have bd_4 := (hs).bound
 refine r_val .none rfl (p_move rfl) (r_nil (e_next (c_block ?_)))
 refine c_name (d := 0) rfl (fun u_5 hu_5 => ?_)
 refine c_name (d := 1) rfl (fun u_6 hu_6 => ?_)
 refine c_name (d := 12) rfl (fun u_7 hu_7 => ?_)
 refine c_loop (σ := Nat) (fun k => [(13, Value.int .i64 (k : Nat)), (0, u_5), (1, u_6), (12, u_7)]) (fun k => []) (fun _ => _) (fun k => k ≤ a.length ∧ ∀ i, i < k → a.getD i 0 = b.getD i 0) (fun k => a.length - k) (0) ⟨Nat.zero_le _, fun i h => absurd h (Nat.not_lt_zero _)⟩ rfl ⟨rfl, rfl, rfl, rfl, trivial⟩ (.nil) (fun k hphi => ?_)
 subst hu_5
 subst hu_6
 subst hu_7
 refine c_seq (c_region ?_)
 refine r_val .none rfl (p_lt rfl rfl) ?_
 refine r_nil (e_next (c_seq ?_))
 refine c_splitd (d := 14) rfl (fun h_8 => ?_) (fun h_8 => ?_)
 · (
 first
 | (exfalso; omega)
 | (
 refine c_cond_t rfl (c_skip (e_next (c_seq (c_block ?_))))
 refine c_seq (c_region (r_val .none rfl (p_move rfl) (r_val .none rfl (p_assign rfl) (r_nil ?_))))
 refine e_next (c_seq ?_)
 refine c_region_q mixed (by kernel_rfl) ?_
 refine q_val .none rfl (p_move rfl) ?_
 refine q_val .none rfl (p_move rfl) ?_
 refine q_iaddr_g .none rfl Try.underlying33 sz3 rfl hs rfl (by first | exact odt rfl | omega) (fun p_10 o_11 R_9 => ?_)
 refine q_val .none rfl (p_ldg0 Try.underlying3 rfl rfl R_9 (by first | exact odt rfl | omega) (rfl : _ = Value.int _ _)) ?_
 refine q_val .none rfl (p_move rfl) ?_
 refine q_val .none rfl (p_move rfl) ?_
 refine q_iaddr_g .none rfl Try.underlying33 sz3 rfl hs2 rfl (by first | exact odt rfl | omega) (fun p_13 o_14 R_12 => ?_)
 refine q_val .none rfl (p_ldg0 Try.underlying3 rfl rfl R_12 (by first | exact odt rfl | omega) (rfl : _ = Value.int _ _)) ?_
 refine q_val .none rfl (p_ne rfl rfl) ?_
 refine q_nil ?_
 refine e_next ?_
 refine c_splitd (d := 24) rfl (fun h_15 => ?_) (fun h_15 => ?_)
 · (
 have hF := h_15
 first
 | (exfalso; omega)
 | (
 refine c_cond_t rfl (c_seq (c_region (r_val .none rfl (p_assign rfl) (r_nil ?_))))
 refine e_next ?_
 refine c_ret ?_
 refine e_ret_block ?_
 refine e_ret_then ?_
 refine e_ret_then ?_
 refine e_ret_block ?_
 refine e_ret_then ?_
 refine e_ret1 Try.results23 (.tmp rfl .nil) (fun w hm => ⟨?_, hm.since⟩)
 first
 | (rw [decide_eq_false (fun e => hL (by rw [e]))]; done)
 | (rw [decide_eq_false (fun e => hF (by rw [e]))]; done)
 | (rw [decide_eq_true (ints_eq (by omega) (fun i hi => hphi.2 i (by omega)))]; done)))
 · (
 have hF := Decidable.not_not.1 h_15
 first
 | (exfalso; omega)
 | (
 refine c_cond_f rfl (c_skip ?_)
 refine e_norm_block ?_
 refine e_next (c_region ?_)
 refine r_val .none rfl (p_add rfl rfl (by omega)) ?_
 refine r_val .none rfl (p_move rfl) (r_nil ?_)
 refine e_round (k + 1) ⟨⟨by omega, fun i hi => by by_cases e : i = k; (subst e; exact hF); exact hphi.2 i (by omega)⟩, by omega⟩ rfl ⟨rfl, rfl, rfl, rfl, trivial⟩ (.nil)))))
 · (
 first
 | (exfalso; omega)
 | (
 refine c_cond_f rfl (c_exit (e_exit_then (e_exit_then ?_)))
 refine e_exit_block ?_
 refine e_next (c_seq (c_region (r_val .none rfl (p_assign rfl) (r_nil ?_))))
 refine e_next ?_
 refine c_ret ?_
 refine e_ret1 Try.results23 (.tmp rfl .nil) (fun w hm => ⟨?_, hm.since⟩)
 first
 | (rw [decide_eq_false (fun e => hL (by rw [e]))]; done)
 | (rw [decide_eq_false (fun e => hF (by rw [e]))]; done)
 | (rw [decide_eq_true (ints_eq (by omega) (fun i hi => hphi.2 i (by omega)))]; done)))))
set_option maxHeartbeats 2000000 in
theorem c_awake16   (w : World)  :
    Calls Try.prog 8 #[] w (Ret fun r w' => r = Value.bool true ∧ Since nX w w') := by
 refine enter (args := []) (X := nX) (G := (fun _ => none)) (l := []) Try.func8 rfl Try.ntmps8 (fun _ _ h => by cases h) trivial (Nat.le_of_ble_eq_true rfl) ?_
 refine c_seq (c_region (r_val .none rfl (p_assign rfl) (r_nil (e_next ?_))))
 refine c_seq (c_region ?_)
 refine r_val .none rfl (p_build (vs := [(0, Value.int _ _)]) rfl (bl50_0i1 _)) ?_
 refine r_val .none rfl (p_build (vs := [(0, Value.int _ _), (1, Value.int _ _), (2, Value.int _ _)]) rfl (bl47_0i1_1i1_2i1 _ _ _)) ?_
 refine r_val .none rfl (p_build (vs := [(0, Value.int _ _), (1, Value.agg #[_, _, _])]) rfl (bl50_0i1_1a3 _ _ _ _)) ?_
 refine r_val .none rfl (p_build (vs := [(0, Value.int _ _)]) rfl (bl50_0i1 _)) ?_
 refine r_alloc .none rfl zr50 (IsRow.lit _) (fun b_1 => ?_)
 refine r_alloc .none rfl zr50 (IsRow.lit _) (fun b_2 => ?_)
 refine r_alloc .none rfl zr50 (IsRow.lit _) (fun b_3 => ?_)
 refine r_stw (k := 2) .none sz50 rfl rfl (IsRow.lit _) (one_lit rfl rfl) rfl ?_
 refine r_stw (k := 1) .none sz50 rfl rfl (IsRow.lit _) (one_lit rfl rfl) rfl ?_
 refine r_stw (k := 0) .none sz50 rfl rfl (IsRow.lit _) (one_lit rfl rfl) rfl ?_
 refine r_nil (e_next (c_seq (c_region ?_)))
 refine r_callnew (vs := []) .none rfl cl7 rfl (fun w hw => c_knew w hw) (fun p_1 => ?_)
 refine r_val .none rfl (p_assign rfl) (r_nil (e_next (c_seq (c_seq ?_))))
 refine c_region (r_val .none rfl (p_move rfl) ?_)
 refine r_val .none rfl (p_eq_ptr Try.underlying23 (by first | exact .inr rfl | exact .inl rfl) rfl rfl) ?_
 refine r_say (d := 15) (v := Value.bool false) rfl ?_
 refine r_nil (e_next (c_cond_f rfl (c_skip (e_next ?_))))
 refine c_seq ?_
 refine c_region_d (fun _ => false) _ mixed (.drop (.keep (fun _ _ h => h) (.keep (fun _ _ h => h) (.keep (fun _ _ h => h) (.nil))))) ?_
 refine d_val1 0 rfl rfl (by kernel_rfl) (fun _ _ => rfl) .none rfl (p_move rfl) ?_
 refine d_val1 1 rfl rfl (by kernel_rfl) (fun _ _ => rfl) .none rfl (p_ldw (k := 2) Try.underlying50 rfl sz50 rfl rfl (rfl : _ = Value.agg #[_, _, _, _, _, _])) ?_
 refine d_val1 2 rfl rfl (by kernel_rfl) (fun _ _ => rfl) .none rfl (p_ldw (k := 1) Try.underlying50 rfl sz50 rfl rfl (rfl : _ = Value.agg #[_, _, _, _, _, _])) ?_
 refine d_val1 5 rfl rfl (by kernel_rfl) (fun _ _ => rfl) .none rfl (p_move rfl) ?_
 refine d_val1 6 rfl rfl (by kernel_rfl) (fun _ _ => rfl) .none rfl (p_ldw (k := 2) Try.underlying50 rfl sz50 rfl rfl (rfl : _ = Value.agg #[_, _, _, _, _, _])) ?_
 refine d_val1 7 rfl rfl (by kernel_rfl) (fun _ _ => rfl) .none rfl (p_ldw (k := 0) Try.underlying50 rfl sz50 rfl rfl (rfl : _ = Value.agg #[_, _, _, _, _, _])) ?_
 refine d_eff2 3 8 rfl rfl (by kernel_rfl) (fun K_2 hKK_2 hcK_2 => ?_) (fun K_2 hKK_2 hcK_2 => ?_)
 · (
 refine r_bslice (vs := [(0, Value.agg #[_, _, _, _, _, _]), (1, Value.agg #[_, _, _, _, _, _])]) (c := #[_, _, _, _, _, _, _, _, _, _, _, _]) .none rfl Try.underlying35 el50 rfl rfl rfl (bs50_20a6_1a6 _ _ _ _ _ _ _ _ _ _ _ _) (IsRow.lit _) (fun b_4 => ?_)
 refine r_freezeB (k := 0) 2 6 rfl rfl (by decide) (fun G_3 hn_4 hs_5 => ?_)
 have h19 : SlL G_3 (Value.slice (some ⟨b_4, 0, none⟩) 2 2) 6 sC s0 [((.mk ⟨1, 0, 0, 0, []⟩ []), Value.slice none 0 0, Value.slice none 0 0), ((.mk ⟨1, 1, 0, 0, []⟩ []), Value.slice none 0 0, Value.slice none 0 0)] := SlG.congr hs_5 (fun i hi j hj => by match i, hi with | 0, _ => (match j, hj with | 0, _ => rfl | 1, _ => rfl | 2, _ => rfl | 3, _ => rfl | 4, _ => rfl | 5, _ => rfl) | 1, _ => (match j, hj with | 0, _ => rfl | 1, _ => rfl | 2, _ => rfl | 3, _ => rfl | 4, _ => rfl | 5, _ => rfl))
 have th19 : Ss G_3 (Value.slice (some ⟨b_4, 0, none⟩) 2 2) (lAB) := Ss.mk _ h19 (by intro p hm0; simp only [List.mem_cons, List.not_mem_nil, or_false] at hm0; rcases hm0 with rfl | rfl; exact SlG.nil _ _ _; exact SlG.nil _ _ _) (by intro p hm0; simp only [List.mem_cons, List.not_mem_nil, or_false] at hm0; rcases hm0 with rfl | rfl; exact Ss.nil; exact Ss.nil)
 refine r_nil (e_d (i := 3) (brk := (fun _ => false)) (ph' := true) hKK_2 hcK_2 rfl (fun _ => hn_4.le) (fun _ => .drop (.keep (fun _ _ h => h) (.keep (fun _ _ h => h) (.keep (fun _ _ h => h) (.nil))))) ?_)
 clear hKK_2 hcK_2 K_2
 refine d_eff2 4 8 rfl rfl (by kernel_rfl) (fun K_6 hKK_6 hcK_6 => ?_) (fun K_6 hKK_6 hcK_6 => ?_)
 · (
 refine r_callox (k := 0) (vs := [_, _]) .none rfl cl12 rfl rfl (fun w F hw hA hFG => c_kadd _ _ (lAB) (R0) _ new_TI new_StS th19 (by decide) (by decide) w hw hA hFG) (fun G_7 v_10 z_12 hn_8 hr_9 => ?_)
 replace h19 := h19.mono hn_8.le
 replace th19 := th19.mono hn_8.le
 obtain ⟨hi1, hti1, hst1⟩ := hr_9
 refine r_nil (e_d (i := 4) (brk := (fun _ => false)) (ph' := true) hKK_6 hcK_6 rfl (fun _ => (hn_4.trans hn_8).le) (fun _ => .drop (.keep (fun _ _ h => h) (.keep (fun _ _ h => h) (.keep (fun _ _ h => h) (.nil))))) ?_)
 clear hKK_6 hcK_6 K_6
 refine d_eff 8 rfl (by kernel_rfl) (fun K_13 hKK_13 hcK_13 => ?_)
 refine r_bslice (vs := [(0, Value.agg #[_, _, _, _, _, _]), (1, Value.agg #[_, _, _, _, _, _])]) (c := #[_, _, _, _, _, _, _, _, _, _, _, _]) .none rfl Try.underlying35 el50 rfl rfl rfl (bs50_20a6_1a6 _ _ _ _ _ _ _ _ _ _ _ _) (IsRow.lit _) (fun b_5 => ?_)
 refine r_freezeB (k := 0) 2 6 rfl rfl (by decide) (fun G_14 hn_15 hs_16 => ?_)
 replace h19 := h19.mono hn_15.le
 replace th19 := th19.mono hn_15.le
 replace hi1 := hi1.mono hn_15.le
 replace hst1 := hst1.mono hn_15.le
 have h24 : SlL G_14 (Value.slice (some ⟨b_5, 0, none⟩) 2 2) 6 sC s0 [((.mk ⟨1, 0, 0, 0, []⟩ []), Value.slice none 0 0, Value.slice none 0 0), ((.mk ⟨2, 0, 0, 0, []⟩ []), Value.slice none 0 0, Value.slice none 0 0)] := SlG.congr hs_16 (fun i hi j hj => by match i, hi with | 0, _ => (match j, hj with | 0, _ => rfl | 1, _ => rfl | 2, _ => rfl | 3, _ => rfl | 4, _ => rfl | 5, _ => rfl) | 1, _ => (match j, hj with | 0, _ => rfl | 1, _ => rfl | 2, _ => rfl | 3, _ => rfl | 4, _ => rfl | 5, _ => rfl))
 have th24 : Ss G_14 (Value.slice (some ⟨b_5, 0, none⟩) 2 2) (lAC) := Ss.mk _ h24 (by intro p hm0; simp only [List.mem_cons, List.not_mem_nil, or_false] at hm0; rcases hm0 with rfl | rfl; exact SlG.nil _ _ _; exact SlG.nil _ _ _) (by intro p hm0; simp only [List.mem_cons, List.not_mem_nil, or_false] at hm0; rcases hm0 with rfl | rfl; exact Ss.nil; exact Ss.nil)
 refine r_nil (e_d (i := 8) (brk := (fun _ => false)) (ph' := true) hKK_13 hcK_13 rfl (fun _ => ((hn_4.trans hn_8).trans hn_15).le) (fun _ => .drop (.keep (fun _ _ h => h) (.keep (fun _ _ h => h) (.keep (fun _ _ h => h) (.nil))))) ?_)
 clear hKK_13 hcK_13 K_13
 refine d_eff 9 rfl (by kernel_rfl) (fun K_17 hKK_17 hcK_17 => ?_)
 refine r_callox (k := 0) (vs := [_, _]) .none rfl cl12 rfl rfl (fun w F hw hA hFG => c_kadd _ _ (lAC) (rA1) _ hti1 hst1 th24 (by decide) (by decide +kernel) w hw hA hFG) (fun G_18 v_21 z_23 hn_19 hr_20 => ?_)
 replace h19 := h19.mono hn_19.le
 replace th19 := th19.mono hn_19.le
 replace hi1 := hi1.mono hn_19.le
 replace hst1 := hst1.mono hn_19.le
 replace h24 := h24.mono hn_19.le
 replace th24 := th24.mono hn_19.le
 obtain ⟨hi2, hti2, hst2⟩ := hr_20
 refine r_nil (e_d (i := 9) (brk := (fun _ => false)) (ph' := true) hKK_17 hcK_17 rfl (fun _ => (((hn_4.trans hn_8).trans hn_15).trans hn_19).le) (fun _ => .drop (.keep (fun _ _ h => h) (.keep (fun _ _ h => h) (.keep (fun _ _ h => h) (.nil))))) ?_)
 clear hKK_17 hcK_17 K_17
 refine d_val1 10 rfl rfl (by kernel_rfl) (fun _ _ => rfl) .none rfl (p_assign rfl) ?_
 refine d_val1 11 rfl rfl (by kernel_rfl) (fun _ _ => rfl) .none rfl (p_assign rfl) ?_
 refine d_nil (by kernel_rfl) ?_
 refine e_next (c_seq (c_region (r_val .none rfl (p_move rfl) ?_)))
 refine r_val .none rfl (p_ldw (k := 3) Try.underlying50 rfl sz50 rfl rfl (rfl : _ = Value.agg #[_, _, _, _, _, _])) ?_
 refine r_val .none rfl (p_ldw (k := 2) Try.underlying50 rfl sz50 rfl rfl (rfl : _ = Value.agg #[_, _, _, _, _, _])) ?_
 refine r_bslice (vs := [(0, Value.agg #[_, _, _, _, _, _]), (1, Value.agg #[_, _, _, _, _, _])]) (c := #[_, _, _, _, _, _, _, _, _, _, _, _]) .none rfl Try.underlying35 el50 rfl rfl rfl (bs50_20a6_1a6 _ _ _ _ _ _ _ _ _ _ _ _) (IsRow.lit _) (fun b_6 => ?_)
 refine r_freezeB (k := 0) 2 6 rfl rfl (by decide) (fun G_24 hn_25 hs_26 => ?_)
 replace h19 := h19.mono hn_25.le
 replace th19 := th19.mono hn_25.le
 replace hi1 := hi1.mono hn_25.le
 replace hst1 := hst1.mono hn_25.le
 replace h24 := h24.mono hn_25.le
 replace th24 := th24.mono hn_25.le
 replace hi2 := hi2.mono hn_25.le
 replace hst2 := hst2.mono hn_25.le
 have h30 : SlL G_24 (Value.slice (some ⟨b_6, 0, none⟩) 2 2) 6 sC s0 [((.mk ⟨1, 0, 0, 0, []⟩ []), Value.slice none 0 0, Value.slice none 0 0), ((.mk ⟨1, 1, 0, 0, []⟩ []), Value.slice none 0 0, Value.slice none 0 0)] := SlG.congr hs_26 (fun i hi j hj => by match i, hi with | 0, _ => (match j, hj with | 0, _ => rfl | 1, _ => rfl | 2, _ => rfl | 3, _ => rfl | 4, _ => rfl | 5, _ => rfl) | 1, _ => (match j, hj with | 0, _ => rfl | 1, _ => rfl | 2, _ => rfl | 3, _ => rfl | 4, _ => rfl | 5, _ => rfl))
 have th30 : Ss G_24 (Value.slice (some ⟨b_6, 0, none⟩) 2 2) (lAB) := Ss.mk _ h30 (by intro p hm0; simp only [List.mem_cons, List.not_mem_nil, or_false] at hm0; rcases hm0 with rfl | rfl; exact SlG.nil _ _ _; exact SlG.nil _ _ _) (by intro p hm0; simp only [List.mem_cons, List.not_mem_nil, or_false] at hm0; rcases hm0 with rfl | rfl; exact Ss.nil; exact Ss.nil)
 refine r_callox (k := 0) (vs := [_, _]) .none rfl cl22 rfl rfl (fun w F hw hA hFG => c_kremY _ _ lAB rA2 _ hti2 hst2 th30 (by decide) (used_add (used_add used0)) (by decide +kernel) (by decide +kernel) w hw hA hFG) (fun G_27 v_30 z_32 hn_28 hr_29 => ?_)
 replace h19 := h19.mono hn_28.le
 replace th19 := th19.mono hn_28.le
 replace hi1 := hi1.mono hn_28.le
 replace hst1 := hst1.mono hn_28.le
 replace h24 := h24.mono hn_28.le
 replace th24 := th24.mono hn_28.le
 replace hi2 := hi2.mono hn_28.le
 replace hst2 := hst2.mono hn_28.le
 replace h30 := h30.mono hn_28.le
 replace th30 := th30.mono hn_28.le
 obtain ⟨⟨v31, rfl, hi3⟩, hti3, hst3⟩ := hr_29
 refine r_val .none rfl (p_move rfl) ?_
 refine r_val .none rfl (p_extract rfl rfl) ?_
 refine r_val .none rfl (p_extract rfl rfl) ?_
 refine r_val .none rfl (p_assign rfl) (r_val .none rfl (p_assign rfl) (r_nil (e_next (c_seq ?_))))
 refine c_region (r_val .none rfl (p_move rfl) ?_)
 refine r_bslice (vs := [(0, Value.int _ _), (1, Value.int _ _)]) (c := #[_, _]) .none rfl Try.underlying33 el3 rfl rfl rfl (bs3_20i2_1i2 _ _ _ _) (IsRow.lit _) (fun b_7 => ?_)
 refine r_freezeB (k := 0) 2 1 rfl rfl (by decide) (fun G_33 hn_34 hs_35 => ?_)
 replace h19 := h19.mono hn_34.le
 replace th19 := th19.mono hn_34.le
 replace hi1 := hi1.mono hn_34.le
 replace hst1 := hst1.mono hn_34.le
 replace h24 := h24.mono hn_34.le
 replace th24 := th24.mono hn_34.le
 replace hi2 := hi2.mono hn_34.le
 replace hst2 := hst2.mono hn_34.le
 replace h30 := h30.mono hn_34.le
 replace th30 := th30.mono hn_34.le
 replace hi3 := hi3.mono hn_34.le
 replace hst3 := hst3.mono hn_34.le
 have h35 : SlL G_33 (Value.slice (some ⟨b_7, 0, none⟩) 2 2) 1 cI (0 : Int) [2, 3] := SlG.congr hs_35 (fun i hi j hj => by match i, hi with | 0, _ => (match j, hj with | 0, _ => rfl) | 1, _ => (match j, hj with | 0, _ => rfl))
 refine r_call (vs := [_, _]) .none rfl cl23 rfl (fun w hw => c_ints15 _ _ _ _ hi1 h35 w hw) ?_
 refine r_val .none rfl (p_move rfl) ?_
 refine r_split (d := 37) rfl (fun h_36 => ?_) (fun h_36 => ?_)
 · (
 refine r_val (.some rfl rfl) rfl (p_move rfl) ?_
 refine r_bslice (vs := [(0, Value.int _ _), (1, Value.int _ _)]) (c := #[_, _]) (.some rfl rfl) rfl Try.underlying33 el3 rfl rfl rfl (bs3_20i2_1i2 _ _ _ _) (IsRow.lit _) (fun b_8 => ?_)
 refine r_freezeB (k := 0) 2 1 rfl rfl (by decide) (fun G_37 hn_38 hs_39 => ?_)
 replace h19 := h19.mono hn_38.le
 replace th19 := th19.mono hn_38.le
 replace hi1 := hi1.mono hn_38.le
 replace hst1 := hst1.mono hn_38.le
 replace h24 := h24.mono hn_38.le
 replace th24 := th24.mono hn_38.le
 replace hi2 := hi2.mono hn_38.le
 replace hst2 := hst2.mono hn_38.le
 replace h30 := h30.mono hn_38.le
 replace th30 := th30.mono hn_38.le
 replace hi3 := hi3.mono hn_38.le
 replace hst3 := hst3.mono hn_38.le
 replace h35 := h35.mono hn_38.le
 have h39 : SlL G_37 (Value.slice (some ⟨b_8, 0, none⟩) 2 2) 1 cI (0 : Int) [2, 4] := SlG.congr hs_39 (fun i hi j hj => by match i, hi with | 0, _ => (match j, hj with | 0, _ => rfl) | 1, _ => (match j, hj with | 0, _ => rfl))
 refine r_call (vs := [_, _]) (.some rfl rfl) rfl cl23 rfl (fun w hw => c_ints15 _ _ _ _ hi2 h39 w hw) ?_
 refine r_val .none rfl (p_pick_t rfl rfl) ?_
 refine r_val .none rfl (p_move rfl) ?_
 refine r_split (d := 42) rfl (fun h_40 => ?_) (fun h_40 => ?_)
 · (
 refine r_val (.some rfl rfl) rfl (p_move rfl) ?_
 refine r_bslice (vs := [(0, Value.int _ _)]) (c := #[_]) (.some rfl rfl) rfl Try.underlying33 el3 rfl rfl rfl (bs3_10i2 _ _) (IsRow.lit _) (fun b_9 => ?_)
 refine r_freezeB (k := 0) 1 1 rfl rfl (by decide) (fun G_41 hn_42 hs_43 => ?_)
 replace h19 := h19.mono hn_42.le
 replace th19 := th19.mono hn_42.le
 replace hi1 := hi1.mono hn_42.le
 replace hst1 := hst1.mono hn_42.le
 replace h24 := h24.mono hn_42.le
 replace th24 := th24.mono hn_42.le
 replace hi2 := hi2.mono hn_42.le
 replace hst2 := hst2.mono hn_42.le
 replace h30 := h30.mono hn_42.le
 replace th30 := th30.mono hn_42.le
 replace hi3 := hi3.mono hn_42.le
 replace hst3 := hst3.mono hn_42.le
 replace h35 := h35.mono hn_42.le
 replace h39 := h39.mono hn_42.le
 have h44 : SlL G_41 (Value.slice (some ⟨b_9, 0, none⟩) 1 1) 1 cI (0 : Int) [3] := SlG.congr hs_43 (fun i hi j hj => by match i, hi with | 0, _ => (match j, hj with | 0, _ => rfl))
 refine r_call (vs := [_, _]) (.some rfl rfl) rfl cl23 rfl (fun w hw => c_ints15 _ _ _ _ hi3 h44 w hw) ?_
 refine r_val .none rfl (p_pick_t rfl rfl) ?_
 refine r_val .none rfl (p_move rfl) ?_
 refine' r_and (c := 47) (d := 50) [_, _, _] rfl (fun h_44 Q_45 hQ_46 => ?_) (fun h_44 Q_45 hQ_46 => ?_) ?_
 rotate_left 1
 · (
 refine r_val (.some rfl rfl) rfl (p_move rfl) ?_
 refine r_val (.some rfl rfl) rfl (p_eq rfl rfl) ?_
 refine r_val .none rfl (p_pick_t rfl rfl) ?_
 refine r_nil (e_fin (d := 50) hQ_46 rfl (by repeat (first | exact .refl | refine .put rfl ?_ | refine .say rfl ?_ | refine .say2 rfl (by first | assumption | simp_all) ?_))))
 · (
 repeat (first | refine r_skip rfl (.no rfl rfl) ?_ | refine r_skip rfl (.un rfl rfl) ?_)
 refine r_val (by first | exact .none | exact .some rfl rfl) rfl (p_pick_f rfl rfl) ?_
 refine r_nil (e_fin (d := 50) hQ_46 rfl (by repeat (first | exact .refl | refine .put rfl ?_ | refine .say rfl ?_ | refine .say2 rfl (by first | assumption | simp_all) ?_))))
 refine r_val .none rfl (p_move rfl) ?_
 refine' r_and (c := 51) (d := 55) [_, _, _, _] rfl (fun h_48 Q_49 hQ_50 => ?_) (fun h_48 Q_49 hQ_50 => ?_) ?_
 rotate_left 1
 · (
 try simp only [norms] at h_48
 refine r_val (.some rfl rfl) rfl (p_move rfl) ?_
 refine r_callo (k := 0) (vs := [_]) (.some rfl rfl) rfl cl15 rfl rfl (fun w F hw hA hFG => trie_see0 (R := fun r => r = Value.int .i64 ((remR rA2 lAB).its.countP (fun x => !x.2) + 1 : Nat)) (fun l G' F' hl hle hn9 hG hA hF => by (have h9 := c_klen _ l _ _ (seen_of hti3.kc hst3 hl hn9 hle) w hG hA hF; rw [← eraK_len l, ← hl, hti3.len, all_count] at h9; exact h9)) hw hA hFG) ?_
 refine r_val (.some rfl rfl) rfl (p_eq rfl rfl) ?_
 refine r_val .none rfl (p_pick_t rfl rfl) ?_
 refine r_nil (e_fin (d := 55) hQ_50 rfl (by repeat (first | exact .refl | refine .put rfl ?_ | refine .say rfl ?_ | refine .say2 rfl (by first | assumption | simp_all) ?_))))
 · (
 repeat (first | refine r_skip rfl (.no rfl rfl) ?_ | refine r_skip rfl (.un rfl rfl) ?_)
 refine r_val (by first | exact .none | exact .some rfl rfl) rfl (p_pick_f rfl rfl) ?_
 refine r_nil (e_fin (d := 55) hQ_50 rfl (by repeat (first | exact .refl | refine .put rfl ?_ | refine .say rfl ?_ | refine .say2 rfl (by first | assumption | simp_all) ?_))))
 refine r_val .none rfl (p_assign rfl) (r_nil (e_next ?_))
 refine c_ret ?_
 refine e_ret1 Try.results8 (.tmp rfl .nil) (fun w hm => ⟨?_, hm.since⟩)
 exact congrArg Value.bool (by decide +kernel))
 · (
 have hx : False := (by first | exact absurd (h_40) (by decide +kernel) | omega)
 exact hx.elim))
 · (
 have hx : False := (by first | exact absurd (h_36) (by decide +kernel) | omega)
 exact hx.elim))
 · (
 refine r_bslice (vs := [(0, Value.agg #[_, _, _, _, _, _]), (1, Value.agg #[_, _, _, _, _, _])]) (c := #[_, _, _, _, _, _, _, _, _, _, _, _]) .none rfl Try.underlying35 el50 rfl rfl rfl (bs50_20a6_1a6 _ _ _ _ _ _ _ _ _ _ _ _) (IsRow.lit _) (fun b_10 => ?_)
 refine r_freezeB (k := 0) 2 6 rfl rfl (by decide) (fun G_52 hn_53 hs_54 => ?_)
 replace h19 := h19.mono hn_53.le
 replace th19 := th19.mono hn_53.le
 have h24 : SlL G_52 (Value.slice (some ⟨b_10, 0, none⟩) 2 2) 6 sC s0 [((.mk ⟨1, 0, 0, 0, []⟩ []), Value.slice none 0 0, Value.slice none 0 0), ((.mk ⟨2, 0, 0, 0, []⟩ []), Value.slice none 0 0, Value.slice none 0 0)] := SlG.congr hs_54 (fun i hi j hj => by match i, hi with | 0, _ => (match j, hj with | 0, _ => rfl | 1, _ => rfl | 2, _ => rfl | 3, _ => rfl | 4, _ => rfl | 5, _ => rfl) | 1, _ => (match j, hj with | 0, _ => rfl | 1, _ => rfl | 2, _ => rfl | 3, _ => rfl | 4, _ => rfl | 5, _ => rfl))
 have th24 : Ss G_52 (Value.slice (some ⟨b_10, 0, none⟩) 2 2) (lAC) := Ss.mk _ h24 (by intro p hm0; simp only [List.mem_cons, List.not_mem_nil, or_false] at hm0; rcases hm0 with rfl | rfl; exact SlG.nil _ _ _; exact SlG.nil _ _ _) (by intro p hm0; simp only [List.mem_cons, List.not_mem_nil, or_false] at hm0; rcases hm0 with rfl | rfl; exact Ss.nil; exact Ss.nil)
 refine r_nil (e_d (i := 8) (brk := (fun _ => false)) (ph' := true) hKK_6 hcK_6 rfl (fun _ => (hn_4.trans hn_53).le) (fun _ => .drop (.keep (fun _ _ h => h) (.keep (fun _ _ h => h) (.keep (fun _ _ h => h) (.nil))))) ?_)
 clear hKK_6 hcK_6 K_6
 refine d_eff 4 rfl (by kernel_rfl) (fun K_55 hKK_55 hcK_55 => ?_)
 refine r_callox (k := 0) (vs := [_, _]) .none rfl cl12 rfl rfl (fun w F hw hA hFG => c_kadd _ _ (lAB) (R0) _ new_TI new_StS th19 (by decide) (by decide) w hw hA hFG) (fun G_56 v_59 z_61 hn_57 hr_58 => ?_)
 replace h19 := h19.mono hn_57.le
 replace th19 := th19.mono hn_57.le
 replace h24 := h24.mono hn_57.le
 replace th24 := th24.mono hn_57.le
 obtain ⟨hi1, hti1, hst1⟩ := hr_58
 refine r_nil (e_d (i := 4) (brk := (fun _ => false)) (ph' := true) hKK_55 hcK_55 rfl (fun _ => ((hn_4.trans hn_53).trans hn_57).le) (fun _ => .drop (.keep (fun _ _ h => h) (.keep (fun _ _ h => h) (.keep (fun _ _ h => h) (.nil))))) ?_)
 clear hKK_55 hcK_55 K_55
 refine d_eff 9 rfl (by kernel_rfl) (fun K_62 hKK_62 hcK_62 => ?_)
 refine r_callox (k := 0) (vs := [_, _]) .none rfl cl12 rfl rfl (fun w F hw hA hFG => c_kadd _ _ (lAC) (rA1) _ hti1 hst1 th24 (by decide) (by decide +kernel) w hw hA hFG) (fun G_63 v_66 z_68 hn_64 hr_65 => ?_)
 replace h19 := h19.mono hn_64.le
 replace th19 := th19.mono hn_64.le
 replace h24 := h24.mono hn_64.le
 replace th24 := th24.mono hn_64.le
 replace hi1 := hi1.mono hn_64.le
 replace hst1 := hst1.mono hn_64.le
 obtain ⟨hi2, hti2, hst2⟩ := hr_65
 refine r_nil (e_d (i := 9) (brk := (fun _ => false)) (ph' := true) hKK_62 hcK_62 rfl (fun _ => (((hn_4.trans hn_53).trans hn_57).trans hn_64).le) (fun _ => .drop (.keep (fun _ _ h => h) (.keep (fun _ _ h => h) (.keep (fun _ _ h => h) (.nil))))) ?_)
 clear hKK_62 hcK_62 K_62
 refine d_val1 10 rfl rfl (by kernel_rfl) (fun _ _ => rfl) .none rfl (p_assign rfl) ?_
 refine d_val1 11 rfl rfl (by kernel_rfl) (fun _ _ => rfl) .none rfl (p_assign rfl) ?_
 refine d_nil (by kernel_rfl) ?_
 refine e_next (c_seq (c_region (r_val .none rfl (p_move rfl) ?_)))
 refine r_val .none rfl (p_ldw (k := 3) Try.underlying50 rfl sz50 rfl rfl (rfl : _ = Value.agg #[_, _, _, _, _, _])) ?_
 refine r_val .none rfl (p_ldw (k := 2) Try.underlying50 rfl sz50 rfl rfl (rfl : _ = Value.agg #[_, _, _, _, _, _])) ?_
 refine r_bslice (vs := [(0, Value.agg #[_, _, _, _, _, _]), (1, Value.agg #[_, _, _, _, _, _])]) (c := #[_, _, _, _, _, _, _, _, _, _, _, _]) .none rfl Try.underlying35 el50 rfl rfl rfl (bs50_20a6_1a6 _ _ _ _ _ _ _ _ _ _ _ _) (IsRow.lit _) (fun b_11 => ?_)
 refine r_freezeB (k := 0) 2 6 rfl rfl (by decide) (fun G_69 hn_70 hs_71 => ?_)
 replace h19 := h19.mono hn_70.le
 replace th19 := th19.mono hn_70.le
 replace h24 := h24.mono hn_70.le
 replace th24 := th24.mono hn_70.le
 replace hi1 := hi1.mono hn_70.le
 replace hst1 := hst1.mono hn_70.le
 replace hi2 := hi2.mono hn_70.le
 replace hst2 := hst2.mono hn_70.le
 have h30 : SlL G_69 (Value.slice (some ⟨b_11, 0, none⟩) 2 2) 6 sC s0 [((.mk ⟨1, 0, 0, 0, []⟩ []), Value.slice none 0 0, Value.slice none 0 0), ((.mk ⟨1, 1, 0, 0, []⟩ []), Value.slice none 0 0, Value.slice none 0 0)] := SlG.congr hs_71 (fun i hi j hj => by match i, hi with | 0, _ => (match j, hj with | 0, _ => rfl | 1, _ => rfl | 2, _ => rfl | 3, _ => rfl | 4, _ => rfl | 5, _ => rfl) | 1, _ => (match j, hj with | 0, _ => rfl | 1, _ => rfl | 2, _ => rfl | 3, _ => rfl | 4, _ => rfl | 5, _ => rfl))
 have th30 : Ss G_69 (Value.slice (some ⟨b_11, 0, none⟩) 2 2) (lAB) := Ss.mk _ h30 (by intro p hm0; simp only [List.mem_cons, List.not_mem_nil, or_false] at hm0; rcases hm0 with rfl | rfl; exact SlG.nil _ _ _; exact SlG.nil _ _ _) (by intro p hm0; simp only [List.mem_cons, List.not_mem_nil, or_false] at hm0; rcases hm0 with rfl | rfl; exact Ss.nil; exact Ss.nil)
 refine r_callox (k := 0) (vs := [_, _]) .none rfl cl22 rfl rfl (fun w F hw hA hFG => c_kremY _ _ lAB rA2 _ hti2 hst2 th30 (by decide) (used_add (used_add used0)) (by decide +kernel) (by decide +kernel) w hw hA hFG) (fun G_72 v_75 z_77 hn_73 hr_74 => ?_)
 replace h19 := h19.mono hn_73.le
 replace th19 := th19.mono hn_73.le
 replace h24 := h24.mono hn_73.le
 replace th24 := th24.mono hn_73.le
 replace hi1 := hi1.mono hn_73.le
 replace hst1 := hst1.mono hn_73.le
 replace hi2 := hi2.mono hn_73.le
 replace hst2 := hst2.mono hn_73.le
 replace h30 := h30.mono hn_73.le
 replace th30 := th30.mono hn_73.le
 obtain ⟨⟨v31, rfl, hi3⟩, hti3, hst3⟩ := hr_74
 refine r_val .none rfl (p_move rfl) ?_
 refine r_val .none rfl (p_extract rfl rfl) ?_
 refine r_val .none rfl (p_extract rfl rfl) ?_
 refine r_val .none rfl (p_assign rfl) (r_val .none rfl (p_assign rfl) (r_nil (e_next (c_seq ?_))))
 refine c_region (r_val .none rfl (p_move rfl) ?_)
 refine r_bslice (vs := [(0, Value.int _ _), (1, Value.int _ _)]) (c := #[_, _]) .none rfl Try.underlying33 el3 rfl rfl rfl (bs3_20i2_1i2 _ _ _ _) (IsRow.lit _) (fun b_12 => ?_)
 refine r_freezeB (k := 0) 2 1 rfl rfl (by decide) (fun G_78 hn_79 hs_80 => ?_)
 replace h19 := h19.mono hn_79.le
 replace th19 := th19.mono hn_79.le
 replace h24 := h24.mono hn_79.le
 replace th24 := th24.mono hn_79.le
 replace hi1 := hi1.mono hn_79.le
 replace hst1 := hst1.mono hn_79.le
 replace hi2 := hi2.mono hn_79.le
 replace hst2 := hst2.mono hn_79.le
 replace h30 := h30.mono hn_79.le
 replace th30 := th30.mono hn_79.le
 replace hi3 := hi3.mono hn_79.le
 replace hst3 := hst3.mono hn_79.le
 have h35 : SlL G_78 (Value.slice (some ⟨b_12, 0, none⟩) 2 2) 1 cI (0 : Int) [2, 3] := SlG.congr hs_80 (fun i hi j hj => by match i, hi with | 0, _ => (match j, hj with | 0, _ => rfl) | 1, _ => (match j, hj with | 0, _ => rfl))
 refine r_call (vs := [_, _]) .none rfl cl23 rfl (fun w hw => c_ints15 _ _ _ _ hi1 h35 w hw) ?_
 refine r_val .none rfl (p_move rfl) ?_
 refine r_split (d := 37) rfl (fun h_81 => ?_) (fun h_81 => ?_)
 · (
 refine r_val (.some rfl rfl) rfl (p_move rfl) ?_
 refine r_bslice (vs := [(0, Value.int _ _), (1, Value.int _ _)]) (c := #[_, _]) (.some rfl rfl) rfl Try.underlying33 el3 rfl rfl rfl (bs3_20i2_1i2 _ _ _ _) (IsRow.lit _) (fun b_13 => ?_)
 refine r_freezeB (k := 0) 2 1 rfl rfl (by decide) (fun G_82 hn_83 hs_84 => ?_)
 replace h19 := h19.mono hn_83.le
 replace th19 := th19.mono hn_83.le
 replace h24 := h24.mono hn_83.le
 replace th24 := th24.mono hn_83.le
 replace hi1 := hi1.mono hn_83.le
 replace hst1 := hst1.mono hn_83.le
 replace hi2 := hi2.mono hn_83.le
 replace hst2 := hst2.mono hn_83.le
 replace h30 := h30.mono hn_83.le
 replace th30 := th30.mono hn_83.le
 replace hi3 := hi3.mono hn_83.le
 replace hst3 := hst3.mono hn_83.le
 replace h35 := h35.mono hn_83.le
 have h39 : SlL G_82 (Value.slice (some ⟨b_13, 0, none⟩) 2 2) 1 cI (0 : Int) [2, 4] := SlG.congr hs_84 (fun i hi j hj => by match i, hi with | 0, _ => (match j, hj with | 0, _ => rfl) | 1, _ => (match j, hj with | 0, _ => rfl))
 refine r_call (vs := [_, _]) (.some rfl rfl) rfl cl23 rfl (fun w hw => c_ints15 _ _ _ _ hi2 h39 w hw) ?_
 refine r_val .none rfl (p_pick_t rfl rfl) ?_
 refine r_val .none rfl (p_move rfl) ?_
 refine r_split (d := 42) rfl (fun h_85 => ?_) (fun h_85 => ?_)
 · (
 refine r_val (.some rfl rfl) rfl (p_move rfl) ?_
 refine r_bslice (vs := [(0, Value.int _ _)]) (c := #[_]) (.some rfl rfl) rfl Try.underlying33 el3 rfl rfl rfl (bs3_10i2 _ _) (IsRow.lit _) (fun b_14 => ?_)
 refine r_freezeB (k := 0) 1 1 rfl rfl (by decide) (fun G_86 hn_87 hs_88 => ?_)
 replace h19 := h19.mono hn_87.le
 replace th19 := th19.mono hn_87.le
 replace h24 := h24.mono hn_87.le
 replace th24 := th24.mono hn_87.le
 replace hi1 := hi1.mono hn_87.le
 replace hst1 := hst1.mono hn_87.le
 replace hi2 := hi2.mono hn_87.le
 replace hst2 := hst2.mono hn_87.le
 replace h30 := h30.mono hn_87.le
 replace th30 := th30.mono hn_87.le
 replace hi3 := hi3.mono hn_87.le
 replace hst3 := hst3.mono hn_87.le
 replace h35 := h35.mono hn_87.le
 replace h39 := h39.mono hn_87.le
 have h44 : SlL G_86 (Value.slice (some ⟨b_14, 0, none⟩) 1 1) 1 cI (0 : Int) [3] := SlG.congr hs_88 (fun i hi j hj => by match i, hi with | 0, _ => (match j, hj with | 0, _ => rfl))
 refine r_call (vs := [_, _]) (.some rfl rfl) rfl cl23 rfl (fun w hw => c_ints15 _ _ _ _ hi3 h44 w hw) ?_
 refine r_val .none rfl (p_pick_t rfl rfl) ?_
 refine r_val .none rfl (p_move rfl) ?_
 refine' r_and (c := 47) (d := 50) [_, _, _] rfl (fun h_89 Q_90 hQ_91 => ?_) (fun h_89 Q_90 hQ_91 => ?_) ?_
 rotate_left 1
 · (
 refine r_val (.some rfl rfl) rfl (p_move rfl) ?_
 refine r_val (.some rfl rfl) rfl (p_eq rfl rfl) ?_
 refine r_val .none rfl (p_pick_t rfl rfl) ?_
 refine r_nil (e_fin (d := 50) hQ_91 rfl (by repeat (first | exact .refl | refine .put rfl ?_ | refine .say rfl ?_ | refine .say2 rfl (by first | assumption | simp_all) ?_))))
 · (
 repeat (first | refine r_skip rfl (.no rfl rfl) ?_ | refine r_skip rfl (.un rfl rfl) ?_)
 refine r_val (by first | exact .none | exact .some rfl rfl) rfl (p_pick_f rfl rfl) ?_
 refine r_nil (e_fin (d := 50) hQ_91 rfl (by repeat (first | exact .refl | refine .put rfl ?_ | refine .say rfl ?_ | refine .say2 rfl (by first | assumption | simp_all) ?_))))
 refine r_val .none rfl (p_move rfl) ?_
 refine' r_and (c := 51) (d := 55) [_, _, _, _] rfl (fun h_93 Q_94 hQ_95 => ?_) (fun h_93 Q_94 hQ_95 => ?_) ?_
 rotate_left 1
 · (
 try simp only [norms] at h_93
 refine r_val (.some rfl rfl) rfl (p_move rfl) ?_
 refine r_callo (k := 0) (vs := [_]) (.some rfl rfl) rfl cl15 rfl rfl (fun w F hw hA hFG => trie_see0 (R := fun r => r = Value.int .i64 ((remR rA2 lAB).its.countP (fun x => !x.2) + 1 : Nat)) (fun l G' F' hl hle hn9 hG hA hF => by (have h9 := c_klen _ l _ _ (seen_of hti3.kc hst3 hl hn9 hle) w hG hA hF; rw [← eraK_len l, ← hl, hti3.len, all_count] at h9; exact h9)) hw hA hFG) ?_
 refine r_val (.some rfl rfl) rfl (p_eq rfl rfl) ?_
 refine r_val .none rfl (p_pick_t rfl rfl) ?_
 refine r_nil (e_fin (d := 55) hQ_95 rfl (by repeat (first | exact .refl | refine .put rfl ?_ | refine .say rfl ?_ | refine .say2 rfl (by first | assumption | simp_all) ?_))))
 · (
 repeat (first | refine r_skip rfl (.no rfl rfl) ?_ | refine r_skip rfl (.un rfl rfl) ?_)
 refine r_val (by first | exact .none | exact .some rfl rfl) rfl (p_pick_f rfl rfl) ?_
 refine r_nil (e_fin (d := 55) hQ_95 rfl (by repeat (first | exact .refl | refine .put rfl ?_ | refine .say rfl ?_ | refine .say2 rfl (by first | assumption | simp_all) ?_))))
 refine r_val .none rfl (p_assign rfl) (r_nil (e_next ?_))
 refine c_ret ?_
 refine e_ret1 Try.results8 (.tmp rfl .nil) (fun w hm => ⟨?_, hm.since⟩)
 exact congrArg Value.bool (by decide +kernel))
 · (
 have hx : False := (by first | exact absurd (h_85) (by decide +kernel) | omega)
 exact hx.elim))
 · (
 have hx : False := (by first | exact absurd (h_81) (by decide +kernel) | omega)
 exact hx.elim)))
 · (
 refine r_bslice (vs := [(0, Value.agg #[_, _, _, _, _, _]), (1, Value.agg #[_, _, _, _, _, _])]) (c := #[_, _, _, _, _, _, _, _, _, _, _, _]) .none rfl Try.underlying35 el50 rfl rfl rfl (bs50_20a6_1a6 _ _ _ _ _ _ _ _ _ _ _ _) (IsRow.lit _) (fun b_15 => ?_)
 refine r_freezeB (k := 0) 2 6 rfl rfl (by decide) (fun G_97 hn_98 hs_99 => ?_)
 have h24 : SlL G_97 (Value.slice (some ⟨b_15, 0, none⟩) 2 2) 6 sC s0 [((.mk ⟨1, 0, 0, 0, []⟩ []), Value.slice none 0 0, Value.slice none 0 0), ((.mk ⟨2, 0, 0, 0, []⟩ []), Value.slice none 0 0, Value.slice none 0 0)] := SlG.congr hs_99 (fun i hi j hj => by match i, hi with | 0, _ => (match j, hj with | 0, _ => rfl | 1, _ => rfl | 2, _ => rfl | 3, _ => rfl | 4, _ => rfl | 5, _ => rfl) | 1, _ => (match j, hj with | 0, _ => rfl | 1, _ => rfl | 2, _ => rfl | 3, _ => rfl | 4, _ => rfl | 5, _ => rfl))
 have th24 : Ss G_97 (Value.slice (some ⟨b_15, 0, none⟩) 2 2) (lAC) := Ss.mk _ h24 (by intro p hm0; simp only [List.mem_cons, List.not_mem_nil, or_false] at hm0; rcases hm0 with rfl | rfl; exact SlG.nil _ _ _; exact SlG.nil _ _ _) (by intro p hm0; simp only [List.mem_cons, List.not_mem_nil, or_false] at hm0; rcases hm0 with rfl | rfl; exact Ss.nil; exact Ss.nil)
 refine r_nil (e_d (i := 8) (brk := (fun _ => false)) (ph' := true) hKK_2 hcK_2 rfl (fun _ => hn_98.le) (fun _ => .drop (.keep (fun _ _ h => h) (.keep (fun _ _ h => h) (.keep (fun _ _ h => h) (.nil))))) ?_)
 clear hKK_2 hcK_2 K_2
 refine d_eff 3 rfl (by kernel_rfl) (fun K_100 hKK_100 hcK_100 => ?_)
 refine r_bslice (vs := [(0, Value.agg #[_, _, _, _, _, _]), (1, Value.agg #[_, _, _, _, _, _])]) (c := #[_, _, _, _, _, _, _, _, _, _, _, _]) .none rfl Try.underlying35 el50 rfl rfl rfl (bs50_20a6_1a6 _ _ _ _ _ _ _ _ _ _ _ _) (IsRow.lit _) (fun b_16 => ?_)
 refine r_freezeB (k := 0) 2 6 rfl rfl (by decide) (fun G_101 hn_102 hs_103 => ?_)
 replace h24 := h24.mono hn_102.le
 replace th24 := th24.mono hn_102.le
 have h19 : SlL G_101 (Value.slice (some ⟨b_16, 0, none⟩) 2 2) 6 sC s0 [((.mk ⟨1, 0, 0, 0, []⟩ []), Value.slice none 0 0, Value.slice none 0 0), ((.mk ⟨1, 1, 0, 0, []⟩ []), Value.slice none 0 0, Value.slice none 0 0)] := SlG.congr hs_103 (fun i hi j hj => by match i, hi with | 0, _ => (match j, hj with | 0, _ => rfl | 1, _ => rfl | 2, _ => rfl | 3, _ => rfl | 4, _ => rfl | 5, _ => rfl) | 1, _ => (match j, hj with | 0, _ => rfl | 1, _ => rfl | 2, _ => rfl | 3, _ => rfl | 4, _ => rfl | 5, _ => rfl))
 have th19 : Ss G_101 (Value.slice (some ⟨b_16, 0, none⟩) 2 2) (lAB) := Ss.mk _ h19 (by intro p hm0; simp only [List.mem_cons, List.not_mem_nil, or_false] at hm0; rcases hm0 with rfl | rfl; exact SlG.nil _ _ _; exact SlG.nil _ _ _) (by intro p hm0; simp only [List.mem_cons, List.not_mem_nil, or_false] at hm0; rcases hm0 with rfl | rfl; exact Ss.nil; exact Ss.nil)
 refine r_nil (e_d (i := 3) (brk := (fun _ => false)) (ph' := true) hKK_100 hcK_100 rfl (fun _ => (hn_98.trans hn_102).le) (fun _ => .drop (.keep (fun _ _ h => h) (.keep (fun _ _ h => h) (.keep (fun _ _ h => h) (.nil))))) ?_)
 clear hKK_100 hcK_100 K_100
 refine d_eff 4 rfl (by kernel_rfl) (fun K_104 hKK_104 hcK_104 => ?_)
 refine r_callox (k := 0) (vs := [_, _]) .none rfl cl12 rfl rfl (fun w F hw hA hFG => c_kadd _ _ (lAB) (R0) _ new_TI new_StS th19 (by decide) (by decide) w hw hA hFG) (fun G_105 v_108 z_110 hn_106 hr_107 => ?_)
 replace h24 := h24.mono hn_106.le
 replace th24 := th24.mono hn_106.le
 replace h19 := h19.mono hn_106.le
 replace th19 := th19.mono hn_106.le
 obtain ⟨hi1, hti1, hst1⟩ := hr_107
 refine r_nil (e_d (i := 4) (brk := (fun _ => false)) (ph' := true) hKK_104 hcK_104 rfl (fun _ => ((hn_98.trans hn_102).trans hn_106).le) (fun _ => .drop (.keep (fun _ _ h => h) (.keep (fun _ _ h => h) (.keep (fun _ _ h => h) (.nil))))) ?_)
 clear hKK_104 hcK_104 K_104
 refine d_eff 9 rfl (by kernel_rfl) (fun K_111 hKK_111 hcK_111 => ?_)
 refine r_callox (k := 0) (vs := [_, _]) .none rfl cl12 rfl rfl (fun w F hw hA hFG => c_kadd _ _ (lAC) (rA1) _ hti1 hst1 th24 (by decide) (by decide +kernel) w hw hA hFG) (fun G_112 v_115 z_117 hn_113 hr_114 => ?_)
 replace h24 := h24.mono hn_113.le
 replace th24 := th24.mono hn_113.le
 replace h19 := h19.mono hn_113.le
 replace th19 := th19.mono hn_113.le
 replace hi1 := hi1.mono hn_113.le
 replace hst1 := hst1.mono hn_113.le
 obtain ⟨hi2, hti2, hst2⟩ := hr_114
 refine r_nil (e_d (i := 9) (brk := (fun _ => false)) (ph' := true) hKK_111 hcK_111 rfl (fun _ => (((hn_98.trans hn_102).trans hn_106).trans hn_113).le) (fun _ => .drop (.keep (fun _ _ h => h) (.keep (fun _ _ h => h) (.keep (fun _ _ h => h) (.nil))))) ?_)
 clear hKK_111 hcK_111 K_111
 refine d_val1 10 rfl rfl (by kernel_rfl) (fun _ _ => rfl) .none rfl (p_assign rfl) ?_
 refine d_val1 11 rfl rfl (by kernel_rfl) (fun _ _ => rfl) .none rfl (p_assign rfl) ?_
 refine d_nil (by kernel_rfl) ?_
 refine e_next (c_seq (c_region (r_val .none rfl (p_move rfl) ?_)))
 refine r_val .none rfl (p_ldw (k := 3) Try.underlying50 rfl sz50 rfl rfl (rfl : _ = Value.agg #[_, _, _, _, _, _])) ?_
 refine r_val .none rfl (p_ldw (k := 2) Try.underlying50 rfl sz50 rfl rfl (rfl : _ = Value.agg #[_, _, _, _, _, _])) ?_
 refine r_bslice (vs := [(0, Value.agg #[_, _, _, _, _, _]), (1, Value.agg #[_, _, _, _, _, _])]) (c := #[_, _, _, _, _, _, _, _, _, _, _, _]) .none rfl Try.underlying35 el50 rfl rfl rfl (bs50_20a6_1a6 _ _ _ _ _ _ _ _ _ _ _ _) (IsRow.lit _) (fun b_17 => ?_)
 refine r_freezeB (k := 0) 2 6 rfl rfl (by decide) (fun G_118 hn_119 hs_120 => ?_)
 replace h24 := h24.mono hn_119.le
 replace th24 := th24.mono hn_119.le
 replace h19 := h19.mono hn_119.le
 replace th19 := th19.mono hn_119.le
 replace hi1 := hi1.mono hn_119.le
 replace hst1 := hst1.mono hn_119.le
 replace hi2 := hi2.mono hn_119.le
 replace hst2 := hst2.mono hn_119.le
 have h30 : SlL G_118 (Value.slice (some ⟨b_17, 0, none⟩) 2 2) 6 sC s0 [((.mk ⟨1, 0, 0, 0, []⟩ []), Value.slice none 0 0, Value.slice none 0 0), ((.mk ⟨1, 1, 0, 0, []⟩ []), Value.slice none 0 0, Value.slice none 0 0)] := SlG.congr hs_120 (fun i hi j hj => by match i, hi with | 0, _ => (match j, hj with | 0, _ => rfl | 1, _ => rfl | 2, _ => rfl | 3, _ => rfl | 4, _ => rfl | 5, _ => rfl) | 1, _ => (match j, hj with | 0, _ => rfl | 1, _ => rfl | 2, _ => rfl | 3, _ => rfl | 4, _ => rfl | 5, _ => rfl))
 have th30 : Ss G_118 (Value.slice (some ⟨b_17, 0, none⟩) 2 2) (lAB) := Ss.mk _ h30 (by intro p hm0; simp only [List.mem_cons, List.not_mem_nil, or_false] at hm0; rcases hm0 with rfl | rfl; exact SlG.nil _ _ _; exact SlG.nil _ _ _) (by intro p hm0; simp only [List.mem_cons, List.not_mem_nil, or_false] at hm0; rcases hm0 with rfl | rfl; exact Ss.nil; exact Ss.nil)
 refine r_callox (k := 0) (vs := [_, _]) .none rfl cl22 rfl rfl (fun w F hw hA hFG => c_kremY _ _ lAB rA2 _ hti2 hst2 th30 (by decide) (used_add (used_add used0)) (by decide +kernel) (by decide +kernel) w hw hA hFG) (fun G_121 v_124 z_126 hn_122 hr_123 => ?_)
 replace h24 := h24.mono hn_122.le
 replace th24 := th24.mono hn_122.le
 replace h19 := h19.mono hn_122.le
 replace th19 := th19.mono hn_122.le
 replace hi1 := hi1.mono hn_122.le
 replace hst1 := hst1.mono hn_122.le
 replace hi2 := hi2.mono hn_122.le
 replace hst2 := hst2.mono hn_122.le
 replace h30 := h30.mono hn_122.le
 replace th30 := th30.mono hn_122.le
 obtain ⟨⟨v31, rfl, hi3⟩, hti3, hst3⟩ := hr_123
 refine r_val .none rfl (p_move rfl) ?_
 refine r_val .none rfl (p_extract rfl rfl) ?_
 refine r_val .none rfl (p_extract rfl rfl) ?_
 refine r_val .none rfl (p_assign rfl) (r_val .none rfl (p_assign rfl) (r_nil (e_next (c_seq ?_))))
 refine c_region (r_val .none rfl (p_move rfl) ?_)
 refine r_bslice (vs := [(0, Value.int _ _), (1, Value.int _ _)]) (c := #[_, _]) .none rfl Try.underlying33 el3 rfl rfl rfl (bs3_20i2_1i2 _ _ _ _) (IsRow.lit _) (fun b_18 => ?_)
 refine r_freezeB (k := 0) 2 1 rfl rfl (by decide) (fun G_127 hn_128 hs_129 => ?_)
 replace h24 := h24.mono hn_128.le
 replace th24 := th24.mono hn_128.le
 replace h19 := h19.mono hn_128.le
 replace th19 := th19.mono hn_128.le
 replace hi1 := hi1.mono hn_128.le
 replace hst1 := hst1.mono hn_128.le
 replace hi2 := hi2.mono hn_128.le
 replace hst2 := hst2.mono hn_128.le
 replace h30 := h30.mono hn_128.le
 replace th30 := th30.mono hn_128.le
 replace hi3 := hi3.mono hn_128.le
 replace hst3 := hst3.mono hn_128.le
 have h35 : SlL G_127 (Value.slice (some ⟨b_18, 0, none⟩) 2 2) 1 cI (0 : Int) [2, 3] := SlG.congr hs_129 (fun i hi j hj => by match i, hi with | 0, _ => (match j, hj with | 0, _ => rfl) | 1, _ => (match j, hj with | 0, _ => rfl))
 refine r_call (vs := [_, _]) .none rfl cl23 rfl (fun w hw => c_ints15 _ _ _ _ hi1 h35 w hw) ?_
 refine r_val .none rfl (p_move rfl) ?_
 refine r_split (d := 37) rfl (fun h_130 => ?_) (fun h_130 => ?_)
 · (
 refine r_val (.some rfl rfl) rfl (p_move rfl) ?_
 refine r_bslice (vs := [(0, Value.int _ _), (1, Value.int _ _)]) (c := #[_, _]) (.some rfl rfl) rfl Try.underlying33 el3 rfl rfl rfl (bs3_20i2_1i2 _ _ _ _) (IsRow.lit _) (fun b_19 => ?_)
 refine r_freezeB (k := 0) 2 1 rfl rfl (by decide) (fun G_131 hn_132 hs_133 => ?_)
 replace h24 := h24.mono hn_132.le
 replace th24 := th24.mono hn_132.le
 replace h19 := h19.mono hn_132.le
 replace th19 := th19.mono hn_132.le
 replace hi1 := hi1.mono hn_132.le
 replace hst1 := hst1.mono hn_132.le
 replace hi2 := hi2.mono hn_132.le
 replace hst2 := hst2.mono hn_132.le
 replace h30 := h30.mono hn_132.le
 replace th30 := th30.mono hn_132.le
 replace hi3 := hi3.mono hn_132.le
 replace hst3 := hst3.mono hn_132.le
 replace h35 := h35.mono hn_132.le
 have h39 : SlL G_131 (Value.slice (some ⟨b_19, 0, none⟩) 2 2) 1 cI (0 : Int) [2, 4] := SlG.congr hs_133 (fun i hi j hj => by match i, hi with | 0, _ => (match j, hj with | 0, _ => rfl) | 1, _ => (match j, hj with | 0, _ => rfl))
 refine r_call (vs := [_, _]) (.some rfl rfl) rfl cl23 rfl (fun w hw => c_ints15 _ _ _ _ hi2 h39 w hw) ?_
 refine r_val .none rfl (p_pick_t rfl rfl) ?_
 refine r_val .none rfl (p_move rfl) ?_
 refine r_split (d := 42) rfl (fun h_134 => ?_) (fun h_134 => ?_)
 · (
 refine r_val (.some rfl rfl) rfl (p_move rfl) ?_
 refine r_bslice (vs := [(0, Value.int _ _)]) (c := #[_]) (.some rfl rfl) rfl Try.underlying33 el3 rfl rfl rfl (bs3_10i2 _ _) (IsRow.lit _) (fun b_20 => ?_)
 refine r_freezeB (k := 0) 1 1 rfl rfl (by decide) (fun G_135 hn_136 hs_137 => ?_)
 replace h24 := h24.mono hn_136.le
 replace th24 := th24.mono hn_136.le
 replace h19 := h19.mono hn_136.le
 replace th19 := th19.mono hn_136.le
 replace hi1 := hi1.mono hn_136.le
 replace hst1 := hst1.mono hn_136.le
 replace hi2 := hi2.mono hn_136.le
 replace hst2 := hst2.mono hn_136.le
 replace h30 := h30.mono hn_136.le
 replace th30 := th30.mono hn_136.le
 replace hi3 := hi3.mono hn_136.le
 replace hst3 := hst3.mono hn_136.le
 replace h35 := h35.mono hn_136.le
 replace h39 := h39.mono hn_136.le
 have h44 : SlL G_135 (Value.slice (some ⟨b_20, 0, none⟩) 1 1) 1 cI (0 : Int) [3] := SlG.congr hs_137 (fun i hi j hj => by match i, hi with | 0, _ => (match j, hj with | 0, _ => rfl))
 refine r_call (vs := [_, _]) (.some rfl rfl) rfl cl23 rfl (fun w hw => c_ints15 _ _ _ _ hi3 h44 w hw) ?_
 refine r_val .none rfl (p_pick_t rfl rfl) ?_
 refine r_val .none rfl (p_move rfl) ?_
 refine' r_and (c := 47) (d := 50) [_, _, _] rfl (fun h_138 Q_139 hQ_140 => ?_) (fun h_138 Q_139 hQ_140 => ?_) ?_
 rotate_left 1
 · (
 refine r_val (.some rfl rfl) rfl (p_move rfl) ?_
 refine r_val (.some rfl rfl) rfl (p_eq rfl rfl) ?_
 refine r_val .none rfl (p_pick_t rfl rfl) ?_
 refine r_nil (e_fin (d := 50) hQ_140 rfl (by repeat (first | exact .refl | refine .put rfl ?_ | refine .say rfl ?_ | refine .say2 rfl (by first | assumption | simp_all) ?_))))
 · (
 repeat (first | refine r_skip rfl (.no rfl rfl) ?_ | refine r_skip rfl (.un rfl rfl) ?_)
 refine r_val (by first | exact .none | exact .some rfl rfl) rfl (p_pick_f rfl rfl) ?_
 refine r_nil (e_fin (d := 50) hQ_140 rfl (by repeat (first | exact .refl | refine .put rfl ?_ | refine .say rfl ?_ | refine .say2 rfl (by first | assumption | simp_all) ?_))))
 refine r_val .none rfl (p_move rfl) ?_
 refine' r_and (c := 51) (d := 55) [_, _, _, _] rfl (fun h_142 Q_143 hQ_144 => ?_) (fun h_142 Q_143 hQ_144 => ?_) ?_
 rotate_left 1
 · (
 try simp only [norms] at h_142
 refine r_val (.some rfl rfl) rfl (p_move rfl) ?_
 refine r_callo (k := 0) (vs := [_]) (.some rfl rfl) rfl cl15 rfl rfl (fun w F hw hA hFG => trie_see0 (R := fun r => r = Value.int .i64 ((remR rA2 lAB).its.countP (fun x => !x.2) + 1 : Nat)) (fun l G' F' hl hle hn9 hG hA hF => by (have h9 := c_klen _ l _ _ (seen_of hti3.kc hst3 hl hn9 hle) w hG hA hF; rw [← eraK_len l, ← hl, hti3.len, all_count] at h9; exact h9)) hw hA hFG) ?_
 refine r_val (.some rfl rfl) rfl (p_eq rfl rfl) ?_
 refine r_val .none rfl (p_pick_t rfl rfl) ?_
 refine r_nil (e_fin (d := 55) hQ_144 rfl (by repeat (first | exact .refl | refine .put rfl ?_ | refine .say rfl ?_ | refine .say2 rfl (by first | assumption | simp_all) ?_))))
 · (
 repeat (first | refine r_skip rfl (.no rfl rfl) ?_ | refine r_skip rfl (.un rfl rfl) ?_)
 refine r_val (by first | exact .none | exact .some rfl rfl) rfl (p_pick_f rfl rfl) ?_
 refine r_nil (e_fin (d := 55) hQ_144 rfl (by repeat (first | exact .refl | refine .put rfl ?_ | refine .say rfl ?_ | refine .say2 rfl (by first | assumption | simp_all) ?_))))
 refine r_val .none rfl (p_assign rfl) (r_nil (e_next ?_))
 refine c_ret ?_
 refine e_ret1 Try.results8 (.tmp rfl .nil) (fun w hm => ⟨?_, hm.since⟩)
 exact congrArg Value.bool (by decide +kernel))
 · (
 have hx : False := (by first | exact absurd (h_134) (by decide +kernel) | omega)
 exact hx.elim))
 · (
 have hx : False := (by first | exact absurd (h_130) (by decide +kernel) | omega)
 exact hx.elim))
end Go.Proofs.Ytdkfdncbldngdaa

/- Plain laws of tries: lists that come, one behind the other; no program in sight. -/
namespace Go.Gx.T16
open Go.Gx Go.Gx.T3 Go.Gx.T4 Go.Gx.T6 Go.Gx.T8
def adds : RT → List (List ST) → RT
  | R, [] => R
  | R, l :: t => adds (addR R l) t
theorem adds_append (a b : List (List ST)) : ∀ R, adds R (a ++ b) = adds (adds R a) b := by
  induction a with
  | nil => intro R; rfl
  | cons c t ih => intro R; exact ih _
theorem adds_used : ∀ {L : List (List ST)} {R : RT}, Used R → Used (adds R L)
  | [], _, h => h
  | l :: t, R, h => adds_used (L := t) (R := addR R l) (used_add h)
/-- Nothing is out. -/
def Live (R : RT) : Prop := ∀ x ∈ R.its, x.2 = false
def dist : List (List ST) → List (List ST) → List (List ST)
  | acc, [] => acc
  | acc, c :: t => dist (if acc.any (ceq · c) = true then acc else acc ++ [c]) t
theorem adds_snoc {L : List (List ST)} {l : List ST} : adds R0 (L ++ [l]) = addR (adds R0 L) l := by rw [adds_append]; rfl
/-- The steps of the first lists. -/
def stp (ls : List (List CT × Value)) (k : Nat) : List (List ST) := (ls.take k).map fun q => stepsOf [] q.1
theorem stp_next {ls : List (List CT × Value)} {k : Nat} (h : k < ls.length) : stp ls (k + 1) = stp ls k ++ [stepsOf [] (ls.getD k ([], .slice none 0 0)).1] := by
  unfold stp
  rw [List.take_succ_eq_append_getElem h, List.map_append]
  simp [List.getD, List.getElem?_eq_getElem h]
end Go.Gx.T16

/- Walks: what Go functions of this chapter come to, each as a function on plain data; no condition but those that each theorem names. Printed by a program of this work (gen.py). -/
namespace Go.Proofs.Ytdkfdncbldngdaa
open Go.Gx Go.Gx.T16 Go.Gx.T8 Go.Gx.T6 Go.Gx.T4 Go.Gx.T3 Go.Gx.T4 Go.Gx.T3 Go.Gx.T6 Go.Gx.T8 Go.Gx.T4 Go.Gx.T3 Go.Gx.T8 Go.Gx.T4 Go.Gx.T3 Go.Gx.T8 Go.Gx.T6 Go.Gx.T4 Go.Gx.T3
end Go.Proofs.Ytdkfdncbldngdaa

/-
  GX: what is known of memory that is new since a ghost; such memory is written again: numbers and truths in it may turn, lists may end. Generic in the program.
-/
namespace Go.Gx
open Go.RowKit
def softB : Obj → Bool
  | .cells _ _ f => decide (f = (0, 0))
  | _ => false
/-- What is known of blocks that were unknown: rows of cells that may be written. -/
def dif (G G' : Ghost) : Ghost := fun b => match G b with
  | some _ => none
  | none => match G' b with
    | some o => bif softB o then some o else none
    | none => none
theorem dif_some {G G' : Ghost} {b : Nat} {o : Obj} (h : dif G G' b = some o) : G b = none ∧ G' b = some o ∧ softB o = true := by
  unfold dif at h
  cases e : G b with
  | some _ => simp [e] at h
  | none =>
    cases e2 : G' b with
    | none => simp [e, e2] at h
    | some o2 =>
      cases e3 : softB o2 with
      | false => simp [e, e2, e3] at h
      | true => simp only [e, e2, e3, cond_true, Option.some.injEq] at h; subst h; exact ⟨rfl, rfl, e3⟩
theorem dif_of {G G' : Ghost} {b : Nat} {o : Obj} (h : G b = none) (h' : G' b = some o) (hs : softB o = true) : dif G G' b = some o := by
  simp [dif, h, h', hs]
theorem dif_le (G G' : Ghost) : GLe (dif G G') G' := fun _ _ h => (dif_some h).2.1
theorem dif_mono {G G' G'' : Ghost} (h : GLe G' G'') : GLe (dif G G') (dif G G'') := fun b o e => by
  obtain ⟨h1, h2, h3⟩ := dif_some e
  exact dif_of h1 (h b o h2) h3
theorem dif_up {G0 G G' : Ghost} (h : GLe G0 G) : GLe (dif G G') (dif G0 G') := fun b o e => by
  obtain ⟨h1, h2, h3⟩ := dif_some e
  refine dif_of ?_ h2 h3
  cases e2 : G0 b with
  | none => rfl
  | some o2 => rw [h b o2 e2] at h1; cases h1
/-- Blocks that were unknown are as they are now, all others as an elder ghost says. -/
def gd (Gs G G' : Ghost) : Ghost := fun b => match G b with
  | some _ => Gs b
  | none => G' b
theorem gd_mono {Gs G G' G'' : Ghost} (h : GLe G' G'') : GLe (gd Gs G G') (gd Gs G G'') := fun b o e => by
  unfold gd at e ⊢
  cases e2 : G b with
  | none => simp only [e2] at e ⊢; exact h b o e
  | some _ => simp only [e2] at e ⊢; exact e
theorem gd_le {Gs G G' : Ghost} (h : GLe Gs G) (h' : GLe G G') : GLe (gd Gs G G') G' := fun b o e => by
  unfold gd at e
  cases e2 : G b with
  | none => simp only [e2] at e; exact e
  | some _ => simp only [e2] at e; exact h' b o (h b o e)
theorem gd_new {Gs G0 G G' : Ghost} (h : GLe G0 G) : GLe (dif G G') (gd Gs G0 G') := fun b o e => by
  obtain ⟨h1, h2, h3⟩ := dif_some (dif_up h b o e)
  simp [gd, h1, h2]
theorem gd_up {Gs G0 G G' : Ghost} (h : GLe G0 G) (h' : GLe G G') : GLe (gd (gd Gs G0 G) G G') (gd Gs G0 G') := fun b o e => by
  unfold gd at e ⊢
  cases e2 : G b with
  | none =>
    simp only [e2] at e
    cases e3 : G0 b with
    | none => simpa [e3] using e
    | some o3 => rw [h b o3 e3] at e2; cases e2
  | some o2 =>
    simp only [e2] at e
    cases e3 : G0 b with
    | none => simp only [e3] at e ⊢; cases e; exact h' b _ e2
    | some o3 => simpa [e3] using e
theorem gd_old {Gs G G' : Ghost} (h : GLe Gs G) (h' : GLe G G') : GLe Gs (gd Gs G G') := fun b o e => by
  unfold gd
  rw [h b o e]; exact e
/-- What is known but for some blocks. -/
def but (G H : Ghost) : Ghost := fun b => match H b with
  | some _ => none
  | none => G b
theorem but_le (G H : Ghost) : GLe (but G H) G := fun b o e => by
  unfold but at e
  cases e2 : H b with
  | none => simpa [e2] using e
  | some _ => simp [e2] at e
theorem but_old {G0 G G1 : Ghost} (h : GLe G0 G) : GLe G0 (but G (dif G0 G1)) := fun b o e => by
  unfold but
  cases e2 : dif G0 G1 b with
  | none => exact h b o e
  | some o2 => rw [(dif_some e2).1] at e; cases e
theorem but_gd {G0 G1 G' : Ghost} (h : GLe G0 G1) (h' : GLe G1 G') : GLe (gd G0 G1 G') (but G' (dif G0 G1)) := fun b o e => by
  unfold gd at e
  unfold but
  cases e1 : G1 b with
  | none =>
    simp only [e1] at e
    cases e2 : dif G0 G1 b with
    | none => exact e
    | some o2 => rw [(dif_some e2).2.1] at e1; cases e1
  | some o1 =>
    simp only [e1] at e
    cases e2 : dif G0 G1 b with
    | none => exact h' b o (h b o e)
    | some o2 => rw [(dif_some e2).1] at e; cases e
/-! ### memory that turns -/
def okc (z : Bool) (v v' : Value) : Prop := v' = v ∨ (∃ k n m, v = .int k n ∧ v' = .int k m) ∨ (∃ a b, v = .bool a ∧ v' = .bool b) ∨ (z = true ∧ (∃ a n c, v = .slice a n c) ∧ v' = .slice none 0 0)
def okcs (z : Bool) (c c' : Array Value) : Prop := c'.size = c.size ∧ ∀ (i : Nat) (v : Value), c[i]? = some v → ∃ v', c'[i]? = some v' ∧ okc z v v'
theorem okcs.refl (z : Bool) (c : Array Value) : okcs z c c := ⟨rfl, fun _ v h => ⟨v, h, .inl rfl⟩⟩
def spoilA (z : Bool) (H : Ghost) : Asrt where
  holds w F := (∀ b, F b ↔ H b ≠ none) ∧ ∀ b o, H b = some o → ∃ c c' T, o = .cells c T (0, 0) ∧ w.heap[b]? = some (.cells c' T (0, 0)) ∧ okcs z c c'
  frame := by
    rintro w w' F ⟨hF, h⟩ hk
    refine ⟨hF, fun b o e => ?_⟩
    obtain ⟨c, c', T, h1, h2, h3⟩ := h b o e
    exact ⟨c, c', T, h1, by rw [hk b ((hF b).2 (by rw [e]; simp))]; exact h2, h3⟩
  dom := by
    rintro w F b ⟨hF, h⟩ hb
    have h0 := (hF b).1 hb
    cases e : H b with
    | none => exact absurd e h0
    | some o =>
      obtain ⟨c, c', T, _, h2, _⟩ := h b o e
      exact lt_of_heap h2
theorem slice_okc {v' : Value} {a : Option Addr} {n c : Nat} (h : okc false (.slice a n c) v') : v' = .slice a n c := by
  rcases h with h | ⟨_, _, _, h, _⟩ | ⟨_, _, h, _⟩ | ⟨h, _⟩
  · exact h
  · cases h
  · cases h
  · cases h
section
variable {P : Program} {ops : Array Oper} {Q : Exit → Act → World → Prop} {N : Nat} {X : Nat → Prop} {w0 : World} {G : Ghost} {l : List (Nat × Value)} {L : List Asrt}
variable {rest : List Oper} {d : Nat} {ty : TypeId} {pos : String} {after : Array Edge} {gd : Option (Nat × Bool)} {x y : Operand} {v : Value} {z : Bool} {H : Ghost}
/-- A row of the call's own stays as it is from now on: it was unknown. -/
theorem Mem.freezeD {w : World} {k n sz : Nat} {E : TypeId} {xs : List Value} (h : Mem X w0 G w L) (hL : L[k]? = some (rowA v E sz n xs)) :
    ∃ G', GNew w0 X G G' ∧ SlG (dif G G') v n sz (fun i j => xs.getD (i * sz + j) undef) ∧ Mem X w0 G' w (L.eraseIdx k) := by
  obtain ⟨F, ⟨hown, hF⟩, hU, hsep⟩ := h.sep.erase hL
  obtain ⟨G', h1, h2, h3⟩ := h.freeze hL
  refine ⟨G', h1, ?_, h3⟩
  obtain ⟨a, cap', e1, hb, h5⟩ := h2
  refine ⟨a, cap', e1, hb, fun h0 => ?_⟩
  obtain ⟨b, o, e3, h8⟩ := h5 h0
  refine ⟨b, o, e3, fun i hi => ?_⟩
  obtain ⟨c9, T9, f9, h9, h10⟩ := h8 i hi
  rcases hown.2 with ⟨rfl, e2⟩ | ⟨g, cap, cur, rfl, _, hg, _⟩
  · subst e3; cases e1
  · simp only [Value.slice.injEq] at e1
    rw [← e1.1] at e3
    simp only [Option.some.injEq, Addr.mk.injEq] at e3
    have e4 : g = b := e3.1
    subst e4
    have h7 := h3.has g _ h9
    rw [hg] at h7
    simp only [Option.some.injEq, Obj.cells.injEq] at h7
    exact ⟨c9, T9, f9, dif_of (hU g ((hF.1 g).2 rfl)).2 h9 (by rw [← h7.2.2]; simp [softB]), h10⟩
theorem r_freezeD {k n sz : Nat} {E : TypeId} {xs : List Value} (hL : L[k]? = some (rowA v E sz n xs))
    (h : ∀ G', GNew w0 X G G' → SlG (dif G G') v n sz (fun i j => xs.getD (i * sz + j) undef) → Runs P ops Q N X w0 G' rest l (L.eraseIdx k)) : Runs P ops Q N X w0 G rest l L := by
  intro a w hS
  obtain ⟨G', h1, h2, h3⟩ := hS.mem.freezeD hL
  exact h G' h1 h2 a w ⟨hS.fr, h3⟩
theorem e_freezeD {e : Exit} {k n sz : Nat} {E : TypeId} {xs : List Value} (hL : L[k]? = some (rowA v E sz n xs))
    (h : ∀ G', GNew w0 X G G' → SlG (dif G G') v n sz (fun i j => xs.getD (i * sz + j) undef) → ERuns Q e N X w0 G' l (L.eraseIdx k)) : ERuns Q e N X w0 G l L := by
  intro a w hS
  obtain ⟨G', h1, h2, h3⟩ := hS.mem.freezeD hL
  exact h G' h1 h2 a w ⟨hS.fr, h3⟩
theorem row_memD {w w' : World} {G : Ghost} {r : Value} {E sz n : Nat} {xs : List Value} (hG : Has G w) (h : Since nX w w' ∧ ∃ F', (rowA r E sz n xs).holds w' F' ∧ ∀ b, F' b → w.heap.size ≤ b) :
    ∃ G', GNew w nX G G' ∧ Has G' w' ∧ SlG (dif G G') r n sz (fun i j => xs.getD (i * sz + j) undef) ∧ Since nX w w' := by
  obtain ⟨hs, F', hB, hF⟩ := h
  have h1 : Mem nX w G w [] := ⟨Since.refl _ _, hG, trivial⟩
  have h2 := h1.call hs
  have hm : Mem nX w G w' [rowA r E sz n xs] := ⟨h2.since, h2.has, F', hB, fun b hb => ⟨.inl (hF b hb), hG.fresh (hF b hb)⟩, trivial⟩
  obtain ⟨G', h3, h4, h5⟩ := hm.freezeD (k := 0) rfl
  exact ⟨G', h3, h5.has, h4, hs⟩
/-- Memory that was laid since an elder ghost is one's own again; all that is known besides stays. -/
theorem Mem.thaw {G0 G1 G' Gn : Ghost} {w : World} (z : Bool) (hm : Mem X w0 G' w L) (hn : GNew w0 X G0 G1) (hle : GLe G1 G') (hg : GLe Gn G') (hd : ∀ b, dif G0 G1 b ≠ none → Gn b = none) : Mem X w0 Gn w (spoilA z (dif G0 G1) :: L) := by
  refine ⟨hm.since, fun b o e => hm.has b o (hg b o e), fun b => dif G0 G1 b ≠ none, ⟨fun _ => Iff.rfl, fun b o e => ?_⟩, fun b hb => ⟨?_, hd b hb⟩, ?_⟩
  · obtain ⟨_, h2, h3⟩ := dif_some e
    have h4 := hm.has b o (hle b o h2)
    cases o with
    | cells c T f =>
      have : f = (0, 0) := by simpa [softB] using h3
      subst this
      exact ⟨c, c, T, rfl, h4, okcs.refl _ _⟩
    | _ => simp [softB] at h3
  · cases e : dif G0 G1 b with
    | none => exact absurd e hb
    | some o =>
      obtain ⟨h1, h2, _⟩ := dif_some e
      exact hn.new b h1 (by rw [h2]; simp)
  · refine hm.sep.mono (fun b _ hu => ⟨⟨hu.1, ?_⟩, fun hb => ?_⟩)
    · cases e : Gn b with
      | none => rfl
      | some o => rw [hg b o e] at hu; exact absurd hu.2 (by simp)
    · cases e : dif G0 G1 b with
      | none => exact hb e
      | some o =>
        have := hle b o (dif_some e).2.1
        rw [hu.2] at this; cases this
theorem but_no {G0 G1 G' : Ghost} (b : Nat) (h : dif G0 G1 b ≠ none) : but G' (dif G0 G1) b = none := by
  unfold but
  cases e : dif G0 G1 b with
  | none => exact absurd e h
  | some o => rfl
/-- All stays known but for what was laid then. -/
theorem r_thaw {G0 G1 G' : Ghost} (z : Bool) (hn : GNew w0 X G0 G1) (hle : GLe G1 G') (h : Runs P ops Q N X w0 (but G' (dif G0 G1)) rest l (spoilA z (dif G0 G1) :: L)) : Runs P ops Q N X w0 G' rest l L :=
  fun a w hS => h a w ⟨hS.fr, hS.mem.thaw z hn hle (but_le _ _) but_no⟩
theorem spoil_cell {w : World} {F : Nat → Prop} {b o n j : Nat} {g : Nat → Value} (hA : (spoilA z H).holds w F) (hR : RowAt H b o n g) (hj : j < n) : ∃ v', w.cell? ⟨b, o + j, none⟩ = some v' ∧ okc z (g j) v' := by
  obtain ⟨c, T, f, h1, h2⟩ := hR
  obtain ⟨c1, c2, T2, h3, h4, h5, h6⟩ := hA.2 b _ h1
  simp only [Obj.cells.injEq] at h3
  obtain ⟨v', h7, h8⟩ := h6 _ _ (by rw [← h3.1]; exact h2 j hj)
  exact ⟨v', by rw [cell_of_row w b (o + j) c2 T2 (0, 0) h4]; exact h7, h8⟩
/-- A load of one cell of memory that turns. -/
theorem r_ldsp {T : TypeId} {e : TypeDesc} {b o n j k : Nat} {g : Nat → Value} (hw : Wt ops l gd) (hd : Nat.blt d N = true) (hT : P.underlying T = some e) (hs : e.aggB = false) (hx : ev l x = some (.pointer (some ⟨b, o + j, none⟩))) (hL : L[k]? = some (spoilA z H)) (hR : RowAt H b o n g) (hj : j < n)
    (h : ∀ v', okc z (g j) v' → Runs P ops Q N X w0 G rest ((d, v') :: l) L) : Runs P ops Q N X w0 G (⟨some d, .load T x, ty, pos, after, gd⟩ :: rest) l L := by
  refine Runs.step hw (fun a w hS => ?_)
  show Oper.upon P _ a _ Q _
  obtain ⟨F, hA, _⟩ := hS.mem.take hL
  obtain ⟨v', hc, ho⟩ := spoil_cell hA hR hj
  have hr : (execOp a.eval ⟨some d, .load T x, ty, pos, after, gd⟩).run P w = .ok (.value v') w := by
    simp [execOp, hS.fr.eval hx, Instr.loadAt, Instr.sureAddr, run_loadVar_scal hT hs hc]
  rw [hr, Oper.upon_value]
  exact h v' ho _ _ ⟨hS.fr.put (by simpa using hd) _, hS.mem⟩
theorem okc_sl {H : Ghost} {u v' : Value} {n sz : Nat} {f : Nat → Nat → Value} (hs : SlG H u n sz f) (h : okc false u v') : v' = u := by
  obtain ⟨a, c, rfl⟩ := hs.len
  exact slice_okc h
/-- The address of an element. -/
theorem r_iaddr_s {T E : TypeId} {n sz i : Nat} {q : IntKind} {f : Nat → Nat → Value} (hw : Wt ops l gd) (hd : Nat.blt d N = true) (hT : P.underlying T = some (.slice E)) (hE : SzIs P E sz) (hx : ev l x = some v) (hs : SlG H v n sz f) (hy : ev l y = some (.int q (i : Nat))) (hi : i < n)
    (h : ∀ b o, RowAt H b o sz (f i) → Runs P ops Q N X w0 G rest ((d, .pointer (some ⟨b, o, none⟩)) :: l) L) : Runs P ops Q N X w0 G (⟨some d, .indexAddr T x y, ty, pos, after, gd⟩ :: rest) l L := by
  obtain ⟨a, cap, rfl, _, h1⟩ := hs
  obtain ⟨b, o, rfl, h2⟩ := h1 (by omega)
  refine r_val hw hd (v := .pointer (some ⟨b, o + i * sz, none⟩)) (fun ac w hS => ?_) (h b _ (h2 i hi))
  simp only [execOp, hS.fr.eval hx, hS.fr.eval hy]
  simp [Instr.indexAt, asIntOf, run_underlying hT, hE.run, addr_add, hi]
theorem spoil_one {w : World} {F : Nat → Prop} {b i : Nat} {c : Array Value} {T : TypeId} {f : Nat × Nat} {u : Value} (hA : (spoilA z H).holds w F) (hb : H b = some (.cells c T f)) {v0 : Value} (hi : c[i]? = some v0) (ho : okc z v0 u) (hu : u.oneCell' = true) :
    (store ⟨b, i, none⟩ u).run P w = .ok () (w.setCell ⟨b, i, none⟩ u) ∧ (spoilA z H).holds (w.setCell ⟨b, i, none⟩ u) F ∧ Since F w (w.setCell ⟨b, i, none⟩ u) := by
  obtain ⟨c1, c2, T2, h3, h4, h5, h6⟩ := hA.2 b _ hb
  simp only [Obj.cells.injEq] at h3
  obtain ⟨rfl, rfl, rfl⟩ := h3
  obtain ⟨v', h7, h8⟩ := h6 i v0 hi
  have hF : F b := (hA.1 b).2 (by rw [hb]; simp)
  refine ⟨?_, ⟨hA.1, fun b' o' e => ?_⟩, since_setCell w b i u F hF⟩
  · rw [run_store P w _ u _ hu, cell_of_row w b i c2 T (0, 0) h4, h7]
    simp [frozen_of_row w b i c2 T h4]
  · by_cases e2 : b' = b
    · subst e2
      rw [hb] at e; cases e
      refine ⟨c, c2.setIfInBounds i u, T, rfl, heap_setCell_same w b' i c2 T u h4, by simp [h5], fun j v hj => ?_⟩
      by_cases e3 : i = j
      · subst e3
        rw [hi] at hj; cases hj
        have hlt : i < c2.size := by
          rcases Nat.lt_or_ge i c2.size with h | h
          · exact h
          · rw [Array.getElem?_eq_none h] at h7; cases h7
        exact ⟨u, by simp [hlt], ho⟩
      · obtain ⟨v2, h9, h10⟩ := h6 j v hj
        exact ⟨v2, by rw [Array.getElem?_setIfInBounds_ne e3]; exact h9, h10⟩
    · obtain ⟨c3, c4, T3, h9, h10, h11⟩ := hA.2 b' o' e
      exact ⟨c3, c4, T3, h9, by rw [heap_setCell_other w _ b' u e2]; exact h10, h11⟩
/-- A store of one cell into memory that turns. -/
theorem r_stsp {T : TypeId} {b o n j k : Nat} {g : Nat → Value} (hw : Wt ops l gd) (hs : SzIs P T 1)
    (hx : ev l x = some (.pointer (some ⟨b, o + j, none⟩))) (hy : ev l y = some v) (hv : v.oneCell' = true) (hL : L[k]? = some (spoilA z H)) (hR : RowAt H b o n g) (hj : j < n) (ho : okc z (g j) v)
    (h : Runs P ops Q N X w0 G rest l (L.set k (spoilA z H))) : Runs P ops Q N X w0 G (⟨none, .store T x y, ty, pos, after, gd⟩ :: rest) l L := by
  refine Runs.step hw (fun a w hS => ?_)
  show Oper.upon P _ a _ Q _
  obtain ⟨F, hA, _, hput⟩ := hS.mem.take hL
  obtain ⟨c, T2, f, h1, h2⟩ := hR
  obtain ⟨h3, h4, h5⟩ := spoil_one (P := P) hA h1 (h2 j hj) ho hv
  have hcs : v.cells = #[v] := by cases v <;> first | rfl | (simp [Value.oneCell'] at hv)
  have hr : (execOp a.eval ⟨none, .store T x y, ty, pos, after, gd⟩).run P w = .ok .skip (w.setCell ⟨b, o + j, none⟩ v) := by
    simp only [execOp, hS.fr.eval hx, hS.fr.eval hy]
    simp [Instr.storeAt, Instr.sureAddr, storeVar, hs.run, hcs, storeCells, addr_add, h3]
  rw [hr, Oper.upon_skip]
  exact h _ _ ⟨hS.fr, hput _ _ F h5 h4 (fun b hb => .inl hb)⟩
end
end Go.Gx

/- Walks: what Go functions of this chapter come to, each as a function on plain data; no condition but those that each theorem names. Printed by a program of this work (gen.py). -/
namespace Go.Proofs.Ytdkfdncbldngdaa
open Go.Gx Go.Gx.T16 Go.Gx.T8 Go.Gx.T6 Go.Gx.T4 Go.Gx.T3 Go.Gx.T4 Go.Gx.T3 Go.Gx.T6 Go.Gx.T8 Go.Gx.T4 Go.Gx.T3 Go.Gx.T8 Go.Gx.T4 Go.Gx.T3 Go.Gx.T8 Go.Gx.T6 Go.Gx.T4 Go.Gx.T3
def StepsDIs (n : Nat) : Prop := ∀ (v : Value) (l : List ST) (G : Ghost) (w : World), SizeOf.sizeOf l ≤ n → sszL l ≤ 5000 → Ss G v l → Has G w → Calls Try.prog 13 #[v] w (Ret fun r w' => ∃ G', GNew w nX G G' ∧ Has G' w' ∧ Ss (dif G G') r l ∧ Since nX w w')
def CloneDIs (n : Nat) : Prop := ∀ (c : ST) (ta sb : Value) (G : Ghost) (w : World), SizeOf.sizeOf c ≤ n → ssz c ≤ 1000 → SlL G ta 3 tC t0 c.h.ts → Ss G sb c.subs → Has G w → Calls Try.prog 63 #[Value.agg #[Value.int .i64 c.h.k, Value.int .i64 c.h.k0, Value.int .i64 c.h.k1, Value.int .i64 c.h.k2, ta, sb]] w (Ret fun r w' => ∃ G', GNew w nX G G' ∧ Has G' w' ∧ (∃ ua ub, r = Value.agg #[Value.int .i64 (c).h.k, Value.int .i64 (c).h.k0, Value.int .i64 (c).h.k1, Value.int .i64 (c).h.k2, ua, ub] ∧ SlL (dif G G') ua 3 tC t0 (c).h.ts ∧ Ss (dif G G') ub (c).subs) ∧ Since nX w w')
theorem c_stepsD_s (n : Nat) (ih : StepsDIs n) (v : Value) (l : List ST) {G : Ghost} (hz : SizeOf.sizeOf l ≤ n + 1) (hsz : sszL l ≤ 5000) (hs : Ss G v l) (w : World) (hG : Has G w) :
    Calls Try.prog 13 #[v] w (Ret fun r w' => ∃ G', GNew w nX G G' ∧ Has G' w' ∧ Ss (dif G G') r l ∧ Since nX w w') := by
 refine enter (args := [_]) (X := nX) (G := G) (l := [(0, v)]) Try.func13 rfl Try.ntmps13 hG ⟨rfl, trivial⟩ (Nat.le_of_ble_eq_true rfl) ?_
 obtain ⟨rs, hr, hrt, hp, hl⟩ := hs.inv
 have hbd := hr.bound
 have hll := sszL_len l
 have hlr : l.length = rs.length := by rw [hl]; simp
 have hG0 := GLe.refl G
 refine c_seq (c_region (r_val .none rfl (p_assign rfl) (r_nil (e_next ?_))))
 refine c_seq (c_region (r_val .none rfl (p_assign rfl) (r_nil (e_next ?_))))
 refine c_seq (c_seq (c_region (r_val .none rfl (p_move rfl) ?_)))
 refine r_val .none rfl (p_leng Try.underlying29 rfl hr) ?_
 have bd_1 := (hr).bound
 refine r_val .none rfl (p_move rfl) (r_nil (e_next (c_block ?_)))
 refine c_nilrow 50 6 ?_
 refine c_name (d := 2) rfl (fun u_2 hu_2 => ?_)
 refine c_name (d := 9) rfl (fun u_3 hu_3 => ?_)
 refine c_name (d := 10) rfl (fun u_4 hu_4 => ?_)
 refine c_loop (σ := Nat × Value × List SVal × Ghost) (fun s => [(11, Value.int .i64 (s.1 : Nat)), (3, s.2.1), (2, u_2), (9, u_3), (10, u_4)]) (fun s => [rowA (s.2.1) 50 6 (s.2.2.1).length ((s.2.2.1).flatMap sC)]) (fun s => s.2.2.2) (fun s => s.1 ≤ rs.length ∧ s.2.2.1.map Prod.fst = (rs.map Prod.fst).take s.1 ∧ (∀ p ∈ s.2.2.1, SlL (dif G s.2.2.2) p.2.1 3 tC t0 p.1.h.ts) ∧ (∀ p ∈ s.2.2.1, Ss (dif G s.2.2.2) p.2.2 p.1.subs) ∧ GNew w nX G s.2.2.2) (fun s => rs.length - s.1) ((0, _, [], _)) ⟨Nat.zero_le _, rfl, by simp, by simp, GNew.refl _ _ _⟩ rfl ⟨rfl, rfl, rfl, rfl, rfl, trivial⟩ (.keep (fun _ _ h => rowA_nil rfl _ _ h) (.nil)) (fun s hphi => ?_)
 subst hu_2
 subst hu_3
 subst hu_4
 obtain ⟨k, v, qs, H⟩ := s
 obtain ⟨hk, hq, hqt, hqs, hgn⟩ := hphi
 dsimp only at hk hq hqt hqs hgn ⊢
 have hql : qs.length ≤ k := (by have := congrArg List.length hq; simp at this; omega)
 replace hr := hr.mono hgn.le
 replace hrt := fun p hm0 => (hrt p hm0).mono hgn.le
 replace hp := fun p hm0 => (hp p hm0).mono hgn.le
 replace hG0 := GLe.trans hG0 hgn.le
 refine c_seq (c_region ?_)
 refine r_val .none rfl (p_lt rfl rfl) ?_
 refine r_nil (e_next (c_seq ?_))
 refine c_splitd (d := 12) rfl (fun h_5 => ?_) (fun h_5 => ?_)
 · (
 first
 | (exfalso; omega)
 | (
 refine c_cond_t rfl (c_skip (e_next (c_seq (c_block ?_))))
 refine c_seq (c_region ?_)
 refine r_iaddr_g .none rfl Try.underlying29 sz90 rfl hr rfl (by first | exact odt rfl | omega) (fun p_7 o_8 R_6 => ?_)
 have ht_9 := hrt _ (getD_mem (i := k) (d := s0) (by omega))
 have hc_10 := hp _ (getD_mem (i := k) (d := s0) (by omega))
 have hz7 := Nat.le_trans (sszL_mem (by rw [hl]; exact sv_mem (k := k) (by omega))) hsz
 rw [ssz_eq] at hz7
 refine r_val .none rfl (p_ldga0 Try.underlying90 rfl sz90 rfl R_6 (by first | exact odt rfl | omega) (rfl : _ = Value.agg #[_, _, _, _, _, _])) ?_
 refine r_alloc .none rfl zr90 (IsRow.lit _) (fun b_1 => ?_)
 refine r_stw (k := 0) .none sz90 rfl rfl (IsRow.lit _) (one_lit rfl (all_cons rfl (all_cons rfl (all_cons rfl (all_cons rfl (all_cons (ht_9).one (all_cons (hc_10).one rfl))))))) rfl ?_
 refine r_nil (e_next (c_seq ?_))
 refine c_region_d (fun _ => false) _ mixed (.keep (fun _ _ h => h) (.keep (fun _ _ h => h) (.nil))) ?_
 refine d_val1 0 rfl rfl (by kernel_rfl) (fun _ _ => rfl) .none rfl (p_field Try.underlying90 rfl sz3 rfl) ?_
 refine d_val1 1 rfl rfl (by kernel_rfl) (fun _ _ => rfl) .none rfl (p_ld (k := 0) Try.underlying3 rfl rfl rfl (by first | exact odt rfl | omega) (rfl : _ = Value.int _ _)) ?_
 refine d_val1 2 rfl rfl (by kernel_rfl) (fun _ _ => rfl) .none rfl (p_field Try.underlying90 rfl sz46 rfl) ?_
 refine d_val1 3 rfl rfl (by kernel_rfl) (fun _ _ => rfl) .none rfl (p_lda (k := 0) Try.underlying46 rfl sz46 rfl rfl (by first | exact odt rfl | omega) (rfl : _ = Value.agg #[_, _, _])) ?_
 refine d_val1 4 rfl rfl (by kernel_rfl) (fun _ _ => rfl) .none rfl (p_field Try.underlying90 rfl sz29 rfl) ?_
 refine d_val1 5 rfl rfl (by kernel_rfl) (fun _ _ => rfl) .none rfl (p_ld (k := 0) Try.underlying29 rfl rfl rfl (by first | exact odt rfl | omega) rfl) ?_
 refine d_eff2 6 8 rfl rfl (by kernel_rfl) (fun K_11 hKK_11 hcK_11 => ?_) (fun K_11 hKK_11 hcK_11 => ?_)
 · (
 refine r_callm (vs := [_]) .none rfl cl13 rfl (fun w hw => ih _ _ _ w (sv_at hl (by omega) hz) (by omega) hc_10 hw) (fun G_12 v_15 hn_13 hr_14 => ?_)
 replace hr_14 := Ss.mono hr_14 (dif_up hG0)
 replace hr := hr.mono hn_13.le
 replace hrt := fun p hm0 => (hrt p hm0).mono hn_13.le
 replace hp := fun p hm0 => (hp p hm0).mono hn_13.le
 replace hG0 := GLe.trans hG0 hn_13.le
 replace hqt := fun p hm0 => (hqt p hm0).mono (dif_mono hn_13.le)
 replace hqs := fun p hm0 => (hqs p hm0).mono (dif_mono hn_13.le)
 replace R_6 := R_6.mono hn_13.le
 replace ht_9 := ht_9.mono hn_13.le
 replace hc_10 := hc_10.mono hn_13.le
 have u_16 := hr_14
 refine r_nil (e_d (i := 6) (brk := (fun _ => false)) (ph' := true) hKK_11 hcK_11 rfl (fun _ => hn_13.le) (fun _ => .keep (fun _ _ h => h) (.keep (fun _ _ h => h) (.nil))) ?_)
 clear hKK_11 hcK_11 K_11
 obtain ⟨a_17, c_18, rfl⟩ := Ss.len u_16
 refine d_val1 7 rfl rfl (by kernel_rfl) (fun _ _ => rfl) .none rfl (p_build (vs := [(0, Value.int _ _), (1, Value.agg #[_, _, _]), (3, Value.slice _ _ _)]) rfl (bl50_0i1_1a3_3s3 _ _ _ _ _ _ _)) ?_
 refine d_eff 8 rfl (by kernel_rfl) (fun K_19 hKK_19 hcK_19 => ?_)
 refine r_alloc .none rfl zr50 (IsRow.lit _) (fun b_2 => ?_)
 refine r_nil (e_d (i := 8) (brk := (fun _ => false)) (ph' := true) hKK_19 hcK_19 rfl (fun _ => hn_13.le) (fun _ => .drop (.keep (fun _ _ h => h) (.keep (fun _ _ h => h) (.nil)))) ?_)
 clear hKK_19 hcK_19 K_19
 refine d_eff 9 rfl (by kernel_rfl) (fun K_20 hKK_20 hcK_20 => ?_)
 refine r_stw (k := 0) .none sz50 rfl rfl (IsRow.lit _) (one_lit rfl (all_cons rfl (all_cons rfl (all_cons rfl (all_cons rfl (all_cons rfl (all_cons (u_16).one rfl))))))) rfl ?_
 refine r_nil (e_d (i := 9) (brk := (fun _ => false)) (ph' := true) hKK_20 hcK_20 rfl (fun _ => hn_13.le) (fun _ => .drop (.keep (fun _ _ h => h) (.keep (fun _ _ h => h) (.nil)))) ?_)
 clear hKK_20 hcK_20 K_20
 refine d_nil (by kernel_rfl) ?_
 refine e_next (c_seq (c_seq (c_region ?_)))
 refine r_val .none rfl (p_field Try.underlying90 rfl sz88 rfl) ?_
 refine r_val .none rfl (p_ld (k := 1) Try.underlying88 rfl rfl rfl (by first | exact odt rfl | omega) rfl) ?_
 refine r_val .none rfl (p_leng Try.underlying88 rfl ht_9) ?_
 have bd_21 := (ht_9).bound
 refine r_val .none rfl (p_move rfl) (r_nil (e_next (c_block ?_)))
 refine c_nilrow 52 3 ?_
 refine c_name (d := 2) rfl (fun u_22 hu_22 => ?_)
 refine c_name (d := 3) rfl (fun u_23 hu_23 => ?_)
 refine c_name (d := 5) rfl (fun u_24 hu_24 => ?_)
 refine c_name (d := 6) rfl (fun u_25 hu_25 => ?_)
 refine c_name (d := 9) rfl (fun u_26 hu_26 => ?_)
 refine c_name (d := 10) rfl (fun u_27 hu_27 => ?_)
 refine c_name (d := 11) rfl (fun u_28 hu_28 => ?_)
 refine c_name (d := 12) rfl (fun u_29 hu_29 => ?_)
 refine c_name (d := 13) rfl (fun u_30 hu_30 => ?_)
 refine c_name (d := 14) rfl (fun u_31 hu_31 => ?_)
 refine c_name (d := 15) rfl (fun u_32 hu_32 => ?_)
 refine c_name (d := 16) rfl (fun u_33 hu_33 => ?_)
 refine c_name (d := 17) rfl (fun u_34 hu_34 => ?_)
 refine c_name (d := 18) rfl (fun u_35 hu_35 => ?_)
 refine c_name (d := 19) rfl (fun u_36 hu_36 => ?_)
 refine c_name (d := 20) rfl (fun u_37 hu_37 => ?_)
 refine c_name (d := 21) rfl (fun u_38 hu_38 => ?_)
 refine c_name (d := 22) rfl (fun u_39 hu_39 => ?_)
 refine c_name (d := 23) rfl (fun u_40 hu_40 => ?_)
 refine c_name (d := 24) rfl (fun u_41 hu_41 => ?_)
 refine c_name (d := 25) rfl (fun u_42 hu_42 => ?_)
 refine c_nameL (k := 2) rfl (fun A_43 hA_43 => ?_)
 refine c_nameL (k := 3) rfl (fun A_44 hA_44 => ?_)
 refine c_loop (σ := Nat × Value) (fun s => [(26, Value.int .i64 (s.1 : Nat)), (2, u_22), (3, u_23), (5, u_24), (6, u_25), (9, u_26), (10, u_27), (11, u_28), (12, u_29), (13, u_30), (14, u_31), (15, u_32), (16, u_33), (17, u_34), (18, u_35), (19, u_36), (20, u_37), (21, u_38), (22, u_39), (23, u_40), (24, u_41), (25, u_42)]) (fun s => [rowA (s.2) 52 3 (((rs.getD k s0).1.h.ts.take s.1)).length ((((rs.getD k s0).1.h.ts.take s.1)).flatMap tC), box b_2 6 50 (at_ [.int .i64 (rs.getD k s0).1.h.k, .int .i64 (rs.getD k s0).1.h.k0, .int .i64 (rs.getD k s0).1.h.k1, .int .i64 (rs.getD k s0).1.h.k2, s.2, (.slice a_17 (rs.getD k s0).1.subs.length c_18)]), A_43, A_44]) (fun _ => _) (fun s => s.1 ≤ (rs.getD k s0).1.h.ts.length) (fun s => (rs.getD k s0).1.h.ts.length - s.1) ((0, _)) (Nat.zero_le _) rfl ⟨rfl, rfl, rfl, rfl, rfl, rfl, rfl, rfl, rfl, rfl, rfl, rfl, rfl, rfl, rfl, rfl, rfl, rfl, rfl, rfl, rfl, rfl, trivial⟩ (.keep (fun _ _ h => rowA_nil rfl _ _ h) (.keep (fun _ _ h => box_congr (fun i hi => by match i, hi with | 0, _ => rfl | 1, _ => rfl | 2, _ => rfl | 3, _ => rfl | 4, _ => rfl | 5, _ => rfl) _ _ h) (.keep (fun _ _ h => h) (.keep (fun _ _ h => h) (.nil))))) (fun s hphi => ?_)
 subst hu_22
 subst hu_23
 subst hu_24
 subst hu_25
 subst hu_26
 subst hu_27
 subst hu_28
 subst hu_29
 subst hu_30
 subst hu_31
 subst hu_32
 subst hu_33
 subst hu_34
 subst hu_35
 subst hu_36
 subst hu_37
 subst hu_38
 subst hu_39
 subst hu_40
 subst hu_41
 subst hu_42
 subst hA_43
 subst hA_44
 obtain ⟨j, u⟩ := s
 dsimp only at hphi ⊢
 refine c_row1 (k := 0) rfl (fun ov => ?_)
 refine c_rowlen (k := 0) rfl (fun l63 => ?_)
 refine c_seq (c_region ?_)
 refine r_val .none rfl (p_lt rfl rfl) ?_
 refine r_nil (e_next (c_seq ?_))
 refine c_splitd (d := 27) rfl (fun h_45 => ?_) (fun h_45 => ?_)
 · (
 first
 | (exfalso; omega)
 | (
 refine c_cond_t rfl (c_skip (e_next (c_seq (c_block ?_))))
 refine c_seq (c_region ?_)
 refine r_iaddr_g .none rfl Try.underlying88 sz96 rfl ht_9 rfl (by first | exact odt rfl | omega) (fun p_47 o_48 R_46 => ?_)
 refine r_val .none rfl (p_ldga0 Try.underlying96 rfl sz96 rfl R_46 (by first | exact odt rfl | omega) (rfl : _ = Value.agg #[_, _, _])) ?_
 refine r_alloc .none rfl zr96 (IsRow.lit _) (fun b_3 => ?_)
 refine r_stw (k := 0) .none sz96 rfl rfl (IsRow.lit _) (one_lit rfl rfl) rfl ?_
 refine r_nil (e_next (c_region ?_))
 refine r_val .none rfl (p_field Try.underlying50 rfl sz48 rfl) ?_
 refine r_val .none rfl (p_ld (k := 2) Try.underlying48 rfl rfl rfl (by first | exact odt rfl | omega) rfl) ?_
 refine r_val .none rfl (p_field Try.underlying96 rfl sz3 rfl) ?_
 refine r_val .none rfl (p_ld (k := 0) Try.underlying3 rfl rfl rfl (by first | exact odt rfl | omega) (rfl : _ = Value.int _ _)) ?_
 refine r_val .none rfl (p_field Try.underlying96 rfl sz3 rfl) ?_
 refine r_val .none rfl (p_ld (k := 0) Try.underlying3 rfl rfl rfl (by first | exact odt rfl | omega) (rfl : _ = Value.int _ _)) ?_
 refine r_val .none rfl (p_field Try.underlying96 rfl sz3 rfl) ?_
 refine r_val .none rfl (p_ld (k := 0) Try.underlying3 rfl rfl rfl (by first | exact odt rfl | omega) (rfl : _ = Value.int _ _)) ?_
 refine r_val .none rfl (p_build (vs := [(0, Value.int _ _), (1, Value.int _ _), (2, Value.int _ _)]) rfl (bl52_0i1_1i1_2i1 _ _ _)) ?_
 refine r_bslice (vs := [(0, Value.agg #[_, _, _])]) (c := #[_, _, _]) .none rfl Try.underlying48 el52 rfl rfl rfl (bs52_10a3 _ _ _) (IsRow.lit _) (fun b_4 => ?_)
 refine r_append (k := 2) (k2 := 0) .none rfl Try.underlying48 el52 rfl (by decide) rfl rfl rfl rfl rfl (one_lit rfl rfl) (by rw [List.length_take]; simp only [maxLen]; omega) (by rw [List.length_take]; omega) (fun v_49 => ?_)
 refine r_row1 (k := 2) rfl (fun o_50 => ?_)
 refine r_val .none rfl (p_field Try.underlying50 rfl sz48 rfl) ?_
 refine r_st (k := 3) .none sz48 rfl rfl o_50 rfl (by first | exact odt rfl | omega) ?_
 refine r_nil ?_
 refine e_norm_block ?_
 refine e_next (c_region ?_)
 refine r_val .none rfl (p_add rfl rfl (by omega)) ?_
 refine r_val .none rfl (p_move rfl) (r_nil ?_)
 refine e_round ((j + 1, _)) ⟨by dsimp only; omega, by dsimp only; omega⟩ rfl ⟨rfl, rfl, rfl, rfl, rfl, rfl, rfl, rfl, rfl, rfl, rfl, rfl, rfl, rfl, rfl, rfl, rfl, rfl, rfl, rfl, rfl, rfl, trivial⟩ (.drop (.drop (.keep (fun _ _ h => rowA_snoc (ts_next (by omega)) rfl rfl rfl _ _ h) (.keep (fun _ _ h => box_congr (fun i hi => by match i, hi with | 0, _ => rfl | 1, _ => rfl | 2, _ => rfl | 3, _ => rfl | 4, _ => rfl | 5, _ => rfl) _ _ h) (.keep (fun _ _ h => h) (.keep (fun _ _ h => h) (.nil)))))))))
 · (
 first
 | (exfalso; omega)
 | (
 refine c_cond_f rfl (c_exit (e_exit_then (e_exit_then ?_)))
 refine e_exit_block ?_
 refine e_next (c_region ?_)
 have hj2 : (rs.getD k s0).1.h.ts.take j = (rs.getD k s0).1.h.ts := List.take_of_length_le (by omega)
 refine r_freezeD (k := 0) rfl (fun G_51 hn_52 hs_53 => ?_)
 replace hs_53 := SlG.mono hs_53 (dif_up hG0)
 replace hr := hr.mono hn_52.le
 replace hrt := fun p hm0 => (hrt p hm0).mono hn_52.le
 replace hp := fun p hm0 => (hp p hm0).mono hn_52.le
 replace hG0 := GLe.trans hG0 hn_52.le
 replace hqt := fun p hm0 => (hqt p hm0).mono (dif_mono hn_52.le)
 replace hqs := fun p hm0 => (hqs p hm0).mono (dif_mono hn_52.le)
 replace R_6 := R_6.mono hn_52.le
 replace ht_9 := ht_9.mono hn_52.le
 replace hc_10 := hc_10.mono hn_52.le
 replace u_16 := u_16.mono (dif_mono hn_52.le)
 have hts_54 : SlL (dif G G_51) u 3 tC t0 (rs.getD k s0).1.h.ts := SlL.of2 t0 (fun _ => rfl) (by rw [hj2]) (by rw [hj2]) hs_53
 refine r_val .none rfl (p_move rfl) ?_
 refine r_val .none rfl (p_ldw (k := 0) Try.underlying50 rfl sz50 rfl rfl (rfl : _ = Value.agg #[_, _, _, _, _, _])) ?_
 refine r_bslice (vs := [(0, Value.agg #[_, _, _, _, _, _])]) (c := #[_, _, _, _, _, _]) .none rfl Try.underlying35 el50 rfl rfl rfl (bs50_10a6 _ _ _ _ _ _) (IsRow.lit _) (fun b_5 => ?_)
 refine r_append (k := 3) (k2 := 0) .none rfl Try.underlying35 el50 rfl (by decide) rfl rfl rfl rfl rfl (one_lit rfl (all_cons rfl (all_cons rfl (all_cons rfl (all_cons rfl (all_cons (hts_54).one (all_cons (u_16).one rfl))))))) (by simp only [maxLen]; omega) (by omega) (fun v_55 => ?_)
 refine r_row1 (k := 3) rfl (fun o_56 => ?_)
 refine r_val .none rfl (p_assign rfl) (r_nil ?_)
 refine e_norm_block ?_
 refine e_next (c_region ?_)
 refine r_val .none rfl (p_add rfl rfl (by omega)) ?_
 refine r_val .none rfl (p_move rfl) (r_nil ?_)
 refine e_round ((k + 1, _, qs ++ [((rs.getD k s0).1, u, (.slice a_17 (rs.getD k s0).1.subs.length c_18))], _)) ⟨⟨by dsimp only; omega, by rw [sv_take (by omega), List.map_append, hq]; rfl, (fun p hp' => by rcases List.mem_append.1 hp' with h | h; exact hqt p h; rw [List.mem_singleton.1 h]; exact hts_54), (fun p hp' => by rcases List.mem_append.1 hp' with h | h; exact hqs p h; rw [List.mem_singleton.1 h]; exact u_16), ((hgn.trans hn_13).trans hn_52)⟩, by dsimp only; omega⟩ rfl ⟨rfl, rfl, rfl, rfl, rfl, trivial⟩ (.drop (.drop (.drop (.keep (fun _ _ h => rowA_snoc (l := qs) (x := ((rs.getD k s0).1, u, (.slice a_17 (rs.getD k s0).1.subs.length c_18))) rfl rfl rfl rfl _ _ h) (.nil))))))))
 · (
 refine r_alloc .none rfl zr50 (IsRow.lit _) (fun b_6 => ?_)
 refine r_nil (e_d (i := 8) (brk := (fun _ => false)) (ph' := true) hKK_11 hcK_11 rfl (fun _ => GLe.refl _) (fun _ => .drop (.keep (fun _ _ h => h) (.keep (fun _ _ h => h) (.nil)))) ?_)
 clear hKK_11 hcK_11 K_11
 refine d_eff 6 rfl (by kernel_rfl) (fun K_57 hKK_57 hcK_57 => ?_)
 refine r_callm (vs := [_]) .none rfl cl13 rfl (fun w hw => ih _ _ _ w (sv_at hl (by omega) hz) (by omega) hc_10 hw) (fun G_58 v_61 hn_59 hr_60 => ?_)
 replace hr_60 := Ss.mono hr_60 (dif_up hG0)
 replace hr := hr.mono hn_59.le
 replace hrt := fun p hm0 => (hrt p hm0).mono hn_59.le
 replace hp := fun p hm0 => (hp p hm0).mono hn_59.le
 replace hG0 := GLe.trans hG0 hn_59.le
 replace hqt := fun p hm0 => (hqt p hm0).mono (dif_mono hn_59.le)
 replace hqs := fun p hm0 => (hqs p hm0).mono (dif_mono hn_59.le)
 replace R_6 := R_6.mono hn_59.le
 replace ht_9 := ht_9.mono hn_59.le
 replace hc_10 := hc_10.mono hn_59.le
 have u_62 := hr_60
 refine r_nil (e_d (i := 6) (brk := (fun _ => false)) (ph' := true) hKK_57 hcK_57 rfl (fun _ => hn_59.le) (fun _ => .drop (.keep (fun _ _ h => h) (.keep (fun _ _ h => h) (.nil)))) ?_)
 clear hKK_57 hcK_57 K_57
 obtain ⟨a_63, c_64, rfl⟩ := Ss.len u_62
 refine d_val1 7 rfl rfl (by kernel_rfl) (fun _ _ => rfl) .none rfl (p_build (vs := [(0, Value.int _ _), (1, Value.agg #[_, _, _]), (3, Value.slice _ _ _)]) rfl (bl50_0i1_1a3_3s3 _ _ _ _ _ _ _)) ?_
 refine d_eff 9 rfl (by kernel_rfl) (fun K_65 hKK_65 hcK_65 => ?_)
 refine r_stw (k := 0) .none sz50 rfl rfl (IsRow.lit _) (one_lit rfl (all_cons rfl (all_cons rfl (all_cons rfl (all_cons rfl (all_cons rfl (all_cons (u_62).one rfl))))))) rfl ?_
 refine r_nil (e_d (i := 9) (brk := (fun _ => false)) (ph' := true) hKK_65 hcK_65 rfl (fun _ => hn_59.le) (fun _ => .drop (.keep (fun _ _ h => h) (.keep (fun _ _ h => h) (.nil)))) ?_)
 clear hKK_65 hcK_65 K_65
 refine d_nil (by kernel_rfl) ?_
 refine e_next (c_seq (c_seq (c_region ?_)))
 refine r_val .none rfl (p_field Try.underlying90 rfl sz88 rfl) ?_
 refine r_val .none rfl (p_ld (k := 1) Try.underlying88 rfl rfl rfl (by first | exact odt rfl | omega) rfl) ?_
 refine r_val .none rfl (p_leng Try.underlying88 rfl ht_9) ?_
 have bd_66 := (ht_9).bound
 refine r_val .none rfl (p_move rfl) (r_nil (e_next (c_block ?_)))
 refine c_nilrow 52 3 ?_
 refine c_name (d := 2) rfl (fun u_67 hu_67 => ?_)
 refine c_name (d := 3) rfl (fun u_68 hu_68 => ?_)
 refine c_name (d := 5) rfl (fun u_69 hu_69 => ?_)
 refine c_name (d := 6) rfl (fun u_70 hu_70 => ?_)
 refine c_name (d := 9) rfl (fun u_71 hu_71 => ?_)
 refine c_name (d := 10) rfl (fun u_72 hu_72 => ?_)
 refine c_name (d := 11) rfl (fun u_73 hu_73 => ?_)
 refine c_name (d := 12) rfl (fun u_74 hu_74 => ?_)
 refine c_name (d := 13) rfl (fun u_75 hu_75 => ?_)
 refine c_name (d := 14) rfl (fun u_76 hu_76 => ?_)
 refine c_name (d := 15) rfl (fun u_77 hu_77 => ?_)
 refine c_name (d := 16) rfl (fun u_78 hu_78 => ?_)
 refine c_name (d := 17) rfl (fun u_79 hu_79 => ?_)
 refine c_name (d := 18) rfl (fun u_80 hu_80 => ?_)
 refine c_name (d := 19) rfl (fun u_81 hu_81 => ?_)
 refine c_name (d := 20) rfl (fun u_82 hu_82 => ?_)
 refine c_name (d := 21) rfl (fun u_83 hu_83 => ?_)
 refine c_name (d := 22) rfl (fun u_84 hu_84 => ?_)
 refine c_name (d := 23) rfl (fun u_85 hu_85 => ?_)
 refine c_name (d := 24) rfl (fun u_86 hu_86 => ?_)
 refine c_name (d := 25) rfl (fun u_87 hu_87 => ?_)
 refine c_nameL (k := 2) rfl (fun A_88 hA_88 => ?_)
 refine c_nameL (k := 3) rfl (fun A_89 hA_89 => ?_)
 refine c_loop (σ := Nat × Value) (fun s => [(26, Value.int .i64 (s.1 : Nat)), (2, u_67), (3, u_68), (5, u_69), (6, u_70), (9, u_71), (10, u_72), (11, u_73), (12, u_74), (13, u_75), (14, u_76), (15, u_77), (16, u_78), (17, u_79), (18, u_80), (19, u_81), (20, u_82), (21, u_83), (22, u_84), (23, u_85), (24, u_86), (25, u_87)]) (fun s => [rowA (s.2) 52 3 (((rs.getD k s0).1.h.ts.take s.1)).length ((((rs.getD k s0).1.h.ts.take s.1)).flatMap tC), box b_6 6 50 (at_ [.int .i64 (rs.getD k s0).1.h.k, .int .i64 (rs.getD k s0).1.h.k0, .int .i64 (rs.getD k s0).1.h.k1, .int .i64 (rs.getD k s0).1.h.k2, s.2, (.slice a_63 (rs.getD k s0).1.subs.length c_64)]), A_88, A_89]) (fun _ => _) (fun s => s.1 ≤ (rs.getD k s0).1.h.ts.length) (fun s => (rs.getD k s0).1.h.ts.length - s.1) ((0, _)) (Nat.zero_le _) rfl ⟨rfl, rfl, rfl, rfl, rfl, rfl, rfl, rfl, rfl, rfl, rfl, rfl, rfl, rfl, rfl, rfl, rfl, rfl, rfl, rfl, rfl, rfl, trivial⟩ (.keep (fun _ _ h => rowA_nil rfl _ _ h) (.keep (fun _ _ h => box_congr (fun i hi => by match i, hi with | 0, _ => rfl | 1, _ => rfl | 2, _ => rfl | 3, _ => rfl | 4, _ => rfl | 5, _ => rfl) _ _ h) (.keep (fun _ _ h => h) (.keep (fun _ _ h => h) (.nil))))) (fun s hphi => ?_)
 subst hu_67
 subst hu_68
 subst hu_69
 subst hu_70
 subst hu_71
 subst hu_72
 subst hu_73
 subst hu_74
 subst hu_75
 subst hu_76
 subst hu_77
 subst hu_78
 subst hu_79
 subst hu_80
 subst hu_81
 subst hu_82
 subst hu_83
 subst hu_84
 subst hu_85
 subst hu_86
 subst hu_87
 subst hA_88
 subst hA_89
 obtain ⟨j, u⟩ := s
 dsimp only at hphi ⊢
 refine c_row1 (k := 0) rfl (fun ov => ?_)
 refine c_rowlen (k := 0) rfl (fun l63 => ?_)
 refine c_seq (c_region ?_)
 refine r_val .none rfl (p_lt rfl rfl) ?_
 refine r_nil (e_next (c_seq ?_))
 refine c_splitd (d := 27) rfl (fun h_90 => ?_) (fun h_90 => ?_)
 · (
 first
 | (exfalso; omega)
 | (
 refine c_cond_t rfl (c_skip (e_next (c_seq (c_block ?_))))
 refine c_seq (c_region ?_)
 refine r_iaddr_g .none rfl Try.underlying88 sz96 rfl ht_9 rfl (by first | exact odt rfl | omega) (fun p_92 o_93 R_91 => ?_)
 refine r_val .none rfl (p_ldga0 Try.underlying96 rfl sz96 rfl R_91 (by first | exact odt rfl | omega) (rfl : _ = Value.agg #[_, _, _])) ?_
 refine r_alloc .none rfl zr96 (IsRow.lit _) (fun b_7 => ?_)
 refine r_stw (k := 0) .none sz96 rfl rfl (IsRow.lit _) (one_lit rfl rfl) rfl ?_
 refine r_nil (e_next (c_region ?_))
 refine r_val .none rfl (p_field Try.underlying50 rfl sz48 rfl) ?_
 refine r_val .none rfl (p_ld (k := 2) Try.underlying48 rfl rfl rfl (by first | exact odt rfl | omega) rfl) ?_
 refine r_val .none rfl (p_field Try.underlying96 rfl sz3 rfl) ?_
 refine r_val .none rfl (p_ld (k := 0) Try.underlying3 rfl rfl rfl (by first | exact odt rfl | omega) (rfl : _ = Value.int _ _)) ?_
 refine r_val .none rfl (p_field Try.underlying96 rfl sz3 rfl) ?_
 refine r_val .none rfl (p_ld (k := 0) Try.underlying3 rfl rfl rfl (by first | exact odt rfl | omega) (rfl : _ = Value.int _ _)) ?_
 refine r_val .none rfl (p_field Try.underlying96 rfl sz3 rfl) ?_
 refine r_val .none rfl (p_ld (k := 0) Try.underlying3 rfl rfl rfl (by first | exact odt rfl | omega) (rfl : _ = Value.int _ _)) ?_
 refine r_val .none rfl (p_build (vs := [(0, Value.int _ _), (1, Value.int _ _), (2, Value.int _ _)]) rfl (bl52_0i1_1i1_2i1 _ _ _)) ?_
 refine r_bslice (vs := [(0, Value.agg #[_, _, _])]) (c := #[_, _, _]) .none rfl Try.underlying48 el52 rfl rfl rfl (bs52_10a3 _ _ _) (IsRow.lit _) (fun b_8 => ?_)
 refine r_append (k := 2) (k2 := 0) .none rfl Try.underlying48 el52 rfl (by decide) rfl rfl rfl rfl rfl (one_lit rfl rfl) (by rw [List.length_take]; simp only [maxLen]; omega) (by rw [List.length_take]; omega) (fun v_94 => ?_)
 refine r_row1 (k := 2) rfl (fun o_95 => ?_)
 refine r_val .none rfl (p_field Try.underlying50 rfl sz48 rfl) ?_
 refine r_st (k := 3) .none sz48 rfl rfl o_95 rfl (by first | exact odt rfl | omega) ?_
 refine r_nil ?_
 refine e_norm_block ?_
 refine e_next (c_region ?_)
 refine r_val .none rfl (p_add rfl rfl (by omega)) ?_
 refine r_val .none rfl (p_move rfl) (r_nil ?_)
 refine e_round ((j + 1, _)) ⟨by dsimp only; omega, by dsimp only; omega⟩ rfl ⟨rfl, rfl, rfl, rfl, rfl, rfl, rfl, rfl, rfl, rfl, rfl, rfl, rfl, rfl, rfl, rfl, rfl, rfl, rfl, rfl, rfl, rfl, trivial⟩ (.drop (.drop (.keep (fun _ _ h => rowA_snoc (ts_next (by omega)) rfl rfl rfl _ _ h) (.keep (fun _ _ h => box_congr (fun i hi => by match i, hi with | 0, _ => rfl | 1, _ => rfl | 2, _ => rfl | 3, _ => rfl | 4, _ => rfl | 5, _ => rfl) _ _ h) (.keep (fun _ _ h => h) (.keep (fun _ _ h => h) (.nil)))))))))
 · (
 first
 | (exfalso; omega)
 | (
 refine c_cond_f rfl (c_exit (e_exit_then (e_exit_then ?_)))
 refine e_exit_block ?_
 refine e_next (c_region ?_)
 have hj2 : (rs.getD k s0).1.h.ts.take j = (rs.getD k s0).1.h.ts := List.take_of_length_le (by omega)
 refine r_freezeD (k := 0) rfl (fun G_96 hn_97 hs_98 => ?_)
 replace hs_98 := SlG.mono hs_98 (dif_up hG0)
 replace hr := hr.mono hn_97.le
 replace hrt := fun p hm0 => (hrt p hm0).mono hn_97.le
 replace hp := fun p hm0 => (hp p hm0).mono hn_97.le
 replace hG0 := GLe.trans hG0 hn_97.le
 replace hqt := fun p hm0 => (hqt p hm0).mono (dif_mono hn_97.le)
 replace hqs := fun p hm0 => (hqs p hm0).mono (dif_mono hn_97.le)
 replace R_6 := R_6.mono hn_97.le
 replace ht_9 := ht_9.mono hn_97.le
 replace hc_10 := hc_10.mono hn_97.le
 replace u_62 := u_62.mono (dif_mono hn_97.le)
 have hts_99 : SlL (dif G G_96) u 3 tC t0 (rs.getD k s0).1.h.ts := SlL.of2 t0 (fun _ => rfl) (by rw [hj2]) (by rw [hj2]) hs_98
 refine r_val .none rfl (p_move rfl) ?_
 refine r_val .none rfl (p_ldw (k := 0) Try.underlying50 rfl sz50 rfl rfl (rfl : _ = Value.agg #[_, _, _, _, _, _])) ?_
 refine r_bslice (vs := [(0, Value.agg #[_, _, _, _, _, _])]) (c := #[_, _, _, _, _, _]) .none rfl Try.underlying35 el50 rfl rfl rfl (bs50_10a6 _ _ _ _ _ _) (IsRow.lit _) (fun b_9 => ?_)
 refine r_append (k := 3) (k2 := 0) .none rfl Try.underlying35 el50 rfl (by decide) rfl rfl rfl rfl rfl (one_lit rfl (all_cons rfl (all_cons rfl (all_cons rfl (all_cons rfl (all_cons (hts_99).one (all_cons (u_62).one rfl))))))) (by simp only [maxLen]; omega) (by omega) (fun v_100 => ?_)
 refine r_row1 (k := 3) rfl (fun o_101 => ?_)
 refine r_val .none rfl (p_assign rfl) (r_nil ?_)
 refine e_norm_block ?_
 refine e_next (c_region ?_)
 refine r_val .none rfl (p_add rfl rfl (by omega)) ?_
 refine r_val .none rfl (p_move rfl) (r_nil ?_)
 refine e_round ((k + 1, _, qs ++ [((rs.getD k s0).1, u, (.slice a_63 (rs.getD k s0).1.subs.length c_64))], _)) ⟨⟨by dsimp only; omega, by rw [sv_take (by omega), List.map_append, hq]; rfl, (fun p hp' => by rcases List.mem_append.1 hp' with h | h; exact hqt p h; rw [List.mem_singleton.1 h]; exact hts_99), (fun p hp' => by rcases List.mem_append.1 hp' with h | h; exact hqs p h; rw [List.mem_singleton.1 h]; exact u_62), ((hgn.trans hn_59).trans hn_97)⟩, by dsimp only; omega⟩ rfl ⟨rfl, rfl, rfl, rfl, rfl, trivial⟩ (.drop (.drop (.drop (.keep (fun _ _ h => rowA_snoc (l := qs) (x := ((rs.getD k s0).1, u, (.slice a_63 (rs.getD k s0).1.subs.length c_64))) rfl rfl rfl rfl _ _ h) (.nil))))))))))
 · (
 first
 | (exfalso; omega)
 | (
 refine c_cond_f rfl (c_exit (e_exit_then (e_exit_then ?_)))
 refine e_exit_block ?_
 refine e_next (c_seq (c_region (r_val .none rfl (p_move rfl) (r_val .none rfl (p_assign rfl) ?_))))
 refine r_nil (e_next ?_)
 refine c_ret ?_
 refine e_freezeD (k := 0) rfl (fun G_102 hn_103 hs_104 => ?_)
 replace hs_104 := SlG.mono hs_104 (dif_up hG0)
 replace hr := hr.mono hn_103.le
 replace hrt := fun p hm0 => (hrt p hm0).mono hn_103.le
 replace hp := fun p hm0 => (hp p hm0).mono hn_103.le
 replace hG0 := GLe.trans hG0 hn_103.le
 replace hqt := fun p hm0 => (hqt p hm0).mono (dif_mono hn_103.le)
 replace hqs := fun p hm0 => (hqs p hm0).mono (dif_mono hn_103.le)
 refine e_ret1 Try.results13 (.tmp rfl .nil) (fun w hm => ⟨_, (hgn.trans hn_103), hm.has, ?_, hm.since⟩)
 rw [show l = qs.map Prod.fst by rw [hq, hl, List.take_of_length_le (by simp; omega)]]
 exact Ss.mk qs (SlL.of s0 (fun _ => rfl) rfl hs_104) hqt hqs))
theorem c_stepsD_n : ∀ n, StepsDIs n
 | 0 => fun v l G w hz hsz hs hG => absurd hz (by cases l <;> simp)
 | n + 1 => fun v l G w hz hsz hs hG => c_stepsD_s n (c_stepsD_n n) v l hz hsz hs w hG
theorem c_stepsD (v : Value) (l : List ST) {G : Ghost} (hsz : sszL l ≤ 5000) (hs : Ss G v l) (w : World) (hG : Has G w) : Calls Try.prog 13 #[v] w (Ret fun r w' => ∃ G', GNew w nX G G' ∧ Has G' w' ∧ Ss (dif G G') r l ∧ Since nX w w') := c_stepsD_n _ v l G w (Nat.le_refl _) hsz hs hG
theorem c_cloneTD (v : Value) (rs : List TD) {G : Ghost} (hr : SlL G v 3 tC t0 rs) (hlen : rs.length ≤ 1000) (w : World) (hG : Has G w) : Calls Try.prog 75 #[v] w (Ret fun r w' => ∃ G2, GNew w nX G G2 ∧ Has G2 w' ∧ SlL (dif G G2) r 3 tC t0 rs ∧ Since nX w w') := by
 refine (c_cloneT v rs hr hlen w hG).mono (fun e w' hR => ?_)
 cases e with
 | returned r => (
 obtain ⟨G2, h1, h2, h3, h4⟩ := row_memD hG hR
 exact ⟨G2, h1, h2, SlL.of t0 (fun _ => rfl) rfl h3, h4⟩)
 | panicked c => exact hR.elim
 | outgrown => exact hR.elim
theorem c_tcloneD_s (n : Nat) (ih : CloneDIs n) (c : ST) (ta sb : Value) {G : Ghost} (hz : SizeOf.sizeOf c ≤ n + 1) (hsz : ssz c ≤ 1000) (ht : SlL G ta 3 tC t0 c.h.ts) (hs : Ss G sb c.subs) (w : World) (hG : Has G w) :
    Calls Try.prog 63 #[Value.agg #[Value.int .i64 c.h.k, Value.int .i64 c.h.k0, Value.int .i64 c.h.k1, Value.int .i64 c.h.k2, ta, sb]] w (Ret fun r w' => ∃ G', GNew w nX G G' ∧ Has G' w' ∧ (∃ ua ub, r = Value.agg #[Value.int .i64 (c).h.k, Value.int .i64 (c).h.k0, Value.int .i64 (c).h.k1, Value.int .i64 (c).h.k2, ua, ub] ∧ SlL (dif G G') ua 3 tC t0 (c).h.ts ∧ Ss (dif G G') ub (c).subs) ∧ Since nX w w') := by
 refine enter (args := [_]) (X := nX) (G := G) (l := [(0, Value.agg #[Value.int .i64 c.h.k, Value.int .i64 c.h.k0, Value.int .i64 c.h.k1, Value.int .i64 c.h.k2, ta, sb])]) Try.func63 rfl Try.ntmps63 hG ⟨rfl, trivial⟩ (Nat.le_of_ble_eq_true rfl) ?_
 obtain ⟨rs, hr, hrt, hrs, hl⟩ := hs.inv
 have hbd := hr.bound
 have hbd2 := ht.bound
 have hsq := ssz_eq c
 have hll := sszL_len c.subs
 have hlr : c.subs.length = rs.length := by rw [hl]; simp
 have hG0 := GLe.refl G
 refine c_seq (c_region ?_)
 refine r_box .none rfl rfl (IsRow.lit _) (fun b_1 => ?_)
 refine r_alloc .none rfl zr50 (IsRow.lit _) (fun b_2 => ?_)
 refine r_nil (e_next (c_seq ?_))
 refine c_region_d (fun j => [9].contains j) _ mixed (.keep (fun _ _ h => h) (.keep (fun _ _ h => h) (.nil))) ?_
 refine d_val1 0 rfl rfl (by kernel_rfl) (fun j hj => by have h : 9 < j := (Nat.lt_of_lt_of_le (by decide : 9 < 10) hj); simp; omega) .none rfl (p_field Try.underlying50 rfl sz3 rfl) ?_
 refine d_val1 1 rfl rfl (by kernel_rfl) (fun j hj => by have h : 9 < j := (Nat.lt_of_lt_of_le (by decide : 9 < 10) hj); simp; omega) .none rfl (p_ld (k := 1) Try.underlying3 rfl rfl rfl (by first | exact odt rfl | omega) (rfl : _ = Value.int _ _)) ?_
 refine d_val1 2 rfl rfl (by kernel_rfl) (fun j hj => by have h : 9 < j := (Nat.lt_of_lt_of_le (by decide : 9 < 10) hj); simp; omega) .none rfl (p_field Try.underlying50 rfl sz47 rfl) ?_
 refine d_val1 3 rfl rfl (by kernel_rfl) (fun j hj => by have h : 9 < j := (Nat.lt_of_lt_of_le (by decide : 9 < 10) hj); simp; omega) .none rfl (p_lda (k := 1) Try.underlying47 rfl sz47 rfl rfl (by first | exact odt rfl | omega) (rfl : _ = Value.agg #[_, _, _])) ?_
 refine d_val1 4 rfl rfl (by kernel_rfl) (fun j hj => by have h : 9 < j := (Nat.lt_of_lt_of_le (by decide : 9 < 10) hj); simp; omega) .none rfl (p_field Try.underlying50 rfl sz48 rfl) ?_
 refine d_val1 5 rfl rfl (by kernel_rfl) (fun j hj => by have h : 9 < j := (Nat.lt_of_lt_of_le (by decide : 9 < 10) hj); simp; omega) .none rfl (p_ld (k := 1) Try.underlying48 rfl rfl rfl (by first | exact odt rfl | omega) rfl) ?_
 refine d_eff2 6 8 rfl rfl (by kernel_rfl) (fun K_1 hKK_1 hcK_1 => ?_) (fun K_1 hKK_1 hcK_1 => ?_)
 · (
 refine r_callm (vs := [_]) .none rfl cl75 rfl (fun w hw => c_cloneTD _ _ ht (by omega) w hw) (fun G_2 v_5 hn_3 hr_4 => ?_)
 replace hr_4 := SlL.mono hr_4 (dif_up hG0)
 replace ht := ht.mono hn_3.le
 replace hr := hr.mono hn_3.le
 replace hrt := fun p hm0 => (hrt p hm0).mono hn_3.le
 replace hrs := fun p hm0 => (hrs p hm0).mono hn_3.le
 replace hG0 := GLe.trans hG0 hn_3.le
 have hts := hr_4
 refine r_nil (e_d (i := 6) (brk := (fun j => [9].contains j)) (ph' := true) hKK_1 hcK_1 rfl (fun _ => hn_3.le) (fun _ => .keep (fun _ _ h => h) (.keep (fun _ _ h => h) (.nil))) ?_)
 clear hKK_1 hcK_1 K_1
 obtain ⟨a_7, c_8, rfl⟩ := SlG.len hts
 refine d_val1 7 rfl rfl (by kernel_rfl) (fun j hj => by have h : 9 < j := (Nat.lt_of_lt_of_le (by decide : 9 < 10) hj); simp; omega) .none rfl (p_build (vs := [(0, Value.int _ _), (1, Value.agg #[_, _, _]), (2, Value.slice _ _ _)]) rfl (bl50_0i1_1a3_2s3 _ _ _ _ _ _ _)) ?_
 refine d_eff 8 rfl (by kernel_rfl) (fun K_9 hKK_9 hcK_9 => ?_)
 refine r_alloc .none rfl zr50 (IsRow.lit _) (fun b_3 => ?_)
 refine r_nil (e_d (i := 8) (brk := (fun j => [9].contains j)) (ph' := true) hKK_9 hcK_9 rfl (fun _ => hn_3.le) (fun _ => .drop (.keep (fun _ _ h => h) (.keep (fun _ _ h => h) (.nil)))) ?_)
 clear hKK_9 hcK_9 K_9
 refine d_eff 9 rfl (by kernel_rfl) (fun K_10 hKK_10 hcK_10 => ?_)
 refine r_stw (k := 0) .none sz50 rfl rfl (IsRow.lit _) (one_lit rfl (all_cons rfl (all_cons rfl (all_cons rfl (all_cons rfl (all_cons (hts).one (all_cons rfl rfl))))))) rfl ?_
 refine r_nil (e_d (i := 9) (brk := (fun j => [9].contains j)) (ph' := false) hKK_10 hcK_10 rfl (fun h => by cases h) (fun h => by cases h) ?_)
 clear hKK_10 hcK_10 K_10
 refine d_nil (by kernel_rfl) ?_
 refine e_next (c_seq (c_seq (c_region ?_)))
 refine r_val .none rfl (p_field Try.underlying50 rfl sz35 rfl) ?_
 refine r_val .none rfl (p_ld (k := 2) Try.underlying35 rfl rfl rfl (by first | exact odt rfl | omega) rfl) ?_
 refine r_val .none rfl (p_leng Try.underlying35 rfl hr) ?_
 have bd_11 := (hr).bound
 refine r_val .none rfl (p_move rfl) (r_nil (e_next (c_block ?_)))
 refine c_nilrow 50 6 ?_
 refine c_name (d := 2) rfl (fun u_12 hu_12 => ?_)
 refine c_name (d := 3) rfl (fun u_13 hu_13 => ?_)
 refine c_name (d := 15) rfl (fun u_14 hu_14 => ?_)
 refine c_name (d := 16) rfl (fun u_15 hu_15 => ?_)
 refine c_nameL (k := 2) rfl (fun A_16 hA_16 => ?_)
 refine c_nameL (k := 3) rfl (fun A_17 hA_17 => ?_)
 refine c_loop (σ := Nat × Value × List SVal × Ghost) (fun s => [(17, Value.int .i64 (s.1 : Nat)), (2, u_12), (3, u_13), (15, u_14), (16, u_15)]) (fun s => [rowA (s.2.1) 50 6 (s.2.2.1).length ((s.2.2.1).flatMap sC), box b_3 6 50 (at_ [.int .i64 c.h.k, .int .i64 c.h.k0, .int .i64 c.h.k1, .int .i64 c.h.k2, .slice a_7 c.h.ts.length c_8, s.2.1]), A_16, A_17]) (fun s => s.2.2.2) (fun s => s.1 ≤ rs.length ∧ s.2.2.1.map Prod.fst = (rs.map Prod.fst).take s.1 ∧ (∀ p ∈ s.2.2.1, SlL (dif G s.2.2.2) p.2.1 3 tC t0 p.1.h.ts) ∧ (∀ p ∈ s.2.2.1, Ss (dif G s.2.2.2) p.2.2 p.1.subs) ∧ GNew w nX G_2 s.2.2.2) (fun s => rs.length - s.1) ((0, _, [], _)) ⟨Nat.zero_le _, rfl, by simp, by simp, GNew.refl _ _ _⟩ rfl ⟨rfl, rfl, rfl, rfl, rfl, trivial⟩ (.keep (fun _ _ h => rowA_nil rfl _ _ h) (.keep (fun _ _ h => box_congr (fun i hi => by match i, hi with | 0, _ => rfl | 1, _ => rfl | 2, _ => rfl | 3, _ => rfl | 4, _ => rfl | 5, _ => rfl) _ _ h) (.keep (fun _ _ h => h) (.keep (fun _ _ h => h) (.nil))))) (fun s hphi => ?_)
 subst hu_12
 subst hu_13
 subst hu_14
 subst hu_15
 subst hA_16
 subst hA_17
 obtain ⟨k, v, qs, H⟩ := s
 obtain ⟨hk, hq, hqt, hqs, hgn⟩ := hphi
 dsimp only at hk hq hqt hqs hgn ⊢
 have hql : qs.length ≤ k := (by have := congrArg List.length hq; simp at this; omega)
 refine c_row1 (k := 0) rfl (fun ov => ?_)
 refine c_rowlen (k := 0) rfl (fun l63 => ?_)
 replace ht := ht.mono hgn.le
 replace hr := hr.mono hgn.le
 replace hrt := fun p hm0 => (hrt p hm0).mono hgn.le
 replace hrs := fun p hm0 => (hrs p hm0).mono hgn.le
 replace hG0 := GLe.trans hG0 hgn.le
 replace hts := hts.mono (dif_mono hgn.le)
 refine c_seq (c_region ?_)
 refine r_val .none rfl (p_lt rfl rfl) ?_
 refine r_nil (e_next (c_seq ?_))
 refine c_splitd (d := 18) rfl (fun h_18 => ?_) (fun h_18 => ?_)
 · (
 first
 | (exfalso; omega)
 | (
 refine c_cond_t rfl (c_skip (e_next (c_seq (c_block ?_))))
 refine c_seq (c_region ?_)
 refine r_iaddr_g .none rfl Try.underlying35 sz50 rfl hr rfl (by first | exact odt rfl | omega) (fun p_20 o_21 R_19 => ?_)
 have ht_22 := hrt _ (getD_mem (i := k) (d := s0) (by omega))
 have hc_23 := hrs _ (getD_mem (i := k) (d := s0) (by omega))
 have hz8 : ssz (rs.getD k s0).1 ≤ 1000 := Nat.le_trans (sszL_mem (l := c.subs) (by rw [hl]; exact sv_mem (k := k) (by omega))) (by omega)
 refine r_val .none rfl (p_ldga0 Try.underlying50 rfl sz50 rfl R_19 (by first | exact odt rfl | omega) (rfl : _ = Value.agg #[_, _, _, _, _, _])) ?_
 refine r_alloc .none rfl zr50 (IsRow.lit _) (fun b_4 => ?_)
 refine r_stw (k := 0) .none sz50 rfl rfl (IsRow.lit _) (one_lit rfl (all_cons rfl (all_cons rfl (all_cons rfl (all_cons rfl (all_cons (ht_22).one (all_cons (hc_23).one rfl))))))) rfl ?_
 refine r_nil (e_next ?_)
 refine c_region_d (fun j => [5, 6, 7].contains j) _ mixed (.keep (fun _ _ h => h) (.keep (fun _ _ h => h) (.keep (fun _ _ h => h) (.keep (fun _ _ h => h) (.keep (fun _ _ h => h) (.nil)))))) ?_
 refine d_val1 0 rfl rfl (by kernel_rfl) (fun j hj => by have h : 7 < j := (Nat.lt_of_lt_of_le (by decide : 7 < 8) hj); simp; omega) .none rfl (p_field Try.underlying50 rfl sz35 rfl) ?_
 refine d_val1 1 rfl rfl (by kernel_rfl) (fun j hj => by have h : 7 < j := (Nat.lt_of_lt_of_le (by decide : 7 < 8) hj); simp; omega) .none rfl (p_ld (k := 2) Try.underlying35 rfl rfl rfl (by first | exact odt rfl | omega) rfl) ?_
 refine d_val1 2 rfl rfl (by kernel_rfl) (fun j hj => by have h : 7 < j := (Nat.lt_of_lt_of_le (by decide : 7 < 8) hj); simp; omega) .none rfl (p_ldw (k := 0) Try.underlying50 rfl sz50 rfl rfl (rfl : _ = Value.agg #[_, _, _, _, _, _])) ?_
 refine d_eff 3 rfl (by kernel_rfl) (fun K_24 hKK_24 hcK_24 => ?_)
 refine r_callm (vs := [_]) .none rfl cl63 rfl (fun w hw => ih (rs.getD k s0).1 _ _ _ w (ssz_at hl (by omega) hz) hz8 ht_22 hc_23 hw) (fun G_25 v_28 hn_26 hr_27 => ?_)
 obtain ⟨u_29a, u_29b, rfl, u_29s, u_29t⟩ := hr_27
 replace u_29s := SlL.mono u_29s (dif_up hG0)
 replace u_29t := Ss.mono u_29t (dif_up hG0)
 replace ht := ht.mono hn_26.le
 replace hr := hr.mono hn_26.le
 replace hrt := fun p hm0 => (hrt p hm0).mono hn_26.le
 replace hrs := fun p hm0 => (hrs p hm0).mono hn_26.le
 replace hG0 := GLe.trans hG0 hn_26.le
 replace hts := hts.mono (dif_mono hn_26.le)
 replace hqt := fun p hm0 => (hqt p hm0).mono (dif_mono hn_26.le)
 replace hqs := fun p hm0 => (hqs p hm0).mono (dif_mono hn_26.le)
 replace R_19 := R_19.mono hn_26.le
 replace ht_22 := ht_22.mono hn_26.le
 replace hc_23 := hc_23.mono hn_26.le
 refine r_nil (e_d (i := 3) (brk := (fun j => [5, 6, 7].contains j)) (ph' := true) hKK_24 hcK_24 rfl (fun _ => hn_26.le) (fun _ => .keep (fun _ _ h => h) (.keep (fun _ _ h => h) (.keep (fun _ _ h => h) (.keep (fun _ _ h => h) (.keep (fun _ _ h => h) (.nil)))))) ?_)
 clear hKK_24 hcK_24 K_24
 refine d_eff 4 rfl (by kernel_rfl) (fun K_30 hKK_30 hcK_30 => ?_)
 refine r_bslice (vs := [(0, Value.agg #[_, _, _, _, _, _])]) (c := #[_, _, _, _, _, _]) .none rfl Try.underlying35 el50 rfl rfl rfl (bs50_10a6 _ _ _ _ _ _) (IsRow.lit _) (fun b_5 => ?_)
 refine r_nil (e_d (i := 4) (brk := (fun j => [5, 6, 7].contains j)) (ph' := true) hKK_30 hcK_30 rfl (fun _ => hn_26.le) (fun _ => .drop (.keep (fun _ _ h => h) (.keep (fun _ _ h => h) (.keep (fun _ _ h => h) (.keep (fun _ _ h => h) (.keep (fun _ _ h => h) (.nil))))))) ?_)
 clear hKK_30 hcK_30 K_30
 refine d_eff 5 rfl (by kernel_rfl) (fun K_31 hKK_31 hcK_31 => ?_)
 refine r_append (k := 2) (k2 := 0) .none rfl Try.underlying35 el50 rfl (by decide) rfl rfl rfl rfl rfl (one_lit rfl (all_cons rfl (all_cons rfl (all_cons rfl (all_cons rfl (all_cons (u_29s).one (all_cons (u_29t).one rfl))))))) (by simp only [maxLen]; omega) (by omega) (fun v_32 => ?_)
 refine r_row1 (k := 2) rfl (fun o_33 => ?_)
 refine r_nil (e_d (i := 5) (brk := (fun j => [5, 6, 7].contains j)) (ph' := false) hKK_31 hcK_31 rfl (fun h => by cases h) (fun h => by cases h) ?_)
 clear hKK_31 hcK_31 K_31
 refine d_val2 6 rfl rfl (by kernel_rfl) .none rfl (fun _ => p_field Try.underlying50 rfl sz35 rfl) ?_
 refine d_eff 7 rfl (by kernel_rfl) (fun K_34 hKK_34 hcK_34 => ?_)
 refine r_st (k := 3) .none sz35 rfl rfl o_33 rfl (by first | exact odt rfl | omega) ?_
 refine r_nil (e_d (i := 7) (brk := (fun j => [5, 6, 7].contains j)) (ph' := false) hKK_34 hcK_34 rfl (fun h => by cases h) (fun h => by cases h) ?_)
 clear hKK_34 hcK_34 K_34
 refine d_nil (by kernel_rfl) ?_
 refine e_norm_block ?_
 refine e_next (c_region ?_)
 refine r_val .none rfl (p_add rfl rfl (by omega)) ?_
 refine r_val .none rfl (p_move rfl) (r_nil ?_)
 refine e_round ((k + 1, _, qs ++ [((rs.getD k s0).1, u_29a, u_29b)], _)) ⟨⟨by dsimp only; omega, by rw [sv_take (by omega), List.map_append, hq]; rfl, (fun p hp' => by rcases List.mem_append.1 hp' with h | h; exact hqt p h; rw [List.mem_singleton.1 h]; exact u_29s), (fun p hp' => by rcases List.mem_append.1 hp' with h | h; exact hqs p h; rw [List.mem_singleton.1 h]; exact u_29t), (hgn.trans hn_26)⟩, by dsimp only; omega⟩ rfl ⟨rfl, rfl, rfl, rfl, rfl, trivial⟩ (.drop (.drop (.keep (fun _ _ h => rowA_snoc (l := qs) (x := ((rs.getD k s0).1, u_29a, u_29b)) rfl rfl rfl rfl _ _ h) (.keep (fun _ _ h => box_congr (fun i hi => by match i, hi with | 0, _ => rfl | 1, _ => rfl | 2, _ => rfl | 3, _ => rfl | 4, _ => rfl | 5, _ => rfl) _ _ h) (.keep (fun _ _ h => h) (.keep (fun _ _ h => h) (.nil)))))))))
 · (
 first
 | (exfalso; omega)
 | (
 refine c_cond_f rfl (c_exit (e_exit_then (e_exit_then ?_)))
 refine e_exit_block ?_
 refine e_next (c_seq (c_region ?_))
 refine r_val .none rfl (p_ldw (k := 1) Try.underlying50 rfl sz50 rfl rfl (rfl : _ = Value.agg #[_, _, _, _, _, _])) ?_
 refine r_stw (k := 2) .none sz50 rfl rfl (IsRow.lit _) (one_lit rfl (all_cons rfl (all_cons rfl (all_cons rfl (all_cons rfl (all_cons (hts).one (all_cons ov rfl))))))) rfl ?_
 refine r_nil (e_next ?_)
 refine c_ret ?_
 refine e_freezeD (k := 0) rfl (fun G_35 hn_36 hs_37 => ?_)
 replace hs_37 := SlG.mono hs_37 (dif_up hG0)
 replace ht := ht.mono hn_36.le
 replace hr := hr.mono hn_36.le
 replace hrt := fun p hm0 => (hrt p hm0).mono hn_36.le
 replace hrs := fun p hm0 => (hrs p hm0).mono hn_36.le
 replace hG0 := GLe.trans hG0 hn_36.le
 replace hts := hts.mono (dif_mono hn_36.le)
 replace hqt := fun p hm0 => (hqt p hm0).mono (dif_mono hn_36.le)
 replace hqs := fun p hm0 => (hqs p hm0).mono (dif_mono hn_36.le)
 refine e_ret1 Try.results63 (.cell (k := 1) rfl Try.underlying50 rfl sz50 rfl (rfl : _ = Value.agg #[_, _, _, _, _, _]) .nil) (fun w hm => ⟨_, ((hn_3.trans hgn).trans hn_36), hm.has, ?_, hm.since⟩)
 exact ⟨_, _, rfl, hts, by rw [show c.subs = qs.map Prod.fst by rw [hq, hl, List.take_of_length_le (by simp; omega)]]; exact Ss.mk qs (SlL.of s0 (fun _ => rfl) rfl hs_37) hqt hqs⟩)))
 · (
 refine r_alloc .none rfl zr50 (IsRow.lit _) (fun b_6 => ?_)
 refine r_nil (e_d (i := 8) (brk := (fun j => [9].contains j)) (ph' := true) hKK_1 hcK_1 rfl (fun _ => GLe.refl _) (fun _ => .drop (.keep (fun _ _ h => h) (.keep (fun _ _ h => h) (.nil)))) ?_)
 clear hKK_1 hcK_1 K_1
 refine d_eff 6 rfl (by kernel_rfl) (fun K_38 hKK_38 hcK_38 => ?_)
 refine r_callm (vs := [_]) .none rfl cl75 rfl (fun w hw => c_cloneTD _ _ ht (by omega) w hw) (fun G_39 v_42 hn_40 hr_41 => ?_)
 replace hr_41 := SlL.mono hr_41 (dif_up hG0)
 replace ht := ht.mono hn_40.le
 replace hr := hr.mono hn_40.le
 replace hrt := fun p hm0 => (hrt p hm0).mono hn_40.le
 replace hrs := fun p hm0 => (hrs p hm0).mono hn_40.le
 replace hG0 := GLe.trans hG0 hn_40.le
 have hts := hr_41
 refine r_nil (e_d (i := 6) (brk := (fun j => [9].contains j)) (ph' := true) hKK_38 hcK_38 rfl (fun _ => hn_40.le) (fun _ => .drop (.keep (fun _ _ h => h) (.keep (fun _ _ h => h) (.nil)))) ?_)
 clear hKK_38 hcK_38 K_38
 obtain ⟨a_44, c_45, rfl⟩ := SlG.len hts
 refine d_val1 7 rfl rfl (by kernel_rfl) (fun j hj => by have h : 9 < j := (Nat.lt_of_lt_of_le (by decide : 9 < 10) hj); simp; omega) .none rfl (p_build (vs := [(0, Value.int _ _), (1, Value.agg #[_, _, _]), (2, Value.slice _ _ _)]) rfl (bl50_0i1_1a3_2s3 _ _ _ _ _ _ _)) ?_
 refine d_eff 9 rfl (by kernel_rfl) (fun K_46 hKK_46 hcK_46 => ?_)
 refine r_stw (k := 0) .none sz50 rfl rfl (IsRow.lit _) (one_lit rfl (all_cons rfl (all_cons rfl (all_cons rfl (all_cons rfl (all_cons (hts).one (all_cons rfl rfl))))))) rfl ?_
 refine r_nil (e_d (i := 9) (brk := (fun j => [9].contains j)) (ph' := false) hKK_46 hcK_46 rfl (fun h => by cases h) (fun h => by cases h) ?_)
 clear hKK_46 hcK_46 K_46
 refine d_nil (by kernel_rfl) ?_
 refine e_next (c_seq (c_seq (c_region ?_)))
 refine r_val .none rfl (p_field Try.underlying50 rfl sz35 rfl) ?_
 refine r_val .none rfl (p_ld (k := 2) Try.underlying35 rfl rfl rfl (by first | exact odt rfl | omega) rfl) ?_
 refine r_val .none rfl (p_leng Try.underlying35 rfl hr) ?_
 have bd_47 := (hr).bound
 refine r_val .none rfl (p_move rfl) (r_nil (e_next (c_block ?_)))
 refine c_nilrow 50 6 ?_
 refine c_name (d := 2) rfl (fun u_48 hu_48 => ?_)
 refine c_name (d := 3) rfl (fun u_49 hu_49 => ?_)
 refine c_name (d := 15) rfl (fun u_50 hu_50 => ?_)
 refine c_name (d := 16) rfl (fun u_51 hu_51 => ?_)
 refine c_nameL (k := 2) rfl (fun A_52 hA_52 => ?_)
 refine c_nameL (k := 3) rfl (fun A_53 hA_53 => ?_)
 refine c_loop (σ := Nat × Value × List SVal × Ghost) (fun s => [(17, Value.int .i64 (s.1 : Nat)), (2, u_48), (3, u_49), (15, u_50), (16, u_51)]) (fun s => [rowA (s.2.1) 50 6 (s.2.2.1).length ((s.2.2.1).flatMap sC), box b_6 6 50 (at_ [.int .i64 c.h.k, .int .i64 c.h.k0, .int .i64 c.h.k1, .int .i64 c.h.k2, .slice a_44 c.h.ts.length c_45, s.2.1]), A_52, A_53]) (fun s => s.2.2.2) (fun s => s.1 ≤ rs.length ∧ s.2.2.1.map Prod.fst = (rs.map Prod.fst).take s.1 ∧ (∀ p ∈ s.2.2.1, SlL (dif G s.2.2.2) p.2.1 3 tC t0 p.1.h.ts) ∧ (∀ p ∈ s.2.2.1, Ss (dif G s.2.2.2) p.2.2 p.1.subs) ∧ GNew w nX G_39 s.2.2.2) (fun s => rs.length - s.1) ((0, _, [], _)) ⟨Nat.zero_le _, rfl, by simp, by simp, GNew.refl _ _ _⟩ rfl ⟨rfl, rfl, rfl, rfl, rfl, trivial⟩ (.keep (fun _ _ h => rowA_nil rfl _ _ h) (.keep (fun _ _ h => box_congr (fun i hi => by match i, hi with | 0, _ => rfl | 1, _ => rfl | 2, _ => rfl | 3, _ => rfl | 4, _ => rfl | 5, _ => rfl) _ _ h) (.keep (fun _ _ h => h) (.keep (fun _ _ h => h) (.nil))))) (fun s hphi => ?_)
 subst hu_48
 subst hu_49
 subst hu_50
 subst hu_51
 subst hA_52
 subst hA_53
 obtain ⟨k, v, qs, H⟩ := s
 obtain ⟨hk, hq, hqt, hqs, hgn⟩ := hphi
 dsimp only at hk hq hqt hqs hgn ⊢
 have hql : qs.length ≤ k := (by have := congrArg List.length hq; simp at this; omega)
 refine c_row1 (k := 0) rfl (fun ov => ?_)
 refine c_rowlen (k := 0) rfl (fun l63 => ?_)
 replace ht := ht.mono hgn.le
 replace hr := hr.mono hgn.le
 replace hrt := fun p hm0 => (hrt p hm0).mono hgn.le
 replace hrs := fun p hm0 => (hrs p hm0).mono hgn.le
 replace hG0 := GLe.trans hG0 hgn.le
 replace hts := hts.mono (dif_mono hgn.le)
 refine c_seq (c_region ?_)
 refine r_val .none rfl (p_lt rfl rfl) ?_
 refine r_nil (e_next (c_seq ?_))
 refine c_splitd (d := 18) rfl (fun h_54 => ?_) (fun h_54 => ?_)
 · (
 first
 | (exfalso; omega)
 | (
 refine c_cond_t rfl (c_skip (e_next (c_seq (c_block ?_))))
 refine c_seq (c_region ?_)
 refine r_iaddr_g .none rfl Try.underlying35 sz50 rfl hr rfl (by first | exact odt rfl | omega) (fun p_56 o_57 R_55 => ?_)
 have ht_58 := hrt _ (getD_mem (i := k) (d := s0) (by omega))
 have hc_59 := hrs _ (getD_mem (i := k) (d := s0) (by omega))
 have hz8 : ssz (rs.getD k s0).1 ≤ 1000 := Nat.le_trans (sszL_mem (l := c.subs) (by rw [hl]; exact sv_mem (k := k) (by omega))) (by omega)
 refine r_val .none rfl (p_ldga0 Try.underlying50 rfl sz50 rfl R_55 (by first | exact odt rfl | omega) (rfl : _ = Value.agg #[_, _, _, _, _, _])) ?_
 refine r_alloc .none rfl zr50 (IsRow.lit _) (fun b_7 => ?_)
 refine r_stw (k := 0) .none sz50 rfl rfl (IsRow.lit _) (one_lit rfl (all_cons rfl (all_cons rfl (all_cons rfl (all_cons rfl (all_cons (ht_58).one (all_cons (hc_59).one rfl))))))) rfl ?_
 refine r_nil (e_next ?_)
 refine c_region_d (fun j => [5, 6, 7].contains j) _ mixed (.keep (fun _ _ h => h) (.keep (fun _ _ h => h) (.keep (fun _ _ h => h) (.keep (fun _ _ h => h) (.keep (fun _ _ h => h) (.nil)))))) ?_
 refine d_val1 0 rfl rfl (by kernel_rfl) (fun j hj => by have h : 7 < j := (Nat.lt_of_lt_of_le (by decide : 7 < 8) hj); simp; omega) .none rfl (p_field Try.underlying50 rfl sz35 rfl) ?_
 refine d_val1 1 rfl rfl (by kernel_rfl) (fun j hj => by have h : 7 < j := (Nat.lt_of_lt_of_le (by decide : 7 < 8) hj); simp; omega) .none rfl (p_ld (k := 2) Try.underlying35 rfl rfl rfl (by first | exact odt rfl | omega) rfl) ?_
 refine d_val1 2 rfl rfl (by kernel_rfl) (fun j hj => by have h : 7 < j := (Nat.lt_of_lt_of_le (by decide : 7 < 8) hj); simp; omega) .none rfl (p_ldw (k := 0) Try.underlying50 rfl sz50 rfl rfl (rfl : _ = Value.agg #[_, _, _, _, _, _])) ?_
 refine d_eff 3 rfl (by kernel_rfl) (fun K_60 hKK_60 hcK_60 => ?_)
 refine r_callm (vs := [_]) .none rfl cl63 rfl (fun w hw => ih (rs.getD k s0).1 _ _ _ w (ssz_at hl (by omega) hz) hz8 ht_58 hc_59 hw) (fun G_61 v_64 hn_62 hr_63 => ?_)
 obtain ⟨u_65a, u_65b, rfl, u_65s, u_65t⟩ := hr_63
 replace u_65s := SlL.mono u_65s (dif_up hG0)
 replace u_65t := Ss.mono u_65t (dif_up hG0)
 replace ht := ht.mono hn_62.le
 replace hr := hr.mono hn_62.le
 replace hrt := fun p hm0 => (hrt p hm0).mono hn_62.le
 replace hrs := fun p hm0 => (hrs p hm0).mono hn_62.le
 replace hG0 := GLe.trans hG0 hn_62.le
 replace hts := hts.mono (dif_mono hn_62.le)
 replace hqt := fun p hm0 => (hqt p hm0).mono (dif_mono hn_62.le)
 replace hqs := fun p hm0 => (hqs p hm0).mono (dif_mono hn_62.le)
 replace R_55 := R_55.mono hn_62.le
 replace ht_58 := ht_58.mono hn_62.le
 replace hc_59 := hc_59.mono hn_62.le
 refine r_nil (e_d (i := 3) (brk := (fun j => [5, 6, 7].contains j)) (ph' := true) hKK_60 hcK_60 rfl (fun _ => hn_62.le) (fun _ => .keep (fun _ _ h => h) (.keep (fun _ _ h => h) (.keep (fun _ _ h => h) (.keep (fun _ _ h => h) (.keep (fun _ _ h => h) (.nil)))))) ?_)
 clear hKK_60 hcK_60 K_60
 refine d_eff 4 rfl (by kernel_rfl) (fun K_66 hKK_66 hcK_66 => ?_)
 refine r_bslice (vs := [(0, Value.agg #[_, _, _, _, _, _])]) (c := #[_, _, _, _, _, _]) .none rfl Try.underlying35 el50 rfl rfl rfl (bs50_10a6 _ _ _ _ _ _) (IsRow.lit _) (fun b_8 => ?_)
 refine r_nil (e_d (i := 4) (brk := (fun j => [5, 6, 7].contains j)) (ph' := true) hKK_66 hcK_66 rfl (fun _ => hn_62.le) (fun _ => .drop (.keep (fun _ _ h => h) (.keep (fun _ _ h => h) (.keep (fun _ _ h => h) (.keep (fun _ _ h => h) (.keep (fun _ _ h => h) (.nil))))))) ?_)
 clear hKK_66 hcK_66 K_66
 refine d_eff 5 rfl (by kernel_rfl) (fun K_67 hKK_67 hcK_67 => ?_)
 refine r_append (k := 2) (k2 := 0) .none rfl Try.underlying35 el50 rfl (by decide) rfl rfl rfl rfl rfl (one_lit rfl (all_cons rfl (all_cons rfl (all_cons rfl (all_cons rfl (all_cons (u_65s).one (all_cons (u_65t).one rfl))))))) (by simp only [maxLen]; omega) (by omega) (fun v_68 => ?_)
 refine r_row1 (k := 2) rfl (fun o_69 => ?_)
 refine r_nil (e_d (i := 5) (brk := (fun j => [5, 6, 7].contains j)) (ph' := false) hKK_67 hcK_67 rfl (fun h => by cases h) (fun h => by cases h) ?_)
 clear hKK_67 hcK_67 K_67
 refine d_val2 6 rfl rfl (by kernel_rfl) .none rfl (fun _ => p_field Try.underlying50 rfl sz35 rfl) ?_
 refine d_eff 7 rfl (by kernel_rfl) (fun K_70 hKK_70 hcK_70 => ?_)
 refine r_st (k := 3) .none sz35 rfl rfl o_69 rfl (by first | exact odt rfl | omega) ?_
 refine r_nil (e_d (i := 7) (brk := (fun j => [5, 6, 7].contains j)) (ph' := false) hKK_70 hcK_70 rfl (fun h => by cases h) (fun h => by cases h) ?_)
 clear hKK_70 hcK_70 K_70
 refine d_nil (by kernel_rfl) ?_
 refine e_norm_block ?_
 refine e_next (c_region ?_)
 refine r_val .none rfl (p_add rfl rfl (by omega)) ?_
 refine r_val .none rfl (p_move rfl) (r_nil ?_)
 refine e_round ((k + 1, _, qs ++ [((rs.getD k s0).1, u_65a, u_65b)], _)) ⟨⟨by dsimp only; omega, by rw [sv_take (by omega), List.map_append, hq]; rfl, (fun p hp' => by rcases List.mem_append.1 hp' with h | h; exact hqt p h; rw [List.mem_singleton.1 h]; exact u_65s), (fun p hp' => by rcases List.mem_append.1 hp' with h | h; exact hqs p h; rw [List.mem_singleton.1 h]; exact u_65t), (hgn.trans hn_62)⟩, by dsimp only; omega⟩ rfl ⟨rfl, rfl, rfl, rfl, rfl, trivial⟩ (.drop (.drop (.keep (fun _ _ h => rowA_snoc (l := qs) (x := ((rs.getD k s0).1, u_65a, u_65b)) rfl rfl rfl rfl _ _ h) (.keep (fun _ _ h => box_congr (fun i hi => by match i, hi with | 0, _ => rfl | 1, _ => rfl | 2, _ => rfl | 3, _ => rfl | 4, _ => rfl | 5, _ => rfl) _ _ h) (.keep (fun _ _ h => h) (.keep (fun _ _ h => h) (.nil)))))))))
 · (
 first
 | (exfalso; omega)
 | (
 refine c_cond_f rfl (c_exit (e_exit_then (e_exit_then ?_)))
 refine e_exit_block ?_
 refine e_next (c_seq (c_region ?_))
 refine r_val .none rfl (p_ldw (k := 1) Try.underlying50 rfl sz50 rfl rfl (rfl : _ = Value.agg #[_, _, _, _, _, _])) ?_
 refine r_stw (k := 2) .none sz50 rfl rfl (IsRow.lit _) (one_lit rfl (all_cons rfl (all_cons rfl (all_cons rfl (all_cons rfl (all_cons (hts).one (all_cons ov rfl))))))) rfl ?_
 refine r_nil (e_next ?_)
 refine c_ret ?_
 refine e_freezeD (k := 0) rfl (fun G_71 hn_72 hs_73 => ?_)
 replace hs_73 := SlG.mono hs_73 (dif_up hG0)
 replace ht := ht.mono hn_72.le
 replace hr := hr.mono hn_72.le
 replace hrt := fun p hm0 => (hrt p hm0).mono hn_72.le
 replace hrs := fun p hm0 => (hrs p hm0).mono hn_72.le
 replace hG0 := GLe.trans hG0 hn_72.le
 replace hts := hts.mono (dif_mono hn_72.le)
 replace hqt := fun p hm0 => (hqt p hm0).mono (dif_mono hn_72.le)
 replace hqs := fun p hm0 => (hqs p hm0).mono (dif_mono hn_72.le)
 refine e_ret1 Try.results63 (.cell (k := 1) rfl Try.underlying50 rfl sz50 rfl (rfl : _ = Value.agg #[_, _, _, _, _, _]) .nil) (fun w hm => ⟨_, ((hn_40.trans hgn).trans hn_72), hm.has, ?_, hm.since⟩)
 exact ⟨_, _, rfl, hts, by rw [show c.subs = qs.map Prod.fst by rw [hq, hl, List.take_of_length_le (by simp; omega)]]; exact Ss.mk qs (SlL.of s0 (fun _ => rfl) rfl hs_73) hqt hqs⟩)))
theorem c_tcloneD_n : ∀ n, CloneDIs n
 | 0 => fun c ta sb G w hz _ _ _ _ => absurd hz (by have := s_pos c; omega)
 | n + 1 => fun c ta sb G w hz hsz ht hs hG => c_tcloneD_s n (c_tcloneD_n n) c ta sb hz hsz ht hs w hG
theorem c_tcloneD (c : ST) (ta sb : Value) {G : Ghost} (hsz : ssz c ≤ 1000) (ht : SlL G ta 3 tC t0 c.h.ts) (hs : Ss G sb c.subs) (w : World) (hG : Has G w) : Calls Try.prog 63 #[Value.agg #[Value.int .i64 c.h.k, Value.int .i64 c.h.k0, Value.int .i64 c.h.k1, Value.int .i64 c.h.k2, ta, sb]] w (Ret fun r w' => ∃ G', GNew w nX G G' ∧ Has G' w' ∧ (∃ ua ub, r = Value.agg #[Value.int .i64 (c).h.k, Value.int .i64 (c).h.k0, Value.int .i64 (c).h.k1, Value.int .i64 (c).h.k2, ua, ub] ∧ SlL (dif G G') ua 3 tC t0 (c).h.ts ∧ Ss (dif G G') ub (c).subs) ∧ Since nX w w') := c_tcloneD_n _ c ta sb G w (Nat.le_refl _) hsz ht hs hG
end Go.Proofs.Ytdkfdncbldngdaa

/- Walks: what Go functions of this chapter come to, each as a function on plain data; no condition but those that each theorem names. Printed by a program of this work (gen.py). -/
namespace Go.Proofs.Ytdkfdncbldngdaa
open Go.Gx Go.Gx.T16 Go.Gx.T8 Go.Gx.T6 Go.Gx.T4 Go.Gx.T3 Go.Gx.T4 Go.Gx.T3 Go.Gx.T6 Go.Gx.T8 Go.Gx.T4 Go.Gx.T3 Go.Gx.T8 Go.Gx.T4 Go.Gx.T3 Go.Gx.T8 Go.Gx.T6 Go.Gx.T4 Go.Gx.T3

set_option maxHeartbeats 2000000 in
theorem c_kmakeD {F : Nat → Prop} {G : Ghost} (p : Nat) (id : Int) (a : List ST) (c2 : ST) (ta sb : Value) (R : RT) (Gs : Ghost) (s : KS Nd) (hT : TI s R) (hgs : GLe Gs G) (hS : StS Gs s) (ha : getR R id = some a) (hF : Fit R (a ++ [c2])) (ht : SlL G ta 3 tC t0 c2.h.ts) (hs : Ss G sb c2.subs) (hsz : ssz c2 ≤ 1000) (hln : R.its.length ≤ 4000) (w : World) (hG : Has G w) (hA : (trE (nkD 71 3) 74 p (s)).holds w F) (hFG : ∀ b, F b → G b = none) :
    Calls Try.prog 34 #[Value.pointer (some ⟨p, 0, none⟩), Value.int .i64 id, Value.agg #[Value.int .i64 c2.h.k, Value.int .i64 c2.h.k0, Value.int .i64 c2.h.k1, Value.int .i64 c2.h.k2, ta, sb]] w (Ret fun r w' => ∃ G' s', GNew w F G G' ∧ Has G' w' ∧ (r = Value.int .i64 (s.last + 1) ∧ TI s' (push R (a ++ [c2])) ∧ StS (gd Gs G G') s') ∧ KeptG (trE (nkD 71 3) 74 p (s')) F G' w w') := by
 refine enterO (args := [_, _, _]) (G := G) (A := trE (nkD 71 3) 74 p (s)) (l := [(0, Value.pointer (some ⟨p, 0, none⟩)), (1, Value.int .i64 id), (2, Value.agg #[Value.int .i64 c2.h.k, Value.int .i64 c2.h.k0, Value.int .i64 c2.h.k1, Value.int .i64 c2.h.k2, ta, sb])]) Try.func34 rfl Try.ntmps34 hG hA hFG ⟨rfl, rfl, rfl, trivial⟩ (Nat.le_of_ble_eq_true rfl) ?_
 refine c_unex (fun l => ?_)
 refine c_unand (fun hl => ?_)
 refine c_unpack ?_
 refine c_openK (fun z => ?_)
 dsimp only [trC]
 obtain ⟨bx, kv, ov, x, hN, hNs, hpn⟩ := hT.node hl ha
 have hno := hT.fresh hl
 have hid := get_lt ha
 have hla := hT.last
 have hdep : x.dep = (a.length : Int) := congrArg PN.dep hpn
 have hal := chain_len hT.clo a.length (Nat.le_refl _) ha
 have hkl : x.kids.length ≤ R.its.length := by rw [show x.kids = kidsR R a from congrArg PN.kids hpn]; exact numsF_len _ _ _
 have hG0 := GLe.refl G
 refine c_seq (c_region ?_)
 refine r_box .none rfl rfl (IsRow.lit _) (fun b_1 => ?_)
 refine r_val .none rfl (p_assign rfl) (r_nil (e_next (c_seq (c_region ?_))))
 refine r_val .none rfl (p_move rfl) ?_
 refine r_val .none rfl (p_nilcheck rfl) ?_
 refine r_val .none rfl (p_field Try.underlying74 rfl sz3 rfl) ?_
 refine r_val .none rfl (p_ld (k := 1) Try.underlying3 rfl rfl rfl (by first | exact odt rfl | omega) (rfl : _ = Value.int _ _)) ?_
 refine r_val .none rfl (p_add rfl rfl (by omega)) ?_
 refine r_val .none rfl (p_nilcheck rfl) ?_
 refine r_val .none rfl (p_field Try.underlying74 rfl sz3 rfl) ?_
 refine r_st (k := 1) .none sz3 rfl rfl rfl rfl (by first | exact odt rfl | omega) ?_
 refine r_nil (e_next (c_seq ?_))
 refine c_front (k := 3) rfl ?_
 refine c_fnd hN ?_
 refine c_region_d (fun _ => false) _ mixed (.keep (fun _ _ h => h) (.keep (fun _ _ h => h) (.keep (fun _ _ h => h) (.keep (fun _ _ h => h) (.keep (fun _ _ h => h) (.keep (fun _ _ h => h) (.keep (fun _ _ h => h) (.nil)))))))) ?_
 refine d_val1 0 rfl rfl (by kernel_rfl) (fun _ _ => rfl) .none rfl (p_ldw (k := 4) Try.underlying50 rfl sz50 rfl rfl (rfl : _ = Value.agg #[_, _, _, _, _, _])) ?_
 refine d_val1 2 rfl rfl (by kernel_rfl) (fun _ _ => rfl) .none rfl (p_move rfl) ?_
 refine d_val1 3 rfl rfl (by kernel_rfl) (fun _ _ => rfl) .none rfl (p_move rfl) ?_
 refine d_val1 4 rfl rfl (by kernel_rfl) (fun _ _ => rfl) .none rfl (p_nilcheck rfl) ?_
 refine d_val1 5 rfl rfl (by kernel_rfl) (fun _ _ => rfl) .none rfl (p_field Try.underlying74 rfl sz72 rfl) ?_
 refine d_val1 6 rfl rfl (by kernel_rfl) (fun _ _ => rfl) .none rfl (p_ld (k := 5) Try.underlying72 rfl rfl rfl (by first | exact odt rfl | omega) (rfl : _ = Value.map _)) ?_
 refine d_val1 7 rfl rfl (by kernel_rfl) (fun _ _ => rfl) .none rfl (p_move rfl) ?_
 refine d_val1 8 rfl rfl (by kernel_rfl) (fun _ _ => rfl) .none rfl (p_lookup_yes (i := 6) Try.underlying72 (KeyT.int Try.underlying3) zr69 rfl rfl rfl hN) ?_
 refine d_val1 9 rfl rfl (by kernel_rfl) (fun _ _ => rfl) .none rfl (p_nilcheck rfl) ?_
 refine d_val1 10 rfl rfl (by kernel_rfl) (fun _ _ => rfl) .none rfl (p_field Try.underlying71 rfl sz3 rfl) ?_
 refine d_val1 11 rfl rfl (by kernel_rfl) (fun _ _ => rfl) .none rfl (p_ld (k := 0) Try.underlying3 rfl rfl rfl (by first | exact odt rfl | omega) (rfl : _ = Value.int _ _)) ?_
 refine d_val1 12 rfl rfl (by kernel_rfl) (fun _ _ => rfl) .none rfl (p_add rfl rfl (by omega)) ?_
 refine d_eff 1 rfl (by kernel_rfl) (fun K_1 hKK_1 hcK_1 => ?_)
 refine r_callm (vs := [_]) .none rfl cl63 rfl (fun w hw => c_tcloneD _ _ _ hsz ht hs w hw) (fun G_2 v_5 hn_3 hr_4 => ?_)
 obtain ⟨u_6a, u_6b, rfl, u_6s, u_6t⟩ := hr_4
 replace u_6s := SlL.mono u_6s (gd_new (Gs := Gs) hG0)
 replace u_6t := Ss.mono u_6t (gd_new (Gs := Gs) hG0)
 replace ht := ht.mono hn_3.le
 replace hs := hs.mono hn_3.le
 replace hG0 := GLe.trans hG0 hn_3.le
 refine r_nil (e_d (i := 1) (brk := (fun _ => false)) (ph' := true) hKK_1 hcK_1 rfl (fun _ => hn_3.le) (fun _ => .keep (fun _ _ h => h) (.keep (fun _ _ h => h) (.keep (fun _ _ h => h) (.keep (fun _ _ h => h) (.keep (fun _ _ h => h) (.keep (fun _ _ h => h) (.keep (fun _ _ h => h) (.nil)))))))) ?_)
 clear hKK_1 hcK_1 K_1
 refine d_val1 13 rfl rfl (by kernel_rfl) (fun _ _ => rfl) .none rfl (p_build (vs := [(0, Value.agg #[_, _, _, _, _, _]), (1, Value.int _ _), (3, Value.int _ _)]) rfl (bl71_0a6_1i1_3i1 _ _ _ _ _ _ _ _)) ?_
 refine d_eff 14 rfl (by kernel_rfl) (fun K_7 hKK_7 hcK_7 => ?_)
 refine r_box .none rfl rfl (IsRow.lit _) (fun b_2 => ?_)
 refine r_nil (e_d (i := 14) (brk := (fun _ => false)) (ph' := true) hKK_7 hcK_7 rfl (fun _ => hn_3.le) (fun _ => .drop (.keep (fun _ _ h => h) (.keep (fun _ _ h => h) (.keep (fun _ _ h => h) (.keep (fun _ _ h => h) (.keep (fun _ _ h => h) (.keep (fun _ _ h => h) (.keep (fun _ _ h => h) (.nil))))))))) ?_)
 clear hKK_7 hcK_7 K_7
 refine d_val1 15 rfl rfl (by kernel_rfl) (fun _ _ => rfl) .none rfl (p_assign rfl) ?_
 refine d_nil (by kernel_rfl) ?_
 refine e_next (c_seq ?_)
 refine c_front (k := 4) rfl ?_
 refine c_front (k := 4) rfl ?_
 refine c_front (k := 4) rfl ?_
 refine c_front (k := 4) rfl ?_
 refine c_convk (B := box bx 13 71 (at_ (ndC x kv ov))) (k := 0) rfl (fun _ _ h => box_congr (fun i hi => by match i, hi with | 0, _ => rfl | 1, _ => rfl | 2, _ => rfl | 3, _ => rfl | 4, _ => rfl | 5, _ => rfl | 6, _ => rfl | 7, _ => rfl | 8, _ => rfl | 9, _ => rfl | 10, _ => rfl | 11, _ => rfl | 12, _ => rfl) _ _ h) ?_
 dsimp only [List.set_cons_zero]
 refine c_ndBack (x := x) hN ?_
 rw [mput_same hN]
 refine c_nilrow 3 1 ?_
 refine c_nilrow 3 1 ?_
 refine c_front (k := 2) rfl ?_
 refine c_front (k := 2) rfl ?_
 refine c_front (k := 2) rfl ?_
 refine c_front (k := 3) rfl ?_
 refine c_convk (B := box b_2 13 71 (at_ (ndC (mkN s id x (c2, u_6a, u_6b) 0) (.slice none 0 0) (.slice none 0 0)))) (k := 0) rfl (fun _ _ h => box_congr (fun i hi => by match i, hi with | 0, _ => rfl | 1, _ => rfl | 2, _ => rfl | 3, _ => rfl | 4, _ => rfl | 5, _ => rfl | 6, _ => rfl | 7, _ => rfl | 8, _ => rfl | 9, _ => rfl | 10, _ => rfl | 11, _ => rfl | 12, _ => rfl) _ _ h) ?_
 dsimp only [List.set_cons_zero]
 refine c_ndNew (x := (mkN s id x (c2, u_6a, u_6b) 0)) hno ?_
 have hN4 : lkp (mput l (s.last + 1) (b_2, Value.slice none 0 0, Value.slice none 0 0, (mkN s id x (c2, u_6a, u_6b) 0))) id = some (bx, kv, ov, x) := by rw [lkp_mput, if_neg (by omega)]; exact hN
 refine c_region_d (fun _ => false) _ mixed (.keep (fun _ _ h => h) (.keep (fun _ _ h => h) (.keep (fun _ _ h => h) (.drop (.nil))))) ?_
 refine d_val1 0 rfl rfl (by kernel_rfl) (fun _ _ => rfl) .none rfl (p_move rfl) ?_
 refine d_val1 1 rfl rfl (by kernel_rfl) (fun _ _ => rfl) .none rfl (p_nilcheck rfl) ?_
 refine d_val1 2 rfl rfl (by kernel_rfl) (fun _ _ => rfl) .none rfl (p_field Try.underlying74 rfl sz72 rfl) ?_
 refine d_val1 3 rfl rfl (by kernel_rfl) (fun _ _ => rfl) .none rfl (p_ld (k := 2) Try.underlying72 rfl rfl rfl (by first | exact odt rfl | omega) (rfl : _ = Value.map _)) ?_
 refine d_val1 4 rfl rfl (by kernel_rfl) (fun _ _ => rfl) .none rfl (p_move rfl) ?_
 refine d_val1 5 rfl rfl (by kernel_rfl) (fun _ _ => rfl) .none rfl (p_nilcheck rfl) ?_
 refine d_val1 6 rfl rfl (by kernel_rfl) (fun _ _ => rfl) .none rfl (p_field Try.underlying74 rfl sz3 rfl) ?_
 refine d_val1 7 rfl rfl (by kernel_rfl) (fun _ _ => rfl) .none rfl (p_ld (k := 2) Try.underlying3 rfl rfl rfl (by first | exact odt rfl | omega) (rfl : _ = Value.int _ _)) ?_
 refine d_val1 8 rfl rfl (by kernel_rfl) (fun _ _ => rfl) .none rfl (p_move rfl) ?_
 refine d_eff 9 rfl (by kernel_rfl) (fun K_8 hKK_8 hcK_8 => ?_)
 refine r_mapup (i := 3) (k := s.last + 1) (a := (b_2, Value.slice none 0 0, Value.slice none 0 0, (mkN s id x (c2, u_6a, u_6b) 0))) .none Try.underlying72 (KeyT.int Try.underlying3) rfl rfl rfl rfl ?_
 refine r_nil (e_d (i := 9) (brk := (fun _ => false)) (ph' := true) hKK_8 hcK_8 rfl (fun _ => GLe.refl _) (fun _ => .keep (fun _ _ h => h) (.keep (fun _ _ h => h) (.keep (fun _ _ h => h) (.drop (.nil))))) ?_)
 clear hKK_8 hcK_8 K_8
 refine d_nil (by kernel_rfl) ?_
 refine e_next (c_seq ?_)
 refine c_fnd hN4 ?_
 refine c_row1 (k := 1) rfl (fun okv => ?_)
 refine c_row1 (k := 2) rfl (fun oov => ?_)
 refine c_region_d (fun j => [23].contains j) _ mixed (.keep (fun _ _ h => h) (.drop (.keep (fun _ _ h => h) (.keep (fun _ _ h => h) (.keep (fun _ _ h => h) (.keep (fun _ _ h => h) (.keep (fun _ _ h => h) (.nil)))))))) ?_
 refine d_val1 0 rfl rfl (by kernel_rfl) (fun j hj => by have h : 23 < j := (Nat.lt_of_lt_of_le (by decide : 23 < 24) hj); simp; omega) .none rfl (p_move rfl) ?_
 refine d_val1 1 rfl rfl (by kernel_rfl) (fun j hj => by have h : 23 < j := (Nat.lt_of_lt_of_le (by decide : 23 < 24) hj); simp; omega) .none rfl (p_nilcheck rfl) ?_
 refine d_val1 2 rfl rfl (by kernel_rfl) (fun j hj => by have h : 23 < j := (Nat.lt_of_lt_of_le (by decide : 23 < 24) hj); simp; omega) .none rfl (p_field Try.underlying74 rfl sz72 rfl) ?_
 refine d_val1 3 rfl rfl (by kernel_rfl) (fun j hj => by have h : 23 < j := (Nat.lt_of_lt_of_le (by decide : 23 < 24) hj); simp; omega) .none rfl (p_ld (k := 4) Try.underlying72 rfl rfl rfl (by first | exact odt rfl | omega) (rfl : _ = Value.map _)) ?_
 refine d_val1 4 rfl rfl (by kernel_rfl) (fun j hj => by have h : 23 < j := (Nat.lt_of_lt_of_le (by decide : 23 < 24) hj); simp; omega) .none rfl (p_move rfl) ?_
 refine d_val1 5 rfl rfl (by kernel_rfl) (fun j hj => by have h : 23 < j := (Nat.lt_of_lt_of_le (by decide : 23 < 24) hj); simp; omega) .none rfl (p_lookup_yes (i := 5) Try.underlying72 (KeyT.int Try.underlying3) zr69 rfl rfl rfl hN4) ?_
 refine d_val1 6 rfl rfl (by kernel_rfl) (fun j hj => by have h : 23 < j := (Nat.lt_of_lt_of_le (by decide : 23 < 24) hj); simp; omega) .none rfl (p_move rfl) ?_
 refine d_val1 7 rfl rfl (by kernel_rfl) (fun j hj => by have h : 23 < j := (Nat.lt_of_lt_of_le (by decide : 23 < 24) hj); simp; omega) .none rfl (p_nilcheck rfl) ?_
 refine d_val1 8 rfl rfl (by kernel_rfl) (fun j hj => by have h : 23 < j := (Nat.lt_of_lt_of_le (by decide : 23 < 24) hj); simp; omega) .none rfl (p_field Try.underlying74 rfl sz72 rfl) ?_
 refine d_val1 9 rfl rfl (by kernel_rfl) (fun j hj => by have h : 23 < j := (Nat.lt_of_lt_of_le (by decide : 23 < 24) hj); simp; omega) .none rfl (p_ld (k := 4) Try.underlying72 rfl rfl rfl (by first | exact odt rfl | omega) (rfl : _ = Value.map _)) ?_
 refine d_val1 10 rfl rfl (by kernel_rfl) (fun j hj => by have h : 23 < j := (Nat.lt_of_lt_of_le (by decide : 23 < 24) hj); simp; omega) .none rfl (p_move rfl) ?_
 refine d_val1 11 rfl rfl (by kernel_rfl) (fun j hj => by have h : 23 < j := (Nat.lt_of_lt_of_le (by decide : 23 < 24) hj); simp; omega) .none rfl (p_lookup_yes (i := 5) Try.underlying72 (KeyT.int Try.underlying3) zr69 rfl rfl rfl hN4) ?_
 refine d_val1 12 rfl rfl (by kernel_rfl) (fun j hj => by have h : 23 < j := (Nat.lt_of_lt_of_le (by decide : 23 < 24) hj); simp; omega) .none rfl (p_nilcheck rfl) ?_
 refine d_val1 13 rfl rfl (by kernel_rfl) (fun j hj => by have h : 23 < j := (Nat.lt_of_lt_of_le (by decide : 23 < 24) hj); simp; omega) .none rfl (p_field Try.underlying71 rfl sz33 rfl) ?_
 refine d_val1 14 rfl rfl (by kernel_rfl) (fun j hj => by have h : 23 < j := (Nat.lt_of_lt_of_le (by decide : 23 < 24) hj); simp; omega) .none rfl (p_ld (k := 0) Try.underlying33 rfl rfl rfl (by first | exact odt rfl | omega) rfl) ?_
 refine d_val1 15 rfl rfl (by kernel_rfl) (fun j hj => by have h : 23 < j := (Nat.lt_of_lt_of_le (by decide : 23 < 24) hj); simp; omega) .none rfl (p_move rfl) ?_
 refine d_val1 16 rfl rfl (by kernel_rfl) (fun j hj => by have h : 23 < j := (Nat.lt_of_lt_of_le (by decide : 23 < 24) hj); simp; omega) .none rfl (p_nilcheck rfl) ?_
 refine d_val1 17 rfl rfl (by kernel_rfl) (fun j hj => by have h : 23 < j := (Nat.lt_of_lt_of_le (by decide : 23 < 24) hj); simp; omega) .none rfl (p_field Try.underlying74 rfl sz3 rfl) ?_
 refine d_val1 18 rfl rfl (by kernel_rfl) (fun j hj => by have h : 23 < j := (Nat.lt_of_lt_of_le (by decide : 23 < 24) hj); simp; omega) .none rfl (p_ld (k := 4) Try.underlying3 rfl rfl rfl (by first | exact odt rfl | omega) (rfl : _ = Value.int _ _)) ?_
 refine d_eff 19 rfl (by kernel_rfl) (fun K_9 hKK_9 hcK_9 => ?_)
 refine r_bslice (vs := [(0, Value.int _ _)]) (c := #[_]) .none rfl Try.underlying33 el3 rfl rfl rfl (bs3_10i2 _ _) (IsRow.lit _) (fun b_3 => ?_)
 refine r_nil (e_d (i := 19) (brk := (fun j => [23].contains j)) (ph' := true) hKK_9 hcK_9 rfl (fun _ => GLe.refl _) (fun _ => .drop (.keep (fun _ _ h => h) (.drop (.keep (fun _ _ h => h) (.keep (fun _ _ h => h) (.keep (fun _ _ h => h) (.keep (fun _ _ h => h) (.keep (fun _ _ h => h) (.nil))))))))) ?_)
 clear hKK_9 hcK_9 K_9
 refine d_eff 20 rfl (by kernel_rfl) (fun K_10 hKK_10 hcK_10 => ?_)
 refine r_append (k := 2) (k2 := 0) .none rfl Try.underlying33 el3 rfl (by decide) rfl rfl rfl rfl rfl (one_lit rfl rfl) (by simp only [maxLen]; omega) (by omega) (fun v_11 => ?_)
 refine r_row1 (k := 2) rfl (fun o_12 => ?_)
 refine r_nil (e_d (i := 20) (brk := (fun j => [23].contains j)) (ph' := true) hKK_10 hcK_10 rfl (fun _ => GLe.refl _) (fun _ => .drop (.keep (fun _ _ h => h) (.drop (.keep (fun _ _ h => h) (.keep (fun _ _ h => h) (.keep (fun _ _ h => h) (.keep (fun _ _ h => h) (.keep (fun _ _ h => h) (.nil))))))))) ?_)
 clear hKK_10 hcK_10 K_10
 refine d_val1 21 rfl rfl (by kernel_rfl) (fun j hj => by have h : 23 < j := (Nat.lt_of_lt_of_le (by decide : 23 < 24) hj); simp; omega) .none rfl (p_nilcheck rfl) ?_
 refine d_val1 22 rfl rfl (by kernel_rfl) (fun j hj => by have h : 23 < j := (Nat.lt_of_lt_of_le (by decide : 23 < 24) hj); simp; omega) .none rfl (p_field Try.underlying71 rfl sz33 rfl) ?_
 refine d_eff 23 rfl (by kernel_rfl) (fun K_13 hKK_13 hcK_13 => ?_)
 refine r_st (k := 1) .none sz33 rfl rfl o_12 rfl (by first | exact odt rfl | omega) ?_
 refine r_nil (e_d (i := 23) (brk := (fun j => [23].contains j)) (ph' := false) hKK_13 hcK_13 rfl (fun h => by cases h) (fun h => by cases h) ?_)
 clear hKK_13 hcK_13 K_13
 refine d_nil (by kernel_rfl) ?_
 refine e_next (c_seq (c_seq (c_region ?_)))
 refine r_front (k := 4) rfl ?_
 refine r_front (k := 4) rfl ?_
 refine r_front (k := 4) rfl ?_
 refine r_front (k := 4) rfl ?_
 refine r_conv (B := box bx 13 71 (at_ (ndC (mkX s x) v_11 ov))) (k := 0) rfl (fun _ _ h => box_congr (fun i hi => by match i, hi with | 0, _ => rfl | 1, _ => rfl | 2, _ => rfl | 3, _ => rfl | 4, _ => rfl | 5, _ => rfl | 6, _ => rfl | 7, _ => rfl | 8, _ => rfl | 9, _ => rfl | 10, _ => rfl | 11, _ => rfl | 12, _ => rfl) _ _ h) ?_
 refine r_conv (B := rowA v_11 3 1 (mkX s x).kids.length ((mkX s x).kids.flatMap cI)) (k := 1) rfl (fun _ _ h => rowA_snoc rfl rfl rfl rfl _ _ h) ?_
 dsimp only [List.set_cons_zero, List.set_cons_succ]
 refine r_ndBack (x := (mkX s x)) hN4 ?_
 refine r_conv (B := mapA z kI veN2 (mput (mput l (s.last + 1) (b_2, Value.slice none 0 0, Value.slice none 0 0, (mkN s id x (c2, u_6a, u_6b) 0))) id (bx, v_11, ov, (mkX s x)))) (k := 4) rfl (fun _ _ h => mapA_retell (v := (bx, v_11, ov, (mkX s x))) hN4 rfl h) ?_
 dsimp only [List.set_cons_zero, List.set_cons_succ]
 have hl2 : eraK (mput (mput l (s.last + 1) (b_2, Value.slice none 0 0, Value.slice none 0 0, (mkN s id x (c2, u_6a, u_6b) 0))) id (bx, v_11, ov, (mkX s x))) = mkL s id x (c2, u_6a, u_6b) := by rw [eraK_mput, eraK_mput, ← hl]; rfl
 have hst2 : StS (gd Gs G G_2) ⟨mkL s id x (c2, u_6a, u_6b), s.last + 1⟩ := StS.put (ls := s.last + 1) (StS.put (ls := s.last + 1) (show StS (gd Gs G G_2) ⟨s.nodes, s.last + 1⟩ from StS.mono hS (gd_old hgs hG0)) (show StAt (gd Gs G G_2) (c2, u_6a, u_6b) from ⟨u_6s, u_6t, hsz⟩)) (show StAt (gd Gs G G_2) x.st from StS.get (StS.mono hS (gd_old hgs hG0)) hNs)
 refine r_val .none rfl (p_field Try.underlying50 rfl sz3 rfl) ?_
 refine r_val .none rfl (p_ld (k := 2) Try.underlying3 rfl rfl rfl (by first | exact odt rfl | omega) (rfl : _ = Value.int _ _)) ?_
 refine r_val .none rfl (p_eq rfl rfl) ?_
 refine r_nil (e_next ?_)
 refine c_splitd (d := 65) rfl (fun h_14 => ?_) (fun h_14 => ?_)
 · (
 have hk : c2.h.k = 3 := h_14
 first
 | (exfalso; omega)
 | (
 refine c_cond_t rfl (c_seq (c_region (r_val .none rfl (p_move rfl) (r_val .none rfl (p_move rfl) ?_))))
 refine r_val .none rfl (p_move rfl) ?_
 refine r_val .none rfl (p_field Try.underlying50 rfl sz35 rfl) ?_
 refine r_val .none rfl (p_ld (k := 2) Try.underlying35 rfl rfl rfl (by first | exact odt rfl | omega) rfl) ?_
 refine r_front (k := 4) rfl ?_
 refine r_front (k := 4) rfl ?_
 refine r_conv (B := box p 2 74 (at_ (trC (KS.mk (mput (mput l (s.last + 1) (b_2, Value.slice none 0 0, Value.slice none 0 0, (mkN s id x (c2, u_6a, u_6b) 0))) id (bx, v_11, ov, (mkX s x))) (s.last + 1)) z))) (k := 0) rfl (fun _ _ h => box_congr (fun i hi => by match i, hi with | 0, _ => rfl | 1, _ => rfl) _ _ h) ?_
 dsimp only [List.set_cons_zero]
 refine r_shutK (s := KS.mk (mput (mput l (s.last + 1) (b_2, Value.slice none 0 0, Value.slice none 0 0, (mkN s id x (c2, u_6a, u_6b) 0))) id (bx, v_11, ov, (mkX s x))) (s.last + 1)) z ?_
 refine r_front (k := 1) rfl ?_
 refine r_pack [_, _] ?_
 have hin : True ∧ find R (a ++ c2.subs) ≠ 0 := ⟨trivial, (mk_inner (st := (c2, u_6a, u_6b)) hT ha hNs hF hk).2⟩
 refine r_callo (k := 0) (vs := [_, _, _]) .none rfl cl38 rfl rfl (fun w F hw hA hFG => hd_see (K := nkD 71 3) (R := fun r => r = Value.int .i64 (find R (a ++ c2.subs))) (fun G' F' hle hnd hG' hA' hF' => by (have h9 := c_kfrom p id a _ c2.subs (mput (mput l (s.last + 1) (b_2, Value.slice none 0 0, Value.slice none 0 0, (mkN s id x (c2, u_6a, u_6b) 0))) id (bx, v_11, ov, (mkX s x))) (s.last + 1) (push R (a ++ [c2])) (seen_of (s := ⟨mkL s id x (c2, u_6a, u_6b), s.last + 1⟩) ⟨mkL_k (st := (c2, u_6a, u_6b)) hT ha hNs hF, push_clo hT.clo hF⟩ (StS.mono hst2 (gd_le hgs hG0)) hl2.symm hnd hle) (by rw [getR_push, if_neg (by omega)]; exact ha) (hs.mono hle) w hG' hA' hF'; rw [find_push_old hF.ne hin.2] at h9; exact h9)) hw hA hFG) ?_
 refine r_unpack ?_
 refine r_front (k := 1) rfl ?_
 refine r_openK (fun z2 => ?_)
 dsimp only [trC]
 have hgi := find_some hT.clo.ne hin.2
 obtain ⟨yz, hyz, _, _⟩ := mkL_k (st := (c2, u_6a, u_6b)) hT ha hNs hF _ _ (show getR (push R (a ++ [c2])) (find R (a ++ c2.subs)) = some (a ++ c2.subs) by rw [getR_push, if_neg (by have := get_lt hgi; omega)]; exact hgi)
 obtain ⟨xz, hz1, _⟩ := gP_inv hyz
 have hzo := mkL_outer hT ha hNs hgi hz1
 rw [← hl2] at hz1
 obtain ⟨bxz, kvz, ovz, hNz⟩ := eraK_some hz1
 have hgil := get_lt hgi
 have hNn : lkp (mput (mput l (s.last + 1) (b_2, Value.slice none 0 0, Value.slice none 0 0, (mkN s id x (c2, u_6a, u_6b) 0))) id (bx, v_11, ov, (mkX s x))) (s.last + 1) = some (b_2, Value.slice none 0 0, Value.slice none 0 0, (mkN s id x (c2, u_6a, u_6b) 0)) := by rw [lkp_mput, if_neg (by omega), lkp_mput, if_pos rfl]
 refine r_front (k := 2) rfl ?_
 refine r_fnd hNn ?_
 refine r_val .none rfl (p_nilcheck rfl) ?_
 refine r_val .none rfl (p_field Try.underlying71 rfl sz3 rfl) ?_
 refine r_st (k := 0) .none sz3 rfl rfl rfl rfl (by first | exact odt rfl | omega) ?_
 refine r_nil (e_next (c_seq ?_))
 refine c_region_q mixed (by kernel_rfl) ?_
 refine q_val .none rfl (p_move rfl) ?_
 refine q_val .none rfl (p_nilcheck rfl) ?_
 refine q_val .none rfl (p_field Try.underlying74 rfl sz72 rfl) ?_
 refine q_val .none rfl (p_ld (k := 4) Try.underlying72 rfl rfl rfl (by first | exact odt rfl | omega) (rfl : _ = Value.map _)) ?_
 refine q_val .none rfl (p_move rfl) ?_
 refine q_val .none rfl (p_nilcheck rfl) ?_
 refine q_val .none rfl (p_field Try.underlying71 rfl sz3 rfl) ?_
 refine q_val .none rfl (p_ld (k := 0) Try.underlying3 rfl rfl rfl (by first | exact odt rfl | omega) (rfl : _ = Value.int _ _)) ?_
 refine q_val .none rfl (p_lookup_yes (i := 5) Try.underlying72 (KeyT.int Try.underlying3) zr69 rfl rfl rfl hNz) ?_
 refine q_val .none rfl (p_assign rfl) ?_
 refine q_nil ?_
 refine e_next ?_
 refine c_front (k := 3) rfl ?_
 refine c_front (k := 3) rfl ?_
 refine c_front (k := 3) rfl ?_
 refine c_front (k := 3) rfl ?_
 refine c_convk (B := box b_2 13 71 (at_ (ndC (mkN s id x (c2, u_6a, u_6b) (find R (a ++ c2.subs))) (.slice none 0 0) (.slice none 0 0)))) (k := 0) rfl (fun _ _ h => box_congr (fun i hi => by match i, hi with | 0, _ => rfl | 1, _ => rfl | 2, _ => rfl | 3, _ => rfl | 4, _ => rfl | 5, _ => rfl | 6, _ => rfl | 7, _ => rfl | 8, _ => rfl | 9, _ => rfl | 10, _ => rfl | 11, _ => rfl | 12, _ => rfl) _ _ h) ?_
 dsimp only [List.set_cons_zero]
 refine c_ndBack (x := (mkN s id x (c2, u_6a, u_6b) (find R (a ++ c2.subs)))) hNn ?_
 refine c_convk (B := mapA z2 kI veN2 (mput (mput (mput l (s.last + 1) (b_2, Value.slice none 0 0, Value.slice none 0 0, (mkN s id x (c2, u_6a, u_6b) 0))) id (bx, v_11, ov, (mkX s x))) (s.last + 1) (b_2, Value.slice none 0 0, Value.slice none 0 0, (mkN s id x (c2, u_6a, u_6b) (find R (a ++ c2.subs)))))) (k := 2) rfl (fun _ _ h => mapA_retell (v := (b_2, Value.slice none 0 0, Value.slice none 0 0, (mkN s id x (c2, u_6a, u_6b) (find R (a ++ c2.subs))))) hNn rfl h) ?_
 dsimp only [List.set_cons_zero, List.set_cons_succ]
 have hMz : lkp (mput (mput (mput l (s.last + 1) (b_2, Value.slice none 0 0, Value.slice none 0 0, (mkN s id x (c2, u_6a, u_6b) 0))) id (bx, v_11, ov, (mkX s x))) (s.last + 1) (b_2, Value.slice none 0 0, Value.slice none 0 0, (mkN s id x (c2, u_6a, u_6b) (find R (a ++ c2.subs))))) (find R (a ++ c2.subs)) = some (bxz, kvz, ovz, xz) := by rw [lkp_mput, if_neg (by omega)]; exact hNz
 refine c_fnd hMz ?_
 refine c_row1 (k := 1) rfl (fun okvz => ?_)
 refine c_row1 (k := 2) rfl (fun oovz => ?_)
 refine c_region_d (fun j => [13].contains j) _ mixed (.keep (fun _ _ h => h) (.keep (fun _ _ h => h) (.drop (.keep (fun _ _ h => h) (.keep (fun _ _ h => h) (.keep (fun _ _ h => h) (.keep (fun _ _ h => h) (.keep (fun _ _ h => h) (.nil))))))))) ?_
 refine d_val1 0 rfl rfl (by kernel_rfl) (fun j hj => by have h : 13 < j := (Nat.lt_of_lt_of_le (by decide : 13 < 14) hj); simp; omega) .none rfl (p_move rfl) ?_
 refine d_val1 1 rfl rfl (by kernel_rfl) (fun j hj => by have h : 13 < j := (Nat.lt_of_lt_of_le (by decide : 13 < 14) hj); simp; omega) .none rfl (p_move rfl) ?_
 refine d_val1 2 rfl rfl (by kernel_rfl) (fun j hj => by have h : 13 < j := (Nat.lt_of_lt_of_le (by decide : 13 < 14) hj); simp; omega) .none rfl (p_nilcheck rfl) ?_
 refine d_val1 3 rfl rfl (by kernel_rfl) (fun j hj => by have h : 13 < j := (Nat.lt_of_lt_of_le (by decide : 13 < 14) hj); simp; omega) .none rfl (p_field Try.underlying71 rfl sz33 rfl) ?_
 refine d_val1 4 rfl rfl (by kernel_rfl) (fun j hj => by have h : 13 < j := (Nat.lt_of_lt_of_le (by decide : 13 < 14) hj); simp; omega) .none rfl (p_ld (k := 0) Try.underlying33 rfl rfl rfl (by first | exact odt rfl | omega) rfl) ?_
 refine d_val1 5 rfl rfl (by kernel_rfl) (fun j hj => by have h : 13 < j := (Nat.lt_of_lt_of_le (by decide : 13 < 14) hj); simp; omega) .none rfl (p_move rfl) ?_
 refine d_val1 6 rfl rfl (by kernel_rfl) (fun j hj => by have h : 13 < j := (Nat.lt_of_lt_of_le (by decide : 13 < 14) hj); simp; omega) .none rfl (p_nilcheck rfl) ?_
 refine d_val1 7 rfl rfl (by kernel_rfl) (fun j hj => by have h : 13 < j := (Nat.lt_of_lt_of_le (by decide : 13 < 14) hj); simp; omega) .none rfl (p_field Try.underlying74 rfl sz3 rfl) ?_
 refine d_val1 8 rfl rfl (by kernel_rfl) (fun j hj => by have h : 13 < j := (Nat.lt_of_lt_of_le (by decide : 13 < 14) hj); simp; omega) .none rfl (p_ld (k := 3) Try.underlying3 rfl rfl rfl (by first | exact odt rfl | omega) (rfl : _ = Value.int _ _)) ?_
 refine d_eff 9 rfl (by kernel_rfl) (fun K_15 hKK_15 hcK_15 => ?_)
 refine r_bslice (vs := [(0, Value.int _ _)]) (c := #[_]) .none rfl Try.underlying33 el3 rfl rfl rfl (bs3_10i2 _ _) (IsRow.lit _) (fun b_4 => ?_)
 refine r_nil (e_d (i := 9) (brk := (fun j => [13].contains j)) (ph' := true) hKK_15 hcK_15 rfl (fun _ => GLe.refl _) (fun _ => .drop (.keep (fun _ _ h => h) (.keep (fun _ _ h => h) (.drop (.keep (fun _ _ h => h) (.keep (fun _ _ h => h) (.keep (fun _ _ h => h) (.keep (fun _ _ h => h) (.keep (fun _ _ h => h) (.nil)))))))))) ?_)
 clear hKK_15 hcK_15 K_15
 refine d_eff 10 rfl (by kernel_rfl) (fun K_16 hKK_16 hcK_16 => ?_)
 refine r_append (k := 3) (k2 := 0) .none rfl Try.underlying33 el3 rfl (by decide) rfl rfl rfl rfl rfl (one_lit rfl rfl) (by simp only [maxLen]; omega) (by omega) (fun v_17 => ?_)
 refine r_row1 (k := 3) rfl (fun o_18 => ?_)
 refine r_nil (e_d (i := 10) (brk := (fun j => [13].contains j)) (ph' := true) hKK_16 hcK_16 rfl (fun _ => GLe.refl _) (fun _ => .drop (.keep (fun _ _ h => h) (.keep (fun _ _ h => h) (.drop (.keep (fun _ _ h => h) (.keep (fun _ _ h => h) (.keep (fun _ _ h => h) (.keep (fun _ _ h => h) (.keep (fun _ _ h => h) (.nil)))))))))) ?_)
 clear hKK_16 hcK_16 K_16
 refine d_val1 11 rfl rfl (by kernel_rfl) (fun j hj => by have h : 13 < j := (Nat.lt_of_lt_of_le (by decide : 13 < 14) hj); simp; omega) .none rfl (p_nilcheck rfl) ?_
 refine d_val1 12 rfl rfl (by kernel_rfl) (fun j hj => by have h : 13 < j := (Nat.lt_of_lt_of_le (by decide : 13 < 14) hj); simp; omega) .none rfl (p_field Try.underlying71 rfl sz33 rfl) ?_
 refine d_eff 13 rfl (by kernel_rfl) (fun K_19 hKK_19 hcK_19 => ?_)
 refine r_st (k := 1) .none sz33 rfl rfl o_18 rfl (by first | exact odt rfl | omega) ?_
 refine r_nil (e_d (i := 13) (brk := (fun j => [13].contains j)) (ph' := false) hKK_19 hcK_19 rfl (fun h => by cases h) (fun h => by cases h) ?_)
 clear hKK_19 hcK_19 K_19
 refine d_nil (by kernel_rfl) ?_
 refine e_next (c_seq (c_region ?_))
 refine r_front (k := 4) rfl ?_
 refine r_front (k := 4) rfl ?_
 refine r_front (k := 4) rfl ?_
 refine r_front (k := 4) rfl ?_
 refine r_conv (B := box bxz 13 71 (at_ (ndC { xz with outer := xz.outer ++ [s.last + 1] } kvz v_17))) (k := 0) rfl (fun _ _ h => box_congr (fun i hi => by match i, hi with | 0, _ => rfl | 1, _ => rfl | 2, _ => rfl | 3, _ => rfl | 4, _ => rfl | 5, _ => rfl | 6, _ => rfl | 7, _ => rfl | 8, _ => rfl | 9, _ => rfl | 10, _ => rfl | 11, _ => rfl | 12, _ => rfl) _ _ h) ?_
 refine r_conv (B := rowA v_17 3 1 (xz.outer ++ [s.last + 1]).length ((xz.outer ++ [s.last + 1]).flatMap cI)) (k := 2) rfl (fun _ _ h => rowA_snoc rfl rfl rfl rfl _ _ h) ?_
 dsimp only [List.set_cons_zero, List.set_cons_succ]
 refine r_ndBack (x := { xz with outer := xz.outer ++ [s.last + 1] }) hMz ?_
 refine r_conv (B := mapA z2 kI veN2 (mput (mput (mput (mput l (s.last + 1) (b_2, Value.slice none 0 0, Value.slice none 0 0, (mkN s id x (c2, u_6a, u_6b) 0))) id (bx, v_11, ov, (mkX s x))) (s.last + 1) (b_2, Value.slice none 0 0, Value.slice none 0 0, (mkN s id x (c2, u_6a, u_6b) (find R (a ++ c2.subs))))) (find R (a ++ c2.subs)) (bxz, kvz, v_17, { xz with outer := xz.outer ++ [s.last + 1] }))) (k := 3) rfl (fun _ _ h => mapA_retell (v := (bxz, kvz, v_17, { xz with outer := xz.outer ++ [s.last + 1] })) hMz rfl h) ?_
 dsimp only [List.set_cons_zero, List.set_cons_succ]
 refine r_val .none rfl (p_move rfl) ?_
 refine r_val .none rfl (p_nilcheck rfl) ?_
 refine r_val .none rfl (p_field Try.underlying74 rfl sz3 rfl) ?_
 refine r_val .none rfl (p_ld (k := 2) Try.underlying3 rfl rfl rfl (by first | exact odt rfl | omega) (rfl : _ = Value.int _ _)) ?_
 refine r_val .none rfl (p_assign rfl) (r_nil (e_next ?_))
 refine c_ret ?_
 refine e_front (k := 3) rfl ?_
 refine e_front (k := 3) rfl ?_
 refine e_ret1 Try.results34 (.tmp rfl .nil) (fun w hm => ⟨_, ⟨(mkL3 s id x (c2, u_6a, u_6b) (find R (a ++ c2.subs)) xz), s.last + 1⟩, hn_3, hm.has, ⟨rfl, (mk_ncc (st := (c2, u_6a, u_6b)) hT ha hNs hF hk (z := xz) (by show lkp (mput _ _ _) (find R (a ++ c2.subs)) = _; rw [← hl2, lkp_mput, if_neg (by omega)]; exact hz1)), (StS.put (ls := s.last + 1) (StS.put (ls := s.last + 1) hst2 (show StAt _ (c2, u_6a, u_6b) from ⟨u_6s, u_6t, hsz⟩)) (show StAt _ xz.st from hst2.get (by rw [← hl2]; exact hz1)))⟩, hm.keptG [box p 2 74 (at_ (trC (KS.mk (mput (mput (mput (mput l (s.last + 1) (b_2, Value.slice none 0 0, Value.slice none 0 0, (mkN s id x (c2, u_6a, u_6b) 0))) id (bx, v_11, ov, (mkX s x))) (s.last + 1) (b_2, Value.slice none 0 0, Value.slice none 0 0, (mkN s id x (c2, u_6a, u_6b) (find R (a ++ c2.subs))))) (find R (a ++ c2.subs)) (bxz, kvz, v_17, { xz with outer := xz.outer ++ [s.last + 1] })) (s.last + 1)) z2)), mapA z2 kI veN2 (mput (mput (mput (mput l (s.last + 1) (b_2, Value.slice none 0 0, Value.slice none 0 0, (mkN s id x (c2, u_6a, u_6b) 0))) id (bx, v_11, ov, (mkX s x))) (s.last + 1) (b_2, Value.slice none 0 0, Value.slice none 0 0, (mkN s id x (c2, u_6a, u_6b) (find R (a ++ c2.subs))))) (find R (a ++ c2.subs)) (bxz, kvz, v_17, { xz with outer := xz.outer ++ [s.last + 1] })), hoard (FK (nkD 71 3)) ((mput (mput (mput (mput l (s.last + 1) (b_2, Value.slice none 0 0, Value.slice none 0 0, (mkN s id x (c2, u_6a, u_6b) 0))) id (bx, v_11, ov, (mkX s x))) (s.last + 1) (b_2, Value.slice none 0 0, Value.slice none 0 0, (mkN s id x (c2, u_6a, u_6b) (find R (a ++ c2.subs))))) (find R (a ++ c2.subs)) (bxz, kvz, v_17, { xz with outer := xz.outer ++ [s.last + 1] })))] (.keep (fun _ _ h => box_congr (fun i hi => by match i, hi with | 0, _ => rfl | 1, _ => rfl) _ _ h) (.keep (fun _ _ h => h) (.keep (fun _ _ h => h) (.drop (.drop (.drop (.nil))))))) (trE (nkD 71 3) 74 p (KS.mk (mkL3 s id x (c2, u_6a, u_6b) (find R (a ++ c2.subs)) xz) (s.last + 1))) (fun F' h => trE_mk3 z2 (show (mkL3 s id x (c2, u_6a, u_6b) (find R (a ++ c2.subs)) xz) = eraK (mput (mput (mput (mput l (s.last + 1) (b_2, Value.slice none 0 0, Value.slice none 0 0, (mkN s id x (c2, u_6a, u_6b) 0))) id (bx, v_11, ov, (mkX s x))) (s.last + 1) (b_2, Value.slice none 0 0, Value.slice none 0 0, (mkN s id x (c2, u_6a, u_6b) (find R (a ++ c2.subs))))) (find R (a ++ c2.subs)) (bxz, kvz, v_17, { xz with outer := xz.outer ++ [s.last + 1] })) by rw [eraK_mput, eraK_mput, hl2]; rfl) h)⟩)))
 · (
 have hk : ¬ c2.h.k = 3 := h_14
 first
 | (exfalso; omega)
 | (
 refine c_cond_f rfl (c_skip (e_next (c_seq (c_region ?_))))
 refine r_val .none rfl (p_move rfl) ?_
 refine r_val .none rfl (p_nilcheck rfl) ?_
 refine r_val .none rfl (p_field Try.underlying74 rfl sz3 rfl) ?_
 refine r_val .none rfl (p_ld (k := 3) Try.underlying3 rfl rfl rfl (by first | exact odt rfl | omega) (rfl : _ = Value.int _ _)) ?_
 refine r_val .none rfl (p_assign rfl) (r_nil (e_next ?_))
 refine c_ret ?_
 refine e_front (k := 4) rfl ?_
 refine e_front (k := 4) rfl ?_
 refine e_ret1 Try.results34 (.tmp rfl .nil) (fun w hm => ⟨_, ⟨(mkL s id x (c2, u_6a, u_6b)), s.last + 1⟩, hn_3, hm.has, ⟨rfl, (mk_other (st := (c2, u_6a, u_6b)) hT ha hNs hF hk), hst2⟩, hm.keptG [box p 2 74 (at_ (trC (KS.mk (mput (mput l (s.last + 1) (b_2, Value.slice none 0 0, Value.slice none 0 0, (mkN s id x (c2, u_6a, u_6b) 0))) id (bx, v_11, ov, (mkX s x))) (s.last + 1)) z)), mapA z kI veN2 (mput (mput l (s.last + 1) (b_2, Value.slice none 0 0, Value.slice none 0 0, (mkN s id x (c2, u_6a, u_6b) 0))) id (bx, v_11, ov, (mkX s x))), hoard (FK (nkD 71 3)) ((mput (mput l (s.last + 1) (b_2, Value.slice none 0 0, Value.slice none 0 0, (mkN s id x (c2, u_6a, u_6b) 0))) id (bx, v_11, ov, (mkX s x))))] (.keep (fun _ _ h => box_congr (fun i hi => by match i, hi with | 0, _ => rfl | 1, _ => rfl) _ _ h) (.keep (fun _ _ h => h) (.keep (fun _ _ h => h) (.drop (.drop (.nil)))))) (trE (nkD 71 3) 74 p (KS.mk (mkL s id x (c2, u_6a, u_6b)) (s.last + 1))) (fun F' h => trE_mk3 z hl2.symm h)⟩)))
end Go.Proofs.Ytdkfdncbldngdaa

/- Walks: what Go functions of this chapter come to, each as a function on plain data; no condition but those that each theorem names. Printed by a program of this work (gen.py). -/
namespace Go.Proofs.Ytdkfdncbldngdaa
open Go.Gx Go.Gx.T16 Go.Gx.T8 Go.Gx.T6 Go.Gx.T4 Go.Gx.T3 Go.Gx.T4 Go.Gx.T3 Go.Gx.T6 Go.Gx.T8 Go.Gx.T4 Go.Gx.T3 Go.Gx.T8 Go.Gx.T4 Go.Gx.T3 Go.Gx.T8 Go.Gx.T6 Go.Gx.T4 Go.Gx.T3

set_option maxHeartbeats 2000000 in
theorem c_kaddD {F : Nat → Prop} {G : Ghost} (p : Nat) (v : Value) (cl : List ST) (R : RT) (Gs : Ghost) (s : KS Nd) (hT : TI s R) (hgs : GLe Gs G) (hS : StS Gs s) (hs : Ss G v cl) (hsz : sszL cl ≤ 1000) (hcap : R.its.length ≤ 3000 ∧ R.lists.length ≤ 3000) (w : World) (hG : Has G w) (hA : (trE (nkD 71 3) 74 p (s)).holds w F) (hFG : ∀ b, F b → G b = none) :
    Calls Try.prog 12 #[Value.pointer (some ⟨p, 0, none⟩), v] w (Ret fun r w' => ∃ G' s', GNew w F G G' ∧ Has G' w' ∧ (SlL (gd Gs G G') r 1 cI (0 : Int) (idsR (pushes R (schains [] cl)) cl) ∧ TI s' (addR R cl) ∧ StS (gd Gs G G') s') ∧ KeptG (trE (nkD 71 3) 74 p (s')) F G' w w') := by
 refine enterO (args := [_, _]) (G := G) (A := trE (nkD 71 3) 74 p (s)) (l := [(0, Value.pointer (some ⟨p, 0, none⟩)), (1, v)]) Try.func12 rfl Try.ntmps12 hG hA hFG ⟨rfl, rfl, trivial⟩ (Nat.le_of_ble_eq_true rfl) ?_
 have hcl : (schains [] cl).length ≤ 1000 := Nat.le_trans (schains_len cl []) hsz
 have hgood := schains_good0 cl R
 have hG0 := GLe.refl G
 refine c_seq (c_region (r_val .none rfl (p_assign rfl) (r_nil (e_next ?_))))
 refine c_seq (c_region (r_val .none rfl (p_assign rfl) (r_nil (e_next ?_))))
 refine c_seq (c_seq (c_region (r_val .none rfl (p_move rfl) ?_)))
 refine r_callm (vs := [_]) .none rfl cl32 rfl (fun w hw => c_chainsS _ _ hsz hs w hw) (fun G_1 v_4 hn_2 hr_3 => ?_)
 replace hs := hs.mono hn_2.le
 replace hG0 := GLe.trans hG0 hn_2.le
 obtain ⟨qs, hq, hqp, hql⟩ := hr_3
 have hqn : (schains [] cl).length = qs.length := by rw [hql, List.length_map]
 refine r_val .none rfl (p_leng Try.underlying41 rfl hq) ?_
 have bd_6 := (hq).bound
 refine r_val .none rfl (p_move rfl) (r_nil (e_next (c_block ?_)))
 refine c_nilrow 3 1 ?_
 refine c_name (d := 0) rfl (fun u_7 hu_7 => ?_)
 refine c_name (d := 1) rfl (fun u_8 hu_8 => ?_)
 refine c_name (d := 4) rfl (fun u_9 hu_9 => ?_)
 refine c_name (d := 11) rfl (fun u_10 hu_10 => ?_)
 refine c_name (d := 12) rfl (fun u_11 hu_11 => ?_)
 refine c_loop (σ := Nat × Value × KS Nd × Ghost) (fun s' => [(13, Value.int .i64 (s'.1 : Nat)), (5, s'.2.1), (0, u_7), (1, u_8), (4, u_9), (11, u_10), (12, u_11)]) (fun s' => [rowA (s'.2.1) 3 1 ((idsK R (schains [] cl) s'.1)).length (((idsK R (schains [] cl) s'.1)).flatMap cI), trE (nkD 71 3) 74 p (s'.2.2.1)]) (fun s' => s'.2.2.2) (fun s' => s'.1 ≤ qs.length ∧ TI s'.2.2.1 (pushes R ((schains [] cl).take s'.1)) ∧ StS (gd Gs G s'.2.2.2) s'.2.2.1 ∧ GNew w F G_1 s'.2.2.2) (fun s' => qs.length - s'.1) ((0, _, s, _)) ⟨Nat.zero_le _, by rw [List.take_zero]; exact hT, StS.mono hS (gd_old hgs hG0), GNew.refl _ _ _⟩ rfl ⟨rfl, rfl, rfl, rfl, rfl, rfl, rfl, trivial⟩ (.keep (fun _ _ h => rowA_nil (by simp [idsK]) _ _ h) (.keep (fun _ _ h => h) (.nil))) (fun s' hphi => ?_)
 subst hu_7
 subst hu_8
 subst hu_9
 subst hu_10
 subst hu_11
 obtain ⟨k, ov, s2, H⟩ := s'
 obtain ⟨hk, hTk, hSk, hgn⟩ := hphi
 dsimp only at hk hTk hSk hgn ⊢
 replace hs := hs.mono hgn.le
 replace hG0 := GLe.trans hG0 hgn.le
 replace hq := hq.mono hgn.le
 replace hqp := fun p hm0 => (hqp p hm0).mono hgn.le
 refine c_seq (c_region ?_)
 refine r_val .none rfl (p_lt rfl rfl) ?_
 refine r_nil (e_next (c_seq ?_))
 refine c_splitd (d := 14) rfl (fun h_12 => ?_) (fun h_12 => ?_)
 · (
 first
 | (exfalso; omega)
 | (
 refine c_cond_t rfl (c_skip (e_next (c_seq (c_block ?_))))
 refine c_seq (c_region ?_)
 refine r_iaddr_g .none rfl Try.underlying41 sz35 rfl hq rfl (by first | exact odt rfl | omega) (fun p_14 o_15 R_13 => ?_)
 have hc_16 := hqp _ (getD_mem (i := k) (d := es6) (by omega))
 refine r_val .none rfl (p_ldg0 Try.underlying35 rfl rfl R_13 (by first | exact odt rfl | omega) rfl) ?_
 refine r_val .none rfl (p_assign rfl) ?_
 obtain ⟨rs, hr, hrt, hrs, hrl⟩ := (hc_16).inv
 have hbr := hr.bound
 have hck : (schains [] cl)[k]? = some (qs.getD k es6).1 := by rw [hql]; exact map_getElem (d := es6) (by omega)
 have hgd := good_at (R := R) (schains_good0 cl R) hck
 obtain ⟨n, hn⟩ : ∃ n, rs.length = n + 1 := ⟨rs.length - 1, by (have h1 := hgd.1; have h2 : 0 < rs.length := (by rw [← List.length_map (f := Prod.fst), ← hrl]; exact List.length_pos_iff.2 h1); omega)⟩
 have hce : (qs.getD k es6).1 = ((rs.map Prod.fst).take n) ++ [(rs.getD n s0).1] := by rw [hrl, ← sv_take (k := n) (by omega), List.take_of_length_le (by rw [List.length_map]; omega)]
 have hup : find (pushes R ((schains [] cl).take k)) ((rs.map Prod.fst).take n) ≠ 0 := by (have h1 := hgd.2.1; rw [hce, List.dropLast_concat] at h1; exact h1)
 have hszn : ssz (rs.getD n s0).1 ≤ 1000 := by (have h1 := schain_small hql (k := k) (by omega) hsz; rw [hrl] at h1; exact Nat.le_trans (sszL_mem (sv_mem (k := n) (by omega))) h1)
 have hat := find_some hTk.clo.ne hup
 have hln2 : (pushes R ((schains [] cl).take k)).its.length ≤ 4000 := by (have h1 := (pushes_len ((schains [] cl).take k) R).2; have h2 : ((schains [] cl).take k).length ≤ 1000 := (by rw [List.length_take]; omega); omega)
 refine r_nil (e_next (c_seq (c_region (r_val .none rfl (p_move rfl) ?_))))
 refine r_val .none rfl (p_move rfl) (r_val .none rfl (p_move rfl) ?_)
 refine r_val .none rfl (p_leng Try.underlying35 rfl hr) ?_
 have bd_17 := (hr).bound
 refine r_val .none rfl (p_sub rfl rfl (by omega)) ?_
 refine r_say (d := 21) (v := Value.int .i64 ((n : Nat) : Int)) (congrArg (fun x => some (Value.int .i64 x)) (by omega)) ?_
 refine r_slice0 (n) .none rfl Try.underlying35 sz50 rfl hr rfl (by first | exact odt rfl | omega) (fun v_18 hs_19 => ?_)
 have hPn : Ss H v_18 ((rs.map Prod.fst).take n) := by rw [← List.map_take]; exact Ss.mk (rs.take n) (ss_take (by omega) hs_19) (fun p hm => hrt p (List.mem_of_mem_take hm)) (fun p hm => hrs p (List.mem_of_mem_take hm))
 refine r_callo (k := 1) (vs := [_, _]) .none rfl cl18 rfl rfl (fun w F hw hA hFG => trie_see0 (R := fun r => r = Value.int .i64 (find (pushes R ((schains [] cl).take k)) ((rs.map Prod.fst).take n))) (fun l G' F' hl hle hn9 hG hA hF => c_kfind _ _ ((rs.map Prod.fst).take n) l _ (pushes R ((schains [] cl).take k)) (seen_of hTk.kc (StS.mono hSk (gd_le hgs hG0)) hl hn9 hle) (hPn.mono hle) w hG hA hF) hw hA hFG) ?_
 refine r_val .none rfl (p_assign rfl) (r_nil (e_next (c_seq (c_region ?_))))
 refine r_val .none rfl (p_move rfl) (r_val .none rfl (p_move rfl) (r_val .none rfl (p_move rfl) (r_val .none rfl (p_move rfl) ?_)))
 refine r_val .none rfl (p_leng Try.underlying35 rfl hr) ?_
 have bd_21 := (hr).bound
 refine r_val .none rfl (p_sub rfl rfl (by omega)) ?_
 refine r_say (d := 29) (v := Value.int .i64 ((n : Nat) : Int)) (congrArg (fun x => some (Value.int .i64 x)) (by omega)) ?_
 refine r_iaddr_g .none rfl Try.underlying35 sz50 rfl hr rfl (by first | exact odt rfl | omega) (fun p_23 o_24 R_22 => ?_)
 have ht_25 := hrt _ (getD_mem (i := n) (d := s0) (by omega))
 have hc_26 := hrs _ (getD_mem (i := n) (d := s0) (by omega))
 refine r_val .none rfl (p_ldga0 Try.underlying50 rfl sz50 rfl R_22 (by first | exact odt rfl | omega) (rfl : _ = Value.agg #[_, _, _, _, _, _])) ?_
 refine r_callo (k := 1) (vs := [_, _, _]) .none rfl cl33 rfl rfl (fun w F hw hA hFG => trie_see0 (R := fun r => r = Value.int .i64 (find (pushes R ((schains [] cl).take k)) (((rs.map Prod.fst).take n) ++ [(rs.getD n s0).1]))) (fun l G' F' hl hle hn9 hG hA hF => c_kbelow p _ ((rs.map Prod.fst).take n) (rs.getD n s0).1 _ _ l _ (pushes R ((schains [] cl).take k)) (seen_of hTk.kc (StS.mono hSk (gd_le hgs hG0)) hl hn9 hle) hat (ht_25.mono hle) (hc_26.mono hle) w hG hA hF) hw hA hFG) ?_
 refine r_val .none rfl (p_assign rfl) (r_nil (e_next (c_seq (c_seq ?_))))
 refine c_region (r_val .none rfl (p_move rfl) ?_)
 refine r_val .none rfl (p_eq rfl rfl) ?_
 refine r_nil (e_next ?_)
 refine c_splitd (d := 34) rfl (fun h_27 => ?_) (fun h_27 => ?_)
 · (
 have hz9 := h_27
 first
 | (exfalso; omega)
 | (
 refine c_cond_t rfl (c_region (r_val .none rfl (p_move rfl) (r_val .none rfl (p_move rfl) (r_val .none rfl (p_move rfl) ?_))))
 refine r_val .none rfl (p_move rfl) ?_
 refine r_val .none rfl (p_leng Try.underlying35 rfl hr) ?_
 have bd_28 := (hr).bound
 refine r_val .none rfl (p_sub rfl rfl (by omega)) ?_
 refine r_say (d := 40) (v := Value.int .i64 ((n : Nat) : Int)) (congrArg (fun x => some (Value.int .i64 x)) (by omega)) ?_
 refine r_iaddr_g .none rfl Try.underlying35 sz50 rfl hr rfl (by first | exact odt rfl | omega) (fun p_30 o_31 R_29 => ?_)
 have ht_32 := hrt _ (getD_mem (i := n) (d := s0) (by omega))
 have hc_33 := hrs _ (getD_mem (i := n) (d := s0) (by omega))
 refine r_val .none rfl (p_ldga0 Try.underlying50 rfl sz50 rfl R_29 (by first | exact odt rfl | omega) (rfl : _ = Value.agg #[_, _, _, _, _, _])) ?_
 refine r_callox (k := 1) (vs := [_, _, _]) .none rfl cl34 rfl rfl (fun w F hw hA hFG => c_kmakeD p _ _ (rs.getD n s0).1 _ _ (pushes R ((schains [] cl).take k)) _ s2 hTk (gd_le hgs hG0) hSk hat ⟨by simp, hz9, by rw [List.dropLast_concat]; exact hup, fun e he => hgd.2.2 e (by rw [hce]; exact he)⟩ ht_32 hc_33 hszn hln2 w hw hA hFG) (fun G_34 v_37 z_39 hn_35 hr_36 => ?_)
 obtain ⟨rfl, hTn, hSn⟩ := hr_36
 replace hSn := StS.mono hSn (gd_up hG0 (hn_35).le)
 replace hs := hs.mono hn_35.le
 replace hG0 := GLe.trans hG0 hn_35.le
 replace hq := hq.mono hn_35.le
 replace hqp := fun p hm0 => (hqp p hm0).mono hn_35.le
 replace hSk := hSk.mono (gd_mono hn_35.le)
 replace R_13 := R_13.mono hn_35.le
 replace hc_16 := hc_16.mono hn_35.le
 replace hr := hr.mono hn_35.le
 replace hrt := fun p hm0 => (hrt p hm0).mono hn_35.le
 replace hrs := fun p hm0 => (hrs p hm0).mono hn_35.le
 replace hs_19 := hs_19.mono hn_35.le
 replace hPn := hPn.mono hn_35.le
 replace R_22 := R_22.mono hn_35.le
 replace ht_25 := ht_25.mono hn_35.le
 replace hc_26 := hc_26.mono hn_35.le
 replace R_29 := R_29.mono hn_35.le
 replace ht_32 := ht_32.mono hn_35.le
 replace hc_33 := hc_33.mono hn_35.le
 refine r_val .none rfl (p_assign rfl) (r_nil (e_next (c_region (r_val .none rfl (p_move rfl) ?_))))
 refine r_val .none rfl (p_move rfl) ?_
 refine r_bslice (vs := [(0, Value.int _ _)]) (c := #[_]) .none rfl Try.underlying33 el3 rfl rfl rfl (bs3_10i2 _ _) (IsRow.lit _) (fun b_1 => ?_)
 refine r_append (k := 1) (k2 := 0) .none rfl Try.underlying33 el3 rfl (by decide) rfl rfl rfl rfl rfl (one_lit rfl rfl) (by simp only [maxLen]; have := idsK_len (R := R) (cs := schains [] cl) (k := k); omega) (by have := idsK_len (R := R) (cs := schains [] cl) (k := k); omega) (fun v_40 => ?_)
 refine r_row1 (k := 1) rfl (fun o_41 => ?_)
 refine r_val .none rfl (p_assign rfl) (r_nil ?_)
 refine e_norm_block ?_
 refine e_next (c_region ?_)
 refine r_val .none rfl (p_add rfl rfl (by omega)) ?_
 refine r_val .none rfl (p_move rfl) (r_nil ?_)
 refine e_round ((k + 1, _, z_39, _)) ⟨⟨by dsimp only; omega, by rw [pushes_take hck]; rw [step_no (by rw [hce]; exact hz9), hce]; exact hTn, hSn, (hgn.trans hn_35)⟩, by dsimp only; omega⟩ rfl ⟨rfl, rfl, rfl, rfl, rfl, rfl, rfl, trivial⟩ (.drop (.keep (fun _ _ h => rowA_snoc (idsK_next hgood hck (by rw [step_no (by rw [hce]; exact hz9), hce, find_push_new (by simp) hz9]; have h1 := hTk.last; omega)) rfl rfl rfl _ _ h) (.keep (fun _ _ h => h) (.nil))))))
 · (
 have hz9 := h_27
 first
 | (exfalso; omega)
 | (
 refine c_cond_f rfl (c_skip (e_next (c_region (r_val .none rfl (p_move rfl) ?_))))
 refine r_val .none rfl (p_move rfl) ?_
 refine r_bslice (vs := [(0, Value.int _ _)]) (c := #[_]) .none rfl Try.underlying33 el3 rfl rfl rfl (bs3_10i2 _ _) (IsRow.lit _) (fun b_2 => ?_)
 refine r_append (k := 1) (k2 := 0) .none rfl Try.underlying33 el3 rfl (by decide) rfl rfl rfl rfl rfl (one_lit rfl rfl) (by simp only [maxLen]; have := idsK_len (R := R) (cs := schains [] cl) (k := k); omega) (by have := idsK_len (R := R) (cs := schains [] cl) (k := k); omega) (fun v_42 => ?_)
 refine r_row1 (k := 1) rfl (fun o_43 => ?_)
 refine r_val .none rfl (p_assign rfl) (r_nil ?_)
 refine e_norm_block ?_
 refine e_next (c_region ?_)
 refine r_val .none rfl (p_add rfl rfl (by omega)) ?_
 refine r_val .none rfl (p_move rfl) (r_nil ?_)
 refine e_round ((k + 1, _, s2, _)) ⟨⟨by dsimp only; omega, by rw [pushes_take hck]; rw [step_yes (by rw [hce]; exact hz9)]; exact hTk, hSk, hgn⟩, by dsimp only; omega⟩ rfl ⟨rfl, rfl, rfl, rfl, rfl, rfl, rfl, trivial⟩ (.drop (.keep (fun _ _ h => rowA_snoc (idsK_next hgood hck (by rw [step_yes (by rw [hce]; exact hz9), hce])) rfl rfl rfl _ _ h) (.keep (fun _ _ h => h) (.nil))))))))
 · (
 first
 | (exfalso; omega)
 | (
 refine c_cond_f rfl (c_exit (e_exit_then (e_exit_then ?_)))
 refine e_exit_block ?_
 refine e_next (c_seq (c_region (r_val .none rfl (p_move rfl) (r_val .none rfl (p_move rfl) ?_))))
 have hTk0 := hTk
 rw [show pushes R ((schains [] cl).take k) = (pushes R (schains [] cl)) by rw [List.take_of_length_le (by omega)]] at hTk
 have hfd : ∀ c ∈ (schains [] cl), find (pushes R (schains [] cl)) c ≠ 0 := find_pushes (good_ne hgood)
 have hpl : (pushes R (schains [] cl)).lists = R.lists := pushes_lists _ _
 have hin2 := ids_in hTk hfd
 have hub2 : ∀ k x, lkp s2.nodes k = some x → -5000 ≤ x.uses ∧ x.uses ≤ 5000 := fun k x hx => by have := hTk.bound (m := 3000) (by rw [hpl]; exact hcap.2) hx; omega
 have hil2 : (idsR (pushes R (schains [] cl)) cl).length ≤ 1000 := by rw [List.length_map]; exact hcl
 refine r_front (k := 1) rfl ?_
 refine r_front (k := 1) rfl ?_
 refine r_conv (B := rowA ov 3 1 (idsR (pushes R (schains [] cl)) cl).length ((idsR (pushes R (schains [] cl)) cl).flatMap cI)) (k := 0) rfl (fun _ _ h => rowA_congr (by rw [idsK_all (by omega)]) (by rw [idsK_all (by omega)]) _ _ h) ?_
 dsimp only [List.set_cons_zero]
 refine r_pack [_, _] ?_
 refine r_callo (k := 0) (vs := [_, _, _]) .none rfl cl35 rfl rfl (fun w F hw hA hFG => with_row (R := fun r => r = Value.tuple #[]) (fun G' F' hle hsl hG hA hF => c_kuse p _ (idsR (pushes R (schains [] cl)) cl) (1) s2 (SlL.of (cells := cI) (0 : Int) (fun _ => rfl) rfl hsl) hin2 (by omega) hub2 hil2 w hG hA hF) hw hA hFG) ?_
 refine r_unpack ?_
 refine r_nil (e_next (c_seq (c_region ?_)))
 refine r_front (k := 1) rfl ?_
 refine r_unex (fun l => ?_)
 refine r_unand (fun hl => ?_)
 refine r_unpack ?_
 refine r_openK (fun z => ?_)
 dsimp only [trC] at hl ⊢
 obtain ⟨x10, hx10, _⟩ := hTk.at (id := 1) (c := []) rfl
 obtain ⟨x1, hx1, hu1, _⟩ := useL_some 1 (once_nodup (idsR (pushes R (schains [] cl)) cl)) hx10
 have hb1 := hTk.bound (m := 3000) (by rw [hpl]; exact hcap.2) hx10
 obtain ⟨bx1, kv1, ov1, hN1⟩ := eraK_some (by rw [← hl]; exact hx1)
 refine r_val .none rfl (p_move rfl) ?_
 refine r_val .none rfl (p_nilcheck rfl) ?_
 refine r_val .none rfl (p_field Try.underlying74 rfl sz72 rfl) ?_
 refine r_val .none rfl (p_ld (k := 0) Try.underlying72 rfl rfl rfl (by first | exact odt rfl | omega) (rfl : _ = Value.map _)) ?_
 refine r_val .none rfl (p_lookup_yes (i := 1) Try.underlying72 (KeyT.int Try.underlying3) zr69 rfl rfl rfl hN1) ?_
 refine r_front (k := 2) rfl ?_
 refine r_fnd hN1 ?_
 refine r_val .none rfl (p_nilcheck rfl) ?_
 refine r_val .none rfl (p_field Try.underlying71 rfl sz3 rfl) ?_
 refine r_val .none rfl (p_ld (k := 0) Try.underlying3 rfl rfl rfl (by first | exact odt rfl | omega) (rfl : _ = Value.int _ _)) ?_
 refine r_val .none rfl (p_add rfl rfl (by rcases hu1 with h | h <;> rw [h] <;> omega)) ?_
 refine r_val .none rfl (p_nilcheck rfl) ?_
 refine r_val .none rfl (p_field Try.underlying71 rfl sz3 rfl) ?_
 refine r_st (k := 0) .none sz3 rfl rfl rfl rfl (by first | exact odt rfl | omega) ?_
 refine r_front (k := 3) rfl ?_
 refine r_front (k := 3) rfl ?_
 refine r_front (k := 3) rfl ?_
 refine r_front (k := 3) rfl ?_
 refine r_conv (B := box bx1 13 71 (at_ (ndC { x1 with uses := x1.uses + 1 } kv1 ov1))) (k := 0) rfl (fun _ _ h => box_congr (fun i hi => by match i, hi with | 0, _ => rfl | 1, _ => rfl | 2, _ => rfl | 3, _ => rfl | 4, _ => rfl | 5, _ => rfl | 6, _ => rfl | 7, _ => rfl | 8, _ => rfl | 9, _ => rfl | 10, _ => rfl | 11, _ => rfl | 12, _ => rfl) _ _ h) ?_
 dsimp only [List.set_cons_zero]
 refine r_ndBack (x := { x1 with uses := x1.uses + 1 }) hN1 ?_
 refine r_conv (B := mapA z kI veN2 (mput l 1 (bx1, kv1, ov1, { x1 with uses := x1.uses + 1 }))) (k := 2) rfl (fun _ _ h => mapA_retell (v := (bx1, kv1, ov1, { x1 with uses := x1.uses + 1 })) hN1 rfl h) ?_
 dsimp only [List.set_cons_zero, List.set_cons_succ]
 refine r_nil (e_next (c_seq ?_))
 have hl1 : eraK (mput l 1 (bx1, kv1, ov1, { x1 with uses := x1.uses + 1 })) = mput (useL 1 (Go.Gx.Set.once (idsR (pushes R (schains [] cl)) cl)) s2.nodes) 1 { x1 with uses := x1.uses + 1 } := by rw [eraK_mput, ← hl]
 have hks : KSame s2.nodes (mput (useL 1 (Go.Gx.Set.once (idsR (pushes R (schains [] cl)) cl)) s2.nodes) 1 { x1 with uses := x1.uses + 1 }) := (KSame.use 1 _ _).trans (KSame.put (x := x1) (y := { x1 with uses := x1.uses + 1 }) hx1 rfl rfl)
 have hk1 : KInv (gP (eraK (mput l 1 (bx1, kv1, ov1, { x1 with uses := x1.uses + 1 })))) (pushes R (schains [] cl)) := by rw [hl1]; exact hks.kinv hTk.inv.k
 have hS1 : StS (gd Gs G H) ⟨eraK (mput l 1 (bx1, kv1, ov1, { x1 with uses := x1.uses + 1 })), s2.last⟩ := by rw [hl1]; exact StS.put (ls := s2.last) (hSk.use 1) (show StAt (gd Gs G H) x1.st from StS.get (s := ⟨(useL 1 (Go.Gx.Set.once (idsR (pushes R (schains [] cl)) cl)) s2.nodes), s2.last⟩) (hSk.use 1) hx1)
 obtain ⟨xe0, hxe0, _⟩ := hTk.at (find_some hTk.clo.ne (chain_found hfd))
 obtain ⟨xe1, hxe1, _, hue⟩ := useL_some 1 (once_nodup (idsR (pushes R (schains [] cl)) cl)) hxe0
 have hbe := hTk.bound (m := 3000) (by rw [hpl]; exact hcap.2) hxe0
 obtain ⟨xe, hxe, hee⟩ : ∃ xe, lkp (mput (useL 1 (Go.Gx.Set.once (idsR (pushes R (schains [] cl)) cl)) s2.nodes) 1 { x1 with uses := x1.uses + 1 }) (find (pushes R (schains [] cl)) cl) = some xe ∧ xe.ends = xe1.ends := by rw [lkp_mput]; split; (rename_i h9; rw [← h9, hx1] at hxe1; simp only [Option.some.injEq] at hxe1; exact ⟨_, rfl, by rw [← hxe1]⟩); exact ⟨_, hxe1, rfl⟩
 obtain ⟨bxe, kve, ove, hNe⟩ := eraK_some (by rw [hl1]; exact hxe)
 refine c_fnd hNe ?_
 refine c_region_d (fun j => [14].contains j) _ mixed (.keep (fun _ _ h => h) (.keep (fun _ _ h => h) (.keep (fun _ _ h => h) (.keep (fun _ _ h => h) (.keep (fun _ _ h => h) (.keep (fun _ _ h => h) (.keep (fun _ _ h => h) (.nil)))))))) ?_
 refine d_val1 0 rfl rfl (by kernel_rfl) (fun j hj => by have h : 14 < j := (Nat.lt_of_lt_of_le (by decide : 14 < 15) hj); simp; omega) .none rfl (p_move rfl) ?_
 refine d_val1 1 rfl rfl (by kernel_rfl) (fun j hj => by have h : 14 < j := (Nat.lt_of_lt_of_le (by decide : 14 < 15) hj); simp; omega) .none rfl (p_nilcheck rfl) ?_
 refine d_val1 2 rfl rfl (by kernel_rfl) (fun j hj => by have h : 14 < j := (Nat.lt_of_lt_of_le (by decide : 14 < 15) hj); simp; omega) .none rfl (p_field Try.underlying74 rfl sz72 rfl) ?_
 refine d_val1 3 rfl rfl (by kernel_rfl) (fun j hj => by have h : 14 < j := (Nat.lt_of_lt_of_le (by decide : 14 < 15) hj); simp; omega) .none rfl (p_ld (k := 4) Try.underlying72 rfl rfl rfl (by first | exact odt rfl | omega) (rfl : _ = Value.map _)) ?_
 refine d_val1 4 rfl rfl (by kernel_rfl) (fun j hj => by have h : 14 < j := (Nat.lt_of_lt_of_le (by decide : 14 < 15) hj); simp; omega) .none rfl (p_move rfl) ?_
 refine d_val1 5 rfl rfl (by kernel_rfl) (fun j hj => by have h : 14 < j := (Nat.lt_of_lt_of_le (by decide : 14 < 15) hj); simp; omega) .none rfl (p_move rfl) ?_
 refine d_eff 6 rfl (by kernel_rfl) (fun K_44 hKK_44 hcK_44 => ?_)
 refine r_front (k := 5) rfl ?_
 refine r_front (k := 5) rfl ?_
 refine r_pack [_, _] ?_
 refine r_front (k := 4) rfl ?_
 refine r_front (k := 4) rfl ?_
 refine r_front (k := 4) rfl ?_
 refine r_front (k := 4) rfl ?_
 refine r_pack [_, _, _, _] ?_
 refine r_front (k := 1) rfl ?_
 refine r_front (k := 1) rfl ?_
 refine r_pack [_, _] ?_
 refine r_callo (k := 0) (vs := [_, _]) .none rfl cl18 rfl rfl (fun w F hw hA hFG => hd_seeX (R := fun r => r = Value.int .i64 (find (pushes R (schains [] cl)) cl)) hNe (fun G' F' hle hn9 hG hA hF => c_zfind p _ cl (mput l 1 (bx1, kv1, ov1, { x1 with uses := x1.uses + 1 })) _ (pushes R (schains [] cl)) z (seen_of (s := ⟨eraK (mput l 1 (bx1, kv1, ov1, { x1 with uses := x1.uses + 1 })), s2.last⟩) ⟨hk1, hTk.clo⟩ (StS.mono hS1 (gd_le hgs hG0)) rfl hn9 hle) (hs.mono hle) w hG hA hF) hw hA hFG) ?_
 refine r_unpack ?_
 refine r_unpack ?_
 refine r_front (k := 4) rfl ?_
 refine r_unpack ?_
 dsimp only [trL, trC]
 refine r_front (k := 6) rfl ?_
 refine r_front (k := 2) rfl ?_
 refine r_front (k := 2) rfl ?_
 refine r_front (k := 6) rfl ?_
 refine r_front (k := 6) rfl ?_
 refine r_front (k := 6) rfl ?_
 refine r_front (k := 6) rfl ?_
 refine r_nil (e_d (i := 6) (brk := (fun j => [14].contains j)) (ph' := true) hKK_44 hcK_44 rfl (fun _ => GLe.refl _) (fun _ => .keep (fun _ _ h => h) (.keep (fun _ _ h => h) (.keep (fun _ _ h => h) (.keep (fun _ _ h => h) (.keep (fun _ _ h => h) (.keep (fun _ _ h => h) (.keep (fun _ _ h => h) (.nil)))))))) ?_)
 clear hKK_44 hcK_44 K_44
 refine d_val1 7 rfl rfl (by kernel_rfl) (fun j hj => by have h : 14 < j := (Nat.lt_of_lt_of_le (by decide : 14 < 15) hj); simp; omega) .none rfl (p_lookup_yes (i := 5) Try.underlying72 (KeyT.int Try.underlying3) zr69 rfl rfl rfl hNe) ?_
 refine d_val1 8 rfl rfl (by kernel_rfl) (fun j hj => by have h : 14 < j := (Nat.lt_of_lt_of_le (by decide : 14 < 15) hj); simp; omega) .none rfl (p_nilcheck rfl) ?_
 refine d_val1 9 rfl rfl (by kernel_rfl) (fun j hj => by have h : 14 < j := (Nat.lt_of_lt_of_le (by decide : 14 < 15) hj); simp; omega) .none rfl (p_field Try.underlying71 rfl sz3 rfl) ?_
 refine d_val1 10 rfl rfl (by kernel_rfl) (fun j hj => by have h : 14 < j := (Nat.lt_of_lt_of_le (by decide : 14 < 15) hj); simp; omega) .none rfl (p_ld (k := 0) Try.underlying3 rfl rfl rfl (by first | exact odt rfl | omega) (rfl : _ = Value.int _ _)) ?_
 refine d_val1 11 rfl rfl (by kernel_rfl) (fun j hj => by have h : 14 < j := (Nat.lt_of_lt_of_le (by decide : 14 < 15) hj); simp; omega) .none rfl (p_add rfl rfl (by omega)) ?_
 refine d_val1 12 rfl rfl (by kernel_rfl) (fun j hj => by have h : 14 < j := (Nat.lt_of_lt_of_le (by decide : 14 < 15) hj); simp; omega) .none rfl (p_nilcheck rfl) ?_
 refine d_val1 13 rfl rfl (by kernel_rfl) (fun j hj => by have h : 14 < j := (Nat.lt_of_lt_of_le (by decide : 14 < 15) hj); simp; omega) .none rfl (p_field Try.underlying71 rfl sz3 rfl) ?_
 refine d_eff 14 rfl (by kernel_rfl) (fun K_45 hKK_45 hcK_45 => ?_)
 refine r_st (k := 0) .none sz3 rfl rfl rfl rfl (by first | exact odt rfl | omega) ?_
 refine r_nil (e_d (i := 14) (brk := (fun j => [14].contains j)) (ph' := false) hKK_45 hcK_45 rfl (fun h => by cases h) (fun h => by cases h) ?_)
 clear hKK_45 hcK_45 K_45
 refine d_nil (by kernel_rfl) ?_
 refine e_next (c_seq (c_region ?_))
 refine r_front (k := 3) rfl ?_
 refine r_front (k := 3) rfl ?_
 refine r_front (k := 3) rfl ?_
 refine r_front (k := 3) rfl ?_
 refine r_conv (B := box bxe 13 71 (at_ (ndC { xe with ends := xe.ends + 1 } kve ove))) (k := 0) rfl (fun _ _ h => box_congr (fun i hi => by match i, hi with | 0, _ => rfl | 1, _ => rfl | 2, _ => rfl | 3, _ => rfl | 4, _ => rfl | 5, _ => rfl | 6, _ => rfl | 7, _ => rfl | 8, _ => rfl | 9, _ => rfl | 10, _ => rfl | 11, _ => rfl | 12, _ => rfl) _ _ h) ?_
 dsimp only [List.set_cons_zero]
 refine r_ndBack (x := { xe with ends := xe.ends + 1 }) hNe ?_
 refine r_conv (B := mapA z kI veN2 (mput (mput l 1 (bx1, kv1, ov1, { x1 with uses := x1.uses + 1 })) (find (pushes R (schains [] cl)) cl) (bxe, kve, ove, { xe with ends := xe.ends + 1 }))) (k := 2) rfl (fun _ _ h => mapA_retell (v := (bxe, kve, ove, { xe with ends := xe.ends + 1 })) hNe rfl h) ?_
 dsimp only [List.set_cons_zero, List.set_cons_succ]
 refine r_val .none rfl (p_move rfl) (r_val .none rfl (p_assign rfl) (r_nil (e_next ?_)))
 refine c_ret ?_
 refine e_freezeD (k := 3) rfl (fun G_46 hn_47 hs_48 => ?_)
 replace hs_48 := SlG.mono hs_48 (gd_new (Gs := Gs) hG0)
 replace hs := hs.mono hn_47.le
 replace hG0 := GLe.trans hG0 hn_47.le
 replace hq := hq.mono hn_47.le
 replace hqp := fun p hm0 => (hqp p hm0).mono hn_47.le
 replace hSk := hSk.mono (gd_mono hn_47.le)
 replace hS1 := hS1.mono (gd_mono hn_47.le)
 refine e_front (k := 2) rfl ?_
 refine e_front (k := 2) rfl ?_
 have hle9 : mput (mput (useL 1 (Go.Gx.Set.once (idsR (pushes R (schains [] cl)) cl)) s2.nodes) 1 { x1 with uses := x1.uses + 1 }) (find (pushes R (schains [] cl)) cl) { xe with ends := xe.ends + 1 } = eraK (mput (mput l 1 (bx1, kv1, ov1, { x1 with uses := x1.uses + 1 })) (find (pushes R (schains [] cl)) cl) (bxe, kve, ove, { xe with ends := xe.ends + 1 })) := by rw [eraK_mput, hl1]
 refine e_ret1 Try.results12 (.tmp rfl .nil) (fun w hm => ⟨_, ⟨(mput (mput (useL 1 (Go.Gx.Set.once (idsR (pushes R (schains [] cl)) cl)) s2.nodes) 1 { x1 with uses := x1.uses + 1 }) (find (pushes R (schains [] cl)) cl) { xe with ends := xe.ends + 1 }), s2.last⟩, ((hn_2.trans hgn).trans hn_47), hm.has, ⟨SlL.of (cells := cI) (0 : Int) (fun _ => rfl) rfl hs_48, add_TI hTk hx1 hxe, ?_⟩, hm.keptG [box p 2 74 (at_ (trC (KS.mk (mput (mput l 1 (bx1, kv1, ov1, { x1 with uses := x1.uses + 1 })) (find (pushes R (schains [] cl)) cl) (bxe, kve, ove, { xe with ends := xe.ends + 1 })) s2.last) z)), mapA z kI veN2 (mput (mput l 1 (bx1, kv1, ov1, { x1 with uses := x1.uses + 1 })) (find (pushes R (schains [] cl)) cl) (bxe, kve, ove, { xe with ends := xe.ends + 1 })), hoard (FK (nkD 71 3)) ((mput (mput l 1 (bx1, kv1, ov1, { x1 with uses := x1.uses + 1 })) (find (pushes R (schains [] cl)) cl) (bxe, kve, ove, { xe with ends := xe.ends + 1 })))] (.keep (fun _ _ h => box_congr (fun i hi => by match i, hi with | 0, _ => rfl | 1, _ => rfl) _ _ h) (.keep (fun _ _ h => h) (.keep (fun _ _ h => h) (.nil)))) (trE (nkD 71 3) 74 p (KS.mk (mput (mput (useL 1 (Go.Gx.Set.once (idsR (pushes R (schains [] cl)) cl)) s2.nodes) 1 { x1 with uses := x1.uses + 1 }) (find (pushes R (schains [] cl)) cl) { xe with ends := xe.ends + 1 }) s2.last)) (fun F' h => trE_mk3 z hle9 h)⟩)
 exact StS.put (ls := s2.last) (by rw [← hl1]; exact hS1) (show StAt _ xe.st from StS.get (s := ⟨mput (useL 1 (Go.Gx.Set.once (idsR (pushes R (schains [] cl)) cl)) s2.nodes) 1 { x1 with uses := x1.uses + 1 }, s2.last⟩) (by rw [← hl1]; exact hS1) hxe)))
end Go.Proofs.Ytdkfdncbldngdaa

/- Plain laws of tries: a list that comes and goes leaves all as it was; no program in sight. -/
namespace Go.Gx.T16
open Go.Gx Go.Gx.T3 Go.Gx.T4 Go.Gx.T6 Go.Gx.T8
theorem there_add (R : RT) (cl : List ST) : there (addR R cl) cl = true := List.any_eq_true.2 ⟨cl, by simp [addR], ceq_self cl⟩
theorem back_count (R : RT) (cl : List ST) (p : List ST → Bool) : (remL cl (addR R cl).lists).countP p = R.lists.countP p := by
  have h := remL_count p (there_add R cl)
  have h2 : (addR R cl).lists.countP p = R.lists.countP p + (if p cl = true then 1 else 0) := by
    show (R.lists ++ [cl]).countP p = _
    rw [List.countP_append, List.countP_cons, List.countP_nil, Nat.zero_add]
  omega
theorem pushes_its : ∀ {cs : List (List ST)} {R : RT}, (∀ c ∈ cs, c ≠ []) → ∃ new, (pushes R cs).its = R.its ++ new ∧ ∀ x ∈ new, x.2 = false ∧ x.1 ∈ cs ∧ find R x.1 = 0
  | [], R, _ => ⟨[], by simp [pushes], by simp⟩
  | c :: t, R, h => by
    have hc := h c (by simp)
    obtain ⟨new, h1, h2⟩ := pushes_its (cs := t) (R := step R c) (fun d hd => h d (by simp [hd]))
    have hback : ∀ d, find (step R c) d = 0 → find R d = 0 := fun d hd => by
      rcases Decidable.em (find R d = 0) with h0 | h0
      · exact h0
      · rw [find_step_old hc h0] at hd; exact hd
    by_cases hf : find R c = 0
    · refine ⟨(c, false) :: new, ?_, fun x hx => ?_⟩
      · rw [pushes, h1]
        show (step R c).its ++ new = _
        unfold step
        rw [if_pos hf]
        simp [push]
      · rcases List.mem_cons.1 hx with rfl | hx
        · exact ⟨rfl, by simp, hf⟩
        · obtain ⟨h3, h4, h5⟩ := h2 x hx
          exact ⟨h3, by simp [h4], hback _ h5⟩
    · refine ⟨new, ?_, fun x hx => ?_⟩
      · rw [pushes, h1]
        unfold step
        rw [if_neg hf]
      · obtain ⟨h3, h4, h5⟩ := h2 x hx
        exact ⟨h3, by simp [h4], hback _ h5⟩
theorem numsF_map {p : List ST → Bool} {f : It → It} : ∀ {l : List It} {i : Int}, (∀ x ∈ l, (f x).1 = x.1 ∧ (f x).2 = x.2) → numsF p (l.map f) i = numsF p l i
  | [], _, _ => rfl
  | x :: t, i, h => by
    obtain ⟨h1, h2⟩ := h x (by simp)
    rw [List.map_cons, numsF, numsF, h1, h2, numsF_map (fun y hy => h y (by simp [hy]))]
theorem numsF_gone {p : List ST → Bool} : ∀ {l : List It} {i : Int}, (∀ x ∈ l, x.2 = true) → numsF p l i = []
  | [], _, _ => rfl
  | x :: t, i, h => by
    rw [numsF, numsF_gone (fun y hy => h y (by simp [hy])), h x (by simp)]
    simp
/-- All is as it was. -/
theorem back_all {s : KS Nd} {R : RT} (hT : TI s R) (hU : Used R) (cl : List ST) : all (remR (addR R cl) cl) = all R := by
  obtain ⟨new, h1, h2⟩ := pushes_its (cs := schains [] cl) (R := R) (good_ne (schains_good0 cl R))
  have hi : (addR R cl).its = R.its ++ new := h1
  unfold all
  congr 1
  show numsF _ ((addR R cl).its.map _) 2 = _
  rw [hi, List.map_append, numsF_append]
  have e1 : ∀ x ∈ R.its, ((fun x : It => (x.1, x.2 || decide ((remL cl (addR R cl).lists).countP (usesOf x.1) = 0))) x).1 = x.1 ∧ ((fun x : It => (x.1, x.2 || decide ((remL cl (addR R cl).lists).countP (usesOf x.1) = 0))) x).2 = x.2 := fun x hx => by
    refine ⟨rfl, ?_⟩
    show (x.2 || decide ((remL cl (addR R cl).lists).countP (usesOf x.1) = 0)) = x.2
    rw [back_count]
    cases e : x.2 with
    | true => rfl
    | false =>
      have h3 := hU x.1 (by rw [← e]; exact hx)
      unfold uses at h3
      rw [decide_eq_false (by omega)]; rfl
  rw [numsF_map e1, numsF_gone (l := new.map _), List.append_nil]
  intro x hx
  obtain ⟨y, hy, rfl⟩ := List.mem_map.1 hx
  obtain ⟨_, h4, h5⟩ := h2 y hy
  show (y.2 || decide ((remL cl (addR R cl).lists).countP (usesOf y.1) = 0)) = true
  rw [back_count, decide_eq_true, Bool.or_true]
  rw [List.countP_eq_zero]
  intro l hl hu
  rcases usesOf_iff.1 hu with h6 | h6
  · exact good_ne (schains_good0 cl R) _ h4 h6
  · exact hT.lst l hl _ h6 h5
/-- Who is out has nothing. -/
theorem gone_out {R : RT} {cl : List ST} {k : Int} (h : k ∈ goneR R cl) : (nR (remR R cl) k).uses = 0 := by
  unfold goneR at h
  rw [List.mem_reverse, numsF_mem] at h
  obtain ⟨j, c, rfl, h1, h2⟩ := h
  have h3 : getR (remR R cl) (2 + (j : Nat)) = none := by
    cases e : getR (remR R cl) (2 + (j : Nat)) with
    | none => rfl
    | some d =>
      rcases getR_iff.1 e with ⟨h4, _⟩ | ⟨_, m, h5, h6⟩
      · omega
      · obtain rfl : m = j := by omega
        have h7 : (remR R cl).its[m]? = some (c, true) := by
          simp only [remR, List.getElem?_map, h1, Option.map_some, Bool.false_or]
          rw [h2]
        rw [h7] at h6
        simp at h6
  unfold nR
  rw [h3]
  rfl
theorem gone_falls (R : RT) (cl : List ST) : (goneR R cl).Pairwise (fun a b => b < a) := List.pairwise_reverse.2 numsF_sorted
theorem falls_at {l : List Int} (h : l.Pairwise (fun a b => b < a)) {m : Nat} (hm : m + 1 < l.length) : l.getD (m + 1) 0 < l.getD m 0 := by
  have h1 := List.pairwise_iff_getElem.1 h m (m + 1) (by omega) hm (by omega)
  simpa [List.getD, hm, show m < l.length by omega] using h1
end Go.Gx.T16

/- Walks: what Go functions of this chapter come to, each as a function on plain data; no condition but those that each theorem names. Printed by a program of this work (gen.py). -/
namespace Go.Proofs.Ytdkfdncbldngdaa
open Go.Gx Go.Gx.T16 Go.Gx.T8 Go.Gx.T6 Go.Gx.T4 Go.Gx.T3 Go.Gx.T4 Go.Gx.T3 Go.Gx.T6 Go.Gx.T8 Go.Gx.T4 Go.Gx.T3 Go.Gx.T8 Go.Gx.T4 Go.Gx.T3 Go.Gx.T8 Go.Gx.T6 Go.Gx.T4 Go.Gx.T3
theorem cl8 : Callable Try.prog 8 := callable Try.func8 (by kernel_rfl) rfl
theorem cl9 : Callable Try.prog 9 := callable Try.func9 (by kernel_rfl) rfl
theorem cl10 : Callable Try.prog 10 := callable Try.func10 (by kernel_rfl) rfl
theorem cl19 : Callable Try.prog 19 := callable Try.func19 (by kernel_rfl) rfl
theorem cl21 : Callable Try.prog 21 := callable Try.func21 (by kernel_rfl) rfl
theorem c_kallE {F : Nat → Prop} {G : Ghost} (p : Nat) (s : KS Nd) (R : RT) (hT : TI s R) (hS : StS G s) (hc : R.its.length ≤ 4000) (w : World) (hG : Has G w) (hA : (trE (nkD 71 3) 74 p (s)).holds w F) (hFG : ∀ b, F b → G b = none) :
    Calls Try.prog 21 #[Value.pointer (some ⟨p, 0, none⟩)] w (Ret fun r w' => Kept (starL [rowA r 3 1 (all R).length ((all R).flatMap cI), trE (nkD 71 3) 74 p (s)]) F w w') := by
 refine (trie_see (Z := fun r => rowA r 3 1 (all R).length ((all R).flatMap cI)) (R := fun _ => True) (fun l G' F' hl hle hn9 hG' hA' hF' => ?_) hG hA hFG).mono (fun e w' hR => by cases e with | returned r => exact hR.2 | panicked c => exact hR.elim | outgrown => exact hR.elim)
 have hr := hT.range hl hc
 have h9 := c_kall p l _ R (seen_of hT.kc hS hl hn9 hle) hr.1 (by omega) w hG' hA' hF'
 rw [hT.sorted hl] at h9
 exact h9.mono (fun e w' hR => by cases e with | returned r => exact ⟨trivial, hR⟩ | panicked c => exact hR.elim | outgrown => exact hR.elim)
set_option maxHeartbeats 2000000 in
theorem c_TrieBack (v : Value) (ls : List (List CT × Value)) (v2 : Value) (cl0 : List CT) {G : Ghost} (hs : SlL G v 1 lC (([] : List CT), Value.slice none 0 0) ls) (hls : ∀ q ∈ ls, Cs G q.2 q.1) (hl9 : Cs G v2 cl0) (w : World) (hG : Has G w) :
    Calls Try.prog 5 #[v, v2] w (Ret fun r w' => r = Value.bool true ∧ Since nX w w') := by
 refine enter (args := [_, _]) (X := nX) (G := G) (l := [(0, v), (1, v2)]) Try.func5 rfl Try.ntmps5 hG ⟨rfl, rfl, trivial⟩ (Nat.le_of_ble_eq_true rfl) ?_
 have hbl := hs.bound
 refine c_seq (c_region (r_val .none rfl (p_assign rfl) (r_nil (e_next ?_))))
 refine c_seq (c_region ?_)
 refine r_callnew (vs := []) .none rfl cl7 rfl (fun w hw => c_knew w hw) (fun p_1 => ?_)
 refine r_val .none rfl (p_assign rfl) (r_nil (e_next (c_seq (c_seq ?_))))
 refine c_region (r_val .none rfl (p_move rfl) ?_)
 refine r_val .none rfl (p_leng Try.underlying22 rfl hs) ?_
 have bd_2 := (hs).bound
 refine r_val .none rfl (p_gt rfl rfl) ?_
 refine r_val .none rfl (p_move rfl) ?_
 refine r_splitd (d := 23) rfl (fun h_3 => ?_) (fun h_3 => ?_)
 · (
 first
 | (exfalso; first | omega | assumption)
 | (
 refine r_skip rfl (.no rfl rfl) ?_
 refine r_skip rfl (.no rfl rfl) ?_
 refine r_val .none rfl (p_pick_t rfl rfl) ?_
 refine r_val .none rfl (p_move rfl) ?_
 refine r_skip rfl (.no rfl rfl) ?_
 refine r_skip rfl (.no rfl rfl) ?_
 refine r_skip rfl (.no rfl rfl) ?_
 refine r_val .none rfl (p_pick_t rfl rfl) ?_
 refine r_nil (e_next (c_cond_t rfl (c_seq (c_region ?_))))
 refine r_val .none rfl (p_move rfl) ?_
 refine r_val .none rfl (p_ne_ptr Try.underlying23 (by first | exact .inr rfl | exact .inl rfl) rfl rfl) ?_
 refine r_say (d := 33) (v := Value.bool true) rfl ?_
 refine r_val .none rfl (p_move rfl) ?_
 refine r_call (vs := []) (.some rfl rfl) rfl cl8 rfl (fun w hw => c_awake16 w) ?_
 refine r_val .none rfl (p_pick_t rfl rfl) ?_
 refine r_val .none rfl (p_assign rfl) (r_nil (e_next ?_))
 refine c_ret ?_
 refine e_ret_then ?_
 refine e_ret1 Try.results5 (.tmp rfl .nil) (fun w hm => ⟨?_, hm.since⟩)
 rfl))
 · (
 first
 | (exfalso; first | omega | assumption)
 | (
 refine r_val (.some rfl rfl) rfl (p_move rfl) ?_
 refine r_val (.some rfl rfl) rfl (p_eq_ptr Try.underlying23 (by first | exact .inr rfl | exact .inl rfl) rfl rfl) ?_
 refine r_say (d := 25) (v := Value.bool false) rfl ?_
 refine r_val .none rfl (p_pick_f rfl rfl) ?_
 refine r_val .none rfl (p_move rfl) ?_
 refine r_val (.some rfl rfl) rfl (p_move rfl) ?_
 refine r_call (vs := [_]) (.some rfl rfl) rfl cl9 rfl (fun w hw => c_fine6 _ _ hl9 w hw) ?_
 refine r_val (.some rfl rfl) rfl (p_not rfl) ?_
 refine r_val .none rfl (p_pick_f rfl rfl) ?_
 refine r_nil (e_next ?_)
 refine c_splitn (d := 31) rfl (fun h_4 => ?_) (fun h_4 => ?_)
 · (
 first
 | (exfalso; first | omega | assumption)
 | (
 refine c_cond_t rfl (c_seq (c_region (r_val .none rfl (p_move rfl) ?_)))
 refine r_val .none rfl (p_ne_ptr Try.underlying23 (by first | exact .inr rfl | exact .inl rfl) rfl rfl) ?_
 refine r_say (d := 33) (v := Value.bool true) rfl ?_
 refine r_val .none rfl (p_move rfl) ?_
 refine r_call (vs := []) (.some rfl rfl) rfl cl8 rfl (fun w hw => c_awake16 w) ?_
 refine r_val .none rfl (p_pick_t rfl rfl) ?_
 refine r_val .none rfl (p_assign rfl) (r_nil (e_next ?_))
 refine c_ret ?_
 refine e_ret_then ?_
 refine e_ret1 Try.results5 (.tmp rfl .nil) (fun w hm => ⟨?_, hm.since⟩)
 rfl))
 · (
 have hfl9 : fineL cl0 = true := by simpa using h_4
 have hfly := fineL_yes hfl9
 have hszl : sizeL cl0 ≤ 1000 := by omega
 have hsl1 : sszL (stepsOf [] cl0) ≤ 64 := Nat.le_trans (sszL_of cl0 []) (by omega)
 have hsl5 : sszL (stepsOf [] cl0) ≤ 5000 := by omega
 first
 | (exfalso; first | omega | assumption)
 | (
 refine c_cond_f rfl (c_skip (e_next (c_seq (c_seq ?_))))
 refine c_region (r_val .none rfl (p_move rfl) ?_)
 refine r_val .none rfl (p_leng Try.underlying22 rfl hs) ?_
 have bd_5 := (hs).bound
 refine r_val .none rfl (p_move rfl) (r_nil (e_next (c_block ?_)))
 refine c_name (d := 1) rfl (fun u_6 hu_6 => ?_)
 refine c_name (d := 5) rfl (fun u_7 hu_7 => ?_)
 refine c_name (d := 37) rfl (fun u_8 hu_8 => ?_)
 refine c_name (d := 38) rfl (fun u_9 hu_9 => ?_)
 refine c_loop (σ := Nat × KS Nd × Ghost) (fun s' => [(39, Value.int .i64 (s'.1 : Nat)), (1, u_6), (5, u_7), (37, u_8), (38, u_9)]) (fun s' => [trE (nkD 71 3) 74 p_1 s'.2.1]) (fun s' => s'.2.2) (fun s' => (s'.1 ≤ ls.length ∧ ls.length ≤ 8) ∧ TI s'.2.1 (adds R0 (stp ls s'.1)) ∧ StS s'.2.2 s'.2.1 ∧ ((adds R0 (stp ls s'.1)).its.length ≤ 64 * s'.1 ∧ (adds R0 (stp ls s'.1)).lists.length ≤ s'.1) ∧ GNew w nX G s'.2.2) (fun s' => ls.length - s'.1) ((0, KS0, _)) ⟨⟨Nat.zero_le _, by omega⟩, new_TI, new_StS, ⟨by simp [stp, adds], by simp [stp, adds]⟩, GNew.refl _ _ _⟩ rfl ⟨rfl, rfl, rfl, rfl, rfl, trivial⟩ (.keep (fun _ _ h => h) (.nil)) (fun s' hphi => ?_)
 subst hu_6
 subst hu_7
 subst hu_8
 subst hu_9
 obtain ⟨k, s2, H⟩ := s'
 obtain ⟨⟨hk, hl8⟩, hTk, hSk, ⟨hic, hlc⟩, hgn⟩ := hphi
 dsimp only at hk hTk hSk hic hlc hgn ⊢
 replace hs := hs.mono hgn.le
 replace hl9 := hl9.mono hgn.le
 replace hls := fun p hm0 => (hls p hm0).mono hgn.le
 refine c_seq (c_region ?_)
 refine r_val .none rfl (p_lt rfl rfl) ?_
 refine r_nil (e_next (c_seq ?_))
 refine c_splitd (d := 40) rfl (fun h_10 => ?_) (fun h_10 => ?_)
 · (
 first
 | (exfalso; first | omega | assumption)
 | (
 refine c_cond_t rfl (c_skip (e_next (c_seq (c_block ?_))))
 refine c_seq (c_region ?_)
 refine r_iaddr_g .none rfl Try.underlying22 sz27 rfl hs rfl (by first | exact odt rfl | omega) (fun p_12 o_13 R_11 => ?_)
 have hcl9 := hls _ (getD_mem (i := k) (d := (([] : List CT), Value.slice none 0 0)) (by omega))
 refine r_val .none rfl (p_ldg0 Try.underlying27 rfl rfl R_11 (by first | exact odt rfl | omega) rfl) ?_
 refine r_val .none rfl (p_assign rfl) (r_nil (e_next (c_seq (c_seq ?_))))
 refine c_region (r_val .none rfl (p_move rfl) ?_)
 refine r_call (vs := [_]) .none rfl cl9 rfl (fun w hw => c_fine6 _ _ hcl9 w hw) ?_
 refine r_val .none rfl (p_not rfl) ?_
 refine r_nil (e_next ?_)
 refine c_splitn (d := 45) rfl (fun h_14 => ?_) (fun h_14 => ?_)
 · (
 first
 | (exfalso; first | omega | assumption)
 | (
 refine c_cond_t rfl (c_seq (c_region ?_))
 refine r_call (vs := []) .none rfl cl8 rfl (fun w hw => c_awake16 w) ?_
 refine r_val .none rfl (p_assign rfl) (r_nil (e_next ?_))
 refine c_ret ?_
 refine e_ret_then ?_
 refine e_ret_block ?_
 refine e_ret_then ?_
 refine e_ret_then ?_
 refine e_ret_block ?_
 refine e_ret_then ?_
 refine e_ret1 Try.results5 (.tmp rfl .nil) (fun w hm => ⟨?_, hm.since⟩)
 rfl))
 · (
 have hf9 : fineL (ls.getD k (([] : List CT), Value.slice none 0 0)).1 = true := by simpa using h_14
 have hfy9 := fineL_yes hf9
 have hsz9 : sizeL (ls.getD k (([] : List CT), Value.slice none 0 0)).1 ≤ 1000 := by omega
 have hss1 : sszL (stepsOf [] (ls.getD k (([] : List CT), Value.slice none 0 0)).1) ≤ 64 := Nat.le_trans (sszL_of (ls.getD k (([] : List CT), Value.slice none 0 0)).1 []) (by omega)
 have hss9 : sszL (stepsOf [] (ls.getD k (([] : List CT), Value.slice none 0 0)).1) ≤ 5000 := by omega
 first
 | (exfalso; first | omega | assumption)
 | (
 refine c_cond_f rfl (c_skip (e_next (c_region (r_val .none rfl (p_move rfl) ?_))))
 refine r_val .none rfl (p_move rfl) ?_
 refine r_callm (vs := [_]) .none rfl cl11 rfl (fun w hw => c_lref _ _ hsz9 hcl9 w hw) (fun G_15 v_18 hn_16 hr_17 => ?_)
 replace hs := hs.mono hn_16.le
 replace hl9 := hl9.mono hn_16.le
 replace hls := fun p hm0 => (hls p hm0).mono hn_16.le
 replace hSk := hSk.mono hn_16.le
 replace R_11 := R_11.mono hn_16.le
 replace hcl9 := hcl9.mono hn_16.le
 have hR9 := hr_17
 refine r_callm (vs := [_]) .none rfl cl10 rfl (fun w hw => c_compile _ _ hsz9 hR9 w hw) (fun G_20 v_23 hn_21 hr_22 => ?_)
 replace hs := hs.mono hn_21.le
 replace hl9 := hl9.mono hn_21.le
 replace hls := fun p hm0 => (hls p hm0).mono hn_21.le
 replace hSk := hSk.mono hn_21.le
 replace R_11 := R_11.mono hn_21.le
 replace hcl9 := hcl9.mono hn_21.le
 replace hR9 := hR9.mono hn_21.le
 have hS9 := hr_22
 refine r_callm (vs := [_]) .none rfl cl13 rfl (fun w hw => c_stepsD _ _ hss9 hS9 w hw) (fun G_25 v_28 hn_26 hr_27 => ?_)
 replace hs := hs.mono hn_26.le
 replace hl9 := hl9.mono hn_26.le
 replace hls := fun p hm0 => (hls p hm0).mono hn_26.le
 replace hSk := hSk.mono hn_26.le
 replace R_11 := R_11.mono hn_26.le
 replace hcl9 := hcl9.mono hn_26.le
 replace hR9 := hR9.mono hn_26.le
 replace hS9 := hS9.mono hn_26.le
 have hP9 := Ss.mono hr_27 (dif_le _ _)
 refine r_callox (k := 0) (vs := [_, _]) .none rfl cl12 rfl rfl (fun w F hw hA hFG => c_kadd _ _ ((stepsOf [] (ls.getD k (([] : List CT), Value.slice none 0 0)).1)) ((adds R0 (stp ls k))) _ hTk hSk hP9 (by omega) (by omega) w hw hA hFG) (fun G_30 v_33 z_35 hn_31 hr_32 => ?_)
 replace hs := hs.mono hn_31.le
 replace hl9 := hl9.mono hn_31.le
 replace hls := fun p hm0 => (hls p hm0).mono hn_31.le
 replace hSk := hSk.mono hn_31.le
 replace R_11 := R_11.mono hn_31.le
 replace hcl9 := hcl9.mono hn_31.le
 replace hR9 := hR9.mono hn_31.le
 replace hS9 := hS9.mono hn_31.le
 replace hP9 := hP9.mono hn_31.le
 obtain ⟨hi9, hTn, hSn⟩ := hr_32
 refine r_nil ?_
 refine e_norm_block ?_
 refine e_next (c_region ?_)
 refine r_val .none rfl (p_add rfl rfl (by omega)) ?_
 refine r_val .none rfl (p_move rfl) (r_nil ?_)
 refine e_round ((k + 1, z_35, _)) ⟨⟨⟨by dsimp only; omega, hl8⟩, by rw [stp_next (by omega), adds_snoc]; exact hTn, hSn, ⟨by rw [stp_next (by omega), adds_snoc]; have h9 := (add_len (adds R0 (stp ls k)) (stepsOf [] (ls.getD k (([] : List CT), Value.slice none 0 0)).1)).1; dsimp only; omega, by rw [stp_next (by omega), adds_snoc]; show ((adds R0 (stp ls k)).lists ++ [_]).length ≤ _; rw [List.length_append]; simp; omega⟩, ((((hgn.trans hn_16).trans hn_21).trans hn_26).trans hn_31)⟩, by dsimp only; omega⟩ rfl ⟨rfl, rfl, rfl, rfl, rfl, trivial⟩ (.keep (fun _ _ h => h) (.nil))))))
 · (
 first
 | (exfalso; first | omega | assumption)
 | (
 refine c_cond_f rfl (c_exit (e_exit_then (e_exit_then ?_)))
 refine e_exit_block ?_
 refine e_next (c_seq (c_region ?_))
 obtain rfl : k = ls.length := by omega
 refine r_val .none rfl (p_move rfl) ?_
 refine r_callor (k := 0) (vs := [_]) .none rfl cl21 rfl rfl (fun w F hw hA hFG => c_kallE _ _ (adds R0 (stp ls ls.length)) hTk hSk (by omega) w hw hA hFG) (fun r_36 => ?_)
 refine r_unpack ?_
 refine r_freeze (k := 0) rfl (fun G_37 hn_38 hs_39 => ?_)
 replace hs := hs.mono hn_38.le
 replace hl9 := hl9.mono hn_38.le
 replace hls := fun p hm0 => (hls p hm0).mono hn_38.le
 replace hSk := hSk.mono hn_38.le
 have hal1 : SlL G_37 r_36 1 cI (0 : Int) (all (adds R0 (stp ls ls.length))) := SlL.of (cells := cI) (0 : Int) (fun _ => rfl) rfl hs_39
 refine r_val .none rfl (p_assign rfl) (r_nil (e_next (c_seq (c_region ?_))))
 refine r_val .none rfl (p_move rfl) ?_
 refine r_callm (vs := [_]) .none rfl cl11 rfl (fun w hw => c_lref _ _ hszl hl9 w hw) (fun G_40 v_43 hn_41 hr_42 => ?_)
 replace hs := hs.mono hn_41.le
 replace hl9 := hl9.mono hn_41.le
 replace hls := fun p hm0 => (hls p hm0).mono hn_41.le
 replace hSk := hSk.mono hn_41.le
 replace hal1 := hal1.mono hn_41.le
 have hRl := hr_42
 refine r_callm (vs := [_]) .none rfl cl10 rfl (fun w hw => c_compile _ _ hszl hRl w hw) (fun G_45 v_48 hn_46 hr_47 => ?_)
 replace hs := hs.mono hn_46.le
 replace hl9 := hl9.mono hn_46.le
 replace hls := fun p hm0 => (hls p hm0).mono hn_46.le
 replace hSk := hSk.mono hn_46.le
 replace hal1 := hal1.mono hn_46.le
 replace hRl := hRl.mono hn_46.le
 have hSl := hr_47
 refine r_val .none rfl (p_assign rfl) (r_nil (e_next (c_seq (c_region ?_))))
 refine r_val .none rfl (p_move rfl) ?_
 refine r_callm (vs := [_]) .none rfl cl13 rfl (fun w hw => c_stepsD _ _ hsl5 hSl w hw) (fun G_50 v_53 hn_51 hr_52 => ?_)
 have hSk5 := hSk
 have hal15 := hal1
 have hSl5 := hSl
 have hn5 := hn_51
 replace hs := hs.mono hn_51.le
 replace hl9 := hl9.mono hn_51.le
 replace hls := fun p hm0 => (hls p hm0).mono hn_51.le
 replace hSk := hSk.mono hn_51.le
 replace hal1 := hal1.mono hn_51.le
 replace hRl := hRl.mono hn_51.le
 replace hSl := hSl.mono hn_51.le
 have hO9 := hr_52
 have hle5 := GLe.refl G_50
 have hO9m := Ss.mono hO9 (dif_le _ _)
 refine r_val .none rfl (p_assign rfl) (r_nil (e_next (c_seq (c_region ?_))))
 refine r_val .none rfl (p_move rfl) (r_val .none rfl (p_move rfl) ?_)
 refine r_callox (k := 0) (vs := [_, _]) .none rfl cl12 rfl rfl (fun w F hw hA hFG => c_kaddD _ _ (stepsOf [] cl0) (adds R0 (stp ls ls.length)) G_45 _ hTk hn5.le hSk5 hO9m (by omega) (by omega) w hw hA hFG) (fun G_55 v_58 z_60 hn_56 hr_57 => ?_)
 replace hs := hs.mono hn_56.le
 replace hl9 := hl9.mono hn_56.le
 replace hls := fun p hm0 => (hls p hm0).mono hn_56.le
 replace hSk := hSk.mono hn_56.le
 replace hal1 := hal1.mono hn_56.le
 replace hRl := hRl.mono hn_56.le
 replace hSl := hSl.mono hn_56.le
 replace hle5 := GLe.trans hle5 hn_56.le
 replace hO9m := hO9m.mono hn_56.le
 obtain ⟨hi5, hT5, hS5⟩ := hr_57
 refine r_val .none rfl (p_assign rfl) (r_nil (e_next (c_seq (c_seq ?_))))
 refine c_region ?_
 refine r_thaw false hn5 hle5 ?_
 obtain ⟨Gt, hGt⟩ : ∃ Gt, Gt = but G_55 (dif G_45 G_50) := ⟨_, rfl⟩
 rw [← hGt]
 have hGo : GLe G_45 Gt := by rw [hGt]; exact but_old (GLe.trans hn5.le hle5)
 have hGg : GLe (gd G_45 G_50 G_55) Gt := by rw [hGt]; exact but_gd hn5.le hle5
 replace hal1 := hal15.mono hGo
 replace hSl := hSl5.mono hGo
 replace hi5 := hi5.mono hGg
 replace hS5 := hS5.mono hGg
 obtain ⟨rs, hr5, hrt5, hrs5, hl5⟩ := hO9.inv
 refine r_val .none rfl (p_move rfl) ?_
 refine r_val .none rfl (p_lengx Try.underlying35 rfl hr5) ?_
 have bd_61 := SlG.bound hr5
 refine r_val .none rfl (p_move rfl) (r_nil (e_next (c_block ?_)))
 refine c_name (d := 5) rfl (fun u_62 hu_62 => ?_)
 refine c_name (d := 8) rfl (fun u_63 hu_63 => ?_)
 refine c_name (d := 9) rfl (fun u_64 hu_64 => ?_)
 refine c_name (d := 10) rfl (fun u_65 hu_65 => ?_)
 refine c_name (d := 11) rfl (fun u_66 hu_66 => ?_)
 refine c_name (d := 65) rfl (fun u_67 hu_67 => ?_)
 refine c_nameL (k := 0) rfl (fun A_68 hA_68 => ?_)
 refine c_nameL (k := 1) rfl (fun A_69 hA_69 => ?_)
 refine c_loop (σ := Nat) (fun i => [(66, Value.int .i64 (i : Nat)), (5, u_62), (8, u_63), (9, u_64), (10, u_65), (11, u_66), (65, u_67)]) (fun i => [A_68, A_69]) (fun _ => _) (fun i => i ≤ rs.length) (fun i => rs.length - i) (0) (Nat.zero_le _) rfl ⟨rfl, rfl, rfl, rfl, rfl, rfl, rfl, trivial⟩ (.keep (fun _ _ h => h) (.keep (fun _ _ h => h) (.nil))) (fun i hphi => ?_)
 subst hu_62
 subst hu_63
 subst hu_64
 subst hu_65
 subst hu_66
 subst hu_67
 subst hA_68
 subst hA_69
 refine c_seq (c_region ?_)
 refine r_val .none rfl (p_lt rfl rfl) ?_
 refine r_nil (e_next (c_seq ?_))
 refine c_splitd (d := 67) rfl (fun h_70 => ?_) (fun h_70 => ?_)
 · (
 first
 | (exfalso; first | omega | assumption)
 | (
 refine c_cond_t rfl (c_skip (e_next (c_seq (c_block ?_))))
 refine c_seq (c_region (r_val .none rfl (p_move rfl) (r_val .none rfl (p_assign rfl) (r_nil ?_))))
 refine e_next (c_seq (c_region (r_val .none rfl (p_move rfl) (r_val .none rfl (p_move rfl) ?_))))
 refine r_iaddr_s .none rfl Try.underlying35 sz50 rfl hr5 rfl (by first | exact odt rfl | omega) (fun p_72 o_73 R_71 => ?_)
 refine r_val .none rfl (p_field Try.underlying50 rfl sz3 rfl) ?_
 refine r_stsp (j := 0) (k := 0) .none sz3 rfl rfl rfl rfl R_71 (by first | exact odt rfl | omega) (.inr (.inl ⟨_, _, _, rfl, rfl⟩)) ?_
 refine r_nil (e_next (c_seq (c_seq (c_region ?_))))
 refine r_val .none rfl (p_move rfl) (r_val .none rfl (p_move rfl) ?_)
 refine r_iaddr_s .none rfl Try.underlying35 sz50 rfl hr5 rfl (by first | exact odt rfl | omega) (fun p_75 o_76 R_74 => ?_)
 refine r_val .none rfl (p_field Try.underlying50 rfl sz48 rfl) ?_
 refine r_ldsp (j := 4) (k := 0) .none rfl Try.underlying48 rfl rfl rfl R_74 (by first | exact odt rfl | omega) (fun v_78 hk_77 => ?_)
 have ht5 := hrt5 _ (getD_mem (i := i) (d := s0) (by omega))
 obtain rfl := okc_sl ht5 hk_77
 refine r_val .none rfl (p_lengx Try.underlying48 rfl ht5) ?_
 have bd_79 := SlG.bound ht5
 refine r_val .none rfl (p_move rfl) (r_nil (e_next (c_block ?_)))
 refine c_name (d := 5) rfl (fun u_80 hu_80 => ?_)
 refine c_name (d := 8) rfl (fun u_81 hu_81 => ?_)
 refine c_name (d := 9) rfl (fun u_82 hu_82 => ?_)
 refine c_name (d := 10) rfl (fun u_83 hu_83 => ?_)
 refine c_name (d := 11) rfl (fun u_84 hu_84 => ?_)
 refine c_name (d := 12) rfl (fun u_85 hu_85 => ?_)
 refine c_name (d := 65) rfl (fun u_86 hu_86 => ?_)
 refine c_name (d := 66) rfl (fun u_87 hu_87 => ?_)
 refine c_name (d := 67) rfl (fun u_88 hu_88 => ?_)
 refine c_name (d := 68) rfl (fun u_89 hu_89 => ?_)
 refine c_name (d := 69) rfl (fun u_90 hu_90 => ?_)
 refine c_name (d := 70) rfl (fun u_91 hu_91 => ?_)
 refine c_name (d := 71) rfl (fun u_92 hu_92 => ?_)
 refine c_name (d := 72) rfl (fun u_93 hu_93 => ?_)
 refine c_name (d := 73) rfl (fun u_94 hu_94 => ?_)
 refine c_name (d := 74) rfl (fun u_95 hu_95 => ?_)
 refine c_name (d := 75) rfl (fun u_96 hu_96 => ?_)
 refine c_name (d := 76) rfl (fun u_97 hu_97 => ?_)
 refine c_name (d := 77) rfl (fun u_98 hu_98 => ?_)
 refine c_name (d := 78) rfl (fun u_99 hu_99 => ?_)
 refine c_nameL (k := 0) rfl (fun A_100 hA_100 => ?_)
 refine c_nameL (k := 1) rfl (fun A_101 hA_101 => ?_)
 refine c_loop (σ := Nat) (fun j => [(79, Value.int .i64 (j : Nat)), (5, u_80), (8, u_81), (9, u_82), (10, u_83), (11, u_84), (12, u_85), (65, u_86), (66, u_87), (67, u_88), (68, u_89), (69, u_90), (70, u_91), (71, u_92), (72, u_93), (73, u_94), (74, u_95), (75, u_96), (76, u_97), (77, u_98), (78, u_99)]) (fun j => [A_100, A_101]) (fun _ => _) (fun j => j ≤ (rs.getD i s0).1.h.ts.length) (fun j => (rs.getD i s0).1.h.ts.length - j) (0) (Nat.zero_le _) rfl ⟨rfl, rfl, rfl, rfl, rfl, rfl, rfl, rfl, rfl, rfl, rfl, rfl, rfl, rfl, rfl, rfl, rfl, rfl, rfl, rfl, rfl, trivial⟩ (.keep (fun _ _ h => h) (.keep (fun _ _ h => h) (.nil))) (fun j hphi => ?_)
 subst hu_80
 subst hu_81
 subst hu_82
 subst hu_83
 subst hu_84
 subst hu_85
 subst hu_86
 subst hu_87
 subst hu_88
 subst hu_89
 subst hu_90
 subst hu_91
 subst hu_92
 subst hu_93
 subst hu_94
 subst hu_95
 subst hu_96
 subst hu_97
 subst hu_98
 subst hu_99
 subst hA_100
 subst hA_101
 refine c_seq (c_region ?_)
 refine r_val .none rfl (p_lt rfl rfl) ?_
 refine r_nil (e_next (c_seq ?_))
 refine c_splitd (d := 80) rfl (fun h_102 => ?_) (fun h_102 => ?_)
 · (
 first
 | (exfalso; first | omega | assumption)
 | (
 refine c_cond_t rfl (c_skip (e_next (c_seq (c_block ?_))))
 refine c_seq (c_region (r_val .none rfl (p_move rfl) (r_val .none rfl (p_assign rfl) (r_nil ?_))))
 refine e_next (c_region (r_val .none rfl (p_move rfl) (r_val .none rfl (p_move rfl) ?_)))
 refine r_iaddr_s .none rfl Try.underlying35 sz50 rfl hr5 rfl (by first | exact odt rfl | omega) (fun p_104 o_105 R_103 => ?_)
 refine r_val .none rfl (p_field Try.underlying50 rfl sz48 rfl) ?_
 refine r_ldsp (j := 4) (k := 0) .none rfl Try.underlying48 rfl rfl rfl R_103 (by first | exact odt rfl | omega) (fun v_107 hk_106 => ?_)
 obtain rfl := okc_sl ht5 hk_106
 refine r_val .none rfl (p_move rfl) ?_
 refine r_iaddr_s .none rfl Try.underlying48 sz52 rfl ht5 rfl (by first | exact odt rfl | omega) (fun p_109 o_110 R_108 => ?_)
 refine r_val .none rfl (p_field Try.underlying52 rfl sz3 rfl) ?_
 refine r_stsp (j := 0) (k := 0) .none sz3 rfl rfl rfl rfl R_108 (by first | exact odt rfl | omega) (.inr (.inl ⟨_, _, _, rfl, rfl⟩)) ?_
 refine r_nil ?_
 refine e_norm_block ?_
 refine e_next (c_region ?_)
 refine r_val .none rfl (p_add rfl rfl (by omega)) ?_
 refine r_val .none rfl (p_move rfl) (r_nil ?_)
 refine e_round (j + 1) ⟨by omega, by omega⟩ rfl ⟨rfl, rfl, rfl, rfl, rfl, rfl, rfl, rfl, rfl, rfl, rfl, rfl, rfl, rfl, rfl, rfl, rfl, rfl, rfl, rfl, rfl, trivial⟩ (.keep (fun _ _ h => h) (.keep (fun _ _ h => h) (.nil)))))
 · (
 first
 | (exfalso; first | omega | assumption)
 | (
 refine c_cond_f rfl (c_exit (e_exit_then (e_exit_then ?_)))
 refine e_exit_block ?_
 refine e_next (c_seq (c_region (r_val .none rfl (p_move rfl) (r_val .none rfl (p_move rfl) ?_))))
 refine r_iaddr_s .none rfl Try.underlying35 sz50 rfl hr5 rfl (by first | exact odt rfl | omega) (fun p_112 o_113 R_111 => ?_)
 refine r_val .none rfl (p_field Try.underlying50 rfl sz35 rfl) ?_
 refine r_ldsp (j := 5) (k := 0) .none rfl Try.underlying35 rfl rfl rfl R_111 (by first | exact odt rfl | omega) (fun v_115 hk_114 => ?_)
 obtain ⟨us, hu5, _, _, _⟩ := (hrs5 _ (getD_mem (i := i) (d := s0) (by omega))).inv
 obtain rfl := okc_sl hu5 hk_114
 refine r_val .none rfl (p_lengx Try.underlying35 rfl hu5) ?_
 have bd_116 := SlG.bound hu5
 refine r_val .none rfl (p_move rfl) (r_nil (e_next (c_block ?_)))
 refine c_name (d := 5) rfl (fun u_117 hu_117 => ?_)
 refine c_name (d := 8) rfl (fun u_118 hu_118 => ?_)
 refine c_name (d := 9) rfl (fun u_119 hu_119 => ?_)
 refine c_name (d := 10) rfl (fun u_120 hu_120 => ?_)
 refine c_name (d := 11) rfl (fun u_121 hu_121 => ?_)
 refine c_name (d := 12) rfl (fun u_122 hu_122 => ?_)
 refine c_name (d := 65) rfl (fun u_123 hu_123 => ?_)
 refine c_name (d := 66) rfl (fun u_124 hu_124 => ?_)
 refine c_name (d := 67) rfl (fun u_125 hu_125 => ?_)
 refine c_name (d := 68) rfl (fun u_126 hu_126 => ?_)
 refine c_name (d := 69) rfl (fun u_127 hu_127 => ?_)
 refine c_name (d := 70) rfl (fun u_128 hu_128 => ?_)
 refine c_name (d := 71) rfl (fun u_129 hu_129 => ?_)
 refine c_name (d := 72) rfl (fun u_130 hu_130 => ?_)
 refine c_name (d := 73) rfl (fun u_131 hu_131 => ?_)
 refine c_name (d := 74) rfl (fun u_132 hu_132 => ?_)
 refine c_name (d := 75) rfl (fun u_133 hu_133 => ?_)
 refine c_name (d := 76) rfl (fun u_134 hu_134 => ?_)
 refine c_name (d := 77) rfl (fun u_135 hu_135 => ?_)
 refine c_name (d := 78) rfl (fun u_136 hu_136 => ?_)
 refine c_name (d := 79) rfl (fun u_137 hu_137 => ?_)
 refine c_name (d := 80) rfl (fun u_138 hu_138 => ?_)
 refine c_name (d := 91) rfl (fun u_139 hu_139 => ?_)
 refine c_name (d := 92) rfl (fun u_140 hu_140 => ?_)
 refine c_name (d := 93) rfl (fun u_141 hu_141 => ?_)
 refine c_name (d := 94) rfl (fun u_142 hu_142 => ?_)
 refine c_name (d := 95) rfl (fun u_143 hu_143 => ?_)
 refine c_name (d := 96) rfl (fun u_144 hu_144 => ?_)
 refine c_nameL (k := 0) rfl (fun A_145 hA_145 => ?_)
 refine c_nameL (k := 1) rfl (fun A_146 hA_146 => ?_)
 refine c_loop (σ := Nat) (fun m => [(97, Value.int .i64 (m : Nat)), (5, u_117), (8, u_118), (9, u_119), (10, u_120), (11, u_121), (12, u_122), (65, u_123), (66, u_124), (67, u_125), (68, u_126), (69, u_127), (70, u_128), (71, u_129), (72, u_130), (73, u_131), (74, u_132), (75, u_133), (76, u_134), (77, u_135), (78, u_136), (79, u_137), (80, u_138), (91, u_139), (92, u_140), (93, u_141), (94, u_142), (95, u_143), (96, u_144)]) (fun m => [A_145, A_146]) (fun _ => _) (fun m => m ≤ us.length) (fun m => us.length - m) (0) (Nat.zero_le _) rfl ⟨rfl, rfl, rfl, rfl, rfl, rfl, rfl, rfl, rfl, rfl, rfl, rfl, rfl, rfl, rfl, rfl, rfl, rfl, rfl, rfl, rfl, rfl, rfl, rfl, rfl, rfl, rfl, rfl, rfl, trivial⟩ (.keep (fun _ _ h => h) (.keep (fun _ _ h => h) (.nil))) (fun m hphi => ?_)
 subst hu_117
 subst hu_118
 subst hu_119
 subst hu_120
 subst hu_121
 subst hu_122
 subst hu_123
 subst hu_124
 subst hu_125
 subst hu_126
 subst hu_127
 subst hu_128
 subst hu_129
 subst hu_130
 subst hu_131
 subst hu_132
 subst hu_133
 subst hu_134
 subst hu_135
 subst hu_136
 subst hu_137
 subst hu_138
 subst hu_139
 subst hu_140
 subst hu_141
 subst hu_142
 subst hu_143
 subst hu_144
 subst hA_145
 subst hA_146
 refine c_seq (c_region ?_)
 refine r_val .none rfl (p_lt rfl rfl) ?_
 refine r_nil (e_next (c_seq ?_))
 refine c_splitd (d := 98) rfl (fun h_147 => ?_) (fun h_147 => ?_)
 · (
 first
 | (exfalso; first | omega | assumption)
 | (
 refine c_cond_t rfl (c_skip (e_next (c_seq (c_block ?_))))
 refine c_seq (c_region (r_val .none rfl (p_move rfl) (r_val .none rfl (p_assign rfl) (r_nil ?_))))
 refine e_next (c_region (r_val .none rfl (p_move rfl) (r_val .none rfl (p_move rfl) ?_)))
 refine r_iaddr_s .none rfl Try.underlying35 sz50 rfl hr5 rfl (by first | exact odt rfl | omega) (fun p_149 o_150 R_148 => ?_)
 refine r_val .none rfl (p_field Try.underlying50 rfl sz35 rfl) ?_
 refine r_ldsp (j := 5) (k := 0) .none rfl Try.underlying35 rfl rfl rfl R_148 (by first | exact odt rfl | omega) (fun v_152 hk_151 => ?_)
 obtain rfl := okc_sl hu5 hk_151
 refine r_val .none rfl (p_move rfl) ?_
 refine r_iaddr_s .none rfl Try.underlying35 sz50 rfl hu5 rfl (by first | exact odt rfl | omega) (fun p_154 o_155 R_153 => ?_)
 refine r_val .none rfl (p_field Try.underlying50 rfl sz3 rfl) ?_
 refine r_stsp (j := 0) (k := 0) .none sz3 rfl rfl rfl rfl R_153 (by first | exact odt rfl | omega) (.inr (.inl ⟨_, _, _, rfl, rfl⟩)) ?_
 refine r_nil ?_
 refine e_norm_block ?_
 refine e_next (c_region ?_)
 refine r_val .none rfl (p_add rfl rfl (by omega)) ?_
 refine r_val .none rfl (p_move rfl) (r_nil ?_)
 refine e_round (m + 1) ⟨by omega, by omega⟩ rfl ⟨rfl, rfl, rfl, rfl, rfl, rfl, rfl, rfl, rfl, rfl, rfl, rfl, rfl, rfl, rfl, rfl, rfl, rfl, rfl, rfl, rfl, rfl, rfl, rfl, rfl, rfl, rfl, rfl, rfl, trivial⟩ (.keep (fun _ _ h => h) (.keep (fun _ _ h => h) (.nil)))))
 · (
 first
 | (exfalso; first | omega | assumption)
 | (
 refine c_cond_f rfl (c_exit (e_exit_then (e_exit_then ?_)))
 refine e_exit_block ?_
 refine e_norm_block ?_
 refine e_next (c_region ?_)
 refine r_val .none rfl (p_add rfl rfl (by omega)) ?_
 refine r_val .none rfl (p_move rfl) (r_nil ?_)
 refine e_round (i + 1) ⟨by omega, by omega⟩ rfl ⟨rfl, rfl, rfl, rfl, rfl, rfl, rfl, trivial⟩ (.keep (fun _ _ h => h) (.keep (fun _ _ h => h) (.nil)))))))))
 · (
 first
 | (exfalso; first | omega | assumption)
 | (
 refine c_cond_f rfl (c_exit (e_exit_then (e_exit_then ?_)))
 refine e_exit_block ?_
 refine e_next (c_seq (c_region (r_val .none rfl (p_move rfl) (r_val .none rfl (p_move rfl) ?_))))
 have hcap2 : (addR (adds R0 (stp ls ls.length)) (stepsOf [] cl0)).lists.length ≤ 3000 ∧ (addR (adds R0 (stp ls ls.length)) (stepsOf [] cl0)).its.length ≤ 4000 := by (have h8 := (add_len (adds R0 (stp ls ls.length)) (stepsOf [] cl0)).1; have h7 : (addR (adds R0 (stp ls ls.length)) (stepsOf [] cl0)).lists.length = (adds R0 (stp ls ls.length)).lists.length + 1 := (List.length_append); omega)
 refine r_callm (vs := [_]) .none rfl cl13 rfl (fun w hw => c_stepsD _ _ hsl5 hSl w hw) (fun G_156 v_159 hn_157 hr_158 => ?_)
 replace hal1 := hal1.mono hn_157.le
 replace hSl := hSl.mono hn_157.le
 replace hi5 := hi5.mono hn_157.le
 replace hS5 := hS5.mono hn_157.le
 have hP5 := Ss.mono hr_158 (dif_le _ _)
 refine r_callox (k := 1) (vs := [_, _]) .none rfl cl22 rfl rfl (fun w F hw hA hFG => c_kremY _ _ (stepsOf [] cl0) (addR (adds R0 (stp ls ls.length)) (stepsOf [] cl0)) _ hT5 hS5 hP5 (by omega) (used_add (adds_used used0)) (there_add _ _) hcap2 w hw hA hFG) (fun G_161 v_164 z_166 hn_162 hr_163 => ?_)
 replace hal1 := hal1.mono hn_162.le
 replace hSl := hSl.mono hn_162.le
 replace hi5 := hi5.mono hn_162.le
 replace hS5 := hS5.mono hn_162.le
 replace hP5 := hP5.mono hn_162.le
 obtain ⟨⟨v14, rfl, hi14⟩, hT14, hS14⟩ := hr_163
 refine r_val .none rfl (p_move rfl) ?_
 refine r_val .none rfl (p_extract rfl rfl) ?_
 refine r_val .none rfl (p_extract rfl rfl) ?_
 refine r_val .none rfl (p_assign rfl) (r_val .none rfl (p_assign rfl) (r_nil (e_next (c_seq ?_))))
 refine c_seq (c_region (r_val .none rfl (p_move rfl) ?_))
 refine r_val .none rfl (p_ne rfl rfl) ?_
 refine r_say (d := 118) (v := Value.bool false) (congrArg (fun z => some (Value.bool z)) (by decide)) ?_
 refine r_val .none rfl (p_move rfl) ?_
 refine r_val (.some rfl rfl) rfl (p_move rfl) ?_
 refine r_val (.some rfl rfl) rfl (p_leng Try.underlying33 rfl hi5) ?_
 have bd_167 := (hi5).bound
 refine r_val (.some rfl rfl) rfl (p_move rfl) ?_
 refine r_nilrow 90 6 ?_
 refine r_callom (k := 0) (vs := [_, _]) (.some rfl rfl) rfl cl14 rfl rfl (fun w F hw hA hFG => c_rchS _ _ [] (stepsOf [] cl0) (by simp only [List.length_nil]; omega) (by simp) (by simp) hSl w hw hA hFG) (fun G_168 v_171 hn_169 hr_170 => ?_)
 replace hal1 := hal1.mono hn_169.le
 replace hSl := hSl.mono hn_169.le
 replace hi5 := hi5.mono hn_169.le
 replace hS5 := hS5.mono hn_169.le
 replace hP5 := hP5.mono hn_169.le
 replace hi14 := hi14.mono hn_169.le
 replace hS14 := hS14.mono hn_169.le
 obtain ⟨cq, hcq, hcp, hcl⟩ := hr_170
 refine r_val (.some rfl rfl) rfl (p_leng Try.underlying26 rfl hcq) ?_
 have bd_173 := (hcq).bound
 refine r_val (.some rfl rfl) rfl (p_ne rfl rfl) ?_
 refine r_say (d := 125) (v := Value.bool false) (congrArg (fun z => some (Value.bool z)) (by (have h9 := congrArg List.length hcl; rw [List.length_map] at h9; simp only [List.map_nil] at h9; simp [h9]))) ?_
 refine r_val .none rfl (p_pick_f rfl rfl) ?_
 refine r_val .none rfl (p_move rfl) ?_
 refine r_val (.some rfl rfl) rfl (p_move rfl) ?_
 refine r_front (k := 2) rfl ?_
 refine r_callor (k := 0) (vs := [_]) (.some rfl rfl) rfl cl21 rfl rfl (fun w F hw hA hFG => (by have h9 := c_kallE _ _ (remR (addR (adds R0 (stp ls ls.length)) (stepsOf [] cl0)) (stepsOf [] cl0)) hT14 hS14 (by have h7 := (rem_len (addR (adds R0 (stp ls ls.length)) (stepsOf [] cl0)) (stepsOf [] cl0)).1; have h8 := (add_len (adds R0 (stp ls ls.length)) (stepsOf [] cl0)).1; omega) w hw hA hFG; rw [back_all hTk (adds_used used0)] at h9; exact h9)) (fun r_174 => ?_)
 refine r_unpack ?_
 refine r_freeze (k := 0) rfl (fun G_175 hn_176 hs_177 => ?_)
 replace hal1 := hal1.mono hn_176.le
 replace hSl := hSl.mono hn_176.le
 replace hi5 := hi5.mono hn_176.le
 replace hS5 := hS5.mono hn_176.le
 replace hP5 := hP5.mono hn_176.le
 replace hi14 := hi14.mono hn_176.le
 replace hS14 := hS14.mono hn_176.le
 replace hcq := hcq.mono hn_176.le
 replace hcp := StC.mono hcp hn_176.le
 have hal2 : SlL G_175 r_174 1 cI (0 : Int) (all (adds R0 (stp ls ls.length))) := SlL.of (cells := cI) (0 : Int) (fun _ => rfl) rfl hs_177
 refine r_val (.some rfl rfl) rfl (p_move rfl) ?_
 refine r_call (vs := [_, _]) (.some rfl rfl) rfl cl23 rfl (fun w hw => c_ints15 _ _ _ _ hal2 hal1 w hw) ?_
 refine r_say (d := 131) (v := Value.bool true) (congrArg (fun z => some (Value.bool z)) (decide_eq_true rfl)) ?_
 refine r_val (.some rfl rfl) rfl (p_not rfl) ?_
 refine r_say (d := 132) (v := Value.bool false) rfl ?_
 refine r_val .none rfl (p_pick_f rfl rfl) ?_
 refine r_nil (e_next (c_cond_f rfl (c_skip (e_next ?_))))
 refine c_seq (c_seq (c_region (r_val .none rfl (p_move rfl) ?_)))
 refine r_val .none rfl (p_leng Try.underlying33 rfl hi14) ?_
 have bd_178 := (hi14).bound
 refine r_val .none rfl (p_move rfl) (r_nil (e_next (c_block ?_)))
 refine c_name (d := 5) rfl (fun u_179 hu_179 => ?_)
 refine c_name (d := 15) rfl (fun u_180 hu_180 => ?_)
 refine c_name (d := 134) rfl (fun u_181 hu_181 => ?_)
 refine c_name (d := 135) rfl (fun u_182 hu_182 => ?_)
 refine c_nameL (k := 0) rfl (fun A_183 hA_183 => ?_)
 refine c_nameL (k := 1) rfl (fun A_184 hA_184 => ?_)
 refine c_nameL (k := 2) rfl (fun A_185 hA_185 => ?_)
 refine c_loop (σ := Nat) (fun i => [(136, Value.int .i64 (i : Nat)), (5, u_179), (15, u_180), (134, u_181), (135, u_182)]) (fun i => [A_183, A_184, A_185]) (fun _ => _) (fun i => i ≤ (goneR (addR (adds R0 (stp ls ls.length)) (stepsOf [] cl0)) (stepsOf [] cl0)).length) (fun i => (goneR (addR (adds R0 (stp ls ls.length)) (stepsOf [] cl0)) (stepsOf [] cl0)).length - i) (0) (Nat.zero_le _) rfl ⟨rfl, rfl, rfl, rfl, rfl, trivial⟩ (.keep (fun _ _ h => h) (.keep (fun _ _ h => h) (.keep (fun _ _ h => h) (.nil)))) (fun i hphi => ?_)
 subst hu_179
 subst hu_180
 subst hu_181
 subst hu_182
 subst hA_183
 subst hA_184
 subst hA_185
 refine c_seq (c_region ?_)
 refine r_val .none rfl (p_lt rfl rfl) ?_
 refine r_nil (e_next (c_seq ?_))
 refine c_splitd (d := 137) rfl (fun h_186 => ?_) (fun h_186 => ?_)
 · (
 first
 | (exfalso; first | omega | assumption)
 | (
 refine c_cond_t rfl (c_skip (e_next (c_seq (c_block ?_))))
 refine c_seq (c_region (r_val .none rfl (p_move rfl) ?_))
 refine r_iaddr_g .none rfl Try.underlying33 sz3 rfl hi14 rfl (by first | exact odt rfl | omega) (fun p_188 o_189 R_187 => ?_)
 refine r_val .none rfl (p_ldg0 Try.underlying3 rfl rfl R_187 (by first | exact odt rfl | omega) (rfl : _ = Value.int _ _)) ?_
 refine r_val .none rfl (p_assign rfl) (r_val .none rfl (p_assign rfl) (r_nil (e_next (c_seq ?_))))
 refine c_region (r_val .none rfl (p_move rfl) ?_)
 refine r_val .none rfl (p_gt rfl rfl) ?_
 refine r_val .none rfl (p_move rfl) ?_
 refine r_splitd (d := 143) rfl (fun h_190 => ?_) (fun h_190 => ?_)
 · (
 first
 | (exfalso; first | omega | assumption)
 | (
 obtain ⟨m9, hm9⟩ : ∃ m, i = m + 1 := ⟨i - 1, by omega⟩
 refine r_val (.some rfl rfl) rfl (p_move rfl) ?_
 refine r_val (.some rfl rfl) rfl (p_move rfl) ?_
 refine r_val (.some rfl rfl) rfl (p_move rfl) ?_
 refine r_val (.some rfl rfl) rfl (p_sub rfl rfl (by omega)) ?_
 refine r_say (d := 147) (v := Value.int .i64 ((m9 : Nat) : Int)) (congrArg (fun x => some (Value.int .i64 x)) (by omega)) ?_
 refine r_iaddr_g (.some rfl rfl) rfl Try.underlying33 sz3 rfl hi14 rfl (by first | exact odt rfl | omega) (fun p_192 o_193 R_191 => ?_)
 refine r_val (.some rfl rfl) rfl (p_ldg0 Try.underlying3 rfl rfl R_191 (by first | exact odt rfl | omega) (rfl : _ = Value.int _ _)) ?_
 refine r_val (.some rfl rfl) rfl (p_ge rfl rfl) ?_
 refine r_say (d := 150) (v := Value.bool false) (congrArg (fun z => some (Value.bool z)) (by (have h9 := falls_at (gone_falls (addR (adds R0 (stp ls ls.length)) (stepsOf [] cl0)) (stepsOf [] cl0)) (m := m9) (by omega); rw [← hm9] at h9; exact decide_eq_false (by omega)))) ?_
 refine r_val .none rfl (p_pick_t rfl rfl) ?_
 refine r_val .none rfl (p_move rfl) ?_
 refine r_val (.some rfl rfl) rfl (p_move rfl) ?_
 refine r_val (.some rfl rfl) rfl (p_move rfl) ?_
 refine r_callo (k := 0) (vs := [_, _]) (.some rfl rfl) rfl cl19 rfl rfl (fun w F hw hA hFG => trie_see0 (R := fun r => r = Value.int .i64 (nR (remR (addR (adds R0 (stp ls ls.length)) (stepsOf [] cl0)) (stepsOf [] cl0)) ((goneR (addR (adds R0 (stp ls ls.length)) (stepsOf [] cl0)) (stepsOf [] cl0)).getD i 0)).uses) (fun l G' F' hl hle hn9 hG hA hF => by (have h9 := c_kuses _ ((goneR (addR (adds R0 (stp ls ls.length)) (stepsOf [] cl0)) (stepsOf [] cl0)).getD i 0) l _ (remR (addR (adds R0 (stp ls ls.length)) (stepsOf [] cl0)) (stepsOf [] cl0)) (seen_of hT14.kc hS14 hl hn9 hle) w hG hA hF; rw [nR_eq hT14 hl] at h9; exact h9)) hw hA hFG) ?_
 refine r_val (.some rfl rfl) rfl (p_ne rfl rfl) ?_
 refine r_say (d := 156) (v := Value.bool false) (congrArg (fun z => some (Value.bool z)) (by rw [gone_out (getD_mem (by omega))]; decide)) ?_
 refine r_val .none rfl (p_pick_f rfl rfl) ?_
 refine r_nil (e_next (c_cond_f rfl (c_skip ?_)))
 refine e_norm_block ?_
 refine e_next (c_region ?_)
 refine r_val .none rfl (p_add rfl rfl (by omega)) ?_
 refine r_val .none rfl (p_move rfl) (r_nil ?_)
 refine e_round (i + 1) ⟨by omega, by omega⟩ rfl ⟨rfl, rfl, rfl, rfl, rfl, trivial⟩ (.keep (fun _ _ h => h) (.keep (fun _ _ h => h) (.keep (fun _ _ h => h) (.nil))))))
 · (
 first
 | (exfalso; first | omega | assumption)
 | (
 refine r_skip rfl (.no rfl rfl) ?_
 refine r_skip rfl (.no rfl rfl) ?_
 refine r_skip rfl (.no rfl rfl) ?_
 refine r_skip rfl (.no rfl rfl) ?_
 refine r_skip rfl (.no rfl rfl) ?_
 refine r_skip rfl (.no rfl rfl) ?_
 refine r_skip rfl (.no rfl rfl) ?_
 refine r_val .none rfl (p_pick_f rfl rfl) ?_
 refine r_val .none rfl (p_move rfl) ?_
 refine r_val (.some rfl rfl) rfl (p_move rfl) ?_
 refine r_val (.some rfl rfl) rfl (p_move rfl) ?_
 refine r_callo (k := 0) (vs := [_, _]) (.some rfl rfl) rfl cl19 rfl rfl (fun w F hw hA hFG => trie_see0 (R := fun r => r = Value.int .i64 (nR (remR (addR (adds R0 (stp ls ls.length)) (stepsOf [] cl0)) (stepsOf [] cl0)) ((goneR (addR (adds R0 (stp ls ls.length)) (stepsOf [] cl0)) (stepsOf [] cl0)).getD i 0)).uses) (fun l G' F' hl hle hn9 hG hA hF => by (have h9 := c_kuses _ ((goneR (addR (adds R0 (stp ls ls.length)) (stepsOf [] cl0)) (stepsOf [] cl0)).getD i 0) l _ (remR (addR (adds R0 (stp ls ls.length)) (stepsOf [] cl0)) (stepsOf [] cl0)) (seen_of hT14.kc hS14 hl hn9 hle) w hG hA hF; rw [nR_eq hT14 hl] at h9; exact h9)) hw hA hFG) ?_
 refine r_val (.some rfl rfl) rfl (p_ne rfl rfl) ?_
 refine r_say (d := 156) (v := Value.bool false) (congrArg (fun z => some (Value.bool z)) (by rw [gone_out (getD_mem (by omega))]; decide)) ?_
 refine r_val .none rfl (p_pick_f rfl rfl) ?_
 refine r_nil (e_next (c_cond_f rfl (c_skip ?_)))
 refine e_norm_block ?_
 refine e_next (c_region ?_)
 refine r_val .none rfl (p_add rfl rfl (by omega)) ?_
 refine r_val .none rfl (p_move rfl) (r_nil ?_)
 refine e_round (i + 1) ⟨by omega, by omega⟩ rfl ⟨rfl, rfl, rfl, rfl, rfl, trivial⟩ (.keep (fun _ _ h => h) (.keep (fun _ _ h => h) (.keep (fun _ _ h => h) (.nil))))))))
 · (
 first
 | (exfalso; first | omega | assumption)
 | (
 refine c_cond_f rfl (c_exit (e_exit_then (e_exit_then ?_)))
 refine e_exit_block ?_
 refine e_next (c_seq (c_region ?_))
 refine r_call (vs := []) .none rfl cl8 rfl (fun w hw => c_awake16 w) ?_
 refine r_val .none rfl (p_assign rfl) (r_nil (e_next ?_))
 refine c_ret ?_
 refine e_ret1 Try.results5 (.tmp rfl .nil) (fun w hm => ⟨?_, hm.since⟩)
 rfl))))))))))
end Go.Proofs.Ytdkfdncbldngdaa

/- Walks: what Go functions of this chapter come to, each as a function on plain data; no condition but those that each theorem names. Printed by a program of this work (gen.py). -/
namespace Go.Proofs.Ytdkfdncbldngdaa
open Go.Gx Go.Gx.T16 Go.Gx.T8 Go.Gx.T6 Go.Gx.T4 Go.Gx.T3 Go.Gx.T3 Go.Gx.T4 Go.Gx.T3 Go.Gx.T6 Go.Gx.T8 Go.Gx.T4 Go.Gx.T3 Go.Gx.T8 Go.Gx.T4 Go.Gx.T3 Go.Gx.T8 Go.Gx.T6 Go.Gx.T4 Go.Gx.T3 Go.ChangeShapes Go.WideShapes Go.ChangeAt Go.RowKit
theorem open_cond_l : leafT Try.prog 10 80 = some [3, 4, 3, 4, 3, 4, 3, 27] := by kernel_rfl
theorem open_cond_n {H : Type} {enc : TypeId × Value → H} {W : World} {base : Nat} {sp : Nat → Bool} {held : Bool} : ∀ (B n : Nat) (cs : List Value) (x : DataW H × List MemPlace), n ≤ B → DataW.trod enc Try.prog W base sp held n 80 cs = some x → ∃ a : CT × Value, cs = cvC a ∧ Cs (GW W) a.2 a.1.subs
 | 0, n, cs, x, hn, h => by
  obtain rfl : n = 0 := by omega
  simp [DataW.trod] at h
 | B + 1, n, cs, x, hn, h => by
  obtain ⟨n', rfl, hl⟩ := leavesB_struct 9 Try.underlying80 open_cond_l h
  obtain ⟨x0, r0, e0, f0, g0⟩ := hl.inv
  obtain ⟨a0, rfl, _⟩ := f0.leaf.int Try.underlying3
  obtain ⟨x1, r1, e1, f1, g1⟩ := g0.inv
  obtain ⟨a1, rfl⟩ := f1.leaf.bool Try.underlying4
  obtain ⟨x2, r2, e2, f2, g2⟩ := g1.inv
  obtain ⟨a2, rfl, _⟩ := f2.leaf.int Try.underlying3
  obtain ⟨x3, r3, e3, f3, g3⟩ := g2.inv
  obtain ⟨a3, rfl⟩ := f3.leaf.bool Try.underlying4
  obtain ⟨x4, r4, e4, f4, g4⟩ := g3.inv
  obtain ⟨a4, rfl, _⟩ := f4.leaf.int Try.underlying3
  obtain ⟨x5, r5, e5, f5, g5⟩ := g4.inv
  obtain ⟨a5, rfl⟩ := f5.leaf.bool Try.underlying4
  obtain ⟨x6, r6, e6, f6, g6⟩ := g5.inv
  obtain ⟨a6, rfl, _⟩ := f6.leaf.int Try.underlying3
  obtain ⟨x7, r7, e7, f7, g7⟩ := g6.inv
  have z := g7.inv0
  obtain ⟨l, h1, h2⟩ := open_slB (cells := cvC) (Qa := fun a => Cs (GW W) a.2 a.1.subs) d0 Try.underlying27 (show Program.cellsOf Try.prog 80 = 8 by kernel_rfl) (by decide) (fun m cs' y hm hy => open_cond_n B m cs' y (by omega) hy) f7
  refine ⟨(CT.mk ⟨a0, a1, a2, a3, a4, a5, a6⟩ (l.map Prod.fst), x7), ?_, Tr.mk l h1 h2⟩
  rw [e0, e1, e2, e3, e4, e5, e6, e7, z]; rfl
set_option maxRecDepth 100000 in
theorem open_conds {H : Type} {enc : TypeId × Value → H} {W : World} {base : Nat} {sp : Nat → Bool} {held : Bool} {r : Reach} {b0 : Nat} {v : Value} {y : DataW H} {ps : List MemPlace} (hv : Value.okWide Try.prog W r b0 27 v) (h : DataW.Trod enc Try.prog W base sp held 27 v y ps) : ∃ l : List CT, Cs (GW W) v l := by
 obtain ⟨a, n, c, rfl⟩ := okWide_slice Try.underlying27 hv
 obtain ⟨fuel, hf⟩ := h
 obtain ⟨l, h1, h2⟩ := open_slB (B := fuel) (cells := cvC) (Qa := fun a => Cs (GW W) a.2 a.1.subs) d0 Try.underlying27 (show Program.cellsOf Try.prog 80 = 8 by kernel_rfl) (by decide) (fun m cs' y hm hy => open_cond_n fuel m cs' y (by omega) hy) ⟨fuel, _, Nat.le_refl _, hf⟩
 exact ⟨l.map Prod.fst, Tr.mk l h1 h2⟩
set_option maxRecDepth 100000 in
theorem open_condss {H : Type} {enc : TypeId × Value → H} {W : World} {base : Nat} {sp : Nat → Bool} {held : Bool} {r : Reach} {b0 : Nat} {v : Value} {y : DataW H} {ps : List MemPlace} (hv : Value.okWide Try.prog W r b0 22 v) (h : DataW.Trod enc Try.prog W base sp held 22 v y ps) : ∃ ls : List (List CT × Value), SlL (GW W) v 1 lC (([] : List CT), Value.slice none 0 0) ls ∧ ∀ q ∈ ls, Cs (GW W) q.2 q.1 := by
 obtain ⟨a, n, c, rfl⟩ := okWide_slice Try.underlying22 hv
 obtain ⟨fuel, hf⟩ := h
 exact open_slB (B := fuel) (cells := lC) (Qa := fun q : List CT × Value => Cs (GW W) q.2 q.1) (([] : List CT), Value.slice none 0 0) Try.underlying22 (show Program.cellsOf Try.prog 27 = 1 by kernel_rfl) (by decide) (fun m cs' y hm hy => by
  obtain ⟨x, rfl⟩ := trod_one Try.underlying27 rfl hy
  obtain ⟨l, h1, h2⟩ := open_slB (B := fuel) (cells := cvC) (Qa := fun a => Cs (GW W) a.2 a.1.subs) d0 Try.underlying27 (show Program.cellsOf Try.prog 80 = 8 by kernel_rfl) (by decide) (fun m cs' y hm hy => open_cond_n fuel m cs' y (by omega) hy) ⟨m, _, Nat.le_of_lt hm, hy⟩
  exact ⟨(l.map Prod.fst, x), rfl, Tr.mk l h1 h2⟩) ⟨fuel, _, Nat.le_refl _, hf⟩
end Go.Proofs.Ytdkfdncbldngdaa
