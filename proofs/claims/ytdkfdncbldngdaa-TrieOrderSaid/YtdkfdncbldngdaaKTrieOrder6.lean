/- Texts of this work, laid together: a logic of steps, plain laws, and walks of Go functions, each without a condition but those that its theorems name. -/
import Derived.Test.YtdkfdncbldngdaaKTrieOrder5
import Derived.Test.YtdkfdncbldngdaaRows
/- Walks: what Go functions of this chapter come to, each as a function on plain data; no condition but those that each theorem names. Printed by a program of this work (gen.py). -/
namespace Go.Proofs.Ytdkfdncbldngdaa
open Go.Gx Go.Gx.T16 Go.Gx.T8 Go.Gx.T6 Go.Gx.T4 Go.Gx.T3 Go.Gx.T4 Go.Gx.T3 Go.Gx.T6 Go.Gx.T8 Go.Gx.T4 Go.Gx.T3 Go.Gx.T8 Go.Gx.T4 Go.Gx.T3 Go.Gx.T8 Go.Gx.T6 Go.Gx.T4 Go.Gx.T3
theorem cl8 : Callable Try.prog 8 := callable Try.func8 (by kernel_rfl) rfl
theorem cl9 : Callable Try.prog 9 := callable Try.func9 (by kernel_rfl) rfl
theorem cl10 : Callable Try.prog 10 := callable Try.func10 (by kernel_rfl) rfl
theorem cl17 : Callable Try.prog 17 := callable Try.func17 (by kernel_rfl) rfl
theorem cl19 : Callable Try.prog 19 := callable Try.func19 (by kernel_rfl) rfl
theorem cl20 : Callable Try.prog 20 := callable Try.func20 (by kernel_rfl) rfl
set_option maxHeartbeats 2000000 in
theorem c_TrieOrder (v : Value) (ls : List (List CT × Value)) {G : Ghost} (hs : SlL G v 1 lC (([] : List CT), Value.slice none 0 0) ls) (hls : ∀ q ∈ ls, Cs G q.2 q.1) (w : World) (hG : Has G w) :
  Calls Try.prog 4 #[v] w (Ret fun r w' => r = Value.bool true ∧ Since nX w w') := by
 refine enter (args := [_]) (X := nX) (G := G) (l := [(0, v)]) Try.func4 rfl Try.ntmps4 hG ⟨rfl, trivial⟩ (Nat.le_of_ble_eq_true rfl) ?_
 have hbl := hs.bound
 refine c_seq ?_
 refine c_region ?_
 refine r_val .none rfl (p_assign rfl) ?_
 refine r_nil ?_
 refine e_next ?_
 refine c_seq ?_
 refine c_region ?_
 refine r_callnew (vs := []) .none rfl cl7 rfl (fun w hw => c_knew w hw) (fun p_1 => ?_)
 refine r_callnew (vs := []) .none rfl cl7 rfl (fun w hw => c_knew w hw) (fun p_2 => ?_)
 refine r_val .none rfl (p_assign rfl) ?_
 refine r_val .none rfl (p_assign rfl) ?_
 refine r_nil ?_
 refine e_next ?_
 refine c_seq ?_
 refine c_seq ?_
 refine c_region ?_
 refine r_val .none rfl (p_move rfl) ?_
 refine r_val .none rfl (p_leng Try.underlying22 rfl hs) ?_
 have bd_3 := (hs).bound
 refine r_val .none rfl (p_gt rfl rfl) ?_
 refine r_val .none rfl (p_move rfl) ?_
 refine r_splitd (d := 20) rfl (fun h_4 => ?_) (fun h_4 => ?_)
 ·
  first
   | (exfalso; first | omega | (simp_all; done))
   | (
    refine r_skip rfl (.no rfl rfl) ?_
    refine r_skip rfl (.no rfl rfl) ?_
    refine r_val .none rfl (p_pick_t rfl rfl) ?_
    refine r_val .none rfl (p_move rfl) ?_
    refine r_skip rfl (.no rfl rfl) ?_
    refine r_skip rfl (.no rfl rfl) ?_
    refine r_val .none rfl (p_pick_t rfl rfl) ?_
    refine r_nil ?_
    refine e_next ?_
    refine c_cond_t rfl ?_
    refine c_seq ?_
    refine c_region ?_
    refine r_val .none rfl (p_move rfl) ?_
    refine r_val .none rfl (p_ne_ptr Try.underlying23 (by first | exact .inr rfl | exact .inl rfl) rfl rfl) ?_
    refine r_say (d := 29) (v := Value.bool true) rfl ?_
    refine r_val .none rfl (p_move rfl) ?_
    refine r_val (.some rfl rfl) rfl (p_move rfl) ?_
    refine r_val (.some rfl rfl) rfl (p_ne_ptr Try.underlying23 (by first | exact .inr rfl | exact .inl rfl) rfl rfl) ?_
    refine r_say (d := 32) (v := Value.bool true) rfl ?_
    refine r_val .none rfl (p_pick_t rfl rfl) ?_
    refine r_val .none rfl (p_move rfl) ?_
    refine r_call (vs := []) (.some rfl rfl) rfl cl8 rfl (fun w hw => c_awake16 w) ?_
    refine r_val .none rfl (p_pick_t rfl rfl) ?_
    refine r_val .none rfl (p_assign rfl) ?_
    refine r_nil ?_
    refine e_next ?_
    refine c_ret ?_
    refine e_ret_then ?_
    refine e_ret1 Try.results4 (.tmp rfl .nil) (fun w hm => ⟨?_, hm.since⟩)
    rfl
    )
 ·
  first
   | (exfalso; first | omega | (simp_all; done))
   | (
    refine r_val (.some rfl rfl) rfl (p_move rfl) ?_
    refine r_val (.some rfl rfl) rfl (p_eq_ptr Try.underlying23 (by first | exact .inr rfl | exact .inl rfl) rfl rfl) ?_
    refine r_say (d := 22) (v := Value.bool false) rfl ?_
    refine r_val .none rfl (p_pick_f rfl rfl) ?_
    refine r_val .none rfl (p_move rfl) ?_
    refine r_val (.some rfl rfl) rfl (p_move rfl) ?_
    refine r_val (.some rfl rfl) rfl (p_eq_ptr Try.underlying23 (by first | exact .inr rfl | exact .inl rfl) rfl rfl) ?_
    refine r_say (d := 26) (v := Value.bool false) rfl ?_
    refine r_val .none rfl (p_pick_f rfl rfl) ?_
    refine r_nil ?_
    refine e_next ?_
    refine c_cond_f rfl ?_
    refine c_skip ?_
    refine e_next ?_
    refine c_seq ?_
    refine c_region ?_
    refine r_val .none rfl (p_assign rfl) ?_
    refine r_nil ?_
    refine e_next ?_
    refine c_seq ?_
    refine c_seq ?_
    refine c_region ?_
    refine r_val .none rfl (p_move rfl) ?_
    refine r_val .none rfl (p_leng Try.underlying22 rfl hs) ?_
    have bd_5 := (hs).bound
    refine r_val .none rfl (p_move rfl) ?_
    refine r_nil ?_
    refine e_next ?_
    refine c_block ?_
    refine c_nilrow 35 1 ?_
    refine c_name (d := 3) rfl (fun u_6 hu_6 => ?_)
    refine c_name (d := 4) rfl (fun u_7 hu_7 => ?_)
    refine c_name (d := 37) rfl (fun u_8 hu_8 => ?_)
    refine c_name (d := 38) rfl (fun u_9 hu_9 => ?_)
    refine c_nameL (k := 1) rfl (fun A_10 hA_10 => ?_)
    refine c_nameL (k := 2) rfl (fun A_11 hA_11 => ?_)
    refine c_loop (σ := Nat × Value × List (List ST × Value) × Ghost) (fun s' => [(39, Value.int .i64 (s'.1 : Nat)), (5, s'.2.1), (3, u_6), (4, u_7), (37, u_8), (38, u_9)]) (fun s' => [rowA (s'.2.1) 35 1 (s'.2.2.1).length ((s'.2.2.1).flatMap lC), A_10, A_11]) (fun s' => s'.2.2.2) (fun s' => (s'.1 ≤ ls.length ∧ ls.length ≤ 8) ∧ s'.2.2.1.map Prod.fst = stp ls s'.1 ∧ StC s'.2.2.2 s'.2.2.1 ∧ s'.2.2.1.length ≤ s'.1 ∧ (∀ q ∈ s'.2.2.1, sszL q.1 ≤ 64) ∧ GNew w nX G s'.2.2.2) (fun s' => ls.length - s'.1) ((0, _, [], _)) ⟨⟨Nat.zero_le _, by omega⟩, by simp [stp], by simp [StC], Nat.le_refl _, by simp, GNew.refl _ _ _⟩ rfl ⟨rfl, rfl, rfl, rfl, rfl, rfl, trivial⟩ (.keep (fun _ _ h => rowA_nil rfl _ _ h) (.keep (fun _ _ h => h) (.keep (fun _ _ h => h) (.nil)))) (fun s' hphi => ?_)
    subst hu_6
    subst hu_7
    subst hu_8
    subst hu_9
    subst hA_10
    subst hA_11
    obtain ⟨k, ov, xs, H⟩ := s'
    obtain ⟨⟨hk, hl8⟩, hxd, hxc, hxn, hxz, hgn⟩ := hphi
    dsimp only at hk hxd hxc hxn hxz hgn ⊢
    replace hs := hs.mono hgn.le
    replace hls := fun p hm0 => (hls p hm0).mono hgn.le
    refine c_seq ?_
    refine c_region ?_
    refine r_val .none rfl (p_lt rfl rfl) ?_
    refine r_nil ?_
    refine e_next ?_
    refine c_seq ?_
    refine c_splitd (d := 40) rfl (fun h_12 => ?_) (fun h_12 => ?_)
    ·
     first
      | (exfalso; first | omega | (simp_all; done))
      | (
       refine c_cond_t rfl ?_
       refine c_skip ?_
       refine e_next ?_
       refine c_seq ?_
       refine c_block ?_
       refine c_seq ?_
       refine c_region ?_
       refine r_iaddr_g .none rfl Try.underlying22 sz27 rfl hs rfl (by first | exact of_decide_eq_true rfl | omega) (fun p_14 o_15 R_13 => ?_)
       have hcl9 := hls _ (getD_mem (i := k) (d := (([] : List CT), Value.slice none 0 0)) (by omega))
       refine r_val .none rfl (p_ldg0 Try.underlying27 rfl rfl R_13 (by first | exact of_decide_eq_true rfl | omega) rfl) ?_
       refine r_val .none rfl (p_assign rfl) ?_
       refine r_nil ?_
       refine e_next ?_
       refine c_seq ?_
       refine c_seq ?_
       refine c_region ?_
       refine r_val .none rfl (p_move rfl) ?_
       refine r_call (vs := [_]) .none rfl cl9 rfl (fun w hw => c_fine6 _ _ hcl9 w hw) ?_
       refine r_val .none rfl (p_not rfl) ?_
       refine r_nil ?_
       refine e_next ?_
       refine c_splitn (d := 45) rfl (fun h_16 => ?_) (fun h_16 => ?_)
       ·
        first
         | (exfalso; first | omega | (simp_all; done))
         | (
          refine c_cond_t rfl ?_
          refine c_seq ?_
          refine c_region ?_
          refine r_call (vs := []) .none rfl cl8 rfl (fun w hw => c_awake16 w) ?_
          refine r_val .none rfl (p_assign rfl) ?_
          refine r_nil ?_
          refine e_next ?_
          refine c_ret ?_
          refine e_ret_then ?_
          refine e_ret_block ?_
          refine e_ret_then ?_
          refine e_ret_then ?_
          refine e_ret_block ?_
          refine e_ret_then ?_
          refine e_ret1 Try.results4 (.tmp rfl .nil) (fun w hm => ⟨?_, hm.since⟩)
          rfl
          )
       ·
        have hf9 : fineL (ls.getD k (([] : List CT), Value.slice none 0 0)).1 = true := by simpa using h_16
        have hfy9 := fineL_yes hf9
        have hsz9 : sizeL (ls.getD k (([] : List CT), Value.slice none 0 0)).1 ≤ 1000 := by omega
        have hss1 : sszL (stepsOf [] (ls.getD k (([] : List CT), Value.slice none 0 0)).1) ≤ 64 := Nat.le_trans (sszL_of (ls.getD k (([] : List CT), Value.slice none 0 0)).1 []) (by omega)
        have hss9 : sszL (stepsOf [] (ls.getD k (([] : List CT), Value.slice none 0 0)).1) ≤ 5000 := by omega
        first
         | (exfalso; first | omega | (simp_all; done))
         | (
          refine c_cond_f rfl ?_
          refine c_skip ?_
          refine e_next ?_
          refine c_region ?_
          refine r_val .none rfl (p_move rfl) ?_
          refine r_val .none rfl (p_move rfl) ?_
          refine r_callm (vs := [_]) .none rfl cl11 rfl (fun w hw => c_lref _ _ hsz9 hcl9 w hw) (fun G_17 v_20 hn_18 hr_19 => ?_)
          replace hs := hs.mono hn_18.le
          replace hls := fun p hm0 => (hls p hm0).mono hn_18.le
          replace hxc := StC.mono hxc hn_18.le
          replace R_13 := R_13.mono hn_18.le
          replace hcl9 := hcl9.mono hn_18.le
          have hR9 := hr_19
          refine r_callm (vs := [_]) .none rfl cl10 rfl (fun w hw => c_compile _ _ hsz9 hR9 w hw) (fun G_22 v_25 hn_23 hr_24 => ?_)
          replace hs := hs.mono hn_23.le
          replace hls := fun p hm0 => (hls p hm0).mono hn_23.le
          replace hxc := StC.mono hxc hn_23.le
          replace R_13 := R_13.mono hn_23.le
          replace hcl9 := hcl9.mono hn_23.le
          replace hR9 := hR9.mono hn_23.le
          have hS9 := hr_24
          refine r_callm (vs := [_]) .none rfl cl13 rfl (fun w hw => c_steps _ _ hss9 hS9 w hw) (fun G_27 v_30 hn_28 hr_29 => ?_)
          replace hs := hs.mono hn_28.le
          replace hls := fun p hm0 => (hls p hm0).mono hn_28.le
          replace hxc := StC.mono hxc hn_28.le
          replace R_13 := R_13.mono hn_28.le
          replace hcl9 := hcl9.mono hn_28.le
          replace hR9 := hR9.mono hn_28.le
          replace hS9 := hS9.mono hn_28.le
          have hP9 := hr_29
          obtain ⟨a9, c9, he9⟩ := ss_len hP9
          subst he9
          refine r_bslice (vs := [(0, Value.slice _ _ _)]) (c := #[_]) .none rfl Try.underlying41 el35 rfl rfl rfl (bs35_10s3 _ _ _) (IsRow.lit _) (fun b_1 => ?_)
          refine r_append (k := 1) (k2 := 0) .none rfl Try.underlying41 el35 rfl (by decide) rfl rfl rfl rfl rfl (one_lit rfl rfl) (by simp only [maxLen]; omega) (by omega) (fun v_32 => ?_)
          refine r_row1 (k := 1) rfl (fun o_33 => ?_)
          refine r_val .none rfl (p_assign rfl) ?_
          refine r_nil ?_
          refine e_norm_block ?_
          refine e_next ?_
          refine c_region ?_
          refine r_val .none rfl (p_add rfl rfl (by omega)) ?_
          refine r_val .none rfl (p_move rfl) ?_
          refine r_nil ?_
          refine e_round ((k + 1, _, xs ++ [((stepsOf [] (ls.getD k (([] : List CT), Value.slice none 0 0)).1), Value.slice a9 (stepsOf [] (ls.getD k (([] : List CT), Value.slice none 0 0)).1).length c9)], _)) ⟨⟨⟨by dsimp only; omega, hl8⟩, by rw [stp_next (by omega), ← hxd, List.map_append]; rfl, StC.snoc hxc hP9, by rw [List.length_append]; simp; omega, fun q hq => by (rcases List.mem_append.1 hq with h | h; exact hxz q h; rw [List.mem_singleton.1 h]; exact hss1), (((hgn.trans hn_18).trans hn_23).trans hn_28)⟩, by dsimp only; omega⟩ rfl ⟨rfl, rfl, rfl, rfl, rfl, rfl, trivial⟩ (.drop (.keep (fun _ _ h => rowA_snoc rfl rfl rfl rfl _ _ h) (.keep (fun _ _ h => h) (.keep (fun _ _ h => h) (.nil)))))
          )
       )
    ·
     first
      | (exfalso; first | omega | (simp_all; done))
      | (
       refine c_cond_f rfl ?_
       refine c_exit ?_
       refine e_exit_then ?_
       refine e_exit_then ?_
       refine e_exit_block ?_
       refine e_next ?_
       refine c_seq ?_
       refine c_seq ?_
       refine c_region ?_
       obtain rfl : k = ls.length := by omega
       refine r_freeze (k := 0) rfl (fun G_34 hn_35 hs_36 => ?_)
       replace hs := hs.mono hn_35.le
       replace hls := fun p hm0 => (hls p hm0).mono hn_35.le
       replace hxc := StC.mono hxc hn_35.le
       have hx := SlL.of (cells := lC) es6 (fun _ => rfl) rfl hs_36
       have hxl : xs.length = ls.length := by (have h9 := congrArg List.length hxd; rw [List.length_map] at h9; rw [h9]; simp [stp])
       have hxm : (xs.map Prod.fst).length = xs.length := List.length_map _
       refine r_val .none rfl (p_move rfl) ?_
       refine r_val .none rfl (p_leng Try.underlying41 rfl hx) ?_
       have bd_37 := (hx).bound
       refine r_val .none rfl (p_move rfl) ?_
       refine r_nil ?_
       refine e_next ?_
       refine c_block ?_
       refine c_name (d := 3) rfl (fun u_38 hu_38 => ?_)
       refine c_name (d := 4) rfl (fun u_39 hu_39 => ?_)
       refine c_name (d := 5) rfl (fun u_40 hu_40 => ?_)
       refine c_name (d := 56) rfl (fun u_41 hu_41 => ?_)
       refine c_loop (σ := Nat × KS Nd × KS Nd × Ghost) (fun s' => [(57, Value.int .i64 (s'.1 : Nat)), (3, u_38), (4, u_39), (5, u_40), (56, u_41)]) (fun s' => [trE (nkD 71 3) 74 p_2 s'.2.2.1, trE (nkD 71 3) 74 p_1 s'.2.1]) (fun s' => s'.2.2.2) (fun s' => s'.1 ≤ xs.length ∧ TI s'.2.1 (adds R0 ((xs.map Prod.fst).take s'.1)) ∧ TI s'.2.2.1 (adds R0 ((xs.map Prod.fst).reverse.take s'.1)) ∧ StS s'.2.2.2 s'.2.1 ∧ StS s'.2.2.2 s'.2.2.1 ∧ ((adds R0 ((xs.map Prod.fst).take s'.1)).its.length ≤ 64 * s'.1 ∧ (adds R0 ((xs.map Prod.fst).reverse.take s'.1)).its.length ≤ 64 * s'.1) ∧ GNew w nX G_34 s'.2.2.2) (fun s' => xs.length - s'.1) ((0, KS0, KS0, _)) ⟨Nat.zero_le _, new_TI, new_TI, new_StS, new_StS, ⟨by simp [adds], by simp [adds]⟩, GNew.refl _ _ _⟩ rfl ⟨rfl, rfl, rfl, rfl, rfl, trivial⟩ (.keep (fun _ _ h => h) (.keep (fun _ _ h => h) (.nil))) (fun s' hphi => ?_)
       subst hu_38
       subst hu_39
       subst hu_40
       subst hu_41
       obtain ⟨i, sa, sb, H2⟩ := s'
       obtain ⟨hi, hTa, hTb, hSa, hSb, ⟨hia, hib⟩, hgn2⟩ := hphi
       dsimp only at hi hTa hTb hSa hSb hia hib hgn2 ⊢
       have hal9 : (adds R0 ((xs.map Prod.fst).take i)).lists.length ≤ 8 := by (rw [adds_lists]; show ([] ++ _ : List (List ST)).length ≤ 8; rw [List.nil_append, List.length_take]; omega)
       have hbl9 : (adds R0 ((xs.map Prod.fst).reverse.take i)).lists.length ≤ 8 := by (rw [adds_lists]; show ([] ++ _ : List (List ST)).length ≤ 8; rw [List.nil_append, List.length_take, List.length_reverse]; omega)
       replace hs := hs.mono hgn2.le
       replace hls := fun p hm0 => (hls p hm0).mono hgn2.le
       replace hxc := StC.mono hxc hgn2.le
       replace hx := hx.mono hgn2.le
       refine c_seq ?_
       refine c_region ?_
       refine r_val .none rfl (p_lt rfl rfl) ?_
       refine r_nil ?_
       refine e_next ?_
       refine c_seq ?_
       refine c_splitd (d := 58) rfl (fun h_42 => ?_) (fun h_42 => ?_)
       ·
        first
         | (exfalso; first | omega | (simp_all; done))
         | (
          refine c_cond_t rfl ?_
          refine c_skip ?_
          refine e_next ?_
          refine c_seq ?_
          refine c_block ?_
          refine c_seq ?_
          refine c_region ?_
          refine r_val .none rfl (p_move rfl) ?_
          refine r_val .none rfl (p_assign rfl) ?_
          refine r_nil ?_
          refine e_next ?_
          refine c_seq ?_
          refine c_region ?_
          refine r_val .none rfl (p_move rfl) ?_
          refine r_val .none rfl (p_move rfl) ?_
          refine r_val .none rfl (p_move rfl) ?_
          refine r_iaddr_g .none rfl Try.underlying41 sz35 rfl hx rfl (by first | exact of_decide_eq_true rfl | omega) (fun p_44 o_45 R_43 => ?_)
          have hxi := hxc _ (getD_mem (i := i) (d := es6) (by omega))
          have hxiz := hxz _ (getD_mem (i := i) (d := es6) (by omega))
          refine r_val .none rfl (p_ldg0 Try.underlying35 rfl rfl R_43 (by first | exact of_decide_eq_true rfl | omega) rfl) ?_
          refine r_callox (k := 1) (vs := [_, _]) .none rfl cl12 rfl rfl (fun w F hw hA hFG => c_kadd _ _ (xs.getD i es6).1 (adds R0 ((xs.map Prod.fst).take i)) _ hTa hSa hxi (by omega) (by omega) w hw hA hFG) (fun G_46 v_49 z_51 hn_47 hr_48 => ?_)
          replace hs := hs.mono hn_47.le
          replace hls := fun p hm0 => (hls p hm0).mono hn_47.le
          replace hxc := StC.mono hxc hn_47.le
          replace hx := hx.mono hn_47.le
          replace hSa := hSa.mono hn_47.le
          replace hSb := hSb.mono hn_47.le
          replace R_43 := R_43.mono hn_47.le
          replace hxi := hxi.mono hn_47.le
          obtain ⟨hTa2i, hTa2, hSa2⟩ := hr_48
          refine r_nil ?_
          refine e_next ?_
          refine c_region ?_
          obtain ⟨m, hm⟩ : ∃ m, xs.length = i + 1 + m := ⟨xs.length - i - 1, by omega⟩
          refine r_val .none rfl (p_move rfl) ?_
          refine r_val .none rfl (p_move rfl) ?_
          refine r_val .none rfl (p_move rfl) ?_
          refine r_val .none rfl (p_leng Try.underlying41 rfl hx) ?_
          have bd_52 := (hx).bound
          refine r_val .none rfl (p_sub rfl rfl (by omega)) ?_
          refine r_val .none rfl (p_move rfl) ?_
          refine r_val .none rfl (p_sub rfl rfl (by omega)) ?_
          refine r_say (d := 72) (v := Value.int .i64 ((m : Nat) : Int)) (congrArg (fun x => some (Value.int .i64 x)) (by omega)) ?_
          refine r_iaddr_g .none rfl Try.underlying41 sz35 rfl hx rfl (by first | exact of_decide_eq_true rfl | omega) (fun p_54 o_55 R_53 => ?_)
          have hxm9 := hxc _ (getD_mem (i := m) (d := es6) (by omega))
          have hxm9z := hxz _ (getD_mem (i := m) (d := es6) (by omega))
          refine r_val .none rfl (p_ldg0 Try.underlying35 rfl rfl R_53 (by first | exact of_decide_eq_true rfl | omega) rfl) ?_
          refine r_callox (k := 0) (vs := [_, _]) .none rfl cl12 rfl rfl (fun w F hw hA hFG => c_kadd _ _ (xs.getD m es6).1 (adds R0 ((xs.map Prod.fst).reverse.take i)) _ hTb hSb hxm9 (by omega) (by omega) w hw hA hFG) (fun G_56 v_59 z_61 hn_57 hr_58 => ?_)
          replace hs := hs.mono hn_57.le
          replace hls := fun p hm0 => (hls p hm0).mono hn_57.le
          replace hxc := StC.mono hxc hn_57.le
          replace hx := hx.mono hn_57.le
          replace hSa := hSa.mono hn_57.le
          replace hSb := hSb.mono hn_57.le
          replace R_43 := R_43.mono hn_57.le
          replace hxi := hxi.mono hn_57.le
          replace hSa2 := hSa2.mono hn_57.le
          replace R_53 := R_53.mono hn_57.le
          replace hxm9 := hxm9.mono hn_57.le
          obtain ⟨hTb2i, hTb2, hSb2⟩ := hr_58
          refine r_nil ?_
          refine e_norm_block ?_
          refine e_next ?_
          refine c_region ?_
          refine r_val .none rfl (p_add rfl rfl (by omega)) ?_
          refine r_val .none rfl (p_move rfl) ?_
          refine r_nil ?_
          refine e_round ((i + 1, z_51, z_61, _)) ⟨⟨by dsimp only; omega, by rw [take_get (by omega), map_getD2 rfl (by omega), adds_snoc]; exact hTa2, by rw [take_rev (m := m) (by omega), map_getD2 rfl (by omega), adds_snoc]; exact hTb2, hSa2, hSb2, ⟨by rw [take_get (by omega), map_getD2 rfl (by omega), adds_snoc]; have h9 := (add_len (adds R0 ((xs.map Prod.fst).take i)) (xs.getD i es6).1).1; dsimp only; omega, by rw [take_rev (m := m) (by omega), map_getD2 rfl (by omega), adds_snoc]; have h9 := (add_len (adds R0 ((xs.map Prod.fst).reverse.take i)) (xs.getD m es6).1).1; dsimp only; omega⟩, ((hgn2.trans hn_47).trans hn_57)⟩, by dsimp only; omega⟩ rfl ⟨rfl, rfl, rfl, rfl, rfl, trivial⟩ (.keep (fun _ _ h => h) (.keep (fun _ _ h => h) (.nil)))
          )
       ·
        first
         | (exfalso; first | omega | (simp_all; done))
         | (
          refine c_cond_f rfl ?_
          refine c_exit ?_
          refine e_exit_then ?_
          refine e_exit_then ?_
          refine e_exit_block ?_
          refine e_next ?_
          refine c_seq ?_
          refine c_seq ?_
          refine c_region ?_
          obtain rfl : i = xs.length := by omega
          rw [List.take_of_length_le (by rw [List.length_map]; exact Nat.le_refl _)] at hTa
          rw [List.take_of_length_le (by rw [List.length_reverse, List.length_map]; exact Nat.le_refl _)] at hTb
          refine r_val .none rfl (p_move rfl) ?_
          refine r_val .none rfl (p_leng Try.underlying41 rfl hx) ?_
          have bd_62 := (hx).bound
          refine r_val .none rfl (p_move rfl) ?_
          refine r_nil ?_
          refine e_next ?_
          refine c_block ?_
          refine c_name (d := 3) rfl (fun u_63 hu_63 => ?_)
          refine c_name (d := 4) rfl (fun u_64 hu_64 => ?_)
          refine c_name (d := 77) rfl (fun u_65 hu_65 => ?_)
          refine c_name (d := 78) rfl (fun u_66 hu_66 => ?_)
          refine c_nameL (k := 0) rfl (fun A_67 hA_67 => ?_)
          refine c_nameL (k := 1) rfl (fun A_68 hA_68 => ?_)
          refine c_loop (σ := Nat × Ghost) (fun s' => [(79, Value.int .i64 (s'.1 : Nat)), (3, u_63), (4, u_64), (77, u_65), (78, u_66)]) (fun s' => [A_67, A_68]) (fun s' => s'.2) (fun s' => s'.1 ≤ xs.length ∧ GNew w nX H2 s'.2) (fun s' => xs.length - s'.1) ((0, _)) ⟨Nat.zero_le _, GNew.refl _ _ _⟩ rfl ⟨rfl, rfl, rfl, rfl, rfl, trivial⟩ (.keep (fun _ _ h => h) (.keep (fun _ _ h => h) (.nil))) (fun s' hphi => ?_)
          subst hu_63
          subst hu_64
          subst hu_65
          subst hu_66
          subst hA_67
          subst hA_68
          obtain ⟨k, H3⟩ := s'
          obtain ⟨hk3, hgn3⟩ := hphi
          dsimp only at hk3 hgn3 ⊢
          replace hs := hs.mono hgn3.le
          replace hls := fun p hm0 => (hls p hm0).mono hgn3.le
          replace hxc := StC.mono hxc hgn3.le
          replace hx := hx.mono hgn3.le
          replace hSa := hSa.mono hgn3.le
          replace hSb := hSb.mono hgn3.le
          refine c_seq ?_
          refine c_region ?_
          refine r_val .none rfl (p_lt rfl rfl) ?_
          refine r_nil ?_
          refine e_next ?_
          refine c_seq ?_
          refine c_splitd (d := 80) rfl (fun h_69 => ?_) (fun h_69 => ?_)
          ·
           first
            | (exfalso; first | omega | (simp_all; done))
            | (
             refine c_cond_t rfl ?_
             refine c_skip ?_
             refine e_next ?_
             refine c_seq ?_
             refine c_block ?_
             refine c_seq ?_
             refine c_region ?_
             refine r_iaddr_g .none rfl Try.underlying41 sz35 rfl hx rfl (by first | exact of_decide_eq_true rfl | omega) (fun p_71 o_72 R_70 => ?_)
             have hxk9 := hxc _ (getD_mem (i := k) (d := es6) (by omega))
             have hxk9z := hxz _ (getD_mem (i := k) (d := es6) (by omega))
             refine r_val .none rfl (p_ldg0 Try.underlying35 rfl rfl R_70 (by first | exact of_decide_eq_true rfl | omega) rfl) ?_
             refine r_val .none rfl (p_assign rfl) ?_
             refine r_nil ?_
             refine e_next ?_
             refine c_seq ?_
             refine c_region ?_
             refine r_val .none rfl (p_move rfl) ?_
             refine r_callm (vs := [_]) .none rfl cl17 rfl (fun w hw => c_srefs _ _ (by omega) hxk9 w hw) (fun G_73 v_76 hn_74 hr_75 => ?_)
             replace hs := hs.mono hn_74.le
             replace hls := fun p hm0 => (hls p hm0).mono hn_74.le
             replace hxc := StC.mono hxc hn_74.le
             replace hx := hx.mono hn_74.le
             replace hSa := hSa.mono hn_74.le
             replace hSb := hSb.mono hn_74.le
             replace R_70 := R_70.mono hn_74.le
             replace hxk9 := hxk9.mono hn_74.le
             have hS9 := hr_75
             refine r_nilrow 90 6 ?_
             refine r_callom (k := 0) (vs := [_, _]) .none rfl cl14 rfl rfl (fun w F hw hA hFG => c_rchS _ _ [] (xs.getD k es6).1 (by simp only [List.length_nil]; omega) (by simp) (by simp) hS9 w hw hA hFG) (fun G_78 v_81 hn_79 hr_80 => ?_)
             replace hs := hs.mono hn_79.le
             replace hls := fun p hm0 => (hls p hm0).mono hn_79.le
             replace hxc := StC.mono hxc hn_79.le
             replace hx := hx.mono hn_79.le
             replace hSa := hSa.mono hn_79.le
             replace hSb := hSb.mono hn_79.le
             replace R_70 := R_70.mono hn_79.le
             replace hxk9 := hxk9.mono hn_79.le
             replace hS9 := hS9.mono hn_79.le
             obtain ⟨cq, hcq, hcp, hcl⟩ := hr_80
             have hcn : cq.length ≤ 64 := by (have h9 := congrArg List.length hcl; rw [List.length_map] at h9; have h8 := schains_len (xs.getD k es6).1 []; simp only [List.map_nil] at h9; omega)
             refine r_val .none rfl (p_leng Try.underlying26 rfl hcq) ?_
             have bd_83 := (hcq).bound
             refine r_val .none rfl (p_move rfl) ?_
             refine r_nil ?_
             refine e_next ?_
             refine c_block ?_
             refine c_name (d := 3) rfl (fun u_84 hu_84 => ?_)
             refine c_name (d := 4) rfl (fun u_85 hu_85 => ?_)
             refine c_name (d := 10) rfl (fun u_86 hu_86 => ?_)
             refine c_name (d := 77) rfl (fun u_87 hu_87 => ?_)
             refine c_name (d := 78) rfl (fun u_88 hu_88 => ?_)
             refine c_name (d := 79) rfl (fun u_89 hu_89 => ?_)
             refine c_name (d := 80) rfl (fun u_90 hu_90 => ?_)
             refine c_name (d := 81) rfl (fun u_91 hu_91 => ?_)
             refine c_name (d := 82) rfl (fun u_92 hu_92 => ?_)
             refine c_name (d := 83) rfl (fun u_93 hu_93 => ?_)
             refine c_name (d := 84) rfl (fun u_94 hu_94 => ?_)
             refine c_name (d := 85) rfl (fun u_95 hu_95 => ?_)
             refine c_name (d := 86) rfl (fun u_96 hu_96 => ?_)
             refine c_nameL (k := 0) rfl (fun A_97 hA_97 => ?_)
             refine c_nameL (k := 1) rfl (fun A_98 hA_98 => ?_)
             refine c_nameL (k := 2) rfl (fun A_99 hA_99 => ?_)
             refine c_loop (σ := Nat × Ghost) (fun s' => [(87, Value.int .i64 (s'.1 : Nat)), (3, u_84), (4, u_85), (10, u_86), (77, u_87), (78, u_88), (79, u_89), (80, u_90), (81, u_91), (82, u_92), (83, u_93), (84, u_94), (85, u_95), (86, u_96)]) (fun s' => [A_97, A_98, A_99]) (fun s' => s'.2) (fun s' => s'.1 ≤ cq.length ∧ GNew w nX G_78 s'.2) (fun s' => cq.length - s'.1) ((0, _)) ⟨Nat.zero_le _, GNew.refl _ _ _⟩ rfl ⟨rfl, rfl, rfl, rfl, rfl, rfl, rfl, rfl, rfl, rfl, rfl, rfl, rfl, rfl, trivial⟩ (.keep (fun _ _ h => h) (.keep (fun _ _ h => h) (.keep (fun _ _ h => h) (.nil)))) (fun s' hphi => ?_)
             subst hu_84
             subst hu_85
             subst hu_86
             subst hu_87
             subst hu_88
             subst hu_89
             subst hu_90
             subst hu_91
             subst hu_92
             subst hu_93
             subst hu_94
             subst hu_95
             subst hu_96
             subst hA_97
             subst hA_98
             subst hA_99
             obtain ⟨j, H4⟩ := s'
             obtain ⟨hj4, hgn4⟩ := hphi
             dsimp only at hj4 hgn4 ⊢
             replace hs := hs.mono hgn4.le
             replace hls := fun p hm0 => (hls p hm0).mono hgn4.le
             replace hxc := StC.mono hxc hgn4.le
             replace hx := hx.mono hgn4.le
             replace hSa := hSa.mono hgn4.le
             replace hSb := hSb.mono hgn4.le
             replace R_70 := R_70.mono hgn4.le
             replace hxk9 := hxk9.mono hgn4.le
             replace hS9 := hS9.mono hgn4.le
             replace hcq := hcq.mono hgn4.le
             replace hcp := StC.mono hcp hgn4.le
             refine c_seq ?_
             refine c_region ?_
             refine r_val .none rfl (p_lt rfl rfl) ?_
             refine r_nil ?_
             refine e_next ?_
             refine c_seq ?_
             refine c_splitd (d := 88) rfl (fun h_100 => ?_) (fun h_100 => ?_)
             ·
              first
               | (exfalso; first | omega | (simp_all; done))
               | (
                refine c_cond_t rfl ?_
                refine c_skip ?_
                refine e_next ?_
                refine c_seq ?_
                refine c_block ?_
                refine c_seq ?_
                refine c_region ?_
                refine r_iaddr_g .none rfl Try.underlying26 sz29 rfl hcq rfl (by first | exact of_decide_eq_true rfl | omega) (fun p_102 o_103 R_101 => ?_)
                have hcj := hcp _ (getD_mem (i := j) (d := es6) (by omega))
                refine r_val .none rfl (p_ldg0 Try.underlying29 rfl rfl R_101 (by first | exact of_decide_eq_true rfl | omega) rfl) ?_
                refine r_val .none rfl (p_assign rfl) ?_
                have hcm : (cq.getD j es6).1 ∈ schains [] (xs.getD k es6).1 := by rw [show schains [] (xs.getD k es6).1 = cq.map Prod.fst from hcl]; exact List.mem_map.2 ⟨_, getD_mem (by omega), rfl⟩
                have hxk : (xs.getD k es6).1 ∈ xs.map Prod.fst := List.mem_map.2 ⟨_, getD_mem (by omega), rfl⟩
                have hfa : find (adds R0 (xs.map Prod.fst)) (cq.getD j es6).1 ≠ 0 := order_in hTa hxk hcm
                have hfb : find (adds R0 (xs.map Prod.fst).reverse) (cq.getD j es6).1 ≠ 0 := order_in hTb (List.mem_reverse.2 hxk) hcm
                have hna := nR_find hTa.clo hfa
                have hnb := nR_find hTb.clo hfb
                have hcsz : sszL (cq.getD j es6).1 ≤ 64 := Nat.le_trans (schains_size _ [] _ hcm) (by rw [show sszL ([] : List ST) = 0 from rfl]; omega)
                refine r_nil ?_
                refine e_next ?_
                refine c_seq ?_
                refine c_region ?_
                refine r_val .none rfl (p_move rfl) ?_
                refine r_val .none rfl (p_move rfl) ?_
                refine r_callm (vs := [_]) .none rfl cl13 rfl (fun w hw => c_steps _ _ (by omega) hcj w hw) (fun G_104 v_107 hn_105 hr_106 => ?_)
                replace hs := hs.mono hn_105.le
                replace hls := fun p hm0 => (hls p hm0).mono hn_105.le
                replace hxc := StC.mono hxc hn_105.le
                replace hx := hx.mono hn_105.le
                replace hSa := hSa.mono hn_105.le
                replace hSb := hSb.mono hn_105.le
                replace R_70 := R_70.mono hn_105.le
                replace hxk9 := hxk9.mono hn_105.le
                replace hS9 := hS9.mono hn_105.le
                replace hcq := hcq.mono hn_105.le
                replace hcp := StC.mono hcp hn_105.le
                replace R_101 := R_101.mono hn_105.le
                replace hcj := hcj.mono hn_105.le
                have hPa := hr_106
                refine r_callo (k := 2) (vs := [_, _]) .none rfl cl18 rfl rfl (fun w F hw hA hFG => trie_see0 (R := fun r => r = Value.int .i64 (find (adds R0 (xs.map Prod.fst)) (cq.getD j es6).1)) (fun l G' F' hl hle hn9 hG hA hF => c_kfind _ _ (cq.getD j es6).1 l _ (adds R0 (xs.map Prod.fst)) (seen_of hTa.kc hSa hl hn9 hle) (hPa.mono hle) w hG hA hF) hw hA hFG) ?_
                refine r_val .none rfl (p_move rfl) ?_
                refine r_val .none rfl (p_move rfl) ?_
                refine r_callm (vs := [_]) .none rfl cl13 rfl (fun w hw => c_steps _ _ (by omega) hcj w hw) (fun G_109 v_112 hn_110 hr_111 => ?_)
                replace hs := hs.mono hn_110.le
                replace hls := fun p hm0 => (hls p hm0).mono hn_110.le
                replace hxc := StC.mono hxc hn_110.le
                replace hx := hx.mono hn_110.le
                replace hSa := hSa.mono hn_110.le
                replace hSb := hSb.mono hn_110.le
                replace R_70 := R_70.mono hn_110.le
                replace hxk9 := hxk9.mono hn_110.le
                replace hS9 := hS9.mono hn_110.le
                replace hcq := hcq.mono hn_110.le
                replace hcp := StC.mono hcp hn_110.le
                replace R_101 := R_101.mono hn_110.le
                replace hcj := hcj.mono hn_110.le
                replace hPa := hPa.mono hn_110.le
                have hPb := hr_111
                refine r_callo (k := 1) (vs := [_, _]) .none rfl cl18 rfl rfl (fun w F hw hA hFG => trie_see0 (R := fun r => r = Value.int .i64 (find (adds R0 (xs.map Prod.fst).reverse) (cq.getD j es6).1)) (fun l G' F' hl hle hn9 hG hA hF => c_kfind _ _ (cq.getD j es6).1 l _ (adds R0 (xs.map Prod.fst).reverse) (seen_of hTb.kc hSb hl hn9 hle) (hPb.mono hle) w hG hA hF) hw hA hFG) ?_
                refine r_val .none rfl (p_assign rfl) ?_
                refine r_val .none rfl (p_assign rfl) ?_
                refine r_nil ?_
                refine e_next ?_
                refine c_seq ?_
                refine c_region ?_
                refine r_val .none rfl (p_move rfl) ?_
                refine r_val .none rfl (p_eq rfl rfl) ?_
                refine r_val .none rfl (p_move rfl) ?_
                refine r_splitd (d := 101) rfl (fun h_114 => ?_) (fun h_114 => ?_)
                ·
                 have hx : False := hfa h_114
                 exact hx.elim
                ·
                 first
                  | (exfalso; first | omega | (simp_all; done))
                  | (
                   refine r_val (.some rfl rfl) rfl (p_move rfl) ?_
                   refine r_val (.some rfl rfl) rfl (p_eq rfl rfl) ?_
                   refine r_val .none rfl (p_pick_f rfl rfl) ?_
                   refine r_val .none rfl (p_move rfl) ?_
                   refine r_splitd (d := 105) rfl (fun h_115 => ?_) (fun h_115 => ?_)
                   ·
                    have hx : False := hfb (by simpa using h_115)
                    exact hx.elim
                   ·
                    first
                     | (exfalso; first | omega | (simp_all; done))
                     | (
                      refine r_val (.some rfl rfl) rfl (p_move rfl) ?_
                      refine r_val (.some rfl rfl) rfl (p_move rfl) ?_
                      refine r_callo (k := 2) (vs := [_, _]) (.some rfl rfl) rfl cl19 rfl rfl (fun w F hw hA hFG => trie_see0 (R := fun r => r = Value.int .i64 (nR (adds R0 (xs.map Prod.fst)) ((find (adds R0 (xs.map Prod.fst)) (cq.getD j es6).1))).uses) (fun l G' F' hl hle hn9 hG hA hF => by (have h9 := c_kuses _ ((find (adds R0 (xs.map Prod.fst)) (cq.getD j es6).1)) l _ (adds R0 (xs.map Prod.fst)) (seen_of hTa.kc hSa hl hn9 hle) w hG hA hF; rw [nR_eq hTa hl] at h9; exact h9)) hw hA hFG) ?_
                      refine r_val (.some rfl rfl) rfl (p_move rfl) ?_
                      refine r_val (.some rfl rfl) rfl (p_move rfl) ?_
                      refine r_callo (k := 1) (vs := [_, _]) (.some rfl rfl) rfl cl19 rfl rfl (fun w F hw hA hFG => trie_see0 (R := fun r => r = Value.int .i64 (nR (adds R0 (xs.map Prod.fst).reverse) ((find (adds R0 (xs.map Prod.fst).reverse) (cq.getD j es6).1))).uses) (fun l G' F' hl hle hn9 hG hA hF => by (have h9 := c_kuses _ ((find (adds R0 (xs.map Prod.fst).reverse) (cq.getD j es6).1)) l _ (adds R0 (xs.map Prod.fst).reverse) (seen_of hTb.kc hSb hl hn9 hle) w hG hA hF; rw [nR_eq hTb hl] at h9; exact h9)) hw hA hFG) ?_
                      refine r_val (.some rfl rfl) rfl (p_ne rfl rfl) ?_
                      refine r_val .none rfl (p_pick_f rfl rfl) ?_
                      refine r_val .none rfl (p_move rfl) ?_
                      refine r_splitd (d := 114) rfl (fun h_116 => ?_) (fun h_116 => ?_)
                      ·
                       have hx : False := (by have h9 := h_116; rw [hna, hnb] at h9; exact absurd (show (ndR (adds R0 (xs.map Prod.fst)) (cq.getD j es6).1).uses = (ndR (adds R0 (xs.map Prod.fst).reverse) (cq.getD j es6).1).uses from congrArg Int.ofNat (order_uses _ _)) (by simpa using h9))
                       exact hx.elim
                      ·
                       first
                        | (exfalso; first | omega | (simp_all; done))
                        | (
                         refine r_val (.some rfl rfl) rfl (p_move rfl) ?_
                         refine r_val (.some rfl rfl) rfl (p_move rfl) ?_
                         refine r_callo (k := 2) (vs := [_, _]) (.some rfl rfl) rfl cl20 rfl rfl (fun w F hw hA hFG => trie_see0 (R := fun r => r = Value.int .i64 (nR (adds R0 (xs.map Prod.fst)) ((find (adds R0 (xs.map Prod.fst)) (cq.getD j es6).1))).dep) (fun l G' F' hl hle hn9 hG hA hF => by (have h9 := c_kdep _ ((find (adds R0 (xs.map Prod.fst)) (cq.getD j es6).1)) l _ (adds R0 (xs.map Prod.fst)) (seen_of hTa.kc hSa hl hn9 hle) w hG hA hF; rw [nR_eq hTa hl] at h9; exact h9)) hw hA hFG) ?_
                         refine r_val (.some rfl rfl) rfl (p_move rfl) ?_
                         refine r_val (.some rfl rfl) rfl (p_move rfl) ?_
                         refine r_callo (k := 1) (vs := [_, _]) (.some rfl rfl) rfl cl20 rfl rfl (fun w F hw hA hFG => trie_see0 (R := fun r => r = Value.int .i64 (nR (adds R0 (xs.map Prod.fst).reverse) ((find (adds R0 (xs.map Prod.fst).reverse) (cq.getD j es6).1))).dep) (fun l G' F' hl hle hn9 hG hA hF => by (have h9 := c_kdep _ ((find (adds R0 (xs.map Prod.fst).reverse) (cq.getD j es6).1)) l _ (adds R0 (xs.map Prod.fst).reverse) (seen_of hTb.kc hSb hl hn9 hle) w hG hA hF; rw [nR_eq hTb hl] at h9; exact h9)) hw hA hFG) ?_
                         refine r_val (.some rfl rfl) rfl (p_ne rfl rfl) ?_
                         refine r_val .none rfl (p_pick_f rfl rfl) ?_
                         refine r_nil ?_
                         refine e_next ?_
                         refine c_splitd (d := 122) rfl (fun h_117 => ?_) (fun h_117 => ?_)
                         ·
                          have hx : False := (by have h9 := h_117; rw [hna, hnb] at h9; exact absurd (show (ndR (adds R0 (xs.map Prod.fst)) (cq.getD j es6).1).dep = (ndR (adds R0 (xs.map Prod.fst).reverse) (cq.getD j es6).1).dep from rfl) (by simpa using h9))
                          exact hx.elim
                         ·
                          first
                           | (exfalso; first | omega | (simp_all; done))
                           | (
                            refine c_cond_f rfl ?_
                            refine c_skip ?_
                            refine e_norm_block ?_
                            refine e_next ?_
                            refine c_region ?_
                            refine r_val .none rfl (p_add rfl rfl (by omega)) ?_
                            refine r_val .none rfl (p_move rfl) ?_
                            refine r_nil ?_
                            refine e_round ((j + 1, _)) ⟨⟨by dsimp only; omega, ((hgn4.trans hn_105).trans hn_110)⟩, by dsimp only; omega⟩ rfl ⟨rfl, rfl, rfl, rfl, rfl, rfl, rfl, rfl, rfl, rfl, rfl, rfl, rfl, rfl, trivial⟩ (.keep (fun _ _ h => h) (.keep (fun _ _ h => h) (.keep (fun _ _ h => h) (.nil))))
                            )
                         )
                      )
                   )
                )
             ·
              first
               | (exfalso; first | omega | (simp_all; done))
               | (
                refine c_cond_f rfl ?_
                refine c_exit ?_
                refine e_exit_then ?_
                refine e_exit_then ?_
                refine e_exit_block ?_
                refine e_norm_block ?_
                refine e_next ?_
                refine c_region ?_
                refine r_val .none rfl (p_add rfl rfl (by omega)) ?_
                refine r_val .none rfl (p_move rfl) ?_
                refine r_nil ?_
                refine e_round ((k + 1, _)) ⟨⟨by dsimp only; omega, (((hgn3.trans hn_74).trans hn_79).trans hgn4)⟩, by dsimp only; omega⟩ rfl ⟨rfl, rfl, rfl, rfl, rfl, trivial⟩ (.drop (.keep (fun _ _ h => h) (.keep (fun _ _ h => h) (.nil))))
                )
             )
          ·
           first
            | (exfalso; first | omega | (simp_all; done))
            | (
             refine c_cond_f rfl ?_
             refine c_exit ?_
             refine e_exit_then ?_
             refine e_exit_then ?_
             refine e_exit_block ?_
             refine e_next ?_
             refine c_seq ?_
             refine c_region ?_
             refine r_val .none rfl (p_move rfl) ?_
             refine r_callo (k := 1) (vs := [_]) .none rfl cl15 rfl rfl (fun w F hw hA hFG => trie_see0 (R := fun r => r = Value.int .i64 ((all ((adds R0 (xs.map Prod.fst)))).length : Nat)) (fun l G' F' hl hle hn9 hG hA hF => by (have h9 := c_klen _ l _ _ (seen_of hTa.kc hSa hl hn9 hle) w hG hA hF; rw [← eraK_len l, ← hl, hTa.len] at h9; exact h9)) hw hA hFG) ?_
             refine r_val .none rfl (p_move rfl) ?_
             refine r_callo (k := 0) (vs := [_]) .none rfl cl15 rfl rfl (fun w F hw hA hFG => trie_see0 (R := fun r => r = Value.int .i64 ((all ((adds R0 (xs.map Prod.fst).reverse))).length : Nat)) (fun l G' F' hl hle hn9 hG hA hF => by (have h9 := c_klen _ l _ _ (seen_of hTb.kc hSb hl hn9 hle) w hG hA hF; rw [← eraK_len l, ← hl, hTb.len] at h9; exact h9)) hw hA hFG) ?_
             refine r_val .none rfl (p_eq rfl rfl) ?_
             refine r_val .none rfl (p_move rfl) ?_
             refine r_splitd (d := 130) rfl (fun h_118 => ?_) (fun h_118 => ?_)
             ·
              first
               | (exfalso; first | omega | (simp_all; done))
               | (
                refine r_val (.some rfl rfl) rfl (p_move rfl) ?_
                refine r_callo (k := 1) (vs := [_, _]) (.some rfl rfl) rfl cl19 rfl rfl (fun w F hw hA hFG => trie_see0 (R := fun r => r = Value.int .i64 (nR (adds R0 (xs.map Prod.fst)) (1)).uses) (fun l G' F' hl hle hn9 hG hA hF => by (have h9 := c_kuses _ (1) l _ (adds R0 (xs.map Prod.fst)) (seen_of hTa.kc hSa hl hn9 hle) w hG hA hF; rw [nR_eq hTa hl] at h9; exact h9)) hw hA hFG) ?_
                refine r_val (.some rfl rfl) rfl (p_move rfl) ?_
                refine r_callo (k := 0) (vs := [_, _]) (.some rfl rfl) rfl cl19 rfl rfl (fun w F hw hA hFG => trie_see0 (R := fun r => r = Value.int .i64 (nR (adds R0 (xs.map Prod.fst).reverse) (1)).uses) (fun l G' F' hl hle hn9 hG hA hF => by (have h9 := c_kuses _ (1) l _ (adds R0 (xs.map Prod.fst).reverse) (seen_of hTb.kc hSb hl hn9 hle) w hG hA hF; rw [nR_eq hTb hl] at h9; exact h9)) hw hA hFG) ?_
                refine r_val (.some rfl rfl) rfl (p_eq rfl rfl) ?_
                refine r_val .none rfl (p_pick_t rfl rfl) ?_
                refine r_val .none rfl (p_move rfl) ?_
                refine r_splitd (d := 137) rfl (fun h_119 => ?_) (fun h_119 => ?_)
                ·
                 first
                  | (exfalso; first | omega | (simp_all; done))
                  | (
                   refine r_call (vs := []) (.some rfl rfl) rfl cl8 rfl (fun w hw => c_awake16 w) ?_
                   refine r_val .none rfl (p_pick_t rfl rfl) ?_
                   refine r_val .none rfl (p_assign rfl) ?_
                   refine r_nil ?_
                   refine e_next ?_
                   refine c_ret ?_
                   refine e_ret1 Try.results4 (.tmp rfl .nil) (fun w hm => ⟨?_, hm.since⟩)
                   rfl
                   )
                ·
                 have hx : False := absurd (show (nR (adds R0 (xs.map Prod.fst)) 1).uses = (nR (adds R0 (xs.map Prod.fst).reverse) 1).uses from congrArg Int.ofNat (order_uses _ _)) (by simpa using h_119)
                 exact hx.elim
                )
             ·
              have hx : False := absurd (congrArg Int.ofNat (order_len (xs.map Prod.fst))) (by simpa using h_118)
              exact hx.elim
             )
          )
       )
    )
end Go.Proofs.Ytdkfdncbldngdaa

/- Walks: what Go functions of this chapter come to, each as a function on plain data; no condition but those that each theorem names. Printed by a program of this work (gen.py). -/
namespace Go.Proofs.Ytdkfdncbldngdaa
open Go.Gx Go.Gx.T16 Go.Gx.T8 Go.Gx.T6 Go.Gx.T4 Go.Gx.T3 Go.Gx.T3 Go.Gx.T4 Go.Gx.T3 Go.Gx.T6 Go.Gx.T8 Go.Gx.T4 Go.Gx.T3 Go.Gx.T8 Go.Gx.T4 Go.Gx.T3 Go.Gx.T8 Go.Gx.T6 Go.Gx.T4 Go.Gx.T3 Go.ChangeShapes Go.WideShapes Go.ChangeAt Go.RowKit
theorem open_cond_l : leafT Try.prog 10 80 = some [3, 4, 3, 4, 3, 4, 3, 27] := by kernel_rfl
theorem open_cond_n {H : Type} {enc : TypeId × Value → H} {W : World} {base : Nat} {sp : Nat → Bool} {held : Bool} : ∀ (B n : Nat) (cs : List Value) (x : DataW H × List MemPlace), n ≤ B → DataW.trod enc Try.prog W base sp held n 80 cs = some x → ∃ a : CT × Value, cs = cvC a ∧ Cs (GW W) a.2 a.1.subs
 | 0, n, cs, x, hn, h => by
  obtain rfl : n = 0 := by omega
  simp [DataW.trod] at h
 | B + 1, n, cs, x, hn, h => by
  obtain ⟨n', rfl, hl⟩ := leavesB_struct 9 Try.underlying80 open_cond_l h
  obtain ⟨x0, r0, e0, f0, g0⟩ := hl.inv
  obtain ⟨a0, rfl, _⟩ := f0.leaf.int Try.underlying3
  obtain ⟨x1, r1, e1, f1, g1⟩ := g0.inv
  obtain ⟨a1, rfl⟩ := f1.leaf.bool Try.underlying4
  obtain ⟨x2, r2, e2, f2, g2⟩ := g1.inv
  obtain ⟨a2, rfl, _⟩ := f2.leaf.int Try.underlying3
  obtain ⟨x3, r3, e3, f3, g3⟩ := g2.inv
  obtain ⟨a3, rfl⟩ := f3.leaf.bool Try.underlying4
  obtain ⟨x4, r4, e4, f4, g4⟩ := g3.inv
  obtain ⟨a4, rfl, _⟩ := f4.leaf.int Try.underlying3
  obtain ⟨x5, r5, e5, f5, g5⟩ := g4.inv
  obtain ⟨a5, rfl⟩ := f5.leaf.bool Try.underlying4
  obtain ⟨x6, r6, e6, f6, g6⟩ := g5.inv
  obtain ⟨a6, rfl, _⟩ := f6.leaf.int Try.underlying3
  obtain ⟨x7, r7, e7, f7, g7⟩ := g6.inv
  have z := g7.inv0
  obtain ⟨l, h1, h2⟩ := open_slB (cells := cvC) (Qa := fun a => Cs (GW W) a.2 a.1.subs) d0 Try.underlying27 (show Program.cellsOf Try.prog 80 = 8 by kernel_rfl) (by decide) (fun m cs' y hm hy => open_cond_n B m cs' y (by omega) hy) f7
  refine ⟨(CT.mk ⟨a0, a1, a2, a3, a4, a5, a6⟩ (l.map Prod.fst), x7), ?_, Tr.mk l h1 h2⟩
  rw [e0, e1, e2, e3, e4, e5, e6, e7, z]; rfl
set_option maxRecDepth 100000 in
theorem open_condss {H : Type} {enc : TypeId × Value → H} {W : World} {base : Nat} {sp : Nat → Bool} {held : Bool} {r : Reach} {b0 : Nat} {v : Value} {y : DataW H} {ps : List MemPlace} (hv : Value.okWide Try.prog W r b0 22 v) (h : DataW.Trod enc Try.prog W base sp held 22 v y ps) : ∃ ls : List (List CT × Value), SlL (GW W) v 1 lC (([] : List CT), Value.slice none 0 0) ls ∧ ∀ q ∈ ls, Cs (GW W) q.2 q.1 := by
 obtain ⟨a, n, c, rfl⟩ := okWide_slice Try.underlying22 hv
 obtain ⟨fuel, hf⟩ := h
 exact open_slB (B := fuel) (cells := lC) (Qa := fun q : List CT × Value => Cs (GW W) q.2 q.1) (([] : List CT), Value.slice none 0 0) Try.underlying22 (show Program.cellsOf Try.prog 27 = 1 by kernel_rfl) (by decide) (fun m cs' y hm hy => by
  obtain ⟨x, rfl⟩ := trod_one Try.underlying27 rfl hy
  obtain ⟨l, h1, h2⟩ := open_slB (B := fuel) (cells := cvC) (Qa := fun a => Cs (GW W) a.2 a.1.subs) d0 Try.underlying27 (show Program.cellsOf Try.prog 80 = 8 by kernel_rfl) (by decide) (fun m cs' y hm hy => open_cond_n fuel m cs' y (by omega) hy) ⟨m, _, Nat.le_of_lt hm, hy⟩
  exact ⟨(l.map Prod.fst, x), rfl, Tr.mk l h1 h2⟩) ⟨fuel, _, Nat.le_refl _, hf⟩
end Go.Proofs.Ytdkfdncbldngdaa
