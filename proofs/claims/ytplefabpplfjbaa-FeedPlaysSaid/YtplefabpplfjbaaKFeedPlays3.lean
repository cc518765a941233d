/- Texts of this work, laid together: a logic of steps, plain laws, and walks of Go functions, each without a condition but those that its theorems name. -/
import Derived.Test.YtplefabpplfjbaaKFeedPlays2
import Derived.Test.YtplefabpplfjbaaRows
/- Walks: what Go functions of this chapter come to, each as a function on plain data; no condition but those that each theorem names. Printed by a program of this work (gen.py). -/
namespace Go.Proofs.Ytplefabpplfjbaa
open Go.Gx Go.Gx.T20 Go.Gx.T21 Go.Gx.T22 Go.Gx.T6 Go.Gx.T4 Go.Gx.T20 Go.Gx.T21 Go.Gx.T6 Go.Gx.T4 Go.Gx.T21 Go.Gx.T6 Go.Gx.T4
theorem sz49 : SzIs Try.prog 49 5 := by
 unfold SzIs
 kernel_rfl
theorem zr49 : ZeroIs Try.prog 49 (Value.agg #[Value.int .i64 0, Value.int .i64 0, Value.bool false, Value.string ⟨#[]⟩, Value.slice none 0 0]) := by
 unfold ZeroIs
 kernel_rfl
theorem cl15 : Callable Try.prog 15 := callable Try.func15 (by kernel_rfl) rfl
theorem cl17 : Callable Try.prog 17 := callable Try.func17 (by kernel_rfl) rfl
theorem cl18 : Callable Try.prog 18 := callable Try.func18 (by kernel_rfl) rfl
theorem cl19 : Callable Try.prog 19 := callable Try.func19 (by kernel_rfl) rfl
theorem cl20 : Callable Try.prog 20 := callable Try.func20 (by kernel_rfl) rfl
theorem cl22 : Callable Try.prog 22 := callable Try.func22 (by kernel_rfl) rfl
theorem bl47_  : Program.built Try.prog 47 [] = some #[Value.slice none 0 0] := by
 kernel_rfl
set_option maxHeartbeats 2000000 in
set_option maxRecDepth 100000 in
theorem c_FeedPlays (v : Value) (os : List (O21 × Value)) {G : Ghost} (hs : SlL G v 5 opC o0 os) (hf : ∀ p ∈ os, SlL G p.2 1 cI (0 : Int) p.1.2.2.2.2) (w : World) (hG : Has G w) :
  Calls Try.prog 5 #[v] w (Ret fun r w' => r = Value.bool true ∧ Since nX w w') := by
 refine enter (args := [_]) (X := nX) (G := G) (l := [(0, v)]) Try.func5 rfl Try.ntmps5 hG ⟨rfl, trivial⟩ (Nat.le_of_ble_eq_true rfl) ?_
 refine c_seq ?_
 refine c_region ?_
 refine r_val .none rfl (p_assign rfl) ?_
 refine r_nil ?_
 refine e_next ?_
 refine c_seq ?_
 refine c_region ?_
 refine r_callnew (vs := []) .none rfl cl6 rfl (fun w hw => c_fnew w hw) (fun p_1 => ?_)
 refine r_val .none rfl (p_assign rfl) ?_
 refine r_nil ?_
 refine e_next ?_
 refine c_seq ?_
 refine c_seq ?_
 refine c_region ?_
 refine r_val .none rfl (p_move rfl) ?_
 refine r_val .none rfl (p_leng Try.underlying43 rfl hs) ?_
 have bd_2 := (hs).bound
 refine r_val .none rfl (p_gt rfl rfl) ?_
 refine r_val .none rfl (p_move rfl) ?_
 refine r_splitd (d := 25) rfl (fun h_3 => ?_) (fun h_3 => ?_)
 ·
  first
   | (exfalso; first | omega | assumption)
   | (
    refine r_skip rfl (.no rfl rfl) ?_
    refine r_skip rfl (.no rfl rfl) ?_
    refine r_val .none rfl (p_pick_t rfl rfl) ?_
    refine r_nil ?_
    refine e_next ?_
    refine c_cond_t rfl ?_
    refine c_seq ?_
    refine c_region ?_
    refine r_val .none rfl (p_move rfl) ?_
    refine r_val .none rfl (p_ne_ptr Try.underlying25 (by first | exact .inr rfl | exact .inl rfl) rfl rfl) ?_
    refine r_say (d := 30) (v := Value.bool true) rfl ?_
    refine r_val .none rfl (p_move rfl) ?_
    refine r_call (vs := []) (.some rfl rfl) rfl cl7 rfl (fun w hw => c_awake21 w) ?_
    refine r_val .none rfl (p_pick_t rfl rfl) ?_
    refine r_val .none rfl (p_assign rfl) ?_
    refine r_nil ?_
    refine e_next ?_
    refine c_ret ?_
    refine e_ret_then ?_
    refine e_ret1 Try.results5 (.tmp rfl .nil) (fun w hm => ⟨?_, hm.since⟩)
    first
    | rfl
    | (simp; done)
    )
 ·
  first
   | (exfalso; first | omega | assumption)
   | (
    refine r_val (.some rfl rfl) rfl (p_move rfl) ?_
    refine r_val (.some rfl rfl) rfl (p_eq_ptr Try.underlying25 (by first | exact .inr rfl | exact .inl rfl) rfl rfl) ?_
    refine r_say (d := 27) (v := Value.bool false) rfl ?_
    refine r_val .none rfl (p_pick_f rfl rfl) ?_
    refine r_nil ?_
    refine e_next ?_
    refine c_cond_f rfl ?_
    refine c_skip ?_
    refine e_next ?_
    refine c_seq ?_
    refine c_region ?_
    refine r_val .none rfl (p_build (vs := []) rfl (bl47_ )) ?_
    refine r_box .none rfl rfl (IsRow.lit _) (fun b_1 => ?_)
    refine r_conv (B := rfA 47 55 60 b_1 []) (k := 0) rfl (fun _ _ h => rfA_new (f := at_ [.slice none 0 0]) rfl h) ?_
    dsimp only [List.set_cons_zero, List.set_cons_succ]
    refine r_val .none rfl (p_assign rfl) ?_
    refine r_nil ?_
    refine e_next ?_
    refine c_seq ?_
    refine c_seq ?_
    refine c_region ?_
    refine r_val .none rfl (p_move rfl) ?_
    refine r_val .none rfl (p_leng Try.underlying43 rfl hs) ?_
    have bd_4 := (hs).bound
    refine r_val .none rfl (p_move rfl) ?_
    refine r_nil ?_
    refine e_next ?_
    refine c_block ?_
    refine c_name (d := 3) rfl (fun u_5 hu_5 => ?_)
    refine c_name (d := 4) rfl (fun u_6 hu_6 => ?_)
    refine c_name (d := 36) rfl (fun u_7 hu_7 => ?_)
    refine c_name (d := 37) rfl (fun u_8 hu_8 => ?_)
    refine c_loop (σ := Nat × List RS × Ghost) (fun s' => [(38, Value.int .i64 (s'.1 : Nat)), (3, u_5), (4, u_6), (36, u_7), (37, u_8)]) (fun s' => [rfA 47 55 60 b_1 (s'.2.1), feedA 69 73 3 p_1 (stF s'.2.1)]) (fun s' => s'.2.2) (fun s' => (s'.1 ≤ os.length ∧ InvP s'.2.2 s'.2.1 s'.1) ∧ GNew w nX G s'.2.2) (fun s' => os.length - s'.1) ((0, [], _)) ⟨⟨Nat.zero_le _, InvP.nil _⟩, GNew.refl _ _ _⟩ rfl ⟨rfl, rfl, rfl, rfl, rfl, trivial⟩ (.keep (fun _ _ h => h) (.keep (fun _ _ h => h) (.nil))) (fun s' hphi => ?_)
    subst hu_5
    subst hu_6
    subst hu_7
    subst hu_8
    obtain ⟨j, S, H⟩ := s'
    obtain ⟨⟨hj, hI⟩, hgn⟩ := hphi
    dsimp only at hj hI hgn ⊢
    have hsl := hI.len
    replace hs := hs.mono hgn.le
    replace hf := fun p hm0 => (hf p hm0).mono hgn.le
    refine c_seq ?_
    refine c_region ?_
    refine r_val .none rfl (p_lt rfl rfl) ?_
    refine r_nil ?_
    refine e_next ?_
    refine c_seq ?_
    refine c_splitd (d := 39) rfl (fun h_9 => ?_) (fun h_9 => ?_)
    ·
     first
      | (exfalso; first | omega | assumption)
      | (
       refine c_cond_t rfl ?_
       refine c_skip ?_
       refine e_next ?_
       refine c_seq ?_
       refine c_block ?_
       refine c_seq ?_
       refine c_region ?_
       refine r_iaddr_g .none rfl Try.underlying43 sz49 rfl hs rfl (by first | exact of_decide_eq_true rfl | omega) (fun p_11 o_12 R_10 => ?_)
       have hq_13 := hf _ (getD_mem (i := j) (d := o0) (by omega))
       refine r_val .none rfl (p_ldga0 Try.underlying49 rfl sz49 rfl R_10 (by first | exact of_decide_eq_true rfl | omega) (rfl : _ = Value.agg #[_, _, _, _, _])) ?_
       refine r_alloc .none rfl zr49 (IsRow.lit _) (fun b_2 => ?_)
       refine r_stw (k := 0) .none sz49 rfl rfl (IsRow.lit _) (one_lit rfl (all_cons rfl (all_cons rfl (all_cons rfl (all_cons rfl (all_cons (hq_13).one rfl)))))) rfl ?_
       refine r_nil ?_
       refine e_next ?_
       refine c_seq ?_
       refine c_seq ?_
       refine c_region ?_
       refine r_val .none rfl (p_field Try.underlying49 rfl sz36 rfl) ?_
       refine r_val .none rfl (p_field Try.underlying36 rfl sz24 rfl) ?_
       refine r_val .none rfl (p_field Try.underlying24 rfl sz22 rfl) ?_
       refine r_val .none rfl (p_ld (k := 0) Try.underlying22 rfl rfl rfl (by first | exact of_decide_eq_true rfl | omega) rfl) ?_
       refine r_val .none rfl (p_leng Try.underlying22 rfl hq_13) ?_
       have bd_14 := (hq_13).bound
       have hio := Nat.zero_le j
       refine r_val .none rfl (p_gt rfl rfl) ?_
       refine r_nil ?_
       refine e_next ?_
       refine c_splitd (d := 47) rfl (fun h_15 => ?_) (fun h_15 => ?_)
       ·
        first
         | (exfalso; first | omega | assumption)
         | (
          refine c_cond_t rfl ?_
          refine c_seq ?_
          refine c_region ?_
          refine r_call (vs := []) .none rfl cl7 rfl (fun w hw => c_awake21 w) ?_
          refine r_val .none rfl (p_assign rfl) ?_
          refine r_nil ?_
          refine e_next ?_
          refine c_ret ?_
          refine e_ret_then ?_
          refine e_ret_block ?_
          refine e_ret_then ?_
          refine e_ret_then ?_
          refine e_ret_block ?_
          refine e_ret_then ?_
          refine e_ret1 Try.results5 (.tmp rfl .nil) (fun w hm => ⟨?_, hm.since⟩)
          first
          | rfl
          | (simp; done)
          )
       ·
        have hids : (os.getD j o0).1.2.2.2.2.length ≤ 20 := by (have h9 := h_15; omega)
        first
         | (exfalso; first | omega | assumption)
         | (
          refine c_cond_f rfl ?_
          refine c_skip ?_
          refine e_next ?_
          refine c_seq ?_
          refine c_seq ?_
          refine c_region ?_
          refine r_val .none rfl (p_field Try.underlying49 rfl sz3 rfl) ?_
          refine r_val .none rfl (p_ld (k := 0) Try.underlying3 rfl rfl rfl (by first | exact of_decide_eq_true rfl | omega) (rfl : _ = Value.int _ _)) ?_
          refine r_nil ?_
          refine e_next ?_
          refine c_name (d := 3) rfl (fun u_16 hu_16 => ?_)
          refine c_name (d := 4) rfl (fun u_17 hu_17 => ?_)
          refine c_name (d := 36) rfl (fun u_18 hu_18 => ?_)
          refine c_name (d := 37) rfl (fun u_19 hu_19 => ?_)
          refine c_name (d := 38) rfl (fun u_20 hu_20 => ?_)
          refine c_nameL (k := 0) rfl (fun A_21 hA_21 => ?_)
          refine c_cutE (σ := List RS × Ghost) (fun q' => [(3, u_16), (4, u_17), (36, u_18), (37, u_19), (38, u_20)]) (fun q' => [A_21, rfA 47 55 60 b_1 (q'.1), feedA 69 73 3 p_1 (stF q'.1)]) (fun q' => q'.2) (fun q' => InvP q'.2 q'.1 (j + 1) ∧ GNew w nX H q'.2) (fun q' hphi => ?_) ?_
          ·
           subst hu_16
           subst hu_17
           subst hu_18
           subst hu_19
           subst hu_20
           subst hA_21
           obtain ⟨S2, HQ⟩ := q'
           obtain ⟨hI2, hgq⟩ := hphi
           dsimp only at hI2 hgq ⊢
           have hsl2 := hI2.len
           replace hs := hs.mono hgq.le
           replace hf := fun p hm0 => (hf p hm0).mono hgq.le
           replace hI := InvP.mono hI hgq.le
           replace R_10 := R_10.mono hgq.le
           replace hq_13 := hq_13.mono hgq.le
           refine c_seq ?_
           refine c_seq ?_
           refine c_region ?_
           refine r_val .none rfl (p_move rfl) ?_
           refine r_callo (k := 2) (vs := [_]) .none rfl cl22 rfl rfl (fun w F hw hA hFG => c_flen _ _ w hw hA hFG) ?_
           rw [len_R]
           refine r_val .none rfl (p_move rfl) ?_
           refine r_callo (k := 1) (vs := [_]) .none rfl cl23 rfl rfl (fun w F hw hA hFG => rf_see (R := fun r => r = _) (fun G' lv l hle hS h1 h2 ho hG => c_xlen _ lv _ l hS h1 h2 ho (by rw [← List.length_map (f := Prod.snd), ← hS]; omega) w hG) hw hA hFG) ?_
           refine r_val .none rfl (p_ne rfl rfl) ?_
           refine r_say (d := 159) (v := Value.bool false) (congrArg (fun z => some (Value.bool z)) (decide_eq_false (fun h9 => h9 rfl))) ?_
           refine r_nil ?_
           refine e_next ?_
           refine c_cond_f rfl ?_
           refine c_skip ?_
           refine e_next ?_
           refine c_seq ?_
           refine c_region ?_
           refine r_val .none rfl (p_assign rfl) ?_
           refine r_nil ?_
           refine e_next ?_
           refine c_block ?_
           refine c_name (d := 3) rfl (fun u_22 hu_22 => ?_)
           refine c_name (d := 4) rfl (fun u_23 hu_23 => ?_)
           refine c_name (d := 36) rfl (fun u_24 hu_24 => ?_)
           refine c_name (d := 37) rfl (fun u_25 hu_25 => ?_)
           refine c_name (d := 38) rfl (fun u_26 hu_26 => ?_)
           refine c_nameL (k := 0) rfl (fun A_27 hA_27 => ?_)
           refine c_nameL (k := 2) rfl (fun A_28 hA_28 => ?_)
           refine c_loop (σ := Nat) (fun i3 => [(18, Value.int .i64 (i3 : Nat)), (3, u_22), (4, u_23), (36, u_24), (37, u_25), (38, u_26)]) (fun i3 => [A_27, rfA 47 55 60 b_1 (S2), A_28]) (fun _ => _) (fun i3 => i3 ≤ S2.length + 2) (fun i3 => S2.length + 2 - i3) (0) (Nat.zero_le _) rfl ⟨rfl, rfl, rfl, rfl, rfl, rfl, trivial⟩ (.keep (fun _ _ h => h) (.keep (fun _ _ h => h) (.keep (fun _ _ h => h) (.nil)))) (fun i3 hphi => ?_)
           subst hu_22
           subst hu_23
           subst hu_24
           subst hu_25
           subst hu_26
           subst hA_27
           subst hA_28
           refine c_seq ?_
           refine c_seq ?_
           refine c_region ?_
           refine r_val .none rfl (p_move rfl) ?_
           refine r_front (k := 1) rfl ?_
           refine r_unex (fun l => ?_)
           refine r_unand (fun hS => ?_)
           refine r_unpack ?_
           refine r_unex (fun lv => ?_)
           refine r_unpack ?_
           refine r_row1 (k := 1) rfl (fun o1 => ?_)
           have hlS : (S2).length = l.length := by rw [hS, List.length_map]
           refine r_val .none rfl (p_move rfl) ?_
           refine r_val .none rfl (p_nilcheck rfl) ?_
           refine r_val .none rfl (p_field Try.underlying47 rfl sz45 rfl) ?_
           refine r_val .none rfl (p_ld (k := 0) Try.underlying45 rfl rfl rfl (by first | exact of_decide_eq_true rfl | omega) rfl) ?_
           refine r_val .none rfl (p_leno (k := 1) Try.underlying45 rfl rfl) ?_
           refine r_val .none rfl (p_add rfl rfl (by omega)) ?_
           refine r_val .none rfl (p_le rfl rfl) ?_
           refine r_front (k := 2) rfl ?_
           refine r_front (k := 2) rfl ?_
           refine r_front (k := 2) rfl ?_
           refine r_rfclose (S := S2) hS ?_
           refine r_nil ?_
           refine e_next ?_
           refine c_splitd (d := 167) rfl (fun h_29 => ?_) (fun h_29 => ?_)
           ·
            have hi3 : i3 ≤ S2.length + 1 := by (have h9 := h_29; omega)
            first
             | (exfalso; first | omega | assumption)
             | (
              refine c_cond_t rfl ?_
              refine c_skip ?_
              refine e_next ?_
              refine c_seq ?_
              refine c_block ?_
              refine c_seq ?_
              refine c_region ?_
              refine r_val .none rfl (p_assign rfl) ?_
              refine r_val .none rfl (p_assign rfl) ?_
              refine r_nil ?_
              refine e_next ?_
              refine c_seq ?_
              refine c_seq ?_
              refine c_region ?_
              refine r_val .none rfl (p_move rfl) ?_
              refine r_val .none rfl (p_move rfl) ?_
              cases hT : thereR S2 (i3 : Int) with
              | false =>
               skip
               refine r_callo (k := 0) (vs := [_, _]) .none rfl cl16 rfl rfl (fun w F hw hA hFG => rf_see (R := fun r => r = _) (fun G' lv l hle hS h1 h2 ho hG => c_xthere _ lv _ l _ hS h1 h2 ho w hG) hw hA hFG) ?_
               refine r_say (d := 172) (v := Value.bool false) (congrArg (fun z => some (Value.bool z)) (hT)) ?_
               refine r_nil ?_
               refine e_next ?_
               refine c_cond_f rfl ?_
               refine c_skip ?_
               refine e_next ?_
               refine c_seq ?_
               refine c_region ?_
               refine r_val .none rfl (p_move rfl) ?_
               refine r_val .none rfl (p_move rfl) ?_
               refine r_callo (k := 2) (vs := [_, _]) .none rfl cl13 rfl rfl (fun w F hw hA hFG => c_fwaits _ _ _ w hw hA hFG) ?_
               rw [(wait_N hT).1]
               refine r_val .none rfl (p_move rfl) ?_
               refine r_val .none rfl (p_ne rfl rfl) ?_
               refine r_say (d := 196) (v := Value.bool false) (congrArg (fun z => some (Value.bool z)) (decide_eq_false (fun h9 => h9 rfl))) ?_
               refine r_val .none rfl (p_move rfl) ?_
               refine r_val (.some rfl rfl) rfl (p_move rfl) ?_
               refine r_val (.some rfl rfl) rfl (p_move rfl) ?_
               refine r_callo (k := 2) (vs := [_, _]) (.some rfl rfl) rfl cl14 rfl rfl (fun w F hw hA hFG => c_flost _ _ _ w hw hA hFG) ?_
               rw [(wait_N hT).2]
               refine r_val (.some rfl rfl) rfl (p_move rfl) ?_
               refine r_val (.some rfl rfl) rfl (p_ne rfl rfl) ?_
               refine r_say (d := 202) (v := Value.bool false) (congrArg (fun z => some (Value.bool z)) (decide_eq_false (fun h9 => h9 rfl))) ?_
               refine r_val .none rfl (p_pick_f rfl rfl) ?_
               refine r_nil ?_
               refine e_next ?_
               refine c_cond_f rfl ?_
               refine c_skip ?_
               refine e_norm_block ?_
               refine e_next ?_
               refine c_region ?_
               refine r_val .none rfl (p_move rfl) ?_
               refine r_val .none rfl (p_add rfl rfl (by omega)) ?_
               refine r_val .none rfl (p_assign rfl) ?_
               refine r_nil ?_
               refine e_front (k := 2) rfl ?_
               refine e_front (k := 1) rfl ?_
               refine e_front (k := 2) rfl ?_
               refine e_round (i3 + 1) ⟨by omega, by omega⟩ rfl ⟨rfl, rfl, rfl, rfl, rfl, rfl, trivial⟩ (.keep (fun _ _ h => h) (.keep (fun _ _ h => h) (.keep (fun _ _ h => h) (.nil))))
              | true =>
               obtain ⟨k, hN, hkl⟩ := there_k hT
               refine r_callo (k := 0) (vs := [_, _]) .none rfl cl16 rfl rfl (fun w F hw hA hFG => rf_see (R := fun r => r = _) (fun G' lv l hle hS h1 h2 ho hG => c_xthere _ lv _ l _ hS h1 h2 ho w hG) hw hA hFG) ?_
               refine r_say (d := 172) (v := Value.bool true) (congrArg (fun z => some (Value.bool z)) (hT)) ?_
               refine r_unex (fun l => ?_)
               refine r_unand (fun hS => ?_)
               refine r_unpack ?_
               refine r_unex (fun lv => ?_)
               refine r_unpack ?_
               refine r_row1 (k := 1) rfl (fun o1 => ?_)
               have hlS : (S2).length = l.length := by rw [hS, List.length_map]
               refine r_rowblk (k := 1) rfl (by omega) (fun lb lc hvl hcl => ?_)
               have hgk : (l.getD k l0).2 = (S2).getD k rs0 := by rw [← getD_snd (by omega), hS]
               refine r_front (k := 2) rfl ?_
               refine r_pickI (rowF 60) l0 (i := k) (by omega) ?_
               refine r_nil ?_
               refine e_next ?_
               refine c_cond_t rfl ?_
               refine c_region_q mixed (by kernel_rfl) ?_
               refine q_val .none rfl (p_move rfl) ?_
               refine q_val .none rfl (p_nilcheck rfl) ?_
               refine q_val .none rfl (p_field Try.underlying47 rfl sz45 rfl) ?_
               refine q_val .none rfl (p_ld (k := 2) Try.underlying45 rfl rfl rfl (by first | exact of_decide_eq_true rfl | omega) rfl) ?_
               refine q_val .none rfl (p_move rfl) ?_
               refine q_val .none rfl (p_sub rfl rfl (by omega)) ?_
               rw [show (i3 : Int) - 1 = ((k : Nat) : Int) by omega]
               refine q_val .none rfl (iaddr_o Try.underlying45 sz55 rfl hvl rfl (by first | exact of_decide_eq_true rfl | omega)) ?_
               refine q_val .none rfl (p_field Try.underlying55 rfl sz53 rfl) ?_
               refine q_val .none rfl (p_ldo (k := 3) (j := 0) Try.underlying53 rfl rfl hvl rfl (by first | exact of_decide_eq_true rfl | omega) (by first | exact of_decide_eq_true rfl | omega) ((flatMap_get (cells := lstC) (fun _ => rfl) l0 _ _ _ (by first | exact of_decide_eq_true rfl | omega) (by first | exact of_decide_eq_true rfl | omega)).trans rfl)) ?_
               refine q_val .none rfl (p_lenO (k := 0) Try.underlying53 rfl rfl) ?_
               refine q_val .none rfl (p_move rfl) ?_
               refine q_val .none rfl (p_nilcheck rfl) ?_
               refine q_val .none rfl (p_field Try.underlying47 rfl sz45 rfl) ?_
               refine q_val .none rfl (p_ld (k := 2) Try.underlying45 rfl rfl rfl (by first | exact of_decide_eq_true rfl | omega) rfl) ?_
               refine q_val .none rfl (p_move rfl) ?_
               refine q_val .none rfl (p_sub rfl rfl (by omega)) ?_
               rw [show (i3 : Int) - 1 = ((k : Nat) : Int) by omega]
               refine q_val .none rfl (iaddr_o Try.underlying45 sz55 rfl hvl rfl (by first | exact of_decide_eq_true rfl | omega)) ?_
               refine q_val .none rfl (p_field Try.underlying55 rfl sz3 rfl) ?_
               refine q_val .none rfl (p_ldo (k := 3) (j := 2) Try.underlying3 rfl rfl hvl rfl (by first | exact of_decide_eq_true rfl | omega) (by first | exact of_decide_eq_true rfl | omega) ((flatMap_get (cells := lstC) (fun _ => rfl) l0 _ _ _ (by first | exact of_decide_eq_true rfl | omega) (by first | exact of_decide_eq_true rfl | omega)).trans (rfl : _ = Value.int _ _))) ?_
               refine q_val .none rfl (p_assign rfl) ?_
               refine q_val .none rfl (p_assign rfl) ?_
               refine q_nil ?_
               refine e_next ?_
               refine c_seq ?_
               refine c_region ?_
               refine r_val .none rfl (p_move rfl) ?_
               refine r_val .none rfl (p_move rfl) ?_
               refine r_callo (k := 5) (vs := [_, _]) .none rfl cl13 rfl rfl (fun w F hw hA hFG => c_fwaits _ _ _ w hw hA hFG) ?_
               rw [(wait_R2 hT hN).1]
               refine r_val .none rfl (p_move rfl) ?_
               refine r_val .none rfl (p_ne rfl rfl) ?_
               refine r_say (d := 196) (v := Value.bool false) (congrArg (fun z => some (Value.bool z)) (decide_eq_false (fun h9 => h9 (by rw [hgk])))) ?_
               refine r_val .none rfl (p_move rfl) ?_
               refine r_val (.some rfl rfl) rfl (p_move rfl) ?_
               refine r_val (.some rfl rfl) rfl (p_move rfl) ?_
               refine r_callo (k := 5) (vs := [_, _]) (.some rfl rfl) rfl cl14 rfl rfl (fun w F hw hA hFG => c_flost _ _ _ w hw hA hFG) ?_
               rw [(wait_R2 hT hN).2]
               refine r_val (.some rfl rfl) rfl (p_move rfl) ?_
               refine r_val (.some rfl rfl) rfl (p_ne rfl rfl) ?_
               refine r_say (d := 202) (v := Value.bool false) (congrArg (fun z => some (Value.bool z)) (decide_eq_false (fun h9 => h9 (by rw [hgk])))) ?_
               refine r_val .none rfl (p_pick_f rfl rfl) ?_
               refine r_nil ?_
               refine e_next ?_
               refine c_cond_f rfl ?_
               refine c_skip ?_
               refine e_norm_block ?_
               refine e_next ?_
               refine c_region ?_
               refine r_val .none rfl (p_move rfl) ?_
               refine r_val .none rfl (p_add rfl rfl (by omega)) ?_
               refine r_val .none rfl (p_assign rfl) ?_
               refine r_nil ?_
               refine e_front (k := 1) rfl ?_
               refine e_front (k := 1) rfl ?_
               refine e_putI (rowF 60) (l.getD k l0) (by omega) ?_
               rw [set_getD (by omega)]
               refine e_front (k := 2) rfl ?_
               refine e_front (k := 2) rfl ?_
               refine e_rfclose (S := S2) hS ?_
               refine e_front (k := 2) rfl ?_
               refine e_front (k := 1) rfl ?_
               refine e_front (k := 2) rfl ?_
               refine e_round (i3 + 1) ⟨by omega, by omega⟩ rfl ⟨rfl, rfl, rfl, rfl, rfl, rfl, trivial⟩ (.keep (fun _ _ h => h) (.keep (fun _ _ h => h) (.keep (fun _ _ h => h) (.nil))))
              )
           ·
            have hi3 : S2.length + 1 < i3 := by (have h9 := h_29; omega)
            first
             | (exfalso; first | omega | assumption)
             | (
              refine c_cond_f rfl ?_
              refine c_exit ?_
              refine e_exit_then ?_
              refine e_exit_then ?_
              refine e_exit_block ?_
              refine e_norm_block ?_
              refine e_next ?_
              refine c_region ?_
              refine r_val .none rfl (p_add rfl rfl (by omega)) ?_
              refine r_val .none rfl (p_move rfl) ?_
              refine r_nil ?_
              refine e_front (k := 2) rfl ?_
              refine e_front (k := 1) rfl ?_
              refine e_round ((j + 1, S2, _)) ⟨⟨⟨by dsimp only; omega, hI2⟩, (hgn.trans hgq)⟩, by dsimp only; omega⟩ rfl ⟨rfl, rfl, rfl, rfl, rfl, trivial⟩ (.keep (fun _ _ h => h) (.keep (fun _ _ h => h) (.drop (.nil))))
              )
          ·
           subst hu_16
           subst hu_17
           subst hu_18
           subst hu_19
           subst hu_20
           subst hA_21
           refine c_block ?_
           refine c_seq ?_
           refine c_region ?_
           refine r_val .none rfl (p_eq rfl rfl) ?_
           refine r_val .none rfl (p_assign rfl) ?_
           refine r_nil ?_
           refine e_next ?_
           refine c_splitd (d := 51) rfl (fun h_30 => ?_) (fun h_30 => ?_)
           ·
            first
             | (exfalso; first | omega | assumption)
             | (
              refine c_cond_t rfl ?_
              refine c_seq ?_
              refine c_region ?_
              refine r_val .none rfl (p_move rfl) ?_
              refine r_val .none rfl (p_field Try.underlying49 rfl sz3 rfl) ?_
              refine r_val .none rfl (p_ld (k := 0) Try.underlying3 rfl rfl rfl (by first | exact of_decide_eq_true rfl | omega) (rfl : _ = Value.int _ _)) ?_
              refine r_callo (k := 2) (vs := [_, _]) .none rfl cl9 rfl rfl (fun w F hw hA hFG => c_fopen _ (os.getD j o0).1.2.1 (stF S) stF_hk (stF_hla (by omega)) w hw hA hFG) ?_
              rw [openI_R, openE_R, openS_R]
              refine r_val .none rfl (p_move rfl) ?_
              refine r_val .none rfl (p_extract rfl rfl) ?_
              refine r_val .none rfl (p_extract rfl rfl) ?_
              refine r_val .none rfl (p_assign rfl) ?_
              refine r_val .none rfl (p_assign rfl) ?_
              refine r_nil ?_
              refine e_next ?_
              refine c_seq ?_
              refine c_region ?_
              refine r_val .none rfl (p_move rfl) ?_
              refine r_val .none rfl (p_field Try.underlying49 rfl sz3 rfl) ?_
              refine r_val .none rfl (p_ld (k := 0) Try.underlying3 rfl rfl rfl (by first | exact of_decide_eq_true rfl | omega) (rfl : _ = Value.int _ _)) ?_
              refine r_callo (k := 1) (vs := [_, _]) .none rfl cl15 rfl rfl (fun w F hw hA hFG => c_xopen21 _ (os.getD j o0).1.2.1 S (by omega) w hw hA hFG) ?_
              refine r_val .none rfl (p_move rfl) ?_
              refine r_val .none rfl (p_extract rfl rfl) ?_
              refine r_val .none rfl (p_extract rfl rfl) ?_
              refine r_val .none rfl (p_assign rfl) ?_
              refine r_val .none rfl (p_assign rfl) ?_
              refine r_nil ?_
              refine e_next ?_
              refine c_seq ?_
              refine c_region ?_
              refine r_val .none rfl (p_move rfl) ?_
              refine r_val .none rfl (p_move rfl) ?_
              refine r_val .none rfl (p_ne rfl rfl) ?_
              refine r_say (d := 69) (v := Value.bool false) (congrArg (fun z => some (Value.bool z)) (decide_eq_false (fun h9 => h9 rfl))) ?_
              refine r_val .none rfl (p_move rfl) ?_
              refine r_val (.some rfl rfl) rfl (p_move rfl) ?_
              refine r_val (.some rfl rfl) rfl (p_move rfl) ?_
              refine r_val (.some rfl rfl) rfl (p_ne rfl rfl) ?_
              refine r_say (d := 73) (v := Value.bool false) (congrArg (fun z => some (Value.bool z)) (decide_eq_false (fun h9 => h9 rfl))) ?_
              refine r_val .none rfl (p_pick_f rfl rfl) ?_
              refine r_nil ?_
              refine e_next ?_
              refine c_cond_f rfl ?_
              refine c_skip ?_
              refine e_norm_block ?_
              refine e_front (k := 2) rfl ?_
              refine e_front (k := 2) rfl ?_
              refine e_front (k := 2) rfl ?_
              refine e_round ((openR S (os.getD j o0).1.2.1, _)) ⟨⟨hI.open_ (os.getD j o0).1.2.1, (GNew.refl _ _ _)⟩, trivial⟩ rfl ⟨rfl, rfl, rfl, rfl, rfl, trivial⟩ (.keep (fun _ _ h => h) (.keep (fun _ _ h => h) (.keep (fun _ _ h => h) (.nil))))
              )
           ·
            first
             | (exfalso; first | omega | assumption)
             | (
              refine c_cond_f rfl ?_
              refine c_seq ?_
              refine c_region ?_
              refine r_val .none rfl (p_eq rfl rfl) ?_
              refine r_val .none rfl (p_assign rfl) ?_
              refine r_nil ?_
              refine e_next ?_
              refine c_splitd (d := 75) rfl (fun h_31 => ?_) (fun h_31 => ?_)
              ·
               first
                | (exfalso; first | omega | assumption)
                | (
                 refine c_cond_t rfl ?_
                 refine c_seq ?_
                 refine c_region ?_
                 refine r_val .none rfl (p_move rfl) ?_
                 refine r_val .none rfl (p_field Try.underlying49 rfl sz3 rfl) ?_
                 refine r_val .none rfl (p_ld (k := 0) Try.underlying3 rfl rfl rfl (by first | exact of_decide_eq_true rfl | omega) (rfl : _ = Value.int _ _)) ?_
                 cases hT : thereR S (os.getD j o0).1.2.1 with
                 | false =>
                  skip
                  refine r_callo (k := 1) (vs := [_, _]) .none rfl cl16 rfl rfl (fun w F hw hA hFG => rf_see (R := fun r => r = _) (fun G' lv l hle hS h1 h2 ho hG => c_xthere _ lv _ l _ hS h1 h2 ho w hG) hw hA hFG) ?_
                  refine r_say (d := 80) (v := Value.bool false) (congrArg (fun z => some (Value.bool z)) (hT)) ?_
                  refine r_val .none rfl (p_assign rfl) ?_
                  refine r_nil ?_
                  refine e_next ?_
                  refine c_seq ?_
                  refine c_seq ?_
                  refine c_region ?_
                  refine r_val .none rfl (p_move rfl) ?_
                  refine r_nil ?_
                  refine e_next ?_
                  refine c_cond_f rfl ?_
                  refine c_skip ?_
                  refine e_next ?_
                  refine c_seq ?_
                  refine c_region ?_
                  refine r_val .none rfl (p_move rfl) ?_
                  refine r_val .none rfl (p_field Try.underlying49 rfl sz3 rfl) ?_
                  refine r_val .none rfl (p_ld (k := 0) Try.underlying3 rfl rfl rfl (by first | exact of_decide_eq_true rfl | omega) (rfl : _ = Value.int _ _)) ?_
                  refine r_callo (k := 2) (vs := [_, _]) .none rfl cl17 rfl rfl (fun w F hw hA hFG => c_fclose _ _ _ w hw hA hFG) ?_
                  rw [if_neg (is_N hT), cls_N hT]
                  refine r_say (d := 94) (v := Value.int .i64 16) rfl ?_
                  refine r_val .none rfl (p_assign rfl) ?_
                  refine r_nil ?_
                  refine e_next ?_
                  refine c_seq ?_
                  refine c_region ?_
                  refine r_val .none rfl (p_move rfl) ?_
                  refine r_val .none rfl (p_eq rfl rfl) ?_
                  refine r_say (d := 96) (v := Value.bool false) rfl ?_
                  refine r_val .none rfl (p_move rfl) ?_
                  refine r_val .none rfl (p_neb Try.underlying4 rfl rfl) ?_
                  refine r_say (d := 98) (v := Value.bool false) (congrArg (fun z => some (Value.bool z)) (rfl)) ?_
                  refine r_val .none rfl (p_move rfl) ?_
                  refine r_val (.some rfl rfl) rfl (p_move rfl) ?_
                  refine r_val (.some rfl rfl) rfl (p_not rfl) ?_
                  refine r_say (d := 101) (v := Value.bool true) rfl ?_
                  refine r_val (.some rfl rfl) rfl (p_move rfl) ?_
                  refine r_val (.some rfl rfl) rfl (p_move rfl) ?_
                  refine r_val (.some rfl rfl) rfl (p_ne rfl rfl) ?_
                  refine r_say (d := 104) (v := Value.bool false) rfl ?_
                  refine r_val (.some rfl rfl) rfl (p_pick_t rfl rfl) ?_
                  refine r_val .none rfl (p_pick_f rfl rfl) ?_
                  refine r_nil ?_
                  refine e_next ?_
                  refine c_cond_f rfl ?_
                  refine c_skip ?_
                  refine e_norm_block ?_
                  refine e_front (k := 2) rfl ?_
                  refine e_front (k := 2) rfl ?_
                  refine e_front (k := 2) rfl ?_
                  refine e_round ((S, _)) ⟨⟨hI.grow, (GNew.refl _ _ _)⟩, trivial⟩ rfl ⟨rfl, rfl, rfl, rfl, rfl, trivial⟩ (.keep (fun _ _ h => h) (.keep (fun _ _ h => h) (.keep (fun _ _ h => h) (.nil))))
                 | true =>
                  obtain ⟨k, hN, hkl⟩ := there_k hT
                  refine r_callo (k := 1) (vs := [_, _]) .none rfl cl16 rfl rfl (fun w F hw hA hFG => rf_see (R := fun r => r = _) (fun G' lv l hle hS h1 h2 ho hG => c_xthere _ lv _ l _ hS h1 h2 ho w hG) hw hA hFG) ?_
                  refine r_say (d := 80) (v := Value.bool true) (congrArg (fun z => some (Value.bool z)) (hT)) ?_
                  refine r_val .none rfl (p_assign rfl) ?_
                  refine r_nil ?_
                  refine e_next ?_
                  refine c_seq ?_
                  refine c_seq ?_
                  refine c_region ?_
                  refine r_val .none rfl (p_move rfl) ?_
                  refine r_front (k := 1) rfl ?_
                  refine r_unex (fun l => ?_)
                  refine r_unand (fun hS => ?_)
                  refine r_unpack ?_
                  refine r_unex (fun lv => ?_)
                  refine r_unpack ?_
                  refine r_row1 (k := 1) rfl (fun o1 => ?_)
                  have hlS : (S).length = l.length := by rw [hS, List.length_map]
                  refine r_rowblk (k := 1) rfl (by omega) (fun lb lc hvl hcl => ?_)
                  refine r_nil ?_
                  refine e_next ?_
                  refine c_cond_t rfl ?_
                  refine c_region_d (fun j => [9].contains j) _ mixed (.keep (fun _ _ h => h) (.keep (fun _ _ h => h) (.keep (fun _ _ h => h) (.keep (fun _ _ h => h) (.keep (fun _ _ h => h) (.nil)))))) ?_
                  refine d_val1 0 rfl rfl (by kernel_rfl) (fun j hj => by have h : 9 < j := (Nat.lt_of_lt_of_le (by decide : 9 < 10) hj); simp; omega) .none rfl (p_move rfl) ?_
                  refine d_val1 1 rfl rfl (by kernel_rfl) (fun j hj => by have h : 9 < j := (Nat.lt_of_lt_of_le (by decide : 9 < 10) hj); simp; omega) .none rfl (p_nilcheck rfl) ?_
                  refine d_val1 2 rfl rfl (by kernel_rfl) (fun j hj => by have h : 9 < j := (Nat.lt_of_lt_of_le (by decide : 9 < 10) hj); simp; omega) .none rfl (p_field Try.underlying47 rfl sz45 rfl) ?_
                  refine d_val1 3 rfl rfl (by kernel_rfl) (fun j hj => by have h : 9 < j := (Nat.lt_of_lt_of_le (by decide : 9 < 10) hj); simp; omega) .none rfl (p_ld (k := 0) Try.underlying45 rfl rfl rfl (by first | exact of_decide_eq_true rfl | omega) rfl) ?_
                  refine d_val1 4 rfl rfl (by kernel_rfl) (fun j hj => by have h : 9 < j := (Nat.lt_of_lt_of_le (by decide : 9 < 10) hj); simp; omega) .none rfl (p_field Try.underlying49 rfl sz3 rfl) ?_
                  refine d_val1 5 rfl rfl (by kernel_rfl) (fun j hj => by have h : 9 < j := (Nat.lt_of_lt_of_le (by decide : 9 < 10) hj); simp; omega) .none rfl (p_ld (k := 3) Try.underlying3 rfl rfl rfl (by first | exact of_decide_eq_true rfl | omega) (rfl : _ = Value.int _ _)) ?_
                  refine d_val1 6 rfl rfl (by kernel_rfl) (fun j hj => by have h : 9 < j := (Nat.lt_of_lt_of_le (by decide : 9 < 10) hj); simp; omega) .none rfl (p_sub rfl rfl (by omega)) ?_
                  rw [show (os.getD j o0).1.2.1 - 1 = ((k : Nat) : Int) by omega]
                  refine d_val1 7 rfl rfl (by kernel_rfl) (fun j hj => by have h : 9 < j := (Nat.lt_of_lt_of_le (by decide : 9 < 10) hj); simp; omega) .none rfl (iaddr_o Try.underlying45 sz55 rfl hvl rfl (by first | exact of_decide_eq_true rfl | omega)) ?_
                  refine d_val1 8 rfl rfl (by kernel_rfl) (fun j hj => by have h : 9 < j := (Nat.lt_of_lt_of_le (by decide : 9 < 10) hj); simp; omega) .none rfl (p_field Try.underlying55 rfl sz3 rfl) ?_
                  refine d_eff 9 rfl (by kernel_rfl) (fun K_32 hKK_32 hcK_32 => ?_)
                  refine r_sto (k := 1) (i := k * 4 + 3) (vs := [b01 false]) .none sz3 rfl rfl rfl (fun z hz => by rw [List.mem_singleton.1 hz]; rfl) rfl hvl (by simp only [List.length_singleton]; omega) ?_
                  refine r_conv (B := rowA lv 55 4 (l.set k ((l.getD k l0).1, (((l.getD k l0).2.1, (l.getD k l0).2.2.1, false, (l.getD k l0).2.2.2.2) : RS))).length ((l.set k ((l.getD k l0).1, (((l.getD k l0).2.1, (l.getD k l0).2.2.1, false, (l.getD k l0).2.2.2.2) : RS))).flatMap lstC)) (k := 1) rfl (fun _ _ h => rowA_congr (List.length_set.symm) (by rw [put_c3 (by omega)]) _ _ h) ?_
                  dsimp only [List.set_cons_zero, List.set_cons_succ]
                  refine r_nil (e_d (i := 9) (brk := (fun j => [9].contains j)) (ph' := false) hKK_32 hcK_32 rfl (fun h => by cases h) (fun h => by cases h) ?_)
                  clear hKK_32 hcK_32 K_32
                  refine d_nil (by kernel_rfl) ?_
                  refine e_next ?_
                  refine c_seq ?_
                  refine c_region ?_
                  rw [← rows_set (TN := 60) (l := l) (k := k) (y := ((l.getD k l0).1, (((l.getD k l0).2.1, (l.getD k l0).2.2.1, false, (l.getD k l0).2.2.2.2) : RS))) rfl]
                  refine r_front (k := 2) rfl ?_
                  refine r_front (k := 2) rfl ?_
                  refine r_front (k := 2) rfl ?_
                  refine r_rfclose (S := clsR S k) (by rw [List.map_set, ← hS]; unfold clsR; rw [show S.getD k rs0 = (l.getD k l0).2 by rw [hS, getD_snd (by omega)]]) ?_
                  refine r_val .none rfl (p_move rfl) ?_
                  refine r_val .none rfl (p_field Try.underlying49 rfl sz3 rfl) ?_
                  refine r_val .none rfl (p_ld (k := 1) Try.underlying3 rfl rfl rfl (by first | exact of_decide_eq_true rfl | omega) (rfl : _ = Value.int _ _)) ?_
                  refine r_callo (k := 2) (vs := [_, _]) .none rfl cl17 rfl rfl (fun w F hw hA hFG => c_fclose _ _ _ w hw hA hFG) ?_
                  rw [if_pos (is_R hT), cls_R2 hT hN]
                  refine r_say (d := 94) (v := Value.int .i64 0) rfl ?_
                  refine r_val .none rfl (p_assign rfl) ?_
                  refine r_nil ?_
                  refine e_next ?_
                  refine c_seq ?_
                  refine c_region ?_
                  refine r_val .none rfl (p_move rfl) ?_
                  refine r_val .none rfl (p_eq rfl rfl) ?_
                  refine r_say (d := 96) (v := Value.bool true) rfl ?_
                  refine r_val .none rfl (p_move rfl) ?_
                  refine r_val .none rfl (p_neb Try.underlying4 rfl rfl) ?_
                  refine r_say (d := 98) (v := Value.bool false) (congrArg (fun z => some (Value.bool z)) (rfl)) ?_
                  refine r_val .none rfl (p_move rfl) ?_
                  refine r_val (.some rfl rfl) rfl (p_move rfl) ?_
                  refine r_val (.some rfl rfl) rfl (p_not rfl) ?_
                  refine r_say (d := 101) (v := Value.bool false) rfl ?_
                  refine r_val (.some rfl rfl) rfl (p_move rfl) ?_
                  refine r_skip rfl (.no rfl rfl) ?_
                  refine r_skip rfl (.no rfl rfl) ?_
                  refine r_val (.some rfl rfl) rfl (p_pick_f rfl rfl) ?_
                  refine r_val .none rfl (p_pick_f rfl rfl) ?_
                  refine r_nil ?_
                  refine e_next ?_
                  refine c_cond_f rfl ?_
                  refine c_skip ?_
                  refine e_norm_block ?_
                  refine e_front (k := 2) rfl ?_
                  refine e_front (k := 1) rfl ?_
                  refine e_front (k := 2) rfl ?_
                  refine e_round ((clsR S k, _)) ⟨⟨hI.cls hkl, (GNew.refl _ _ _)⟩, trivial⟩ rfl ⟨rfl, rfl, rfl, rfl, rfl, trivial⟩ (.keep (fun _ _ h => h) (.keep (fun _ _ h => h) (.keep (fun _ _ h => h) (.nil))))
                 )
              ·
               first
                | (exfalso; first | omega | assumption)
                | (
                 refine c_cond_f rfl ?_
                 refine c_seq ?_
                 refine c_region ?_
                 refine r_val .none rfl (p_eq rfl rfl) ?_
                 refine r_val .none rfl (p_assign rfl) ?_
                 refine r_nil ?_
                 refine e_next ?_
                 refine c_splitd (d := 107) rfl (fun h_33 => ?_) (fun h_33 => ?_)
                 ·
                  first
                   | (exfalso; first | omega | assumption)
                   | (
                    refine c_cond_t rfl ?_
                    refine c_seq ?_
                    refine c_region_d (fun _ => false) _ mixed (.keep (fun _ _ h => h) (.drop (.drop (.nil)))) ?_
                    refine d_val1 0 rfl rfl (by kernel_rfl) (fun _ _ => rfl) .none rfl (p_move rfl) ?_
                    refine d_val1 1 rfl rfl (by kernel_rfl) (fun _ _ => rfl) .none rfl (p_field Try.underlying49 rfl sz36 rfl) ?_
                    refine d_val1 2 rfl rfl (by kernel_rfl) (fun _ _ => rfl) .none rfl (p_lda (k := 0) Try.underlying36 rfl sz36 rfl rfl (by first | exact of_decide_eq_true rfl | omega) (rfl : _ = Value.agg #[_, _, _])) ?_
                    refine d_val1 4 rfl rfl (by kernel_rfl) (fun _ _ => rfl) .none rfl (p_move rfl) ?_
                    refine d_val1 5 rfl rfl (by kernel_rfl) (fun _ _ => rfl) .none rfl (p_field Try.underlying49 rfl sz36 rfl) ?_
                    refine d_val1 6 rfl rfl (by kernel_rfl) (fun _ _ => rfl) .none rfl (p_lda (k := 0) Try.underlying36 rfl sz36 rfl rfl (by first | exact of_decide_eq_true rfl | omega) (rfl : _ = Value.agg #[_, _, _])) ?_
                    refine d_eff 3 rfl (by kernel_rfl) (fun K_34 hKK_34 hcK_34 => ?_)
                    refine r_callo (k := 2) (vs := [_, _]) .none rfl cl10 rfl rfl (fun w F hw hA hFG => c_fsend _ (os.getD j o0).1.2.2.1 (os.getD j o0).1.2.2.2.1 (os.getD j o0).2 (os.getD j o0).1.2.2.2.2 (stF S) hq_13 (by omega) stF_nd (stF_ln (by omega)) (hI.hlb (by omega)) w hw hA hFG) ?_
                    refine r_nil (e_d (i := 3) (brk := (fun _ => false)) (ph' := true) hKK_34 hcK_34 rfl (fun _ => GLe.refl _) (fun _ => .keep (fun _ _ h => h) (.drop (.drop (.nil)))) ?_)
                    clear hKK_34 hcK_34 K_34
                    rw [have_R]
                    refine d_eff 7 rfl (by kernel_rfl) (fun K_35 hKK_35 hcK_35 => ?_)
                    refine r_callm (vs := [_]) .none rfl cl19 rfl (fun w hw => c_lref21 (os.getD j o0).1.2.2.1 (os.getD j o0).1.2.2.2.1 (os.getD j o0).2 (os.getD j o0).1.2.2.2.2 hq_13 (by omega) w hw) (fun G_36 v_39 hn_37 hr_38 => ?_)
                    replace hs := hs.mono hn_37.le
                    replace hf := fun p hm0 => (hf p hm0).mono hn_37.le
                    replace hI := InvP.mono hI hn_37.le
                    replace R_10 := R_10.mono hn_37.le
                    replace hq_13 := hq_13.mono hn_37.le
                    obtain ⟨u_40, rfl, u_40s⟩ := hr_38
                    refine r_nil (e_d (i := 7) (brk := (fun _ => false)) (ph' := true) hKK_35 hcK_35 rfl (fun _ => hn_37.le) (fun _ => .keep (fun _ _ h => h) (.drop (.drop (.nil)))) ?_)
                    clear hKK_35 hcK_35 K_35
                    refine d_eff 8 rfl (by kernel_rfl) (fun K_41 hKK_41 hcK_41 => ?_)
                    refine r_callo (k := 1) (vs := [_, _]) .none rfl cl18 rfl rfl (fun w F hw hA hFG => c_xsend21 _ (os.getD j o0).1.2.2.1 (os.getD j o0).1.2.2.2.1 u_40 (os.getD j o0).1.2.2.2.2 S u_40s (by omega) (hI.bnd2 (by omega)) w hw hA hFG) ?_
                    refine r_nil (e_d (i := 8) (brk := (fun _ => false)) (ph' := true) hKK_41 hcK_41 rfl (fun _ => hn_37.le) (fun _ => .keep (fun _ _ h => h) (.drop (.drop (.nil)))) ?_)
                    clear hKK_41 hcK_41 K_41
                    rw [show (sendF ((os.getD j o0).1.2.2.1, (os.getD j o0).1.2.2.2.1, (os.getD j o0).1.2.2.2.2) (stF S).1, (stF S).2) = stF (S.map (sendR1 (u_40, (os.getD j o0).1.2.2.1, (os.getD j o0).1.2.2.2.1, (os.getD j o0).1.2.2.2.2))) from send_R (x := (u_40, (os.getD j o0).1.2.2.1, (os.getD j o0).1.2.2.2.1, (os.getD j o0).1.2.2.2.2))]
                    refine d_val1 9 rfl rfl (by kernel_rfl) (fun _ _ => rfl) .none rfl (p_ne rfl rfl) ?_
                    refine d_say (d := 118) (v := Value.bool false) (congrArg (fun z => some (Value.bool z)) (decide_eq_false (fun h9 => h9 rfl))) ?_
                    refine d_nil (by kernel_rfl) ?_
                    refine e_next ?_
                    refine c_cond_f rfl ?_
                    refine c_skip ?_
                    refine e_norm_block ?_
                    refine e_front (k := 2) rfl ?_
                    refine e_front (k := 2) rfl ?_
                    refine e_front (k := 2) rfl ?_
                    refine e_round ((S.map (sendR1 (u_40, (os.getD j o0).1.2.2.1, (os.getD j o0).1.2.2.2.1, (os.getD j o0).1.2.2.2.2)), _)) ⟨⟨hI.send u_40s (by dsimp only; omega), hn_37⟩, trivial⟩ rfl ⟨rfl, rfl, rfl, rfl, rfl, trivial⟩ (.keep (fun _ _ h => h) (.keep (fun _ _ h => h) (.keep (fun _ _ h => h) (.nil))))
                    )
                 ·
                  first
                   | (exfalso; first | omega | assumption)
                   | (
                    refine c_cond_f rfl ?_
                    refine c_seq ?_
                    refine c_region ?_
                    refine r_val .none rfl (p_eq rfl rfl) ?_
                    refine r_val .none rfl (p_assign rfl) ?_
                    refine r_nil ?_
                    refine e_next ?_
                    refine c_splitd (d := 119) rfl (fun h_42 => ?_) (fun h_42 => ?_)
                    ·
                     first
                      | (exfalso; first | omega | assumption)
                      | (
                       refine c_cond_t rfl ?_
                       refine c_seq ?_
                       refine c_region ?_
                       refine r_val .none rfl (p_move rfl) ?_
                       refine r_val .none rfl (p_field Try.underlying49 rfl sz3 rfl) ?_
                       refine r_val .none rfl (p_ld (k := 0) Try.underlying3 rfl rfl rfl (by first | exact of_decide_eq_true rfl | omega) (rfl : _ = Value.int _ _)) ?_
                       rcases take_case S (os.getD j o0).1.2.1 with ⟨k, x, t, hN, hkl, hT, hit⟩ | h0
                       ·
                        obtain ⟨hx1, hx2⟩ := hI.ids _ (getD_memR hkl) x (by rw [hit]; exact List.mem_cons_self ..)
                        refine r_front (k := 2) rfl ?_
                        refine r_callov (k := 0) (vs := [_, _]) (u := fun v => .tuple #[.agg #[.bool x.2.1, .string x.2.2.1, v], .bool true]) .none rfl cl11 rfl rfl (fun w F hw hA hFG => c_ftake1 _ (os.getD j o0).1.2.1 _ _ x.2 (t.map (·.2)) (stF S) (tk_at2 hT hN hit) w hw hA hFG) (fun tv_43 => ?_)
                        refine r_unpack ?_
                        refine r_freeze (k := 0) rfl (fun G_44 hn_45 hs_46 => ?_)
                        replace hs := hs.mono hn_45.le
                        replace hf := fun p hm0 => (hf p hm0).mono hn_45.le
                        replace hI := InvP.mono hI hn_45.le
                        replace R_10 := R_10.mono hn_45.le
                        replace hq_13 := hq_13.mono hn_45.le
                        replace hx1 := hx1.mono hn_45.le
                        have ht1 : SlL G_44 tv_43 1 cI (0 : Int) x.2.2.2 := SlL.of (cells := cI) (0 : Int) (fun _ => rfl) rfl hs_46
                        rw [tk_R2 hT hN]
                        refine r_val .none rfl (p_move rfl) ?_
                        refine r_val .none rfl (p_extract rfl rfl) ?_
                        refine r_val .none rfl (p_extract rfl rfl) ?_
                        refine r_alloc .none rfl zr36 (IsRow.lit _) (fun b_3 => ?_)
                        refine r_stw (k := 0) .none sz36 rfl rfl (IsRow.lit _) (one_lit rfl (all_cons rfl (all_cons rfl (all_cons (ht1).one rfl)))) rfl ?_
                        refine r_val .none rfl (p_assign rfl) ?_
                        refine r_nil ?_
                        refine e_next ?_
                        refine c_seq ?_
                        refine c_region ?_
                        refine r_val .none rfl (p_move rfl) ?_
                        refine r_val .none rfl (p_field Try.underlying49 rfl sz3 rfl) ?_
                        refine r_val .none rfl (p_ld (k := 2) Try.underlying3 rfl rfl rfl (by first | exact of_decide_eq_true rfl | omega) (rfl : _ = Value.int _ _)) ?_
                        refine r_front (k := 3) rfl ?_
                        refine r_callo (k := 0) (vs := [_, _]) .none rfl cl20 rfl rfl (fun w F hw hA hFG => c_xtake1x _ (os.getD j o0).1.2.1 S k x t hN (by omega) hT hit hx1 w hw hA hFG) ?_
                        refine r_val .none rfl (p_move rfl) ?_
                        refine r_val .none rfl (p_extract rfl rfl) ?_
                        refine r_val .none rfl (p_extract rfl rfl) ?_
                        refine r_alloc .none rfl zr60 (IsRow.lit _) (fun b_4 => ?_)
                        refine r_stw (k := 0) .none sz60 rfl rfl (IsRow.lit _) (one_lit rfl (all_cons rfl (all_cons rfl (all_cons (hx1).one rfl)))) rfl ?_
                        refine r_val .none rfl (p_assign rfl) ?_
                        refine r_nil ?_
                        refine e_next ?_
                        refine c_seq ?_
                        refine c_region ?_
                        refine r_val .none rfl (p_ldw (k := 2) Try.underlying36 rfl sz36 rfl rfl (rfl : _ = Value.agg #[_, _, _])) ?_
                        refine r_callm (vs := [_]) .none rfl cl19 rfl (fun w hw => c_lref21 x.2.1 x.2.2.1 _ x.2.2.2 ht1 hx2 w hw) (fun G_47 v_50 hn_48 hr_49 => ?_)
                        replace hs := hs.mono hn_48.le
                        replace hf := fun p hm0 => (hf p hm0).mono hn_48.le
                        replace hI := InvP.mono hI hn_48.le
                        replace R_10 := R_10.mono hn_48.le
                        replace hq_13 := hq_13.mono hn_48.le
                        replace hx1 := hx1.mono hn_48.le
                        replace ht1 := ht1.mono hn_48.le
                        obtain ⟨u_51, rfl, u_51s⟩ := hr_49
                        refine r_alloc .none rfl zr60 (IsRow.lit _) (fun b_5 => ?_)
                        refine r_stw (k := 0) .none sz60 rfl rfl (IsRow.lit _) (one_lit rfl (all_cons rfl (all_cons rfl (all_cons (u_51s).one rfl)))) rfl ?_
                        refine r_nil ?_
                        refine e_next ?_
                        refine c_seq ?_
                        refine c_region ?_
                        refine r_val .none rfl (p_move rfl) ?_
                        refine r_val .none rfl (p_move rfl) ?_
                        refine r_val .none rfl (p_neb Try.underlying4 rfl rfl) ?_
                        refine r_say (d := 139) (v := Value.bool false) (congrArg (fun z => some (Value.bool z)) (rfl)) ?_
                        refine r_val .none rfl (p_move rfl) ?_
                        refine r_val (.some rfl rfl) rfl (p_field Try.underlying60 rfl sz3 rfl) ?_
                        refine r_val (.some rfl rfl) rfl (p_ld (k := 0) Try.underlying3 rfl rfl rfl (by first | exact of_decide_eq_true rfl | omega) (rfl : _ = Value.int _ _)) ?_
                        refine r_val (.some rfl rfl) rfl (p_field Try.underlying60 rfl sz3 rfl) ?_
                        refine r_val (.some rfl rfl) rfl (p_ld (k := 1) Try.underlying3 rfl rfl rfl (by first | exact of_decide_eq_true rfl | omega) (rfl : _ = Value.int _ _)) ?_
                        refine r_val (.some rfl rfl) rfl (p_ne rfl rfl) ?_
                        refine r_say (d := 145) (v := Value.bool false) (congrArg (fun z => some (Value.bool z)) (decide_eq_false (fun h9 => h9 rfl))) ?_
                        refine r_val .none rfl (p_pick_f rfl rfl) ?_
                        refine r_val .none rfl (p_move rfl) ?_
                        refine r_val (.some rfl rfl) rfl (p_field Try.underlying60 rfl sz58 rfl) ?_
                        refine r_val (.some rfl rfl) rfl (p_lda (k := 0) Try.underlying58 rfl sz58 rfl rfl (by first | exact of_decide_eq_true rfl | omega) (rfl : _ = Value.agg #[_, _])) ?_
                        refine r_val (.some rfl rfl) rfl (p_field Try.underlying60 rfl sz58 rfl) ?_
                        refine r_val (.some rfl rfl) rfl (p_lda (k := 1) Try.underlying58 rfl sz58 rfl rfl (by first | exact of_decide_eq_true rfl | omega) (rfl : _ = Value.agg #[_, _])) ?_
                        refine r_call (vs := [_, _]) (.some rfl rfl) rfl cl21 rfl (fun w hw => c_one20 _ _ _ _ _ _ u_51s hx1 w hw) ?_
                        rw [oneM_refl]
                        refine r_say (d := 152) (v := Value.bool true) (congrArg (fun z => some (Value.bool z)) (rfl)) ?_
                        refine r_val (.some rfl rfl) rfl (p_not rfl) ?_
                        refine r_say (d := 153) (v := Value.bool false) rfl ?_
                        refine r_val .none rfl (p_pick_f rfl rfl) ?_
                        refine r_nil ?_
                        refine e_next ?_
                        refine c_cond_f rfl ?_
                        refine c_skip ?_
                        refine e_norm_block ?_
                        refine e_front (k := 4) rfl ?_
                        refine e_front (k := 3) rfl ?_
                        refine e_front (k := 5) rfl ?_
                        refine e_round ((tkR S k t, _)) ⟨⟨hI.tk hkl hit, (hn_45.trans hn_48)⟩, trivial⟩ rfl ⟨rfl, rfl, rfl, rfl, rfl, trivial⟩ (.keep (fun _ _ h => h) (.keep (fun _ _ h => h) (.keep (fun _ _ h => h) (.drop (.drop (.drop (.nil)))))))
                       ·
                        refine r_front (k := 2) rfl ?_
                        refine r_callo (k := 0) (vs := [_, _]) .none rfl cl11 rfl rfl (fun w F hw hA hFG => c_ftake0 _ _ (stF S) (tk_none h0) w hw hA hFG) ?_
                        refine r_val .none rfl (p_move rfl) ?_
                        refine r_val .none rfl (p_extract rfl rfl) ?_
                        refine r_val .none rfl (p_extract rfl rfl) ?_
                        refine r_alloc .none rfl zr36 (IsRow.lit _) (fun b_6 => ?_)
                        refine r_stw (k := 0) .none sz36 rfl rfl (IsRow.lit _) (one_lit rfl rfl) rfl ?_
                        refine r_val .none rfl (p_assign rfl) ?_
                        refine r_nil ?_
                        refine e_next ?_
                        refine c_seq ?_
                        refine c_region ?_
                        refine r_val .none rfl (p_move rfl) ?_
                        refine r_val .none rfl (p_field Try.underlying49 rfl sz3 rfl) ?_
                        refine r_val .none rfl (p_ld (k := 2) Try.underlying3 rfl rfl rfl (by first | exact of_decide_eq_true rfl | omega) (rfl : _ = Value.int _ _)) ?_
                        refine r_front (k := 3) rfl ?_
                        refine r_callo (k := 0) (vs := [_, _]) .none rfl cl20 rfl rfl (fun w F hw hA hFG => c_xtake0 _ (os.getD j o0).1.2.1 S (by omega) h0 w hw hA hFG) ?_
                        refine r_val .none rfl (p_move rfl) ?_
                        refine r_val .none rfl (p_extract rfl rfl) ?_
                        refine r_val .none rfl (p_extract rfl rfl) ?_
                        refine r_alloc .none rfl zr60 (IsRow.lit _) (fun b_7 => ?_)
                        refine r_stw (k := 0) .none sz60 rfl rfl (IsRow.lit _) (one_lit rfl rfl) rfl ?_
                        refine r_val .none rfl (p_assign rfl) ?_
                        refine r_nil ?_
                        refine e_next ?_
                        refine c_seq ?_
                        refine c_region ?_
                        refine r_val .none rfl (p_ldw (k := 2) Try.underlying36 rfl sz36 rfl rfl (rfl : _ = Value.agg #[_, _, _])) ?_
                        refine r_callm (vs := [_]) .none rfl cl19 rfl (fun w hw => c_lref21 false ⟨#[]⟩ (.slice none 0 0) [] (SlG.nil _ _ _) (by simp) w hw) (fun G_52 v_55 hn_53 hr_54 => ?_)
                        replace hs := hs.mono hn_53.le
                        replace hf := fun p hm0 => (hf p hm0).mono hn_53.le
                        replace hI := InvP.mono hI hn_53.le
                        replace R_10 := R_10.mono hn_53.le
                        replace hq_13 := hq_13.mono hn_53.le
                        obtain ⟨u_56, rfl, u_56s⟩ := hr_54
                        refine r_alloc .none rfl zr60 (IsRow.lit _) (fun b_8 => ?_)
                        refine r_stw (k := 0) .none sz60 rfl rfl (IsRow.lit _) (one_lit rfl (all_cons rfl (all_cons rfl (all_cons (u_56s).one rfl)))) rfl ?_
                        refine r_nil ?_
                        refine e_next ?_
                        refine c_seq ?_
                        refine c_region ?_
                        refine r_val .none rfl (p_move rfl) ?_
                        refine r_val .none rfl (p_move rfl) ?_
                        refine r_val .none rfl (p_neb Try.underlying4 rfl rfl) ?_
                        refine r_say (d := 139) (v := Value.bool false) (congrArg (fun z => some (Value.bool z)) (rfl)) ?_
                        refine r_val .none rfl (p_move rfl) ?_
                        refine r_val (.some rfl rfl) rfl (p_field Try.underlying60 rfl sz3 rfl) ?_
                        refine r_val (.some rfl rfl) rfl (p_ld (k := 0) Try.underlying3 rfl rfl rfl (by first | exact of_decide_eq_true rfl | omega) (rfl : _ = Value.int _ _)) ?_
                        refine r_val (.some rfl rfl) rfl (p_field Try.underlying60 rfl sz3 rfl) ?_
                        refine r_val (.some rfl rfl) rfl (p_ld (k := 1) Try.underlying3 rfl rfl rfl (by first | exact of_decide_eq_true rfl | omega) (rfl : _ = Value.int _ _)) ?_
                        refine r_val (.some rfl rfl) rfl (p_ne rfl rfl) ?_
                        refine r_say (d := 145) (v := Value.bool false) (congrArg (fun z => some (Value.bool z)) (decide_eq_false (fun h9 => h9 rfl))) ?_
                        refine r_val .none rfl (p_pick_f rfl rfl) ?_
                        refine r_val .none rfl (p_move rfl) ?_
                        refine r_val (.some rfl rfl) rfl (p_field Try.underlying60 rfl sz58 rfl) ?_
                        refine r_val (.some rfl rfl) rfl (p_lda (k := 0) Try.underlying58 rfl sz58 rfl rfl (by first | exact of_decide_eq_true rfl | omega) (rfl : _ = Value.agg #[_, _])) ?_
                        refine r_val (.some rfl rfl) rfl (p_field Try.underlying60 rfl sz58 rfl) ?_
                        refine r_val (.some rfl rfl) rfl (p_lda (k := 1) Try.underlying58 rfl sz58 rfl rfl (by first | exact of_decide_eq_true rfl | omega) (rfl : _ = Value.agg #[_, _])) ?_
                        refine r_call (vs := [_, _]) (.some rfl rfl) rfl cl21 rfl (fun w hw => c_one20 _ _ _ _ _ _ u_56s (show SlL _ (.slice none 0 0) 1 cI (0 : Int) [] from SlG.nil _ _ _) w hw) ?_
                        rw [oneM_refl]
                        refine r_say (d := 152) (v := Value.bool true) (congrArg (fun z => some (Value.bool z)) (rfl)) ?_
                        refine r_val (.some rfl rfl) rfl (p_not rfl) ?_
                        refine r_say (d := 153) (v := Value.bool false) rfl ?_
                        refine r_val .none rfl (p_pick_f rfl rfl) ?_
                        refine r_nil ?_
                        refine e_next ?_
                        refine c_cond_f rfl ?_
                        refine c_skip ?_
                        refine e_norm_block ?_
                        refine e_front (k := 4) rfl ?_
                        refine e_front (k := 3) rfl ?_
                        refine e_front (k := 5) rfl ?_
                        refine e_round ((S, _)) ⟨⟨hI.grow, hn_53⟩, trivial⟩ rfl ⟨rfl, rfl, rfl, rfl, rfl, trivial⟩ (.keep (fun _ _ h => h) (.keep (fun _ _ h => h) (.keep (fun _ _ h => h) (.drop (.drop (.drop (.nil)))))))
                       )
                    ·
                     first
                      | (exfalso; first | omega | assumption)
                      | (
                       refine c_cond_f rfl ?_
                       refine c_skip ?_
                       refine e_norm_block ?_
                       refine e_front (k := 2) rfl ?_
                       refine e_front (k := 2) rfl ?_
                       refine e_front (k := 2) rfl ?_
                       refine e_round ((S, _)) ⟨⟨hI.grow, (GNew.refl _ _ _)⟩, trivial⟩ rfl ⟨rfl, rfl, rfl, rfl, rfl, trivial⟩ (.keep (fun _ _ h => h) (.keep (fun _ _ h => h) (.keep (fun _ _ h => h) (.nil))))
                       )
                    )
                 )
              )
          )
       )
    ·
     first
      | (exfalso; first | omega | assumption)
      | (
       refine c_cond_f rfl ?_
       refine c_exit ?_
       refine e_exit_then ?_
       refine e_exit_then ?_
       refine e_exit_block ?_
       refine e_next ?_
       refine c_seq ?_
       refine c_region ?_
       refine r_call (vs := []) .none rfl cl7 rfl (fun w hw => c_awake21 w) ?_
       refine r_val .none rfl (p_assign rfl) ?_
       refine r_nil ?_
       refine e_next ?_
       refine c_ret ?_
       refine e_ret1 Try.results5 (.tmp rfl .nil) (fun w hm => ⟨?_, hm.since⟩)
       first
       | rfl
       | (simp; done)
       )
    )
end Go.Proofs.Ytplefabpplfjbaa

/- Walks: what Go functions of this chapter come to, each as a function on plain data; no condition but those that each theorem names. Printed by a program of this work (gen.py). -/
namespace Go.Proofs.Ytplefabpplfjbaa
open Go.Gx Go.Gx.T20 Go.Gx.T21 Go.Gx.T22 Go.Gx.T6 Go.Gx.T4 Go.Gx.T20 Go.Gx.T21 Go.Gx.T6 Go.Gx.T4 Go.Gx.T21 Go.Gx.T6 Go.Gx.T4 Go.ChangeShapes Go.WideShapes Go.ChangeAt Go.RowKit
theorem open_op21_l : leafT Try.prog 15 49 = some [3, 3, 4, 9, 22] := by kernel_rfl
set_option maxRecDepth 100000 in
theorem open_op21 {H : Type} {enc : TypeId × Value → H} {W : World} {base : Nat} {sp : Nat → Bool} {held : Bool} {m : Nat} {cs' : List Value} {y : DataW H × List MemPlace} (h : DataW.trod enc Try.prog W base sp held m 49 cs' = some y) : ∃ p : O21 × Value, cs' = opC p ∧ SlL (GW W) p.2 1 cI (0 : Int) p.1.2.2.2.2 := by
 obtain ⟨n', _, hl⟩ := leavesB_struct 14 Try.underlying49 open_op21_l h
 obtain ⟨x0, r0, e0, f0, g0⟩ := hl.inv
 obtain ⟨a0, rfl, _⟩ := f0.leaf.int Try.underlying3
 obtain ⟨x1, r1, e1, f1, g1⟩ := g0.inv
 obtain ⟨a1, rfl, _⟩ := f1.leaf.int Try.underlying3
 obtain ⟨x2, r2, e2, f2, g2⟩ := g1.inv
 obtain ⟨a2, rfl⟩ := f2.leaf.bool Try.underlying4
 obtain ⟨x3, r3, e3, f3, g3⟩ := g2.inv
 obtain ⟨a3, rfl, _⟩ := f3.leaf.string Try.underlying9
 obtain ⟨x4, r4, e4, f4, g4⟩ := g3.inv
 have z := g4.inv0
 obtain ⟨ns, h1, _⟩ := open_slB (cells := cI) (Qa := fun _ => True) (0 : Int) Try.underlying22 (show Program.cellsOf Try.prog 3 = 1 by kernel_rfl) (by decide) (fun m cs' y hm hy => by obtain ⟨s, rfl, _⟩ := DataW.trod_int Try.underlying3 hy; exact ⟨s, rfl, trivial⟩) f4
 exact ⟨((a0, a1, (a2, a3, ns)), x4), by rw [e0, e1, e2, e3, e4, z]; rfl, h1⟩
set_option maxRecDepth 100000 in
theorem open_ops21 {H : Type} {enc : TypeId × Value → H} {W : World} {base : Nat} {sp : Nat → Bool} {held : Bool} {r : Reach} {b0 : Nat} {v : Value} {y : DataW H} {ps : List MemPlace} (hv : Value.okWide Try.prog W r b0 43 v) (h : DataW.Trod enc Try.prog W base sp held 43 v y ps) : ∃ os : List (O21 × Value), SlL (GW W) v 5 opC o0 os ∧ ∀ p ∈ os, SlL (GW W) p.2 1 cI (0 : Int) p.1.2.2.2.2 := by
 obtain ⟨a, n, c, rfl⟩ := okWide_slice Try.underlying43 hv
 obtain ⟨fuel, hf⟩ := h
 obtain ⟨os, h1, h2⟩ := open_slB (B := fuel) (cells := opC) (Qa := fun p => SlL (GW W) p.2 1 cI (0 : Int) p.1.2.2.2.2) o0 Try.underlying43 (show Program.cellsOf Try.prog 49 = 5 by kernel_rfl) (by decide) (fun m cs' y hm hy => open_op21 hy) ⟨fuel, _, Nat.le_refl _, hf⟩
 exact ⟨os, h1, h2⟩
end Go.Proofs.Ytplefabpplfjbaa
