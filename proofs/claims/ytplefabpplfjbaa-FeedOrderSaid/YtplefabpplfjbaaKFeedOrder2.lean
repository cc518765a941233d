/- Texts of this work, laid together: a logic of steps, plain laws, and walks of Go functions, each without a condition but those that its theorems name. -/
import Derived.Test.YtplefabpplfjbaaKFeedOrder1
import Derived.Test.YtplefabpplfjbaaRows
/- Walks: what Go functions of this chapter come to, each as a function on plain data; no condition but those that each theorem names. Printed by a program of this work (gen.py). -/
namespace Go.Proofs.Ytplefabpplfjbaa
open Go.Gx Go.Gx.T21 Go.Gx.T6 Go.Gx.T4
theorem sz4 : SzIs Try.prog 4 1 := by
 unfold SzIs
 kernel_rfl
theorem sz9 : SzIs Try.prog 9 1 := by
 unfold SzIs
 kernel_rfl
theorem sz22 : SzIs Try.prog 22 1 := by
 unfold SzIs
 kernel_rfl
theorem sz24 : SzIs Try.prog 24 2 := by
 unfold SzIs
 kernel_rfl
theorem sz36 : SzIs Try.prog 36 3 := by
 unfold SzIs
 kernel_rfl
theorem zr36 : ZeroIs Try.prog 36 (Value.agg #[Value.bool false, Value.string ⟨#[]⟩, Value.slice none 0 0]) := by
 unfold ZeroIs
 kernel_rfl
theorem cl24 : Callable Try.prog 24 := callable Try.func24 (by kernel_rfl) rfl
theorem bl24_0s1_1s3 (x0 : ByteArray) (x1 : Option Addr) (x2 : Nat) (x3 : Nat) : Program.built Try.prog 24 [(0, Value.string x0), (1, Value.slice x1 x2 x3)] = some #[Value.string x0, Value.slice x1 x2 x3] := by
 kernel_rfl
theorem bl36_0b1_1a2 (x0 : Bool) (x1 : Value) (x2 : Value) : Program.built Try.prog 36 [(0, Value.bool x0), (1, Value.agg #[x1, x2])] = some #[Value.bool x0, x1, x2] := by
 kernel_rfl
theorem bl36_  : Program.built Try.prog 36 [] = some #[Value.bool false, Value.string ⟨#[]⟩, Value.slice none 0 0] := by
 kernel_rfl
theorem c_fsend {F : Nat → Prop} {G : Ghost} (p : Nat) (cm : Bool) (rl : ByteArray) (vi : Value) (ids : List Int) (s : FS) (hs : SlL G vi 1 cI (0 : Int) ids) (hn : ids.length ≤ 1000) (hnd : (s.1.map (·.1)).Nodup) (hln : s.1.length ≤ 1000) (hlb : ∀ id x, lkp s.1 id = some x → 0 ≤ x.2.1 ∧ x.2.1 ≤ 1000000) (w : World) (hG : Has G w) (hA : (feedA 69 73 3 p s).holds w F) (hFG : ∀ b, F b → G b = none) :
  Calls Try.prog 10 #[Value.pointer (some ⟨p, 0, none⟩), Value.agg #[.bool cm, .string rl, vi]] w (Ret fun r w' => r = Value.int .i64 (haveF s.1 : Nat) ∧ Kept (feedA 69 73 3 p (sendF (cm, rl, ids) s.1, s.2)) F w w') := by
 refine enterO (args := [_, _]) (G := G) (A := feedA 69 73 3 p s) (l := [(0, Value.pointer (some ⟨p, 0, none⟩)), (1, Value.agg #[.bool cm, .string rl, vi])]) Try.func10 rfl Try.ntmps10 hG hA hFG ⟨rfl, rfl, trivial⟩ (Nat.le_of_ble_eq_true rfl) ?_
 refine c_unex (fun z => ?_)
 obtain ⟨m, l⟩ := z
 refine c_unand (fun hc => ?_)
 dsimp only at hc ⊢
 refine c_unpack ?_
 have hnl : (l.map (·.1)).Nodup := by rw [← eraF_keys, ← hc]; exact hnd
 have hll : l.length ≤ 1000 := by (have h9 := hln; rw [hc, eraF_len] at h9; exact h9)
 refine c_seq ?_
 refine c_region ?_
 refine r_box .none rfl rfl (IsRow.lit _) (fun b_1 => ?_)
 refine r_val .none rfl (p_assign rfl) ?_
 refine r_nil ?_
 refine e_next ?_
 refine c_seq ?_
 refine c_region ?_
 refine r_val .none rfl (p_assign rfl) ?_
 refine r_nil ?_
 refine e_next ?_
 refine c_seq ?_
 refine c_seq ?_
 refine c_region ?_
 refine r_val .none rfl (p_move rfl) ?_
 refine r_val .none rfl (p_nilcheck rfl) ?_
 refine r_val .none rfl (p_field Try.underlying69 rfl sz67 rfl) ?_
 refine r_val .none rfl (p_ld (k := 1) Try.underlying67 rfl rfl rfl (by first | exact of_decide_eq_true rfl | omega) (rfl : _ = Value.map _)) ?_
 refine r_range_map (i := 2) .none rfl Try.underlying67 rfl rfl (fun r_1 => ?_)
 refine r_nil ?_
 refine e_next ?_
 refine c_block ?_
 refine c_name (d := 3) rfl (fun u_2 hu_2 => ?_)
 refine c_name (d := 4) rfl (fun u_3 hu_3 => ?_)
 refine c_name (d := 13) rfl (fun u_4 hu_4 => ?_)
 refine c_nameL (k := 0) rfl (fun A_5 hA_5 => ?_)
 refine c_nameL (k := 1) rfl (fun A_6 hA_6 => ?_)
 refine c_loop (σ := List (Int × LB) × List (Int × LB) × Nat) (fun s' => [(5, Value.int .i64 (s'.2.2 : Nat)), (3, u_2), (4, u_3), (13, u_4)]) (fun s' => [A_5, A_6, ranA m r_1 kI veL l s'.1, hoard (lisA 73 3) s'.2.1]) (fun _ => _) (fun s' => (∀ q ∈ s'.1, q ∈ l) ∧ (s'.1.map (·.1)).Nodup ∧ eraF s'.2.1 = selF (cm, rl, ids) (s'.1.map (·.1)) s.1 ∧ s'.2.1.map (enc kI veL) = l.map (enc kI veL) ∧ s'.2.2 = cntF (s'.1.map (·.1)) s.1) (fun s' => s'.1.length) ((l, l, 0)) ⟨fun _ h => h, hnl, by rw [selF_all _ (fun q hq => by rw [hc] at hq; rw [← eraF_keys]; exact List.mem_map.2 ⟨q, hq, rfl⟩), hc], rfl, (cntF_all (fun q hq => by rw [hc] at hq; rw [← eraF_keys]; exact List.mem_map.2 ⟨q, hq, rfl⟩)).symm⟩ rfl ⟨rfl, rfl, rfl, rfl, trivial⟩ (.keep (fun _ _ h => h) (.keep (fun _ _ h => h) (.keep (fun _ _ h => h) (.keep (fun _ _ h => h) (.nil))))) (fun s' hphi => ?_)
 subst hu_2
 subst hu_3
 subst hu_4
 subst hA_5
 subst hA_6
 obtain ⟨lft, l2, hv⟩ := s'
 obtain ⟨hsub, hnd2, he, hs2, hcn⟩ := hphi
 dsimp only at hsub hnd2 he hs2 hcn ⊢
 have hcl : cntF (lft.map (·.1)) s.1 ≤ 1000 := Nat.le_trans (List.length_filter_le _ _) hln
 refine c_seq ?_
 refine c_region ?_
 refine r_next_map (i := 2) .none rfl rfl rfl (fun a_8 q_9 b_10 h_7 => ?_) (fun h_7 => ?_)
 ·
  refine r_val .none rfl (p_extract rfl rfl) ?_
  refine r_nil ?_
  refine e_next ?_
  refine c_seq ?_
  refine c_cond_t rfl ?_
  refine c_skip ?_
  refine e_next ?_
  refine c_block ?_
  refine c_seq ?_
  refine c_region ?_
  refine r_val .none rfl (p_entry (i := 2) rfl rfl) ?_
  refine r_val .none rfl (p_extract rfl rfl) ?_
  obtain ⟨c, cap, lost, vs, hN, hS⟩ := send_at hc hnl hsub h_7 he hs2
  have hlo := hlb q_9.1 _ hS
  dsimp only at hlo
  refine r_front (k := 3) rfl ?_
  refine r_lfocus hN ?_
  refine r_val .none rfl (p_assign rfl) ?_
  refine r_nil ?_
  refine e_next ?_
  refine c_seq ?_
  refine c_region_d (fun _ => false) _ mixed (.keep (fun _ _ h => h) (.keep (fun _ _ h => h) (.keep (fun _ _ h => h) (.keep (fun _ _ h => h) (.keep (fun _ _ h => h) (.keep (fun _ _ h => h) (.keep (fun _ _ h => h) (.nil)))))))) ?_
  refine d_val1 0 rfl rfl (by kernel_rfl) (fun _ _ => rfl) .none rfl (p_field Try.underlying36 rfl sz4 rfl) ?_
  refine d_val1 1 rfl rfl (by kernel_rfl) (fun _ _ => rfl) .none rfl (p_ld (k := 4) Try.underlying4 rfl rfl rfl (by first | exact of_decide_eq_true rfl | omega) (rfl : _ = Value.bool _)) ?_
  refine d_val1 2 rfl rfl (by kernel_rfl) (fun _ _ => rfl) .none rfl (p_field Try.underlying36 rfl sz24 rfl) ?_
  refine d_val1 3 rfl rfl (by kernel_rfl) (fun _ _ => rfl) .none rfl (p_field Try.underlying24 rfl sz9 rfl) ?_
  refine d_val1 4 rfl rfl (by kernel_rfl) (fun _ _ => rfl) .none rfl (p_ld (k := 4) Try.underlying9 rfl rfl rfl (by first | exact of_decide_eq_true rfl | omega) (rfl : _ = Value.string _)) ?_
  refine d_val1 5 rfl rfl (by kernel_rfl) (fun _ _ => rfl) .none rfl (p_field Try.underlying36 rfl sz24 rfl) ?_
  refine d_val1 6 rfl rfl (by kernel_rfl) (fun _ _ => rfl) .none rfl (p_field Try.underlying24 rfl sz22 rfl) ?_
  refine d_val1 7 rfl rfl (by kernel_rfl) (fun _ _ => rfl) .none rfl (p_ld (k := 4) Try.underlying22 rfl rfl rfl (by first | exact of_decide_eq_true rfl | omega) rfl) ?_
  refine d_eff2 8 11 rfl rfl (by kernel_rfl) (fun K_11 hKK_11 hcK_11 => ?_) (fun K_11 hKK_11 hcK_11 => ?_)
  ·
   refine r_callrow (vs := [_]) .none rfl cl24 rfl (fun w hw => c_cloneI vi ids hs hn w hw) (fun v_12 => ?_)
   refine r_nil (e_d (i := 8) (brk := (fun _ => false)) (ph' := true) hKK_11 hcK_11 rfl (fun _ => GLe.refl _) (fun _ => .drop (.keep (fun _ _ h => h) (.keep (fun _ _ h => h) (.keep (fun _ _ h => h) (.keep (fun _ _ h => h) (.keep (fun _ _ h => h) (.keep (fun _ _ h => h) (.keep (fun _ _ h => h) (.nil))))))))) ?_)
   clear hKK_11 hcK_11 K_11
   refine d_rowsl (k := 0) rfl (fun a_13 c_14 e_15 => ?_)
   subst e_15
   refine d_val1 9 rfl rfl (by kernel_rfl) (fun _ _ => rfl) .none rfl (p_build (vs := [(0, Value.string _), (1, Value.slice _ _ _)]) rfl (bl24_0s1_1s3 _ _ _ _)) ?_
   refine d_val1 10 rfl rfl (by kernel_rfl) (fun _ _ => rfl) .none rfl (p_build (vs := [(0, Value.bool _), (1, Value.agg #[_, _])]) rfl (bl36_0b1_1a2 _ _ _)) ?_
   refine d_eff 11 rfl (by kernel_rfl) (fun K_16 hKK_16 hcK_16 => ?_)
   refine r_alloc .none rfl zr36 (IsRow.lit _) (fun b_2 => ?_)
   refine r_nil (e_d (i := 11) (brk := (fun _ => false)) (ph' := true) hKK_16 hcK_16 rfl (fun _ => GLe.refl _) (fun _ => .drop (.drop (.keep (fun _ _ h => h) (.keep (fun _ _ h => h) (.keep (fun _ _ h => h) (.keep (fun _ _ h => h) (.keep (fun _ _ h => h) (.keep (fun _ _ h => h) (.keep (fun _ _ h => h) (.nil)))))))))) ?_)
   clear hKK_16 hcK_16 K_16
   refine d_eff 12 rfl (by kernel_rfl) (fun K_17 hKK_17 hcK_17 => ?_)
   refine r_stw (k := 0) .none sz36 rfl rfl (IsRow.lit _) (one_lit rfl rfl) rfl ?_
   refine r_nil (e_d (i := 12) (brk := (fun _ => false)) (ph' := true) hKK_17 hcK_17 rfl (fun _ => GLe.refl _) (fun _ => .drop (.drop (.keep (fun _ _ h => h) (.keep (fun _ _ h => h) (.keep (fun _ _ h => h) (.keep (fun _ _ h => h) (.keep (fun _ _ h => h) (.keep (fun _ _ h => h) (.keep (fun _ _ h => h) (.nil)))))))))) ?_)
   clear hKK_17 hcK_17 K_17
   refine d_nil (by kernel_rfl) ?_
   refine e_next ?_
   refine c_seq ?_
   refine c_seq ?_
   refine c_region ?_
   refine r_val .none rfl (p_move rfl) ?_
   refine r_val .none rfl (p_nilcheck rfl) ?_
   refine r_val .none rfl (p_field Try.underlying73 rfl sz71 rfl) ?_
   refine r_val .none rfl (p_ld (k := 2) Try.underlying71 rfl rfl rfl (by first | exact of_decide_eq_true rfl | omega) (rfl : _ = Value.chan _)) ?_
   refine r_nil ?_
   refine e_next ?_
   refine c_region ?_
   refine r_val .none rfl (p_ldw (k := 0) Try.underlying36 rfl sz36 rfl rfl (rfl : _ = Value.agg #[_, _, _])) ?_
   refine r_nil ?_
   refine e_next ?_
   refine c_seq ?_
   refine c_sel_send 3 rfl zr36 rfl rfl rfl (fun h_18 => ?_) (fun h_18 => ?_)
   ·
    have hrm := h_18
    refine r_conv (B := nrow 3 ((Value.slice a_13 ids.length c_14), (cm, rl, ids))) (k := 1) rfl (fun _ _ h => h) ?_
    dsimp only [List.set_cons_zero, List.set_cons_succ]
    refine r_front (k := 4) rfl ?_
    refine r_front (k := 2) rfl ?_
    refine r_rowsnoc ?_
    refine r_conv (B := chanA c cap ((vs ++ [((Value.slice a_13 ids.length c_14), (cm, rl, ids))]).map nvV)) (k := 3) rfl (fun _ _ h => by rw [List.map_append]; exact h) ?_
    dsimp only [List.set_cons_zero, List.set_cons_succ]
    have hlt : vs.length < cap := by (have h9 := hrm; rw [List.length_map] at h9; exact h9)
    refine r_val .none rfl (p_extract rfl rfl) ?_
    refine r_val .none rfl (p_eq rfl rfl) ?_
    refine r_say (d := 36) (v := Value.bool true) rfl ?_
    refine r_nil ?_
    refine e_next ?_
    refine c_block ?_
    refine c_cond_t rfl ?_
    refine c_region ?_
    refine r_val .none rfl (p_move rfl) ?_
    refine r_val .none rfl (p_add rfl rfl (by omega)) ?_
    refine r_val .none rfl (p_assign rfl) ?_
    refine r_nil ?_
    refine e_norm_block ?_
    refine e_norm_block ?_
    refine e_front (k := 4) rfl ?_
    refine e_front (k := 1) rfl ?_
    refine e_front (k := 4) rfl ?_
    refine e_front (k := 4) rfl ?_
    refine e_conv1 (B := box q_9.2.1 2 73 (at_ [.chan (some c), .int .i64 lost])) (fun _ _ h => box_congr (fun i hi => by match i, hi with | 0, _ => rfl | 1, _ => rfl) _ _ h) ?_
    refine e_lback lost (vs ++ [((Value.slice a_13 ids.length c_14), (cm, rl, ids))]) hN ?_
    refine e_front (k := 4) rfl ?_
    refine e_front (k := 4) rfl ?_
    refine e_front (k := 4) rfl ?_
    obtain ⟨n1, n2, n3, n4, n5⟩ := send_next hc hnl hsub hnd2 h_7 he hs2 hN hS lost (vs ++ [((Value.slice a_13 ids.length c_14), (cm, rl, ids))]) (by rw [sendL, if_pos (by simpa using hlt)]; simp)
    rw [if_pos hlt] at n5
    refine e_round ((a_8 ++ b_10, mput l2 q_9.1 (q_9.2.1, c, cap, lost, (vs ++ [((Value.slice a_13 ids.length c_14), (cm, rl, ids))])), hv + 1)) ⟨⟨n1, n2, n3, n4, by dsimp only; omega⟩, by dsimp only; rw [h_7, List.length_append, List.length_append, List.length_cons]; omega⟩ rfl ⟨rfl, rfl, rfl, rfl, trivial⟩ (.keep (fun _ _ h => h) (.keep (fun _ _ h => h) (.keep (fun _ _ h => ranE_A h) (.keep (fun _ _ h => h) (.drop (.nil))))))
   ·
    have hrm := h_18
    have hlt : ¬ vs.length < cap := by (have h9 := hrm; rw [List.length_map] at h9; omega)
    refine r_val .none rfl (p_extract rfl rfl) ?_
    refine r_val .none rfl (p_eq rfl rfl) ?_
    refine r_say (d := 36) (v := Value.bool false) rfl ?_
    refine r_nil ?_
    refine e_next ?_
    refine c_block ?_
    refine c_cond_f rfl ?_
    refine c_region ?_
    refine r_val .none rfl (p_move rfl) ?_
    refine r_val .none rfl (p_nilcheck rfl) ?_
    refine r_val .none rfl (p_field Try.underlying73 rfl sz3 rfl) ?_
    refine r_val .none rfl (p_ld (k := 2) Try.underlying3 rfl rfl rfl (by first | exact of_decide_eq_true rfl | omega) (rfl : _ = Value.int _ _)) ?_
    refine r_val .none rfl (p_add rfl rfl (by omega)) ?_
    refine r_val .none rfl (p_nilcheck rfl) ?_
    refine r_val .none rfl (p_field Try.underlying73 rfl sz3 rfl) ?_
    refine r_st (k := 2) .none sz3 rfl rfl rfl rfl (by first | exact of_decide_eq_true rfl | omega) ?_
    refine r_nil ?_
    refine e_norm_block ?_
    refine e_norm_block ?_
    refine e_front (k := 5) rfl ?_
    refine e_front (k := 5) rfl ?_
    refine e_front (k := 5) rfl ?_
    refine e_front (k := 5) rfl ?_
    refine e_conv1 (B := box q_9.2.1 2 73 (at_ [.chan (some c), .int .i64 (lost + 1)])) (fun _ _ h => box_congr (fun i hi => by match i, hi with | 0, _ => rfl | 1, _ => rfl) _ _ h) ?_
    refine e_lback (lost + 1) vs hN ?_
    refine e_front (k := 5) rfl ?_
    refine e_front (k := 5) rfl ?_
    refine e_front (k := 5) rfl ?_
    obtain ⟨n1, n2, n3, n4, n5⟩ := send_next hc hnl hsub hnd2 h_7 he hs2 hN hS (lost + 1) vs (by rw [sendL, if_neg (by simpa using hlt)])
    rw [if_neg hlt] at n5
    refine e_round ((a_8 ++ b_10, mput l2 q_9.1 (q_9.2.1, c, cap, (lost + 1), vs), hv)) ⟨⟨n1, n2, n3, n4, by dsimp only; omega⟩, by dsimp only; rw [h_7, List.length_append, List.length_append, List.length_cons]; omega⟩ rfl ⟨rfl, rfl, rfl, rfl, trivial⟩ (.keep (fun _ _ h => h) (.keep (fun _ _ h => h) (.keep (fun _ _ h => ranE_A h) (.keep (fun _ _ h => h) (.drop (.drop (.nil)))))))
  ·
   refine r_alloc .none rfl zr36 (IsRow.lit _) (fun b_3 => ?_)
   refine r_nil (e_d (i := 11) (brk := (fun _ => false)) (ph' := true) hKK_11 hcK_11 rfl (fun _ => GLe.refl _) (fun _ => .drop (.keep (fun _ _ h => h) (.keep (fun _ _ h => h) (.keep (fun _ _ h => h) (.keep (fun _ _ h => h) (.keep (fun _ _ h => h) (.keep (fun _ _ h => h) (.keep (fun _ _ h => h) (.nil))))))))) ?_)
   clear hKK_11 hcK_11 K_11
   refine d_eff 8 rfl (by kernel_rfl) (fun K_19 hKK_19 hcK_19 => ?_)
   refine r_callrow (vs := [_]) .none rfl cl24 rfl (fun w hw => c_cloneI vi ids hs hn w hw) (fun v_20 => ?_)
   refine r_nil (e_d (i := 8) (brk := (fun _ => false)) (ph' := true) hKK_19 hcK_19 rfl (fun _ => GLe.refl _) (fun _ => .drop (.drop (.keep (fun _ _ h => h) (.keep (fun _ _ h => h) (.keep (fun _ _ h => h) (.keep (fun _ _ h => h) (.keep (fun _ _ h => h) (.keep (fun _ _ h => h) (.keep (fun _ _ h => h) (.nil)))))))))) ?_)
   clear hKK_19 hcK_19 K_19
   refine d_rowsl (k := 0) rfl (fun a_21 c_22 e_23 => ?_)
   subst e_23
   refine d_val1 9 rfl rfl (by kernel_rfl) (fun _ _ => rfl) .none rfl (p_build (vs := [(0, Value.string _), (1, Value.slice _ _ _)]) rfl (bl24_0s1_1s3 _ _ _ _)) ?_
   refine d_val1 10 rfl rfl (by kernel_rfl) (fun _ _ => rfl) .none rfl (p_build (vs := [(0, Value.bool _), (1, Value.agg #[_, _])]) rfl (bl36_0b1_1a2 _ _ _)) ?_
   refine d_eff 12 rfl (by kernel_rfl) (fun K_24 hKK_24 hcK_24 => ?_)
   refine r_stw (k := 1) .none sz36 rfl rfl (IsRow.lit _) (one_lit rfl rfl) rfl ?_
   refine r_nil (e_d (i := 12) (brk := (fun _ => false)) (ph' := true) hKK_24 hcK_24 rfl (fun _ => GLe.refl _) (fun _ => .drop (.drop (.keep (fun _ _ h => h) (.keep (fun _ _ h => h) (.keep (fun _ _ h => h) (.keep (fun _ _ h => h) (.keep (fun _ _ h => h) (.keep (fun _ _ h => h) (.keep (fun _ _ h => h) (.nil)))))))))) ?_)
   clear hKK_24 hcK_24 K_24
   refine d_nil (by kernel_rfl) ?_
   refine e_next ?_
   refine c_seq ?_
   refine c_seq ?_
   refine c_region ?_
   refine r_val .none rfl (p_move rfl) ?_
   refine r_val .none rfl (p_nilcheck rfl) ?_
   refine r_val .none rfl (p_field Try.underlying73 rfl sz71 rfl) ?_
   refine r_val .none rfl (p_ld (k := 2) Try.underlying71 rfl rfl rfl (by first | exact of_decide_eq_true rfl | omega) (rfl : _ = Value.chan _)) ?_
   refine r_nil ?_
   refine e_next ?_
   refine c_region ?_
   refine r_val .none rfl (p_ldw (k := 1) Try.underlying36 rfl sz36 rfl rfl (rfl : _ = Value.agg #[_, _, _])) ?_
   refine r_nil ?_
   refine e_next ?_
   refine c_seq ?_
   refine c_sel_send 3 rfl zr36 rfl rfl rfl (fun h_25 => ?_) (fun h_25 => ?_)
   ·
    have hrm := h_25
    refine r_conv (B := nrow 3 ((Value.slice a_21 ids.length c_22), (cm, rl, ids))) (k := 0) rfl (fun _ _ h => h) ?_
    dsimp only [List.set_cons_zero, List.set_cons_succ]
    refine r_front (k := 4) rfl ?_
    refine r_front (k := 1) rfl ?_
    refine r_rowsnoc ?_
    refine r_conv (B := chanA c cap ((vs ++ [((Value.slice a_21 ids.length c_22), (cm, rl, ids))]).map nvV)) (k := 3) rfl (fun _ _ h => by rw [List.map_append]; exact h) ?_
    dsimp only [List.set_cons_zero, List.set_cons_succ]
    have hlt : vs.length < cap := by (have h9 := hrm; rw [List.length_map] at h9; exact h9)
    refine r_val .none rfl (p_extract rfl rfl) ?_
    refine r_val .none rfl (p_eq rfl rfl) ?_
    refine r_say (d := 36) (v := Value.bool true) rfl ?_
    refine r_nil ?_
    refine e_next ?_
    refine c_block ?_
    refine c_cond_t rfl ?_
    refine c_region ?_
    refine r_val .none rfl (p_move rfl) ?_
    refine r_val .none rfl (p_add rfl rfl (by omega)) ?_
    refine r_val .none rfl (p_assign rfl) ?_
    refine r_nil ?_
    refine e_norm_block ?_
    refine e_norm_block ?_
    refine e_front (k := 4) rfl ?_
    refine e_front (k := 1) rfl ?_
    refine e_front (k := 4) rfl ?_
    refine e_front (k := 4) rfl ?_
    refine e_conv1 (B := box q_9.2.1 2 73 (at_ [.chan (some c), .int .i64 lost])) (fun _ _ h => box_congr (fun i hi => by match i, hi with | 0, _ => rfl | 1, _ => rfl) _ _ h) ?_
    refine e_lback lost (vs ++ [((Value.slice a_21 ids.length c_22), (cm, rl, ids))]) hN ?_
    refine e_front (k := 4) rfl ?_
    refine e_front (k := 4) rfl ?_
    refine e_front (k := 4) rfl ?_
    obtain ⟨n1, n2, n3, n4, n5⟩ := send_next hc hnl hsub hnd2 h_7 he hs2 hN hS lost (vs ++ [((Value.slice a_21 ids.length c_22), (cm, rl, ids))]) (by rw [sendL, if_pos (by simpa using hlt)]; simp)
    rw [if_pos hlt] at n5
    refine e_round ((a_8 ++ b_10, mput l2 q_9.1 (q_9.2.1, c, cap, lost, (vs ++ [((Value.slice a_21 ids.length c_22), (cm, rl, ids))])), hv + 1)) ⟨⟨n1, n2, n3, n4, by dsimp only; omega⟩, by dsimp only; rw [h_7, List.length_append, List.length_append, List.length_cons]; omega⟩ rfl ⟨rfl, rfl, rfl, rfl, trivial⟩ (.keep (fun _ _ h => h) (.keep (fun _ _ h => h) (.keep (fun _ _ h => ranE_A h) (.keep (fun _ _ h => h) (.drop (.nil))))))
   ·
    have hrm := h_25
    have hlt : ¬ vs.length < cap := by (have h9 := hrm; rw [List.length_map] at h9; omega)
    refine r_val .none rfl (p_extract rfl rfl) ?_
    refine r_val .none rfl (p_eq rfl rfl) ?_
    refine r_say (d := 36) (v := Value.bool false) rfl ?_
    refine r_nil ?_
    refine e_next ?_
    refine c_block ?_
    refine c_cond_f rfl ?_
    refine c_region ?_
    refine r_val .none rfl (p_move rfl) ?_
    refine r_val .none rfl (p_nilcheck rfl) ?_
    refine r_val .none rfl (p_field Try.underlying73 rfl sz3 rfl) ?_
    refine r_val .none rfl (p_ld (k := 2) Try.underlying3 rfl rfl rfl (by first | exact of_decide_eq_true rfl | omega) (rfl : _ = Value.int _ _)) ?_
    refine r_val .none rfl (p_add rfl rfl (by omega)) ?_
    refine r_val .none rfl (p_nilcheck rfl) ?_
    refine r_val .none rfl (p_field Try.underlying73 rfl sz3 rfl) ?_
    refine r_st (k := 2) .none sz3 rfl rfl rfl rfl (by first | exact of_decide_eq_true rfl | omega) ?_
    refine r_nil ?_
    refine e_norm_block ?_
    refine e_norm_block ?_
    refine e_front (k := 5) rfl ?_
    refine e_front (k := 5) rfl ?_
    refine e_front (k := 5) rfl ?_
    refine e_front (k := 5) rfl ?_
    refine e_conv1 (B := box q_9.2.1 2 73 (at_ [.chan (some c), .int .i64 (lost + 1)])) (fun _ _ h => box_congr (fun i hi => by match i, hi with | 0, _ => rfl | 1, _ => rfl) _ _ h) ?_
    refine e_lback (lost + 1) vs hN ?_
    refine e_front (k := 5) rfl ?_
    refine e_front (k := 5) rfl ?_
    refine e_front (k := 5) rfl ?_
    obtain ⟨n1, n2, n3, n4, n5⟩ := send_next hc hnl hsub hnd2 h_7 he hs2 hN hS (lost + 1) vs (by rw [sendL, if_neg (by simpa using hlt)])
    rw [if_neg hlt] at n5
    refine e_round ((a_8 ++ b_10, mput l2 q_9.1 (q_9.2.1, c, cap, (lost + 1), vs), hv)) ⟨⟨n1, n2, n3, n4, by dsimp only; omega⟩, by dsimp only; rw [h_7, List.length_append, List.length_append, List.length_cons]; omega⟩ rfl ⟨rfl, rfl, rfl, rfl, trivial⟩ (.keep (fun _ _ h => h) (.keep (fun _ _ h => h) (.keep (fun _ _ h => ranE_A h) (.keep (fun _ _ h => h) (.drop (.drop (.nil)))))))
 ·
  refine r_unrange (i := 2) rfl ?_
  have hlf := h_7
  subst hlf
  refine r_val .none rfl (p_extract rfl rfl) ?_
  refine r_nil ?_
  refine e_next ?_
  refine c_seq ?_
  refine c_cond_f rfl ?_
  refine c_exit ?_
  refine e_exit_then ?_
  refine e_exit_then ?_
  refine e_exit_block ?_
  refine e_next ?_
  refine c_seq ?_
  refine c_region ?_
  refine r_val .none rfl (p_move rfl) ?_
  refine r_val .none rfl (p_assign rfl) ?_
  refine r_nil ?_
  refine e_next ?_
  refine c_ret ?_
  refine e_front (k := 3) rfl ?_
  refine e_front (k := 3) rfl ?_
  refine e_front (k := 3) rfl ?_
  refine e_ret1 Try.results10 (.tmp rfl .nil) (fun w hm => ⟨?_, hm.kept [box p 2 69 (at_ [.map (some m), .int .i64 (s.2)]), mapA m kI veL (l2), hoard (lisA 73 3) (l2)] (.keep (fun _ _ h => h) (.keep (fun _ _ h => mapA_recast hs2.symm h) (.keep (fun _ _ h => h) (.drop (.nil))))) (feedA 69 73 3 p (sendF (cm, rl, ids) s.1, s.2)) (fun F' h => ⟨(m, l2), (by dsimp only; rw [he]; exact (selF_nil _ _).symm), h⟩)⟩)
  (rw [hcn]; exact congrArg (fun z : Nat => Value.int .i64 (z : Int)) (cntF_nil s.1))
theorem c_ftake1 {F : Nat → Prop} {G : Ghost} (p : Nat) (id : Int) (cap0 : Nat) (lost0 : Int) (x : NE) (t : List NE) (s : FS) (hs0 : lkp s.1 id = some (cap0, lost0, x :: t)) (w : World) (hG : Has G w) (hA : (feedA 69 73 3 p s).holds w F) (hFG : ∀ b, F b → G b = none) :
  Calls Try.prog 11 #[Value.pointer (some ⟨p, 0, none⟩), Value.int .i64 id] w (Ret fun r w' => ∃ v, r = Value.tuple #[.agg #[.bool x.1, .string x.2.1, v], .bool true] ∧ Kept (starL [rowA v 3 1 x.2.2.length (x.2.2.flatMap cI), feedA 69 73 3 p (mput s.1 id (cap0, lost0, t), s.2)]) F w w') := by
 refine enterO (args := [_, _]) (G := G) (A := feedA 69 73 3 p s) (l := [(0, Value.pointer (some ⟨p, 0, none⟩)), (1, Value.int .i64 id)]) Try.func11 rfl Try.ntmps11 hG hA hFG ⟨rfl, rfl, trivial⟩ (Nat.le_of_ble_eq_true rfl) ?_
 refine c_unex (fun z => ?_)
 obtain ⟨m, l⟩ := z
 refine c_unand (fun hc => ?_)
 dsimp only at hc ⊢
 refine c_unpack ?_
 obtain ⟨b, c, vs, hN, hvs⟩ := eraF_some (hc ▸ hs0)
 dsimp only at hN hvs
 obtain ⟨y, ys, rfl⟩ : ∃ y ys, vs = y :: ys := by (cases vs with | nil => cases hvs | cons y ys => exact ⟨y, ys, rfl⟩)
 obtain ⟨hy, hys⟩ := List.cons.inj (show y.2 :: ys.map (·.2) = x :: t from hvs)
 subst hy
 refine c_seq ?_
 refine c_region ?_
 refine r_alloc .none rfl zr36 (IsRow.lit _) (fun b_1 => ?_)
 refine r_val .none rfl (p_assign rfl) ?_
 refine r_nil ?_
 refine e_next ?_
 refine c_seq ?_
 refine c_region ?_
 refine r_val .none rfl (p_move rfl) ?_
 refine r_val .none rfl (p_nilcheck rfl) ?_
 refine r_val .none rfl (p_field Try.underlying69 rfl sz67 rfl) ?_
 refine r_val .none rfl (p_ld (k := 1) Try.underlying67 rfl rfl rfl (by first | exact of_decide_eq_true rfl | omega) (rfl : _ = Value.map _)) ?_
 refine r_val .none rfl (p_move rfl) ?_
 refine r_front (k := 3) rfl ?_
 refine r_lfocus hN ?_
 refine r_val .none rfl (p_lookup_yes (i := 6) Try.underlying67 (KeyT.int Try.underlying3) zr70 rfl rfl rfl hN) ?_
 refine r_val .none rfl (p_assign rfl) ?_
 refine r_nil ?_
 refine e_next ?_
 refine c_seq ?_
 refine c_seq ?_
 refine c_region ?_
 refine r_val .none rfl (p_move rfl) ?_
 refine r_val .none rfl (p_eq_ptr Try.underlying70 (by first | exact .inr rfl | exact .inl rfl) rfl rfl) ?_
 refine r_say (d := 15) (v := Value.bool false) rfl ?_
 refine r_nil ?_
 refine e_next ?_
 refine c_cond_f rfl ?_
 refine c_skip ?_
 refine e_next ?_
 refine c_seq ?_
 refine c_region ?_
 refine r_val .none rfl (p_move rfl) ?_
 refine r_val .none rfl (p_nilcheck rfl) ?_
 refine r_val .none rfl (p_field Try.underlying73 rfl sz71 rfl) ?_
 refine r_val .none rfl (p_ld (k := 0) Try.underlying71 rfl rfl rfl (by first | exact of_decide_eq_true rfl | omega) (rfl : _ = Value.chan _)) ?_
 refine r_nil ?_
 refine e_next ?_
 refine c_seq ?_
 refine c_sel_recv 1 rfl zr36 rfl rfl (fun v_1 t_2 h_3 => ?_) (fun h_3 => ?_)
 ·
  obtain ⟨hq1, hq2⟩ := List.cons.inj (show nvV y :: ys.map nvV = v_1 :: t_2 from h_3)
  subst hq1; subst hq2
  refine r_say (d := 21) (v := Value.tuple #[.int .i64 0, .bool true, .agg #[.bool y.2.1, .string y.2.2.1, y.1]]) rfl ?_
  refine r_front (k := 2) rfl ?_
  refine r_rowshead ?_
  refine r_row1 (k := 0) rfl (fun oy => ?_)
  refine r_val .none rfl (p_extract rfl rfl) ?_
  refine r_val .none rfl (p_eq rfl rfl) ?_
  refine r_say (d := 23) (v := Value.bool true) rfl ?_
  refine r_nil ?_
  refine e_next ?_
  refine c_block ?_
  refine c_cond_t rfl ?_
  refine c_seq ?_
  refine c_region ?_
  refine r_val .none rfl (p_extract rfl rfl) ?_
  refine r_alloc .none rfl zr36 (IsRow.lit _) (fun b_2 => ?_)
  refine r_stw (k := 0) .none sz36 rfl rfl (IsRow.lit _) (one_lit rfl (all_cons rfl (all_cons rfl (all_cons oy rfl)))) rfl ?_
  refine r_nil ?_
  refine e_next ?_
  refine c_seq ?_
  refine c_region ?_
  refine r_val .none rfl (p_ldw (k := 0) Try.underlying36 rfl sz36 rfl rfl (rfl : _ = Value.agg #[_, _, _])) ?_
  refine r_stw (k := 6) .none sz36 rfl rfl (IsRow.lit _) (one_lit rfl (all_cons rfl (all_cons rfl (all_cons oy rfl)))) rfl ?_
  refine r_val .none rfl (p_assign rfl) ?_
  refine r_nil ?_
  refine e_next ?_
  refine c_ret ?_
  refine e_ret_block ?_
  refine e_front (k := 5) rfl ?_
  refine e_front (k := 3) rfl ?_
  refine e_front (k := 5) rfl ?_
  refine e_front (k := 5) rfl ?_
  refine e_lback lost0 ys hN ?_
  refine e_front (k := 5) rfl ?_
  refine e_front (k := 5) rfl ?_
  refine e_front (k := 4) rfl ?_
  refine e_retn Try.results11 (.cell (k := 5) rfl Try.underlying36 rfl sz36 rfl (rfl : _ = Value.agg #[_, _, _]) (.tmp rfl .nil)) rfl (fun w hm => ⟨y.1, ?_, hm.kept [rowA y.1 3 1 y.2.2.2.length (y.2.2.2.flatMap cI), box p 2 69 (at_ [.map (some m), .int .i64 s.2]), mapA m kI veL (mput l id (b, c, cap0, lost0, ys)), hoard (lisA 73 3) (mput l id (b, c, cap0, lost0, ys))] (.keep (fun _ _ h => h) (.keep (fun _ _ h => h) (.keep (fun _ _ h => mapA_retell (v := (b, c, cap0, lost0, ys)) hN rfl h) (.keep (fun _ _ h => h) (.drop (.drop (.nil))))))) (starL [rowA y.1 3 1 y.2.2.2.length (y.2.2.2.flatMap cI), feedA 69 73 3 p (mput s.1 id (cap0, lost0, t), s.2)]) (fun F' h => feed_row (by dsimp only; rw [eraF_mput, hc, ← hys]; rfl) h)⟩)
  rfl
 ·
  cases h_3
theorem c_ftake0 {F : Nat → Prop} {G : Ghost} (p : Nat) (id : Int) (s : FS) (hs0 : ((lkp s.1 id).map fun x => x.2.2).getD [] = []) (w : World) (hG : Has G w) (hA : (feedA 69 73 3 p s).holds w F) (hFG : ∀ b, F b → G b = none) :
  Calls Try.prog 11 #[Value.pointer (some ⟨p, 0, none⟩), Value.int .i64 id] w (Ret fun r w' => r = Value.tuple #[Value.agg #[.bool false, .string ByteArray.empty, .slice none 0 0], .bool false] ∧ Kept (feedA 69 73 3 p s) F w w') := by
 refine enterO (args := [_, _]) (G := G) (A := feedA 69 73 3 p s) (l := [(0, Value.pointer (some ⟨p, 0, none⟩)), (1, Value.int .i64 id)]) Try.func11 rfl Try.ntmps11 hG hA hFG ⟨rfl, rfl, trivial⟩ (Nat.le_of_ble_eq_true rfl) ?_
 refine c_unex (fun z => ?_)
 obtain ⟨m, l⟩ := z
 refine c_unand (fun hc => ?_)
 dsimp only at hc ⊢
 refine c_unpack ?_
 refine c_seq ?_
 refine c_region ?_
 refine r_alloc .none rfl zr36 (IsRow.lit _) (fun b_1 => ?_)
 refine r_val .none rfl (p_assign rfl) ?_
 refine r_nil ?_
 refine e_next ?_
 refine c_seq ?_
 refine c_region ?_
 refine r_val .none rfl (p_move rfl) ?_
 refine r_val .none rfl (p_nilcheck rfl) ?_
 refine r_val .none rfl (p_field Try.underlying69 rfl sz67 rfl) ?_
 refine r_val .none rfl (p_ld (k := 1) Try.underlying67 rfl rfl rfl (by first | exact of_decide_eq_true rfl | omega) (rfl : _ = Value.map _)) ?_
 refine r_val .none rfl (p_move rfl) ?_
 rcases hN : lkp l id with _ | ⟨b, c, cap, lost, its⟩
 ·
  refine r_val .none rfl (p_lookup_no (i := 2) Try.underlying67 (KeyT.int Try.underlying3) zr70 rfl rfl rfl hN) ?_
  refine r_val .none rfl (p_assign rfl) ?_
  refine r_nil ?_
  refine e_next ?_
  refine c_seq ?_
  refine c_seq ?_
  refine c_region ?_
  refine r_val .none rfl (p_move rfl) ?_
  refine r_val .none rfl (p_eq_ptr Try.underlying70 (by first | exact .inr rfl | exact .inl rfl) rfl rfl) ?_
  refine r_say (d := 15) (v := Value.bool true) rfl ?_
  refine r_nil ?_
  refine e_next ?_
  refine c_cond_t rfl ?_
  refine c_seq ?_
  refine c_region ?_
  refine r_val .none rfl (p_build (vs := []) rfl (bl36_ )) ?_
  refine r_stw (k := 0) .none sz36 rfl rfl (IsRow.lit _) (one_lit rfl rfl) rfl ?_
  refine r_val .none rfl (p_assign rfl) ?_
  refine r_nil ?_
  refine e_next ?_
  refine c_ret ?_
  refine e_ret_then ?_
  refine e_retn Try.results11 (.cell (k := 0) rfl Try.underlying36 rfl sz36 rfl (rfl : _ = Value.agg #[_, _, _]) (.tmp rfl .nil)) rfl (fun w hm => ⟨?_, hm.kept [box p 2 69 (at_ [.map (some m), .int .i64 (s.2)]), mapA m kI veL (l), hoard (lisA 73 3) (l)] (.drop (.keep (fun _ _ h => h) (.keep (fun _ _ h => h) (.keep (fun _ _ h => h) (.nil))))) (feedA 69 73 3 p (s)) (fun F' h => ⟨(m, l), hc, h⟩)⟩)
  rfl
 ·
  have hit : its = [] := by (rw [hc, eraF_lkp, hN] at hs0; simpa [eraL] using hs0)
  subst hit
  refine r_front (k := 3) rfl ?_
  refine r_lfocus hN ?_
  refine r_val .none rfl (p_lookup_yes (i := 6) Try.underlying67 (KeyT.int Try.underlying3) zr70 rfl rfl rfl hN) ?_
  refine r_val .none rfl (p_assign rfl) ?_
  refine r_nil ?_
  refine e_next ?_
  refine c_seq ?_
  refine c_seq ?_
  refine c_region ?_
  refine r_val .none rfl (p_move rfl) ?_
  refine r_val .none rfl (p_eq_ptr Try.underlying70 (by first | exact .inr rfl | exact .inl rfl) rfl rfl) ?_
  refine r_say (d := 15) (v := Value.bool false) rfl ?_
  refine r_nil ?_
  refine e_next ?_
  refine c_cond_f rfl ?_
  refine c_skip ?_
  refine e_next ?_
  refine c_seq ?_
  refine c_region ?_
  refine r_val .none rfl (p_move rfl) ?_
  refine r_val .none rfl (p_nilcheck rfl) ?_
  refine r_val .none rfl (p_field Try.underlying73 rfl sz71 rfl) ?_
  refine r_val .none rfl (p_ld (k := 0) Try.underlying71 rfl rfl rfl (by first | exact of_decide_eq_true rfl | omega) (rfl : _ = Value.chan _)) ?_
  refine r_nil ?_
  refine e_next ?_
  refine c_seq ?_
  refine c_sel_recv 1 rfl zr36 rfl rfl (fun v_1 t_2 h_3 => ?_) (fun h_3 => ?_)
  ·
   cases h_3
  ·
   refine r_val .none rfl (p_extract rfl rfl) ?_
   refine r_val .none rfl (p_eq rfl rfl) ?_
   refine r_say (d := 23) (v := Value.bool false) rfl ?_
   refine r_nil ?_
   refine e_next ?_
   refine c_block ?_
   refine c_cond_f rfl ?_
   refine c_seq ?_
   refine c_region ?_
   refine r_val .none rfl (p_build (vs := []) rfl (bl36_ )) ?_
   refine r_stw (k := 4) .none sz36 rfl rfl (IsRow.lit _) (one_lit rfl rfl) rfl ?_
   refine r_val .none rfl (p_assign rfl) ?_
   refine r_nil ?_
   refine e_next ?_
   refine c_ret ?_
   refine e_ret_block ?_
   refine e_front (k := 3) rfl ?_
   refine e_front (k := 3) rfl ?_
   refine e_front (k := 3) rfl ?_
   refine e_front (k := 3) rfl ?_
   refine e_lback (lost) ([]) hN ?_
   rw [mput_same hN]
   refine e_front (k := 3) rfl ?_
   refine e_front (k := 3) rfl ?_
   refine e_retn Try.results11 (.cell (k := 3) rfl Try.underlying36 rfl sz36 rfl (rfl : _ = Value.agg #[_, _, _]) (.tmp rfl .nil)) rfl (fun w hm => ⟨?_, hm.kept [box p 2 69 (at_ [.map (some m), .int .i64 (s.2)]), mapA m kI veL (l), hoard (lisA 73 3) (l)] (.keep (fun _ _ h => h) (.keep (fun _ _ h => h) (.keep (fun _ _ h => h) (.drop (.nil))))) (feedA 69 73 3 p (s)) (fun F' h => ⟨(m, l), hc, h⟩)⟩)
   rfl
end Go.Proofs.Ytplefabpplfjbaa

/- The laws of news, in plain words: who takes at once, and who takes nothing till all is sent. -/
namespace Go.Gx.T21
open Go.Gx
theorem opn {s : FS} {k : Nat} (h1 : 1 ≤ k) (h2 : k ≤ 1000) (h3 : s.1.length < 16) : openI s (k : Int) = s.2 + 1 ∧ openE s (k : Int) = 0 ∧ openS s (k : Int) = (mput s.1 (s.2 + 1) (k, 0, []), s.2 + 1) := by
  have e1 : ¬ ((k : Int) < 1 ∨ 1000 < (k : Int)) := by omega
  have e2 : ¬ 16 ≤ (s.1.length : Int) := by omega
  rw [openI, openE, openS, if_neg e1, if_neg e1, if_neg e1, if_neg e2, if_neg e2, if_neg e2]
  exact ⟨rfl, rfl, rfl⟩
theorem lb_of {l : List (Int × LS)} (h : ∀ p ∈ l, 0 ≤ p.2.2.1 ∧ p.2.2.1 ≤ 1000000) : ∀ id x, lkp l id = some x → 0 ≤ x.2.1 ∧ x.2.1 ≤ 1000000 := fun id x e => h (id, x) (lkp_some e)
theorem le_of {l : List (Int × LS)} {n : Int} (h : ∀ p ∈ l, p.1 ≤ n) : ∀ id x, lkp l id = some x → id ≤ n := fun id x e => h (id, x) (lkp_some e)
theorem box_rowA {b n m sz : Nat} {E : TypeId} {f : Nat → Value} (hm : m = n * sz) (hn : n ≤ 1000) {w : World} {F : Nat → Prop} (h : (box b m E f).holds w F) : (rowA (.slice (some ⟨b, 0, none⟩) n n) E sz n (row f 0 (n * sz))).holds w F := by
  obtain ⟨⟨c, h1, h2⟩, hF⟩ := h
  subst hm
  refine ⟨⟨row_length _ _ _, .inr ⟨b, n, c, rfl, Nat.zero_le _, h1, Nat.le_refl _, by simp only [maxLen]; omega, h2.size, ?_⟩⟩, fun k => ⟨fun h => by rw [(hF k).1 h]; rfl, fun h => by simp [Value.ownBlock] at h; exact (hF k).2 h.symm⟩, by simp only [maxLen]; omega⟩
  have e := h2.eq
  rw [e]
  simp [List.take_of_length_le, row_length]
def R21 : ByteArray := ⟨#[114]⟩
def nOf (i : Nat) : NE := (false, R21, [(i : Int) + 1])
def nlF (m : Nat) : List NE := (List.range m).map nOf
theorem nlF_len (m : Nat) : (nlF m).length = m := by simp [nlF]
theorem nlF_succ (m : Nat) : nlF (m + 1) = nlF m ++ [nOf m] := by simp [nlF, List.range_succ]
theorem nlF_drop {m i : Nat} (h : i < m) : (nlF m).drop i = nOf i :: (nlF m).drop (i + 1) := by
  rw [List.drop_eq_getElem_cons (by rw [nlF_len]; exact h)]
  simp [nlF]
/-- Both listeners, the one that takes nothing and the other one. -/
def two (k : Nat) (lost : Int) (its f : List NE) : FS := ([(1, (k, lost, its)), (2, (1, 0, f))], 2)
def sO (k i : Nat) : FS := two k ((i - k : Nat) : Int) (nlF (min i k)) []
theorem sO_send (k i : Nat) : (sendF (nOf i) (sO k i).1, (sO k i).2) = two k ((i + 1 - k : Nat) : Int) (nlF (min (i + 1) k)) [nOf i] := by
  unfold sO two sendF
  simp only [List.map_cons, List.map_nil, sendL, nlF_len, List.length_nil, List.nil_append]
  by_cases h : i < k
  · rw [if_pos (show min i k < k by omega), if_pos (by decide), show min i k = i by omega, show min (i + 1) k = i + 1 by omega, nlF_succ, show i - k = 0 by omega, show i + 1 - k = 0 by omega]
  · rw [if_neg (show ¬ min i k < k by omega), if_pos (by decide), show min i k = k by omega, show min (i + 1) k = k by omega, show i + 1 - k = i - k + 1 by omega]
    simp
theorem two_take2 (k : Nat) (lost : Int) (its : List NE) (x : NE) : (mput (two k lost its [x]).1 2 (1, 0, []), (two k lost its [x]).2) = two k lost its [] := rfl
theorem two_take1 (k : Nat) (lost : Int) (its t f : List NE) : (mput (two k lost its f).1 1 (k, lost, t), (two k lost its f).2) = two k lost t f := rfl
theorem sO_lb {k i : Nat} (h : i ≤ 1000) : ∀ id x, lkp (sO k i).1 id = some x → 0 ≤ x.2.1 ∧ x.2.1 ≤ 1000000 := lb_of (fun p hp => by
  simp only [sO, two, List.mem_cons, List.not_mem_nil, or_false] at hp
  rcases hp with rfl | rfl
  · dsimp only; omega
  · exact ⟨by decide, by decide⟩)
def aw21 : FS := openS ([], 0) 1
def aw22 : FS := (sendF (true, R21, []) aw21.1, aw21.2)
def aw23 : FS := (sendF (false, R21, []) aw22.1, aw22.2)
end Go.Gx.T21

/- Walks: what Go functions of this chapter come to, each as a function on plain data; no condition but those that each theorem names. Printed by a program of this work (gen.py). -/
namespace Go.Proofs.Ytplefabpplfjbaa
open Go.Gx Go.Gx.T21 Go.Gx.T6 Go.Gx.T4
theorem cl6 : Callable Try.prog 6 := callable Try.func6 (by kernel_rfl) rfl
theorem cl7 : Callable Try.prog 7 := callable Try.func7 (by kernel_rfl) rfl
theorem cl9 : Callable Try.prog 9 := callable Try.func9 (by kernel_rfl) rfl
theorem cl10 : Callable Try.prog 10 := callable Try.func10 (by kernel_rfl) rfl
theorem cl11 : Callable Try.prog 11 := callable Try.func11 (by kernel_rfl) rfl
theorem cl13 : Callable Try.prog 13 := callable Try.func13 (by kernel_rfl) rfl
theorem cl14 : Callable Try.prog 14 := callable Try.func14 (by kernel_rfl) rfl
theorem bl24_0s1 (x0 : ByteArray) : Program.built Try.prog 24 [(0, Value.string x0)] = some #[Value.string x0, Value.slice none 0 0] := by
 kernel_rfl
theorem bl36_1a2 (x0 : Value) (x1 : Value) : Program.built Try.prog 36 [(1, Value.agg #[x0, x1])] = some #[Value.bool false, x0, x1] := by
 kernel_rfl
theorem bs3_10i2 (a0 : IntKind) (a1 : Int) : Instr.fill (fun i => some (i * 1, 1)) ((Array.range (1 * 1)).map ((Value.int .i64 0).cells[· % (Value.int .i64 0).cells.size]!)) [(0, Value.int a0 a1)] = some #[Value.int a0 a1] := by
 kernel_rfl
theorem c_awake21   (w : World)  :
  Calls Try.prog 7 #[] w (Ret fun r w' => r = Value.bool true ∧ Since nX w w') := by
 refine enter (args := []) (X := nX) (G := (fun _ => none)) (l := []) Try.func7 rfl Try.ntmps7 (fun _ _ h => by cases h) trivial (Nat.le_of_ble_eq_true rfl) ?_
 refine c_seq ?_
 refine c_region ?_
 refine r_val .none rfl (p_assign rfl) ?_
 refine r_nil ?_
 refine e_next ?_
 refine c_seq ?_
 refine c_region ?_
 refine r_callnew (vs := []) .none rfl cl6 rfl (fun w hw => c_fnew w hw) (fun p_1 => ?_)
 refine r_val .none rfl (p_assign rfl) ?_
 refine r_nil ?_
 refine e_next ?_
 refine c_seq ?_
 refine c_seq ?_
 refine c_region ?_
 refine r_val .none rfl (p_move rfl) ?_
 refine r_val .none rfl (p_eq_ptr Try.underlying25 (by first | exact .inr rfl | exact .inl rfl) rfl rfl) ?_
 refine r_say (d := 8) (v := Value.bool false) rfl ?_
 refine r_nil ?_
 refine e_next ?_
 refine c_cond_f rfl ?_
 refine c_skip ?_
 refine e_next ?_
 refine c_seq ?_
 refine c_region ?_
 refine r_val .none rfl (p_move rfl) ?_
 refine r_callo (k := 0) (vs := [_, _]) .none rfl cl9 rfl rfl (fun w F hw hA hFG => c_fopen _ 1 ([], 0) (le_of (by decide)) (by decide) w hw hA hFG) ?_
 refine r_say (d := 11) (v := Value.tuple #[Value.int .i64 1, Value.int .i64 0]) rfl ?_
 refine r_val .none rfl (p_move rfl) ?_
 refine r_val .none rfl (p_extract rfl rfl) ?_
 refine r_val .none rfl (p_extract rfl rfl) ?_
 refine r_val .none rfl (p_assign rfl) ?_
 refine r_val .none rfl (p_assign rfl) ?_
 refine r_nil ?_
 refine e_next ?_
 refine c_seq ?_
 refine c_region ?_
 refine r_val .none rfl (p_move rfl) ?_
 refine r_val .none rfl (p_build (vs := [(0, Value.string _)]) rfl (bl24_0s1 _)) ?_
 refine r_val .none rfl (p_build (vs := [(0, Value.bool _), (1, Value.agg #[_, _])]) rfl (bl36_0b1_1a2 _ _ _)) ?_
 refine r_callo (k := 0) (vs := [_, _]) .none rfl cl10 rfl rfl (fun w F hw hA hFG => c_fsend _ true R21 _ [] aw21 (SlG.nil _ _ _) (by decide) (by decide) (by decide) (lb_of (by decide)) w hw hA hFG) ?_
 refine r_say (d := 17) (v := Value.int .i64 1) rfl ?_
 refine r_val .none rfl (p_move rfl) ?_
 refine r_val .none rfl (p_build (vs := [(0, Value.string _)]) rfl (bl24_0s1 _)) ?_
 refine r_val .none rfl (p_build (vs := [(1, Value.agg #[_, _])]) rfl (bl36_1a2 _ _)) ?_
 refine r_callo (k := 0) (vs := [_, _]) .none rfl cl10 rfl rfl (fun w F hw hA hFG => c_fsend _ false R21 _ [] aw22 (SlG.nil _ _ _) (by decide) (by decide) (by decide) (lb_of (by decide)) w hw hA hFG) ?_
 refine r_say (d := 21) (v := Value.int .i64 0) rfl ?_
 refine r_val .none rfl (p_assign rfl) ?_
 refine r_val .none rfl (p_assign rfl) ?_
 refine r_nil ?_
 refine e_next ?_
 refine c_seq ?_
 refine c_region ?_
 refine r_val .none rfl (p_move rfl) ?_
 refine r_val .none rfl (p_eq rfl rfl) ?_
 refine r_say (d := 23) (v := Value.bool true) rfl ?_
 refine r_val .none rfl (p_move rfl) ?_
 refine r_val (.some rfl rfl) rfl (p_move rfl) ?_
 refine r_val (.some rfl rfl) rfl (p_eq rfl rfl) ?_
 refine r_say (d := 26) (v := Value.bool true) rfl ?_
 refine r_val .none rfl (p_pick_t rfl rfl) ?_
 refine r_val .none rfl (p_move rfl) ?_
 refine r_val (.some rfl rfl) rfl (p_move rfl) ?_
 refine r_val (.some rfl rfl) rfl (p_eq rfl rfl) ?_
 refine r_say (d := 30) (v := Value.bool true) rfl ?_
 refine r_val .none rfl (p_pick_t rfl rfl) ?_
 refine r_val .none rfl (p_move rfl) ?_
 refine r_val (.some rfl rfl) rfl (p_move rfl) ?_
 refine r_val (.some rfl rfl) rfl (p_eq rfl rfl) ?_
 refine r_say (d := 34) (v := Value.bool true) rfl ?_
 refine r_val .none rfl (p_pick_t rfl rfl) ?_
 refine r_val .none rfl (p_move rfl) ?_
 refine r_val (.some rfl rfl) rfl (p_move rfl) ?_
 refine r_callo (k := 0) (vs := [_, _]) (.some rfl rfl) rfl cl13 rfl rfl (fun w F hw hA hFG => c_fwaits _ 1 aw23 w hw hA hFG) ?_
 refine r_say (d := 38) (v := Value.int .i64 1) rfl ?_
 refine r_val (.some rfl rfl) rfl (p_eq rfl rfl) ?_
 refine r_say (d := 39) (v := Value.bool true) rfl ?_
 refine r_val .none rfl (p_pick_t rfl rfl) ?_
 refine r_val .none rfl (p_move rfl) ?_
 refine r_val (.some rfl rfl) rfl (p_move rfl) ?_
 refine r_callo (k := 0) (vs := [_, _]) (.some rfl rfl) rfl cl14 rfl rfl (fun w F hw hA hFG => c_flost _ 1 aw23 w hw hA hFG) ?_
 refine r_say (d := 43) (v := Value.int .i64 1) rfl ?_
 refine r_val (.some rfl rfl) rfl (p_eq rfl rfl) ?_
 refine r_say (d := 44) (v := Value.bool true) rfl ?_
 refine r_val .none rfl (p_pick_t rfl rfl) ?_
 refine r_val .none rfl (p_assign rfl) ?_
 refine r_nil ?_
 refine e_next ?_
 refine c_ret ?_
 refine e_ret1 Try.results7 (.tmp rfl .nil) (fun w hm => ⟨?_, hm.since⟩)
 rfl
set_option maxRecDepth 100000 in
theorem c_FeedOrder (a b : Int) (ha : 0 ≤ a ∧ a ≤ 255) (hb : 0 ≤ b ∧ b ≤ 255) (w : World)  :
  Calls Try.prog 4 #[Value.int .u8 a, Value.int .u8 b] w (Ret fun r w' => r = Value.bool true ∧ Since nX w w') := by
 refine enter (args := [_, _]) (X := nX) (G := (fun _ => none)) (l := [(0, Value.int .u8 a), (1, Value.int .u8 b)]) Try.func4 rfl Try.ntmps4 (fun _ _ h => by cases h) ⟨rfl, rfl, trivial⟩ (Nat.le_of_ble_eq_true rfl) ?_
 refine c_seq ?_
 refine c_region ?_
 refine r_val .none rfl (p_assign rfl) ?_
 refine r_nil ?_
 refine e_next ?_
 refine c_seq ?_
 refine c_region ?_
 refine r_callnew (vs := []) .none rfl cl6 rfl (fun w hw => c_fnew w hw) (fun p_1 => ?_)
 refine r_val .none rfl (p_assign rfl) ?_
 refine r_nil ?_
 refine e_next ?_
 refine c_seq ?_
 refine c_seq ?_
 refine c_region ?_
 refine r_val .none rfl (p_move rfl) ?_
 refine r_val .none rfl (p_eq_ptr Try.underlying25 (by first | exact .inr rfl | exact .inl rfl) rfl rfl) ?_
 refine r_say (d := 22) (v := Value.bool false) rfl ?_
 refine r_nil ?_
 refine e_next ?_
 refine c_cond_f rfl ?_
 refine c_skip ?_
 refine e_next ?_
 refine c_seq ?_
 refine c_region ?_
 refine r_val .none rfl (p_move rfl) ?_
 refine r_val .none rfl (p_conv Try.underlying5 Try.underlying3 rfl (IntWalk.i64_in _ (by omega))) ?_
 refine r_val .none rfl (p_rem rfl rfl (by omega)) ?_
 refine r_val .none rfl (p_add rfl rfl (by omega)) ?_
 obtain ⟨k, hk⟩ : ∃ k : Nat, 1 + b % 20 = (k : Int) := ⟨(1 + b % 20).toNat, by omega⟩
 rw [hk]
 have hkb : 1 ≤ k ∧ k ≤ 20 := by omega
 refine r_val .none rfl (p_move rfl) ?_
 refine r_val .none rfl (p_conv Try.underlying5 Try.underlying3 rfl (IntWalk.i64_in _ (by omega))) ?_
 refine r_val .none rfl (p_rem rfl rfl (by omega)) ?_
 obtain ⟨mn, hmn⟩ : ∃ mn : Nat, a % 101 = (mn : Int) := ⟨(a % 101).toNat, by omega⟩
 rw [hmn]
 have hmb : mn ≤ 100 := by omega
 refine r_val .none rfl (p_assign rfl) ?_
 refine r_val .none rfl (p_assign rfl) ?_
 refine r_nil ?_
 refine e_next ?_
 refine c_seq ?_
 refine c_region ?_
 refine r_val .none rfl (p_move rfl) ?_
 refine r_val .none rfl (p_move rfl) ?_
 refine r_callo (k := 0) (vs := [_, _]) .none rfl cl9 rfl rfl (fun w F hw hA hFG => c_fopen _ (k : Int) ([], 0) (le_of (by decide)) (by decide) w hw hA hFG) ?_
 rw [(opn (s := ([], 0)) hkb.1 (by omega) (by decide)).1, (opn (s := ([], 0)) hkb.1 (by omega) (by decide)).2.1, (opn (s := ([], 0)) hkb.1 (by omega) (by decide)).2.2]
 refine r_say (d := 33) (v := Value.tuple #[Value.int .i64 1, Value.int .i64 0]) rfl ?_
 refine r_val .none rfl (p_move rfl) ?_
 refine r_val .none rfl (p_extract rfl rfl) ?_
 refine r_val .none rfl (p_extract rfl rfl) ?_
 refine r_val .none rfl (p_assign rfl) ?_
 refine r_val .none rfl (p_assign rfl) ?_
 refine r_nil ?_
 refine e_next ?_
 refine c_seq ?_
 refine c_region ?_
 refine r_val .none rfl (p_move rfl) ?_
 refine r_callo (k := 0) (vs := [_, _]) .none rfl cl9 rfl rfl (fun w F hw hA hFG => c_fopen _ 1 ([(1, (k, 0, []))], 1) (le_of (by simp)) ⟨by simp, by simp⟩ w hw hA hFG) ?_
 refine r_say (d := 38) (v := Value.tuple #[Value.int .i64 2, Value.int .i64 0]) rfl ?_
 rw [show openS ([(1, (k, 0, []))], 1) 1 = sO k 0 from by (unfold sO two; rw [show min 0 k = 0 by omega, show 0 - k = 0 by omega]; rfl)]
 refine r_val .none rfl (p_move rfl) ?_
 refine r_val .none rfl (p_extract rfl rfl) ?_
 refine r_val .none rfl (p_extract rfl rfl) ?_
 refine r_val .none rfl (p_assign rfl) ?_
 refine r_val .none rfl (p_assign rfl) ?_
 refine r_nil ?_
 refine e_next ?_
 refine c_seq ?_
 refine c_seq ?_
 refine c_region ?_
 refine r_val .none rfl (p_move rfl) ?_
 refine r_val .none rfl (p_ne rfl rfl) ?_
 refine r_say (d := 42) (v := Value.bool false) rfl ?_
 refine r_val .none rfl (p_move rfl) ?_
 refine r_val (.some rfl rfl) rfl (p_move rfl) ?_
 refine r_val (.some rfl rfl) rfl (p_ne rfl rfl) ?_
 refine r_say (d := 45) (v := Value.bool false) rfl ?_
 refine r_val .none rfl (p_pick_f rfl rfl) ?_
 refine r_nil ?_
 refine e_next ?_
 refine c_cond_f rfl ?_
 refine c_skip ?_
 refine e_next ?_
 refine c_seq ?_
 refine c_seq ?_
 refine c_region ?_
 refine r_val .none rfl (p_move rfl) ?_
 refine r_val .none rfl (p_move rfl) ?_
 refine r_nil ?_
 refine e_next ?_
 refine c_block ?_
 refine c_name (d := 5) rfl (fun u_2 hu_2 => ?_)
 refine c_name (d := 6) rfl (fun u_3 hu_3 => ?_)
 refine c_name (d := 7) rfl (fun u_4 hu_4 => ?_)
 refine c_name (d := 8) rfl (fun u_5 hu_5 => ?_)
 refine c_name (d := 10) rfl (fun u_6 hu_6 => ?_)
 refine c_name (d := 47) rfl (fun u_7 hu_7 => ?_)
 refine c_loop (σ := Nat × Ghost) (fun s' => [(48, Value.int .i64 (s'.1 : Nat)), (5, u_2), (6, u_3), (7, u_4), (8, u_5), (10, u_6), (47, u_7)]) (fun s' => [feedA 69 73 3 p_1 (sO k s'.1)]) (fun s' => s'.2) (fun s' => s'.1 ≤ mn ∧ GNew w nX (fun _ => none) s'.2) (fun s' => mn - s'.1) ((0, _)) ⟨Nat.zero_le _, GNew.refl _ _ _⟩ rfl ⟨rfl, rfl, rfl, rfl, rfl, rfl, rfl, trivial⟩ (.keep (fun _ _ h => h) (.nil)) (fun s' hphi => ?_)
 subst hu_2
 subst hu_3
 subst hu_4
 subst hu_5
 subst hu_6
 subst hu_7
 obtain ⟨i, H⟩ := s'
 obtain ⟨hi, hgn⟩ := hphi
 dsimp only at hi hgn ⊢
 refine c_seq ?_
 refine c_region ?_
 refine r_val .none rfl (p_lt rfl rfl) ?_
 refine r_nil ?_
 refine e_next ?_
 refine c_seq ?_
 refine c_splitd (d := 49) rfl (fun h_8 => ?_) (fun h_8 => ?_)
 ·
  first
   | (exfalso; first | omega | assumption)
   | (
    refine c_cond_t rfl ?_
    refine c_skip ?_
    refine e_next ?_
    refine c_seq ?_
    refine c_block ?_
    refine c_seq ?_
    refine c_region ?_
    refine r_val .none rfl (p_move rfl) ?_
    refine r_val .none rfl (p_assign rfl) ?_
    refine r_nil ?_
    refine e_next ?_
    refine c_seq ?_
    refine c_region ?_
    refine r_val .none rfl (p_move rfl) ?_
    refine r_val .none rfl (p_move rfl) ?_
    refine r_val .none rfl (p_add rfl rfl (by omega)) ?_
    refine r_bslice (vs := [(0, Value.int _ _)]) (c := #[_]) .none rfl Try.underlying22 el3 rfl rfl rfl (bs3_10i2 _ _) (IsRow.lit _) (fun b_1 => ?_)
    refine r_conv (B := rowA (.slice (some ⟨b_1, 0, none⟩) 1 1) 3 1 ([(i : Int) + 1]).length (([(i : Int) + 1]).flatMap cI)) (k := 0) rfl (fun _ _ h => rowA_congr rfl (by rfl) _ _ (box_rowA (n := 1) (sz := 1) rfl (by decide) h)) ?_
    dsimp only [List.set_cons_zero, List.set_cons_succ]
    refine r_freeze (k := 0) rfl (fun G_9 hn_10 hs_11 => ?_)
    have hsn : SlL G_9 (.slice (some ⟨b_1, 0, none⟩) 1 1) 1 cI (0 : Int) ([(i : Int) + 1]) := SlL.of (cells := cI) (0 : Int) (fun _ => rfl) rfl hs_11
    refine r_val .none rfl (p_build (vs := [(0, Value.string _), (1, Value.slice _ _ _)]) rfl (bl24_0s1_1s3 _ _ _ _)) ?_
    refine r_val .none rfl (p_build (vs := [(1, Value.agg #[_, _])]) rfl (bl36_1a2 _ _)) ?_
    refine r_callo (k := 0) (vs := [_, _]) .none rfl cl10 rfl rfl (fun w F hw hA hFG => c_fsend _ false R21 _ [(i : Int) + 1] (sO k i) hsn (by simp) (by simp [sO, two]) (by simp [sO, two]) (sO_lb (by omega)) w hw hA hFG) ?_
    rw [show (sendF (false, R21, [(i : Int) + 1]) (sO k i).1, (sO k i).2) = _ from sO_send k i]
    refine r_nil ?_
    refine e_next ?_
    refine c_seq ?_
    refine c_region ?_
    refine r_val .none rfl (p_move rfl) ?_
    refine r_val .none rfl (p_move rfl) ?_
    refine r_callov (k := 0) (vs := [_, _]) (u := fun v => .tuple #[.agg #[.bool (nOf i).1, .string (nOf i).2.1, v], .bool true]) .none rfl cl11 rfl rfl (fun w F hw hA hFG => c_ftake1 _ 2 1 0 (nOf i) [] (two k ((i + 1 - k : Nat) : Int) (nlF (min (i + 1) k)) [(nOf i)]) rfl w hw hA hFG) (fun tv_12 => ?_)
    refine r_unpack ?_
    refine r_freeze (k := 0) rfl (fun G_13 hn_14 hs_15 => ?_)
    replace hsn := hsn.mono hn_14.le
    have ht1 : SlL G_13 tv_12 1 cI (0 : Int) (nOf i).2.2 := SlL.of (cells := cI) (0 : Int) (fun _ => rfl) rfl hs_15
    rw [two_take2]
    refine r_val .none rfl (p_move rfl) ?_
    refine r_val .none rfl (p_extract rfl rfl) ?_
    refine r_val .none rfl (p_extract rfl rfl) ?_
    refine r_alloc .none rfl zr36 (IsRow.lit _) (fun b_2 => ?_)
    refine r_stw (k := 0) .none sz36 rfl rfl (IsRow.lit _) (one_lit rfl (all_cons rfl (all_cons rfl (all_cons (ht1).one rfl)))) rfl ?_
    refine r_val .none rfl (p_assign rfl) ?_
    refine r_nil ?_
    refine e_next ?_
    refine c_seq ?_
    refine c_region ?_
    refine r_val .none rfl (p_move rfl) ?_
    refine r_val .none rfl (p_not rfl) ?_
    refine r_say (d := 65) (v := Value.bool false) rfl ?_
    refine r_val .none rfl (p_move rfl) ?_
    refine r_val (.some rfl rfl) rfl (p_field Try.underlying36 rfl sz24 rfl) ?_
    refine r_val (.some rfl rfl) rfl (p_field Try.underlying24 rfl sz22 rfl) ?_
    refine r_val (.some rfl rfl) rfl (p_ld (k := 0) Try.underlying22 rfl rfl rfl (by first | exact of_decide_eq_true rfl | omega) rfl) ?_
    refine r_val (.some rfl rfl) rfl (p_leng Try.underlying22 rfl ht1) ?_
    have bd_16 := (ht1).bound
    refine r_say (d := 70) (v := Value.int .i64 1) rfl ?_
    refine r_val (.some rfl rfl) rfl (p_ne rfl rfl) ?_
    refine r_say (d := 71) (v := Value.bool false) rfl ?_
    refine r_val .none rfl (p_pick_f rfl rfl) ?_
    refine r_val .none rfl (p_move rfl) ?_
    refine r_val (.some rfl rfl) rfl (p_field Try.underlying36 rfl sz24 rfl) ?_
    refine r_val (.some rfl rfl) rfl (p_field Try.underlying24 rfl sz22 rfl) ?_
    refine r_val (.some rfl rfl) rfl (p_ld (k := 0) Try.underlying22 rfl rfl rfl (by first | exact of_decide_eq_true rfl | omega) rfl) ?_
    refine r_iaddr_g (i := 0) (.some rfl rfl) rfl Try.underlying22 sz3 rfl ht1 rfl (by first | exact of_decide_eq_true rfl | omega) (fun p_18 o_19 R_17 => ?_)
    refine r_val (.some rfl rfl) rfl (p_ldg0 Try.underlying3 rfl rfl R_17 (by first | exact of_decide_eq_true rfl | omega) (rfl : _ = Value.int _ _)) ?_
    refine r_say (d := 78) (v := Value.int .i64 ((i : Int) + 1)) rfl ?_
    refine r_val (.some rfl rfl) rfl (p_move rfl) ?_
    refine r_val (.some rfl rfl) rfl (p_add rfl rfl (by omega)) ?_
    refine r_val (.some rfl rfl) rfl (p_ne rfl rfl) ?_
    refine r_say (d := 81) (v := Value.bool false) (congrArg (fun z => some (Value.bool z)) (decide_eq_false (fun h9 => h9 rfl))) ?_
    refine r_val .none rfl (p_pick_f rfl rfl) ?_
    refine r_nil ?_
    refine e_next ?_
    refine c_cond_f rfl ?_
    refine c_skip ?_
    refine e_norm_block ?_
    refine e_next ?_
    refine c_region ?_
    refine r_val .none rfl (p_add rfl rfl (by omega)) ?_
    refine r_val .none rfl (p_move rfl) ?_
    refine r_nil ?_
    refine e_round ((i + 1, _)) ⟨⟨by dsimp only; omega, ((hgn.trans hn_10).trans hn_14)⟩, by dsimp only; omega⟩ rfl ⟨rfl, rfl, rfl, rfl, rfl, rfl, rfl, trivial⟩ (.drop (.keep (fun _ _ h => h) (.nil)))
    )
 ·
  first
   | (exfalso; first | omega | assumption)
   | (
    refine c_cond_f rfl ?_
    refine c_exit ?_
    refine e_exit_then ?_
    refine e_exit_then ?_
    refine e_exit_block ?_
    refine e_next ?_
    refine c_seq ?_
    refine c_seq ?_
    refine c_region ?_
    refine r_val .none rfl (p_move rfl) ?_
    refine r_val .none rfl (p_move rfl) ?_
    obtain rfl : mn = i := by omega
    refine r_callo (k := 0) (vs := [_, _]) .none rfl cl13 rfl rfl (fun w F hw hA hFG => c_fwaits _ 1 (sO k mn) w hw hA hFG) ?_
    rw [show (((lkp (sO k mn).1 1).map fun x => x.2.2.length).getD 0) = (nlF (min mn k)).length from rfl, nlF_len]
    refine r_val .none rfl (p_move rfl) ?_
    refine r_val .none rfl (p_move rfl) ?_
    refine r_val .none rfl (p_min rfl rfl) ?_
    refine r_val .none rfl (p_ne rfl rfl) ?_
    refine r_say (d := 90) (v := Value.bool false) (congrArg (fun z => some (Value.bool z)) (decide_eq_false (fun h9 => h9 (by omega)))) ?_
    refine r_val .none rfl (p_move rfl) ?_
    refine r_val (.some rfl rfl) rfl (p_move rfl) ?_
    refine r_val (.some rfl rfl) rfl (p_move rfl) ?_
    refine r_callo (k := 0) (vs := [_, _]) (.some rfl rfl) rfl cl14 rfl rfl (fun w F hw hA hFG => c_flost _ 1 (sO k mn) w hw hA hFG) ?_
    rw [show (((lkp (sO k mn).1 1).map fun x => x.2.1).getD 0) = ((mn - k : Nat) : Int) from rfl]
    refine r_val (.some rfl rfl) rfl (p_move rfl) ?_
    refine r_val (.some rfl rfl) rfl (p_move rfl) ?_
    refine r_val (.some rfl rfl) rfl (p_sub rfl rfl (by omega)) ?_
    refine r_val (.some rfl rfl) rfl (p_max rfl rfl) ?_
    refine r_val (.some rfl rfl) rfl (p_ne rfl rfl) ?_
    refine r_say (d := 99) (v := Value.bool false) (congrArg (fun z => some (Value.bool z)) (decide_eq_false (fun h9 => h9 (by omega)))) ?_
    refine r_val .none rfl (p_pick_f rfl rfl) ?_
    refine r_val .none rfl (p_move rfl) ?_
    refine r_val (.some rfl rfl) rfl (p_move rfl) ?_
    refine r_val (.some rfl rfl) rfl (p_move rfl) ?_
    refine r_callo (k := 0) (vs := [_, _]) (.some rfl rfl) rfl cl14 rfl rfl (fun w F hw hA hFG => c_flost _ 2 (sO k mn) w hw hA hFG) ?_
    refine r_say (d := 104) (v := Value.int .i64 0) rfl ?_
    refine r_val (.some rfl rfl) rfl (p_ne rfl rfl) ?_
    refine r_say (d := 105) (v := Value.bool false) rfl ?_
    refine r_val .none rfl (p_pick_f rfl rfl) ?_
    refine r_nil ?_
    refine e_next ?_
    refine c_cond_f rfl ?_
    refine c_skip ?_
    refine e_next ?_
    refine c_seq ?_
    refine c_seq ?_
    refine c_region ?_
    refine r_val .none rfl (p_move rfl) ?_
    refine r_val .none rfl (p_move rfl) ?_
    refine r_val .none rfl (p_min rfl rfl) ?_
    rw [show min (k : Int) (mn : Int) = ((min mn k : Nat) : Int) by omega]
    refine r_val .none rfl (p_move rfl) ?_
    refine r_nil ?_
    refine e_next ?_
    refine c_block ?_
    refine c_name (d := 5) rfl (fun u_20 hu_20 => ?_)
    refine c_name (d := 8) rfl (fun u_21 hu_21 => ?_)
    refine c_name (d := 109) rfl (fun u_22 hu_22 => ?_)
    refine c_loop (σ := Nat × Ghost) (fun s' => [(110, Value.int .i64 (s'.1 : Nat)), (5, u_20), (8, u_21), (109, u_22)]) (fun s' => [feedA 69 73 3 p_1 (two k ((mn - k : Nat) : Int) ((nlF (min mn k)).drop s'.1) [])]) (fun s' => s'.2) (fun s' => s'.1 ≤ (min mn k) ∧ GNew w nX H s'.2) (fun s' => (min mn k) - s'.1) ((0, _)) ⟨Nat.zero_le _, GNew.refl _ _ _⟩ rfl ⟨rfl, rfl, rfl, rfl, trivial⟩ (.keep (fun _ _ h => h) (.nil)) (fun s' hphi => ?_)
    subst hu_20
    subst hu_21
    subst hu_22
    obtain ⟨i, H2⟩ := s'
    obtain ⟨hi, hgn2⟩ := hphi
    dsimp only at hi hgn2 ⊢
    refine c_seq ?_
    refine c_region ?_
    refine r_val .none rfl (p_lt rfl rfl) ?_
    refine r_nil ?_
    refine e_next ?_
    refine c_seq ?_
    refine c_splitd (d := 111) rfl (fun h_23 => ?_) (fun h_23 => ?_)
    ·
     first
      | (exfalso; first | omega | assumption)
      | (
       refine c_cond_t rfl ?_
       refine c_skip ?_
       refine e_next ?_
       refine c_seq ?_
       refine c_block ?_
       refine c_seq ?_
       refine c_region ?_
       refine r_val .none rfl (p_move rfl) ?_
       refine r_val .none rfl (p_assign rfl) ?_
       refine r_nil ?_
       refine e_next ?_
       refine c_seq ?_
       refine c_region ?_
       refine r_val .none rfl (p_move rfl) ?_
       refine r_val .none rfl (p_move rfl) ?_
       refine r_callov (k := 0) (vs := [_, _]) (u := fun v => .tuple #[.agg #[.bool (nOf i).1, .string (nOf i).2.1, v], .bool true]) .none rfl cl11 rfl rfl (fun w F hw hA hFG => c_ftake1 _ 1 k ((mn - k : Nat) : Int) (nOf i) ((nlF (min mn k)).drop (i + 1)) (two k ((mn - k : Nat) : Int) ((nlF (min mn k)).drop i) []) (by rw [nlF_drop (by omega)]; rfl) w hw hA hFG) (fun tv_24 => ?_)
       refine r_unpack ?_
       refine r_freeze (k := 0) rfl (fun G_25 hn_26 hs_27 => ?_)
       have ht2 : SlL G_25 tv_24 1 cI (0 : Int) (nOf i).2.2 := SlL.of (cells := cI) (0 : Int) (fun _ => rfl) rfl hs_27
       rw [two_take1]
       refine r_val .none rfl (p_move rfl) ?_
       refine r_val .none rfl (p_extract rfl rfl) ?_
       refine r_val .none rfl (p_extract rfl rfl) ?_
       refine r_alloc .none rfl zr36 (IsRow.lit _) (fun b_3 => ?_)
       refine r_stw (k := 0) .none sz36 rfl rfl (IsRow.lit _) (one_lit rfl (all_cons rfl (all_cons rfl (all_cons (ht2).one rfl)))) rfl ?_
       refine r_val .none rfl (p_assign rfl) ?_
       refine r_nil ?_
       refine e_next ?_
       refine c_seq ?_
       refine c_region ?_
       refine r_val .none rfl (p_move rfl) ?_
       refine r_val .none rfl (p_not rfl) ?_
       refine r_say (d := 120) (v := Value.bool false) rfl ?_
       refine r_val .none rfl (p_move rfl) ?_
       refine r_val (.some rfl rfl) rfl (p_field Try.underlying36 rfl sz24 rfl) ?_
       refine r_val (.some rfl rfl) rfl (p_field Try.underlying24 rfl sz22 rfl) ?_
       refine r_val (.some rfl rfl) rfl (p_ld (k := 0) Try.underlying22 rfl rfl rfl (by first | exact of_decide_eq_true rfl | omega) rfl) ?_
       refine r_val (.some rfl rfl) rfl (p_leng Try.underlying22 rfl ht2) ?_
       have bd_28 := (ht2).bound
       refine r_say (d := 125) (v := Value.int .i64 1) rfl ?_
       refine r_val (.some rfl rfl) rfl (p_ne rfl rfl) ?_
       refine r_say (d := 126) (v := Value.bool false) rfl ?_
       refine r_val .none rfl (p_pick_f rfl rfl) ?_
       refine r_val .none rfl (p_move rfl) ?_
       refine r_val (.some rfl rfl) rfl (p_field Try.underlying36 rfl sz24 rfl) ?_
       refine r_val (.some rfl rfl) rfl (p_field Try.underlying24 rfl sz22 rfl) ?_
       refine r_val (.some rfl rfl) rfl (p_ld (k := 0) Try.underlying22 rfl rfl rfl (by first | exact of_decide_eq_true rfl | omega) rfl) ?_
       refine r_iaddr_g (i := 0) (.some rfl rfl) rfl Try.underlying22 sz3 rfl ht2 rfl (by first | exact of_decide_eq_true rfl | omega) (fun p_30 o_31 R_29 => ?_)
       refine r_val (.some rfl rfl) rfl (p_ldg0 Try.underlying3 rfl rfl R_29 (by first | exact of_decide_eq_true rfl | omega) (rfl : _ = Value.int _ _)) ?_
       refine r_say (d := 133) (v := Value.int .i64 ((i : Int) + 1)) rfl ?_
       refine r_val (.some rfl rfl) rfl (p_move rfl) ?_
       refine r_val (.some rfl rfl) rfl (p_add rfl rfl (by omega)) ?_
       refine r_val (.some rfl rfl) rfl (p_ne rfl rfl) ?_
       refine r_say (d := 136) (v := Value.bool false) (congrArg (fun z => some (Value.bool z)) (decide_eq_false (fun h9 => h9 rfl))) ?_
       refine r_val .none rfl (p_pick_f rfl rfl) ?_
       refine r_nil ?_
       refine e_next ?_
       refine c_cond_f rfl ?_
       refine c_skip ?_
       refine e_norm_block ?_
       refine e_next ?_
       refine c_region ?_
       refine r_val .none rfl (p_add rfl rfl (by omega)) ?_
       refine r_val .none rfl (p_move rfl) ?_
       refine r_nil ?_
       refine e_round ((i + 1, _)) ⟨⟨by dsimp only; omega, (hgn2.trans hn_26)⟩, by dsimp only; omega⟩ rfl ⟨rfl, rfl, rfl, rfl, trivial⟩ (.drop (.keep (fun _ _ h => h) (.nil)))
       )
    ·
     first
      | (exfalso; first | omega | assumption)
      | (
       refine c_cond_f rfl ?_
       refine c_exit ?_
       refine e_exit_then ?_
       refine e_exit_then ?_
       refine e_exit_block ?_
       refine e_next ?_
       refine c_seq ?_
       refine c_region ?_
       refine r_val .none rfl (p_move rfl) ?_
       refine r_val .none rfl (p_move rfl) ?_
       obtain rfl : i = (min mn k) := by omega
       refine r_callo (k := 0) (vs := [_, _]) .none rfl cl11 rfl rfl (fun w F hw hA hFG => c_ftake0 _ 1 (two k ((mn - k : Nat) : Int) ((nlF (min mn k)).drop (min mn k)) []) (by rw [List.drop_of_length_le (by rw [nlF_len]; omega)]; rfl) w hw hA hFG) ?_
       refine r_val .none rfl (p_move rfl) ?_
       refine r_val .none rfl (p_extract rfl rfl) ?_
       refine r_val .none rfl (p_extract rfl rfl) ?_
       refine r_alloc .none rfl zr36 (IsRow.lit _) (fun b_4 => ?_)
       refine r_stw (k := 0) .none sz36 rfl rfl (IsRow.lit _) (one_lit rfl rfl) rfl ?_
       refine r_val .none rfl (p_assign rfl) ?_
       refine r_nil ?_
       refine e_next ?_
       refine c_seq ?_
       refine c_region ?_
       refine r_val .none rfl (p_move rfl) ?_
       refine r_val .none rfl (p_not rfl) ?_
       refine r_say (d := 146) (v := Value.bool true) rfl ?_
       refine r_val .none rfl (p_move rfl) ?_
       refine r_call (vs := []) (.some rfl rfl) rfl cl7 rfl (fun w hw => c_awake21 w) ?_
       refine r_val .none rfl (p_pick_t rfl rfl) ?_
       refine r_val .none rfl (p_assign rfl) ?_
       refine r_nil ?_
       refine e_next ?_
       refine c_ret ?_
       refine e_ret1 Try.results4 (.tmp rfl .nil) (fun w hm => ⟨?_, hm.since⟩)
       first
       | rfl
       | (simp; done)
       )
    )
end Go.Proofs.Ytplefabpplfjbaa
