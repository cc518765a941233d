/- Walks: what Go functions of this chapter come to, each as a function on plain data; no condition but those that each theorem names. Printed by a program of this work (gen.py). -/
import Derived.Test.YtpcpbfajadgmpaaW04d
import Derived.Test.YtpcpbfajadgmpaaGxFreeze
import Derived.Test.YtpcpbfajadgmpaaRows
namespace Go.Proofs.Ytpcpbfajadgmpaa
open Go.Gx Go.Gx.T3 Go.Gx.T4 Go.Gx.T3
theorem cl32 : Callable Try.prog 32 := callable Try.func32 (by kernel_rfl) rfl
theorem bl23_1i1 (x0 : Int) : Program.built Try.prog 23 [(1, Value.int .i64 x0)] = some #[Value.bool false, Value.int .i64 x0] := by
  kernel_rfl
theorem bl23_0b1_1i1 (x0 : Bool) (x1 : Int) : Program.built Try.prog 23 [(0, Value.bool x0), (1, Value.int .i64 x1)] = some #[Value.bool x0, Value.int .i64 x1] := by
  kernel_rfl
theorem bl24_0a2_1a2_2a2 (x0 : Value) (x1 : Value) (x2 : Value) (x3 : Value) (x4 : Value) (x5 : Value) : Program.built Try.prog 24 [(0, Value.agg #[x0, x1]), (1, Value.agg #[x2, x3]), (2, Value.agg #[x4, x5])] = some #[x0, x1, x2, x3, x4, x5] := by
  kernel_rfl
theorem bl27_0i1_1a6 (x0 : Int) (x1 : Value) (x2 : Value) (x3 : Value) (x4 : Value) (x5 : Value) (x6 : Value) : Program.built Try.prog 27 [(0, Value.int .i64 x0), (1, Value.agg #[x1, x2, x3, x4, x5, x6])] = some #[Value.int .i64 x0, x1, x2, x3, x4, x5, x6, Value.slice none 0 0] := by
  kernel_rfl
theorem bl27_0i1_2s3 (x0 : Int) (x1 : Option Addr) (x2 : Nat) (x3 : Nat) : Program.built Try.prog 27 [(0, Value.int .i64 x0), (2, Value.slice x1 x2 x3)] = some #[Value.int .i64 x0, Value.bool false, Value.int .i64 0, Value.bool false, Value.int .i64 0, Value.bool false, Value.int .i64 0, Value.slice x1 x2 x3] := by
  kernel_rfl
theorem bs27_10a8 (a0 a1 a2 a3 a4 a5 a6 a7 : Value) : Instr.fill (fun i => some (i * 8, 8)) ((Array.range (1 * 8)).map ((Value.agg #[Value.int .i64 0, Value.bool false, Value.int .i64 0, Value.bool false, Value.int .i64 0, Value.bool false, Value.int .i64 0, Value.slice none 0 0]).cells[· % (Value.agg #[Value.int .i64 0, Value.bool false, Value.int .i64 0, Value.bool false, Value.int .i64 0, Value.bool false, Value.int .i64 0, Value.slice none 0 0]).cells.size]!)) [(0, Value.agg #[a0, a1, a2, a3, a4, a5, a6, a7])] = some #[a0, a1, a2, a3, a4, a5, a6, a7] := by
  kernel_rfl
theorem el27 : ElemIs Try.prog 27 8 80 (Value.agg #[Value.int .i64 0, Value.bool false, Value.int .i64 0, Value.bool false, Value.int .i64 0, Value.bool false, Value.int .i64 0, Value.slice none 0 0]) := by
  unfold ElemIs
  kernel_rfl
def SizeIs (n : Nat) : Prop := ∀ (c : CT) (sv : Value) (G : Ghost) (w : World), SizeOf.sizeOf c ≤ n → size c ≤ 1000 → Cs G sv c.subs → Has G w → Calls Try.prog 32 #[Value.agg #[Value.int .i64 c.h.k, Value.bool c.h.v0, Value.int .i64 c.h.n0, Value.bool c.h.v1, Value.int .i64 c.h.n1, Value.bool c.h.v2, Value.int .i64 c.h.n2, sv]] w (Ret fun r w' => r = Value.int .i64 (size c : Nat) ∧ Since nX w w')
theorem c_size_s (n : Nat) (ih : SizeIs n) (c : CT) (sv : Value)  {G : Ghost} (hz : SizeOf.sizeOf c ≤ n + 1) (hsz : size c ≤ 1000) (hs : Cs G sv c.subs) (w : World) (hG : Has G w) :
    Calls Try.prog 32 #[Value.agg #[Value.int .i64 c.h.k, Value.bool c.h.v0, Value.int .i64 c.h.n0, Value.bool c.h.v1, Value.int .i64 c.h.n1, Value.bool c.h.v2, Value.int .i64 c.h.n2, sv]] w (Ret fun r w' => r = Value.int .i64 (size c : Nat) ∧ Since nX w w') := by
  refine enter (args := [_]) (X := nX) (G := G) (l := [(0, Value.agg #[Value.int .i64 c.h.k, Value.bool c.h.v0, Value.int .i64 c.h.n0, Value.bool c.h.v1, Value.int .i64 c.h.n1, Value.bool c.h.v2, Value.int .i64 c.h.n2, sv])]) Try.func32 rfl Try.ntmps32 hG ⟨rfl, trivial⟩ (Nat.le_of_ble_eq_true rfl) ?_
  obtain ⟨rs, hr, hp, hl⟩ := hs.inv
  have hlen : c.subs.length = rs.length := by rw [hl]; simp
  have hbd := hr.bound
  refine c_seq ?_
  refine c_region ?_
  refine r_box .none rfl rfl (IsRow.lit _) (fun b_1 => ?_)
  refine r_val .none rfl (p_assign rfl) ?_
  refine r_nil ?_
  refine e_next ?_
  refine c_seq ?_
  refine c_region ?_
  refine r_val .none rfl (p_assign rfl) ?_
  refine r_nil ?_
  refine e_next ?_
  refine c_seq ?_
  refine c_seq ?_
  refine c_region ?_
  refine r_val .none rfl (p_field Try.underlying27 rfl sz25 rfl) ?_
  refine r_val .none rfl (p_ld (k := 0) Try.underlying25 rfl rfl rfl (by first | exact of_decide_eq_true rfl | omega) rfl) ?_
  refine r_val .none rfl (p_leng Try.underlying25 rfl hr) ?_
  have bd_1 := (hr).bound
  refine r_val .none rfl (p_move rfl) ?_
  refine r_nil ?_
  refine e_next ?_
  refine c_block ?_
  refine c_name (d := 2) rfl (fun u_2 hu_2 => ?_)
  refine c_name (d := 7) rfl (fun u_3 hu_3 => ?_)
  refine c_name (d := 8) rfl (fun u_4 hu_4 => ?_)
  refine c_nameL (k := 0) rfl (fun A_5 hA_5 => ?_)
  refine c_loop (σ := Nat) (fun k => [(9, Value.int .i64 (k : Nat)), (3, Value.int .i64 (1 + sizeL ((rs.map Prod.fst).take k) : Nat)), (2, u_2), (7, u_3), (8, u_4)]) (fun k => [A_5]) (fun _ => _) (fun k => k ≤ rs.length) (fun k => rs.length - k) (0) (by omega) rfl ⟨rfl, rfl, rfl, rfl, rfl, trivial⟩ (.keep (fun _ _ h => h) (.nil)) (fun k hphi => ?_)
  subst hu_2
  subst hu_3
  subst hu_4
  subst hA_5
  refine c_seq ?_
  refine c_region ?_
  refine r_val .none rfl (p_lt rfl rfl) ?_
  refine r_nil ?_
  refine e_next ?_
  refine c_seq ?_
  refine c_splitd (d := 10) rfl (fun h_6 => ?_) (fun h_6 => ?_)
  · skip
    first
      | (exfalso; omega)
      | (
        refine c_cond_t rfl ?_
        refine c_skip ?_
        refine e_next ?_
        refine c_seq ?_
        refine c_block ?_
        refine c_seq ?_
        refine c_region ?_
        refine r_iaddr_g .none rfl Try.underlying25 sz27 rfl hr rfl (by first | exact of_decide_eq_true rfl | omega) (fun p_8 o_9 R_7 => ?_)
        have hc_10 := hp _ (getD_mem (i := k) (d := d0) (by omega))
        have hz3 := size_child (i := k) hl (by omega) hsz
        refine r_val .none rfl (p_ldga0 Try.underlying27 rfl sz27 rfl R_7 (by first | exact of_decide_eq_true rfl | omega) (rfl : _ = Value.agg #[_, _, _, _, _, _, _, _])) ?_
        refine r_alloc .none rfl zr27 (IsRow.lit _) (fun b_2 => ?_)
        refine r_stw (k := 0) .none sz27 rfl rfl (IsRow.lit _) (one_lit rfl (all_cons rfl (all_cons rfl (all_cons rfl (all_cons rfl (all_cons rfl (all_cons rfl (all_cons rfl (all_cons (hc_10).one rfl))))))))) rfl ?_
        refine r_nil ?_
        refine e_next ?_
        refine c_region ?_
        refine r_val .none rfl (p_move rfl) ?_
        refine r_val .none rfl (p_ldw (k := 0) Try.underlying27 rfl sz27 rfl rfl (rfl : _ = Value.agg #[_, _, _, _, _, _, _, _])) ?_
        refine r_call (vs := [_]) .none rfl cl32 rfl (fun w hw => ih (rs.getD k d0).1 _ _ w (size_at hl (by omega) hz) hz3 hc_10 hw) ?_
        refine r_val .none rfl (p_add rfl rfl (by have h1 := sizeL_take_le (rs.map Prod.fst) k; have h2 := size_eq c; rw [hl] at h2; omega)) ?_
        refine r_val .none rfl (p_assign rfl) ?_
        refine r_nil ?_
        refine e_norm_block ?_
        refine e_next ?_
        refine c_region ?_
        refine r_val .none rfl (p_add rfl rfl (by omega)) ?_
        refine r_val .none rfl (p_move rfl) ?_
        refine r_nil ?_
        refine e_round (k + 1) ⟨by omega, by omega⟩ rfl ⟨rfl, (congrArg (fun z => some (Value.int .i64 z)) (by rw [sizeL_take (by omega)]; omega)), rfl, rfl, rfl, trivial⟩ (.drop (.keep (fun _ _ h => h) (.nil)))
        )
  · skip
    first
      | (exfalso; omega)
      | (
        refine c_cond_f rfl ?_
        refine c_exit ?_
        refine e_exit_then ?_
        refine e_exit_then ?_
        refine e_exit_block ?_
        refine e_next ?_
        refine c_seq ?_
        refine c_region ?_
        refine r_val .none rfl (p_move rfl) ?_
        refine r_val .none rfl (p_assign rfl) ?_
        refine r_nil ?_
        refine e_next ?_
        refine c_ret ?_
        refine e_ret1 Try.results32 (.tmp rfl .nil) (fun w hm => ⟨?_, hm.since⟩)
        have hk : k = rs.length := by omega
        subst hk
        rw [size_eq, hl, List.take_of_length_le (by simp)]
        )
theorem c_size_n : ∀ n, SizeIs n
  | 0 => fun c sv G w hz hsz hs hG => absurd hz (by have := size_subs c; omega)
  | n + 1 => fun c sv G w hz hsz hs hG => c_size_s n (c_size_n n) c sv hz hsz hs w hG
theorem c_size (c : CT) (sv : Value) {G : Ghost} (hsz : size c ≤ 1000) (hs : Cs G sv c.subs) (w : World) (hG : Has G w) : Calls Try.prog 32 #[Value.agg #[Value.int .i64 c.h.k, Value.bool c.h.v0, Value.int .i64 c.h.n0, Value.bool c.h.v1, Value.int .i64 c.h.n1, Value.bool c.h.v2, Value.int .i64 c.h.n2, sv]] w (Ret fun r w' => r = Value.int .i64 (size c : Nat) ∧ Since nX w w') := c_size_n _ c sv G w (Nat.le_refl _) hsz hs hG
theorem c_awake4   (w : World)  :
    Calls Try.prog 12 #[] w (Ret fun r w' => r = Value.bool true ∧ Since nX w w') := by
  refine enter (args := []) (X := nX) (G := (fun _ => none)) (l := []) Try.func12 rfl Try.ntmps12 (fun _ _ h => by cases h) trivial (Nat.le_of_ble_eq_true rfl) ?_
  refine c_seq ?_
  refine c_region ?_
  refine r_val .none rfl (p_assign rfl) ?_
  refine r_nil ?_
  refine e_next ?_
  refine c_seq ?_
  refine c_region ?_
  refine r_val .none rfl (p_build (vs := [(1, Value.int _ _)]) rfl (bl23_1i1 _)) ?_
  refine r_val .none rfl (p_build (vs := [(1, Value.int _ _)]) rfl (bl23_1i1 _)) ?_
  refine r_val .none rfl (p_build (vs := [(0, Value.bool _), (1, Value.int _ _)]) rfl (bl23_0b1_1i1 _ _)) ?_
  refine r_val .none rfl (p_build (vs := [(0, Value.agg #[_, _]), (1, Value.agg #[_, _]), (2, Value.agg #[_, _])]) rfl (bl24_0a2_1a2_2a2 _ _ _ _ _ _)) ?_
  refine r_val .none rfl (p_build (vs := [(0, Value.int _ _), (1, Value.agg #[_, _, _, _, _, _])]) rfl (bl27_0i1_1a6 _ _ _ _ _ _ _)) ?_
  refine r_alloc .none rfl zr27 (IsRow.lit _) (fun b_1 => ?_)
  refine r_stw (k := 0) .none sz27 rfl rfl (IsRow.lit _) (one_lit rfl rfl) rfl ?_
  refine r_nil ?_
  refine e_next ?_
  refine c_seq ?_
  refine c_region ?_
  refine r_val .none rfl (p_ldw (k := 0) Try.underlying27 rfl sz27 rfl rfl (rfl : _ = Value.agg #[_, _, _, _, _, _, _, _])) ?_
  refine r_call (vs := [_, _]) .none rfl cl13 rfl (fun w hw => c_check cA _ 1 Tr.nil w hw) ?_
  refine r_val .none rfl (p_assign rfl) ?_
  refine r_nil ?_
  refine e_next ?_
  refine c_seq ?_
  refine c_seq ?_
  refine c_region ?_
  refine r_val .none rfl (p_move rfl) ?_
  refine r_nil ?_
  refine e_next ?_
  refine c_block ?_
  refine c_unroll 4 ?_
  refine l_round (n := 3) ?_
  refine c_seq ?_
  refine c_region ?_
  refine r_val .none rfl (p_lt rfl rfl) ?_
  refine r_say (d := 11) (v := Value.bool true) rfl ?_
  refine r_nil ?_
  refine e_next ?_
  refine c_seq ?_
  refine c_cond_t rfl ?_
  refine c_skip ?_
  refine e_next ?_
  refine c_seq ?_
  refine c_block ?_
  refine c_region ?_
  refine r_val .none rfl (p_ldw (k := 0) Try.underlying27 rfl sz27 rfl rfl (rfl : _ = Value.agg #[_, _, _, _, _, _, _, _])) ?_
  refine r_bslice (vs := [(0, Value.agg #[_, _, _, _, _, _, _, _])]) (c := #[_, _, _, _, _, _, _, _]) .none rfl Try.underlying25 el27 rfl rfl rfl (bs27_10a8 _ _ _ _ _ _ _ _) (IsRow.lit _) (fun b_2 => ?_)
  refine r_freezeB (k := 0) 1 8 rfl rfl (by decide) (fun G_1 hn_2 hs_3 => ?_)
  have hl_5 : SlL G_1 (.slice (some ⟨b_2, 0, none⟩) 1 1) 8 cvC d0 [(cA, (Value.slice none 0 0))] := SlG.single (cA, (Value.slice none 0 0)) hs_3 (fun j hj => by match j, hj with | 0, _ => rfl | 1, _ => rfl | 2, _ => rfl | 3, _ => rfl | 4, _ => rfl | 5, _ => rfl | 6, _ => rfl | 7, _ => rfl)
  have ht_4 : Cs G_1 (.slice (some ⟨b_2, 0, none⟩) 1 1) [cA] := Tr.mk [(cA, (Value.slice none 0 0))] hl_5 (fun p hm0 => by rw [List.mem_singleton.1 hm0]; exact Tr.nil)
  refine r_val .none rfl (p_build (vs := [(0, Value.int _ _), (2, Value.slice _ _ _)]) rfl (bl27_0i1_2s3 _ _ _ _)) ?_
  refine r_stw (k := 0) .none sz27 rfl rfl (IsRow.lit _) (one_lit rfl (all_cons rfl (all_cons rfl (all_cons rfl (all_cons rfl (all_cons rfl (all_cons rfl (all_cons rfl (all_cons (hl_5).one rfl))))))))) rfl ?_
  refine r_nil ?_
  refine e_norm_block ?_
  refine e_next ?_
  refine c_region ?_
  refine r_val .none rfl (p_add rfl rfl (by omega)) ?_
  refine r_val .none rfl (p_move rfl) ?_
  refine r_nil ?_
  refine e_again ?_
  refine l_round (n := 2) ?_
  refine c_seq ?_
  refine c_region ?_
  refine r_val .none rfl (p_lt rfl rfl) ?_
  refine r_say (d := 11) (v := Value.bool true) rfl ?_
  refine r_nil ?_
  refine e_next ?_
  refine c_seq ?_
  refine c_cond_t rfl ?_
  refine c_skip ?_
  refine e_next ?_
  refine c_seq ?_
  refine c_block ?_
  refine c_region ?_
  refine r_val .none rfl (p_ldw (k := 0) Try.underlying27 rfl sz27 rfl rfl (rfl : _ = Value.agg #[_, _, _, _, _, _, _, _])) ?_
  refine r_bslice (vs := [(0, Value.agg #[_, _, _, _, _, _, _, _])]) (c := #[_, _, _, _, _, _, _, _]) .none rfl Try.underlying25 el27 rfl rfl rfl (bs27_10a8 _ _ _ _ _ _ _ _) (IsRow.lit _) (fun b_3 => ?_)
  refine r_freezeB (k := 0) 1 8 rfl rfl (by decide) (fun G_6 hn_7 hs_8 => ?_)
  replace ht_4 := ht_4.mono hn_7.le
  replace hl_5 := hl_5.mono hn_7.le
  have hl_10 : SlL G_6 (.slice (some ⟨b_3, 0, none⟩) 1 1) 8 cvC d0 [((cB cA), (Value.slice (some ⟨b_2, 0, none⟩) 1 1))] := SlG.single ((cB cA), (Value.slice (some ⟨b_2, 0, none⟩) 1 1)) hs_8 (fun j hj => by match j, hj with | 0, _ => rfl | 1, _ => rfl | 2, _ => rfl | 3, _ => rfl | 4, _ => rfl | 5, _ => rfl | 6, _ => rfl | 7, _ => rfl)
  have ht_9 : Cs G_6 (.slice (some ⟨b_3, 0, none⟩) 1 1) [(cB cA)] := Tr.mk [((cB cA), (Value.slice (some ⟨b_2, 0, none⟩) 1 1))] hl_10 (fun p hm0 => by rw [List.mem_singleton.1 hm0]; exact ht_4)
  refine r_val .none rfl (p_build (vs := [(0, Value.int _ _), (2, Value.slice _ _ _)]) rfl (bl27_0i1_2s3 _ _ _ _)) ?_
  refine r_stw (k := 0) .none sz27 rfl rfl (IsRow.lit _) (one_lit rfl (all_cons rfl (all_cons rfl (all_cons rfl (all_cons rfl (all_cons rfl (all_cons rfl (all_cons rfl (all_cons (hl_10).one rfl))))))))) rfl ?_
  refine r_nil ?_
  refine e_norm_block ?_
  refine e_next ?_
  refine c_region ?_
  refine r_val .none rfl (p_add rfl rfl (by omega)) ?_
  refine r_val .none rfl (p_move rfl) ?_
  refine r_nil ?_
  refine e_again ?_
  refine l_round (n := 1) ?_
  refine c_seq ?_
  refine c_region ?_
  refine r_val .none rfl (p_lt rfl rfl) ?_
  refine r_say (d := 11) (v := Value.bool true) rfl ?_
  refine r_nil ?_
  refine e_next ?_
  refine c_seq ?_
  refine c_cond_t rfl ?_
  refine c_skip ?_
  refine e_next ?_
  refine c_seq ?_
  refine c_block ?_
  refine c_region ?_
  refine r_val .none rfl (p_ldw (k := 0) Try.underlying27 rfl sz27 rfl rfl (rfl : _ = Value.agg #[_, _, _, _, _, _, _, _])) ?_
  refine r_bslice (vs := [(0, Value.agg #[_, _, _, _, _, _, _, _])]) (c := #[_, _, _, _, _, _, _, _]) .none rfl Try.underlying25 el27 rfl rfl rfl (bs27_10a8 _ _ _ _ _ _ _ _) (IsRow.lit _) (fun b_4 => ?_)
  refine r_freezeB (k := 0) 1 8 rfl rfl (by decide) (fun G_11 hn_12 hs_13 => ?_)
  replace ht_4 := ht_4.mono hn_12.le
  replace hl_5 := hl_5.mono hn_12.le
  replace ht_9 := ht_9.mono hn_12.le
  replace hl_10 := hl_10.mono hn_12.le
  have hl_15 : SlL G_11 (.slice (some ⟨b_4, 0, none⟩) 1 1) 8 cvC d0 [((cB (cB cA)), (Value.slice (some ⟨b_3, 0, none⟩) 1 1))] := SlG.single ((cB (cB cA)), (Value.slice (some ⟨b_3, 0, none⟩) 1 1)) hs_13 (fun j hj => by match j, hj with | 0, _ => rfl | 1, _ => rfl | 2, _ => rfl | 3, _ => rfl | 4, _ => rfl | 5, _ => rfl | 6, _ => rfl | 7, _ => rfl)
  have ht_14 : Cs G_11 (.slice (some ⟨b_4, 0, none⟩) 1 1) [(cB (cB cA))] := Tr.mk [((cB (cB cA)), (Value.slice (some ⟨b_3, 0, none⟩) 1 1))] hl_15 (fun p hm0 => by rw [List.mem_singleton.1 hm0]; exact ht_9)
  refine r_val .none rfl (p_build (vs := [(0, Value.int _ _), (2, Value.slice _ _ _)]) rfl (bl27_0i1_2s3 _ _ _ _)) ?_
  refine r_stw (k := 0) .none sz27 rfl rfl (IsRow.lit _) (one_lit rfl (all_cons rfl (all_cons rfl (all_cons rfl (all_cons rfl (all_cons rfl (all_cons rfl (all_cons rfl (all_cons (hl_15).one rfl))))))))) rfl ?_
  refine r_nil ?_
  refine e_norm_block ?_
  refine e_next ?_
  refine c_region ?_
  refine r_val .none rfl (p_add rfl rfl (by omega)) ?_
  refine r_val .none rfl (p_move rfl) ?_
  refine r_nil ?_
  refine e_again ?_
  refine l_round (n := 0) ?_
  refine c_seq ?_
  refine c_region ?_
  refine r_val .none rfl (p_lt rfl rfl) ?_
  refine r_say (d := 11) (v := Value.bool false) rfl ?_
  refine r_nil ?_
  refine e_next ?_
  refine c_seq ?_
  refine c_cond_f rfl ?_
  refine c_exit ?_
  refine e_exit_then ?_
  refine e_exit_then ?_
  refine e_exit_block ?_
  refine e_next ?_
  refine c_seq ?_
  refine c_region ?_
  refine r_val .none rfl (p_move rfl) ?_
  refine r_val .none rfl (p_eq rfl rfl) ?_
  refine r_val .none rfl (p_move rfl) ?_
  refine' r_and (c := 18) (d := 22) [_, _, _, _] rfl (fun h_16 Q_17 hQ_18 => ?_) (fun h_16 Q_17 hQ_18 => ?_) ?_
  rotate_left 1
  · skip
    replace h_16 := of_decide_eq_true h_16
    refine r_val (.some rfl rfl) rfl (p_ldw (k := 0) Try.underlying27 rfl sz27 rfl rfl (rfl : _ = Value.agg #[_, _, _, _, _, _, _, _])) ?_
    refine r_call (vs := [_, _]) (.some rfl rfl) rfl cl13 rfl (fun w hw => c_check (cB (cB (cB cA))) _ 1 ht_14 w hw) ?_
    refine r_val (.some rfl rfl) rfl (p_eq rfl rfl) ?_
    refine r_val .none rfl (p_pick_t rfl rfl) ?_
    refine r_nil (e_fin (d := 22) hQ_18 rfl (by repeat (first | exact .refl | refine .put rfl ?_ | refine .say rfl ?_ | refine .say2 rfl (by first | assumption | simp_all) ?_)))
  · skip
    repeat (first | refine r_skip rfl (.no rfl rfl) ?_ | refine r_skip rfl (.un rfl rfl) ?_)
    refine r_val (by first | exact .none | exact .some rfl rfl) rfl (p_pick_f rfl rfl) ?_
    refine r_nil (e_fin (d := 22) hQ_18 rfl (by repeat (first | exact .refl | refine .put rfl ?_ | refine .say rfl ?_ | refine .say2 rfl (by first | assumption | simp_all) ?_)))
  refine r_val .none rfl (p_move rfl) ?_
  refine' r_and (c := 23) (d := 30) [_, _, _, _, _, _, _] rfl (fun h_20 Q_21 hQ_22 => ?_) (fun h_20 Q_21 hQ_22 => ?_) ?_
  rotate_left 1
  · skip
    try simp only [norms] at h_20
    refine r_val (.some rfl rfl) rfl (p_field Try.underlying27 rfl sz25 rfl) ?_
    refine r_val (.some rfl rfl) rfl (p_ld (k := 0) Try.underlying25 rfl rfl rfl (by first | exact of_decide_eq_true rfl | omega) rfl) ?_
    refine r_iaddr_g (i := 0) (.some rfl rfl) rfl Try.underlying25 sz27 rfl hl_15 rfl (by first | exact of_decide_eq_true rfl | omega) (fun p_25 o_26 R_24 => ?_)
    refine r_val (.some rfl rfl) rfl (p_ldga0 Try.underlying27 rfl sz27 rfl R_24 (by first | exact of_decide_eq_true rfl | omega) (rfl : _ = Value.agg #[_, _, _, _, _, _, _, _])) ?_
    refine r_call (vs := [_, _]) (.some rfl rfl) rfl cl13 rfl (fun w hw => c_check (cB (cB cA)) _ 1 ht_9 w hw) ?_
    refine r_val (.some rfl rfl) rfl (p_eq rfl rfl) ?_
    refine r_val .none rfl (p_pick_t rfl rfl) ?_
    refine r_nil (e_fin (d := 30) hQ_22 rfl (by repeat (first | exact .refl | refine .put rfl ?_ | refine .say rfl ?_ | refine .say2 rfl (by first | assumption | simp_all) ?_)))
  · skip
    repeat (first | refine r_skip rfl (.no rfl rfl) ?_ | refine r_skip rfl (.un rfl rfl) ?_)
    refine r_val (by first | exact .none | exact .some rfl rfl) rfl (p_pick_f rfl rfl) ?_
    refine r_nil (e_fin (d := 30) hQ_22 rfl (by repeat (first | exact .refl | refine .put rfl ?_ | refine .say rfl ?_ | refine .say2 rfl (by first | assumption | simp_all) ?_)))
  refine r_val .none rfl (p_move rfl) ?_
  refine' r_and (c := 31) (d := 38) [_, _, _, _, _, _, _] rfl (fun h_27 Q_28 hQ_29 => ?_) (fun h_27 Q_28 hQ_29 => ?_) ?_
  rotate_left 1
  · skip
    try simp only [norms] at h_27
    refine r_val (.some rfl rfl) rfl (p_field Try.underlying27 rfl sz25 rfl) ?_
    refine r_val (.some rfl rfl) rfl (p_ld (k := 0) Try.underlying25 rfl rfl rfl (by first | exact of_decide_eq_true rfl | omega) rfl) ?_
    refine r_iaddr_g (i := 0) (.some rfl rfl) rfl Try.underlying25 sz27 rfl hl_15 rfl (by first | exact of_decide_eq_true rfl | omega) (fun p_32 o_33 R_31 => ?_)
    refine r_val (.some rfl rfl) rfl (p_ldga0 Try.underlying27 rfl sz27 rfl R_31 (by first | exact of_decide_eq_true rfl | omega) (rfl : _ = Value.agg #[_, _, _, _, _, _, _, _])) ?_
    refine r_call (vs := [_]) (.some rfl rfl) rfl cl32 rfl (fun w hw => c_size (cB (cB cA)) _ (by decide) ht_9 w hw) ?_
    refine r_val (.some rfl rfl) rfl (p_eq rfl rfl) ?_
    refine r_val .none rfl (p_pick_t rfl rfl) ?_
    refine r_nil (e_fin (d := 38) hQ_29 rfl (by repeat (first | exact .refl | refine .put rfl ?_ | refine .say rfl ?_ | refine .say2 rfl (by first | assumption | simp_all) ?_)))
  · skip
    repeat (first | refine r_skip rfl (.no rfl rfl) ?_ | refine r_skip rfl (.un rfl rfl) ?_)
    refine r_val (by first | exact .none | exact .some rfl rfl) rfl (p_pick_f rfl rfl) ?_
    refine r_nil (e_fin (d := 38) hQ_29 rfl (by repeat (first | exact .refl | refine .put rfl ?_ | refine .say rfl ?_ | refine .say2 rfl (by first | assumption | simp_all) ?_)))
  refine r_val .none rfl (p_assign rfl) ?_
  refine r_nil ?_
  refine e_next ?_
  refine c_ret ?_
  refine e_ret1 Try.results12 (.tmp rfl .nil) (fun w hm => ⟨?_, hm.since⟩)
  exact congrArg Value.bool (by decide +kernel)
end Go.Proofs.Ytpcpbfajadgmpaa
