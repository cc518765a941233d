/- Texts of this work, laid together: a logic of steps, plain laws, and walks of Go functions, each without a condition but those that its theorems name. -/
import Derived.Test.YtpcpbfajadgmpaaKRulePlaces3
import Derived.Test.YtpcpbfajadgmpaaRows
import Derived.Shelf.Small.Bits
import Derived.Shelf.Small.Wraps
import Derived.Shelf.Strconv.Itoa0
import Derived.Shelf.Sort.Plain
import Derived.Ground.Names2Prog
import Derived.Shelf.Slices.Clone
import Derived.Shelf.Slices.CompactI
import Derived.Shelf.Slices.SearchI
import Derived.Shelf.Slices.Cells
import Derived.Shelf.Slices.In.SortNone
import Derived.Ground.SlgnProg
import Derived.Shelf.SlicesE.Clone
import Derived.Test.YtpcpbfajadgmpaaProg
/- Walks: what Go functions of this chapter come to, each as a function on plain data; no condition but those that each theorem names. Printed by a program of this work (gen.py). -/
namespace Go.Proofs.Ytpcpbfajadgmpaa
open Go.Gx Go.Gx.T3 Go.Gx.T4 Go.Gx.T3
theorem cl32 : Callable Try.prog 32 := callable Try.func32 (by kernel_rfl) rfl
theorem bl23_1i1 (x0 : Int) : Program.built Try.prog 23 [(1, Value.int .i64 x0)] = some #[Value.bool false, Value.int .i64 x0] := by
  kernel_rfl
theorem bl24_0a2_1a2_2a2 (x0 : Value) (x1 : Value) (x2 : Value) (x3 : Value) (x4 : Value) (x5 : Value) : Program.built Try.prog 24 [(0, Value.agg #[x0, x1]), (1, Value.agg #[x2, x3]), (2, Value.agg #[x4, x5])] = some #[x0, x1, x2, x3, x4, x5] := by
  kernel_rfl
theorem bl27_0i1_1a6 (x0 : Int) (x1 : Value) (x2 : Value) (x3 : Value) (x4 : Value) (x5 : Value) (x6 : Value) : Program.built Try.prog 27 [(0, Value.int .i64 x0), (1, Value.agg #[x1, x2, x3, x4, x5, x6])] = some #[Value.int .i64 x0, x1, x2, x3, x4, x5, x6, Value.slice none 0 0] := by
  kernel_rfl
theorem bl27_0i1_2s3 (x0 : Int) (x1 : Option Addr) (x2 : Nat) (x3 : Nat) : Program.built Try.prog 27 [(0, Value.int .i64 x0), (2, Value.slice x1 x2 x3)] = some #[Value.int .i64 x0, Value.bool false, Value.int .i64 0, Value.bool false, Value.int .i64 0, Value.bool false, Value.int .i64 0, Value.slice x1 x2 x3] := by
  kernel_rfl
theorem bs27_10a8 (a0 a1 a2 a3 a4 a5 a6 a7 : Value) : Instr.fill (fun i => some (i * 8, 8)) ((Array.range (1 * 8)).map ((Value.agg #[Value.int .i64 0, Value.bool false, Value.int .i64 0, Value.bool false, Value.int .i64 0, Value.bool false, Value.int .i64 0, Value.slice none 0 0]).cells[· % (Value.agg #[Value.int .i64 0, Value.bool false, Value.int .i64 0, Value.bool false, Value.int .i64 0, Value.bool false, Value.int .i64 0, Value.slice none 0 0]).cells.size]!)) [(0, Value.agg #[a0, a1, a2, a3, a4, a5, a6, a7])] = some #[a0, a1, a2, a3, a4, a5, a6, a7] := by
  kernel_rfl
theorem el27 : ElemIs Try.prog 27 8 80 (Value.agg #[Value.int .i64 0, Value.bool false, Value.int .i64 0, Value.bool false, Value.int .i64 0, Value.bool false, Value.int .i64 0, Value.slice none 0 0]) := by
  unfold ElemIs
  kernel_rfl
def SizeIs (n : Nat) : Prop := ∀ (c : CT) (sv : Value) (G : Ghost) (w : World), SizeOf.sizeOf c ≤ n → size c ≤ 1000 → Cs G sv c.subs → Has G w → Calls Try.prog 32 #[Value.agg #[Value.int .i64 c.h.k, Value.bool c.h.v0, Value.int .i64 c.h.n0, Value.bool c.h.v1, Value.int .i64 c.h.n1, Value.bool c.h.v2, Value.int .i64 c.h.n2, sv]] w (Ret fun r w' => r = Value.int .i64 (size c : Nat) ∧ Since nX w w')
theorem c_size_s (n : Nat) (ih : SizeIs n) (c : CT) (sv : Value)  {G : Ghost} (hz : SizeOf.sizeOf c ≤ n + 1) (hsz : size c ≤ 1000) (hs : Cs G sv c.subs) (w : World) (hG : Has G w) :
    Calls Try.prog 32 #[Value.agg #[Value.int .i64 c.h.k, Value.bool c.h.v0, Value.int .i64 c.h.n0, Value.bool c.h.v1, Value.int .i64 c.h.n1, Value.bool c.h.v2, Value.int .i64 c.h.n2, sv]] w (Ret fun r w' => r = Value.int .i64 (size c : Nat) ∧ Since nX w w') := by
  refine enter (args := [_]) (X := nX) (G := G) (l := [(0, Value.agg #[Value.int .i64 c.h.k, Value.bool c.h.v0, Value.int .i64 c.h.n0, Value.bool c.h.v1, Value.int .i64 c.h.n1, Value.bool c.h.v2, Value.int .i64 c.h.n2, sv])]) Try.func32 rfl Try.ntmps32 hG ⟨rfl, trivial⟩ (Nat.le_of_ble_eq_true rfl) ?_
  obtain ⟨rs, hr, hp, hl⟩ := hs.inv
  have hlen : c.subs.length = rs.length := by rw [hl]; simp
  have hbd := hr.bound
  refine c_seq ?_
  refine c_region ?_
  refine r_box .none rfl rfl (IsRow.lit _) (fun b_1 => ?_)
  refine r_val .none rfl (p_assign rfl) ?_
  refine r_nil ?_
  refine e_next ?_
  refine c_seq ?_
  refine c_region ?_
  refine r_val .none rfl (p_assign rfl) ?_
  refine r_nil ?_
  refine e_next ?_
  refine c_seq ?_
  refine c_seq ?_
  refine c_region ?_
  refine r_val .none rfl (p_field Try.underlying27 rfl sz25 rfl) ?_
  refine r_val .none rfl (p_ld (k := 0) Try.underlying25 rfl rfl rfl (by first | exact of_decide_eq_true rfl | omega) rfl) ?_
  refine r_val .none rfl (p_leng Try.underlying25 rfl hr) ?_
  have bd_1 := (hr).bound
  refine r_val .none rfl (p_move rfl) ?_
  refine r_nil ?_
  refine e_next ?_
  refine c_block ?_
  refine c_name (d := 2) rfl (fun u_2 hu_2 => ?_)
  refine c_name (d := 7) rfl (fun u_3 hu_3 => ?_)
  refine c_name (d := 8) rfl (fun u_4 hu_4 => ?_)
  refine c_nameL (k := 0) rfl (fun A_5 hA_5 => ?_)
  refine c_loop (σ := Nat) (fun k => [(9, Value.int .i64 (k : Nat)), (3, Value.int .i64 (1 + sizeL ((rs.map Prod.fst).take k) : Nat)), (2, u_2), (7, u_3), (8, u_4)]) (fun k => [A_5]) (fun _ => _) (fun k => k ≤ rs.length) (fun k => rs.length - k) (0) (by omega) rfl ⟨rfl, rfl, rfl, rfl, rfl, trivial⟩ (.keep (fun _ _ h => h) (.nil)) (fun k hphi => ?_)
  subst hu_2
  subst hu_3
  subst hu_4
  subst hA_5
  refine c_seq ?_
  refine c_region ?_
  refine r_val .none rfl (p_lt rfl rfl) ?_
  refine r_nil ?_
  refine e_next ?_
  refine c_seq ?_
  refine c_splitd (d := 10) rfl (fun h_6 => ?_) (fun h_6 => ?_)
  · skip
    first
      | (exfalso; omega)
      | (
        refine c_cond_t rfl ?_
        refine c_skip ?_
        refine e_next ?_
        refine c_seq ?_
        refine c_block ?_
        refine c_seq ?_
        refine c_region ?_
        refine r_iaddr_g .none rfl Try.underlying25 sz27 rfl hr rfl (by first | exact of_decide_eq_true rfl | omega) (fun p_8 o_9 R_7 => ?_)
        have hc_10 := hp _ (getD_mem (i := k) (d := d0) (by omega))
        have hz3 := size_child (i := k) hl (by omega) hsz
        refine r_val .none rfl (p_ldga0 Try.underlying27 rfl sz27 rfl R_7 (by first | exact of_decide_eq_true rfl | omega) (rfl : _ = Value.agg #[_, _, _, _, _, _, _, _])) ?_
        refine r_alloc .none rfl zr27 (IsRow.lit _) (fun b_2 => ?_)
        refine r_stw (k := 0) .none sz27 rfl rfl (IsRow.lit _) (one_lit rfl (all_cons rfl (all_cons rfl (all_cons rfl (all_cons rfl (all_cons rfl (all_cons rfl (all_cons rfl (all_cons (hc_10).one rfl))))))))) rfl ?_
        refine r_nil ?_
        refine e_next ?_
        refine c_region ?_
        refine r_val .none rfl (p_move rfl) ?_
        refine r_val .none rfl (p_ldw (k := 0) Try.underlying27 rfl sz27 rfl rfl (rfl : _ = Value.agg #[_, _, _, _, _, _, _, _])) ?_
        refine r_call (vs := [_]) .none rfl cl32 rfl (fun w hw => ih (rs.getD k d0).1 _ _ w (size_at hl (by omega) hz) hz3 hc_10 hw) ?_
        refine r_val .none rfl (p_add rfl rfl (by have h1 := sizeL_take_le (rs.map Prod.fst) k; have h2 := size_eq c; rw [hl] at h2; omega)) ?_
        refine r_val .none rfl (p_assign rfl) ?_
        refine r_nil ?_
        refine e_norm_block ?_
        refine e_next ?_
        refine c_region ?_
        refine r_val .none rfl (p_add rfl rfl (by omega)) ?_
        refine r_val .none rfl (p_move rfl) ?_
        refine r_nil ?_
        refine e_round (k + 1) ⟨by omega, by omega⟩ rfl ⟨rfl, (congrArg (fun z => some (Value.int .i64 z)) (by rw [sizeL_take (by omega)]; omega)), rfl, rfl, rfl, trivial⟩ (.drop (.keep (fun _ _ h => h) (.nil)))
        )
  · skip
    first
      | (exfalso; omega)
      | (
        refine c_cond_f rfl ?_
        refine c_exit ?_
        refine e_exit_then ?_
        refine e_exit_then ?_
        refine e_exit_block ?_
        refine e_next ?_
        refine c_seq ?_
        refine c_region ?_
        refine r_val .none rfl (p_move rfl) ?_
        refine r_val .none rfl (p_assign rfl) ?_
        refine r_nil ?_
        refine e_next ?_
        refine c_ret ?_
        refine e_ret1 Try.results32 (.tmp rfl .nil) (fun w hm => ⟨?_, hm.since⟩)
        have hk : k = rs.length := by omega
        subst hk
        rw [size_eq, hl, List.take_of_length_le (by simp)]
        )
theorem c_size_n : ∀ n, SizeIs n
  | 0 => fun c sv G w hz hsz hs hG => absurd hz (by have := size_subs c; omega)
  | n + 1 => fun c sv G w hz hsz hs hG => c_size_s n (c_size_n n) c sv hz hsz hs w hG
theorem c_size (c : CT) (sv : Value) {G : Ghost} (hsz : size c ≤ 1000) (hs : Cs G sv c.subs) (w : World) (hG : Has G w) : Calls Try.prog 32 #[Value.agg #[Value.int .i64 c.h.k, Value.bool c.h.v0, Value.int .i64 c.h.n0, Value.bool c.h.v1, Value.int .i64 c.h.n1, Value.bool c.h.v2, Value.int .i64 c.h.n2, sv]] w (Ret fun r w' => r = Value.int .i64 (size c : Nat) ∧ Since nX w w') := c_size_n _ c sv G w (Nat.le_refl _) hsz hs hG
theorem c_awake4   (w : World)  :
    Calls Try.prog 12 #[] w (Ret fun r w' => r = Value.bool true ∧ Since nX w w') := by
  refine enter (args := []) (X := nX) (G := (fun _ => none)) (l := []) Try.func12 rfl Try.ntmps12 (fun _ _ h => by cases h) trivial (Nat.le_of_ble_eq_true rfl) ?_
  refine c_seq ?_
  refine c_region ?_
  refine r_val .none rfl (p_assign rfl) ?_
  refine r_nil ?_
  refine e_next ?_
  refine c_seq ?_
  refine c_region ?_
  refine r_val .none rfl (p_build (vs := [(1, Value.int _ _)]) rfl (bl23_1i1 _)) ?_
  refine r_val .none rfl (p_build (vs := [(1, Value.int _ _)]) rfl (bl23_1i1 _)) ?_
  refine r_val .none rfl (p_build (vs := [(0, Value.bool _), (1, Value.int _ _)]) rfl (bl23_0b1_1i1 _ _)) ?_
  refine r_val .none rfl (p_build (vs := [(0, Value.agg #[_, _]), (1, Value.agg #[_, _]), (2, Value.agg #[_, _])]) rfl (bl24_0a2_1a2_2a2 _ _ _ _ _ _)) ?_
  refine r_val .none rfl (p_build (vs := [(0, Value.int _ _), (1, Value.agg #[_, _, _, _, _, _])]) rfl (bl27_0i1_1a6 _ _ _ _ _ _ _)) ?_
  refine r_alloc .none rfl zr27 (IsRow.lit _) (fun b_1 => ?_)
  refine r_stw (k := 0) .none sz27 rfl rfl (IsRow.lit _) (one_lit rfl rfl) rfl ?_
  refine r_nil ?_
  refine e_next ?_
  refine c_seq ?_
  refine c_region ?_
  refine r_val .none rfl (p_ldw (k := 0) Try.underlying27 rfl sz27 rfl rfl (rfl : _ = Value.agg #[_, _, _, _, _, _, _, _])) ?_
  refine r_call (vs := [_, _]) .none rfl cl13 rfl (fun w hw => c_check cA _ 1 Tr.nil w hw) ?_
  refine r_val .none rfl (p_assign rfl) ?_
  refine r_nil ?_
  refine e_next ?_
  refine c_seq ?_
  refine c_seq ?_
  refine c_region ?_
  refine r_val .none rfl (p_move rfl) ?_
  refine r_nil ?_
  refine e_next ?_
  refine c_block ?_
  refine c_unroll 4 ?_
  refine l_round (n := 3) ?_
  refine c_seq ?_
  refine c_region ?_
  refine r_val .none rfl (p_lt rfl rfl) ?_
  refine r_say (d := 11) (v := Value.bool true) rfl ?_
  refine r_nil ?_
  refine e_next ?_
  refine c_seq ?_
  refine c_cond_t rfl ?_
  refine c_skip ?_
  refine e_next ?_
  refine c_seq ?_
  refine c_block ?_
  refine c_region ?_
  refine r_val .none rfl (p_ldw (k := 0) Try.underlying27 rfl sz27 rfl rfl (rfl : _ = Value.agg #[_, _, _, _, _, _, _, _])) ?_
  refine r_bslice (vs := [(0, Value.agg #[_, _, _, _, _, _, _, _])]) (c := #[_, _, _, _, _, _, _, _]) .none rfl Try.underlying25 el27 rfl rfl rfl (bs27_10a8 _ _ _ _ _ _ _ _) (IsRow.lit _) (fun b_2 => ?_)
  refine r_freezeB (k := 0) 1 8 rfl rfl (by decide) (fun G_1 hn_2 hs_3 => ?_)
  have hl_5 : SlL G_1 (.slice (some ⟨b_2, 0, none⟩) 1 1) 8 cvC d0 [(cA, (Value.slice none 0 0))] := SlG.single (cA, (Value.slice none 0 0)) hs_3 (fun j hj => by match j, hj with | 0, _ => rfl | 1, _ => rfl | 2, _ => rfl | 3, _ => rfl | 4, _ => rfl | 5, _ => rfl | 6, _ => rfl | 7, _ => rfl)
  have ht_4 : Cs G_1 (.slice (some ⟨b_2, 0, none⟩) 1 1) [cA] := Tr.mk [(cA, (Value.slice none 0 0))] hl_5 (fun p hm0 => by rw [List.mem_singleton.1 hm0]; exact Tr.nil)
  refine r_val .none rfl (p_build (vs := [(0, Value.int _ _), (2, Value.slice _ _ _)]) rfl (bl27_0i1_2s3 _ _ _ _)) ?_
  refine r_stw (k := 0) .none sz27 rfl rfl (IsRow.lit _) (one_lit rfl (all_cons rfl (all_cons rfl (all_cons rfl (all_cons rfl (all_cons rfl (all_cons rfl (all_cons rfl (all_cons (hl_5).one rfl))))))))) rfl ?_
  refine r_nil ?_
  refine e_norm_block ?_
  refine e_next ?_
  refine c_region ?_
  refine r_val .none rfl (p_add rfl rfl (by omega)) ?_
  refine r_val .none rfl (p_move rfl) ?_
  refine r_nil ?_
  refine e_again ?_
  refine l_round (n := 2) ?_
  refine c_seq ?_
  refine c_region ?_
  refine r_val .none rfl (p_lt rfl rfl) ?_
  refine r_say (d := 11) (v := Value.bool true) rfl ?_
  refine r_nil ?_
  refine e_next ?_
  refine c_seq ?_
  refine c_cond_t rfl ?_
  refine c_skip ?_
  refine e_next ?_
  refine c_seq ?_
  refine c_block ?_
  refine c_region ?_
  refine r_val .none rfl (p_ldw (k := 0) Try.underlying27 rfl sz27 rfl rfl (rfl : _ = Value.agg #[_, _, _, _, _, _, _, _])) ?_
  refine r_bslice (vs := [(0, Value.agg #[_, _, _, _, _, _, _, _])]) (c := #[_, _, _, _, _, _, _, _]) .none rfl Try.underlying25 el27 rfl rfl rfl (bs27_10a8 _ _ _ _ _ _ _ _) (IsRow.lit _) (fun b_3 => ?_)
  refine r_freezeB (k := 0) 1 8 rfl rfl (by decide) (fun G_6 hn_7 hs_8 => ?_)
  replace ht_4 := ht_4.mono hn_7.le
  replace hl_5 := hl_5.mono hn_7.le
  have hl_10 : SlL G_6 (.slice (some ⟨b_3, 0, none⟩) 1 1) 8 cvC d0 [((cB cA), (Value.slice (some ⟨b_2, 0, none⟩) 1 1))] := SlG.single ((cB cA), (Value.slice (some ⟨b_2, 0, none⟩) 1 1)) hs_8 (fun j hj => by match j, hj with | 0, _ => rfl | 1, _ => rfl | 2, _ => rfl | 3, _ => rfl | 4, _ => rfl | 5, _ => rfl | 6, _ => rfl | 7, _ => rfl)
  have ht_9 : Cs G_6 (.slice (some ⟨b_3, 0, none⟩) 1 1) [(cB cA)] := Tr.mk [((cB cA), (Value.slice (some ⟨b_2, 0, none⟩) 1 1))] hl_10 (fun p hm0 => by rw [List.mem_singleton.1 hm0]; exact ht_4)
  refine r_val .none rfl (p_build (vs := [(0, Value.int _ _), (2, Value.slice _ _ _)]) rfl (bl27_0i1_2s3 _ _ _ _)) ?_
  refine r_stw (k := 0) .none sz27 rfl rfl (IsRow.lit _) (one_lit rfl (all_cons rfl (all_cons rfl (all_cons rfl (all_cons rfl (all_cons rfl (all_cons rfl (all_cons rfl (all_cons (hl_10).one rfl))))))))) rfl ?_
  refine r_nil ?_
  refine e_norm_block ?_
  refine e_next ?_
  refine c_region ?_
  refine r_val .none rfl (p_add rfl rfl (by omega)) ?_
  refine r_val .none rfl (p_move rfl) ?_
  refine r_nil ?_
  refine e_again ?_
  refine l_round (n := 1) ?_
  refine c_seq ?_
  refine c_region ?_
  refine r_val .none rfl (p_lt rfl rfl) ?_
  refine r_say (d := 11) (v := Value.bool true) rfl ?_
  refine r_nil ?_
  refine e_next ?_
  refine c_seq ?_
  refine c_cond_t rfl ?_
  refine c_skip ?_
  refine e_next ?_
  refine c_seq ?_
  refine c_block ?_
  refine c_region ?_
  refine r_val .none rfl (p_ldw (k := 0) Try.underlying27 rfl sz27 rfl rfl (rfl : _ = Value.agg #[_, _, _, _, _, _, _, _])) ?_
  refine r_bslice (vs := [(0, Value.agg #[_, _, _, _, _, _, _, _])]) (c := #[_, _, _, _, _, _, _, _]) .none rfl Try.underlying25 el27 rfl rfl rfl (bs27_10a8 _ _ _ _ _ _ _ _) (IsRow.lit _) (fun b_4 => ?_)
  refine r_freezeB (k := 0) 1 8 rfl rfl (by decide) (fun G_11 hn_12 hs_13 => ?_)
  replace ht_4 := ht_4.mono hn_12.le
  replace hl_5 := hl_5.mono hn_12.le
  replace ht_9 := ht_9.mono hn_12.le
  replace hl_10 := hl_10.mono hn_12.le
  have hl_15 : SlL G_11 (.slice (some ⟨b_4, 0, none⟩) 1 1) 8 cvC d0 [((cB (cB cA)), (Value.slice (some ⟨b_3, 0, none⟩) 1 1))] := SlG.single ((cB (cB cA)), (Value.slice (some ⟨b_3, 0, none⟩) 1 1)) hs_13 (fun j hj => by match j, hj with | 0, _ => rfl | 1, _ => rfl | 2, _ => rfl | 3, _ => rfl | 4, _ => rfl | 5, _ => rfl | 6, _ => rfl | 7, _ => rfl)
  have ht_14 : Cs G_11 (.slice (some ⟨b_4, 0, none⟩) 1 1) [(cB (cB cA))] := Tr.mk [((cB (cB cA)), (Value.slice (some ⟨b_3, 0, none⟩) 1 1))] hl_15 (fun p hm0 => by rw [List.mem_singleton.1 hm0]; exact ht_9)
  refine r_val .none rfl (p_build (vs := [(0, Value.int _ _), (2, Value.slice _ _ _)]) rfl (bl27_0i1_2s3 _ _ _ _)) ?_
  refine r_stw (k := 0) .none sz27 rfl rfl (IsRow.lit _) (one_lit rfl (all_cons rfl (all_cons rfl (all_cons rfl (all_cons rfl (all_cons rfl (all_cons rfl (all_cons rfl (all_cons (hl_15).one rfl))))))))) rfl ?_
  refine r_nil ?_
  refine e_norm_block ?_
  refine e_next ?_
  refine c_region ?_
  refine r_val .none rfl (p_add rfl rfl (by omega)) ?_
  refine r_val .none rfl (p_move rfl) ?_
  refine r_nil ?_
  refine e_again ?_
  refine l_round (n := 0) ?_
  refine c_seq ?_
  refine c_region ?_
  refine r_val .none rfl (p_lt rfl rfl) ?_
  refine r_say (d := 11) (v := Value.bool false) rfl ?_
  refine r_nil ?_
  refine e_next ?_
  refine c_seq ?_
  refine c_cond_f rfl ?_
  refine c_exit ?_
  refine e_exit_then ?_
  refine e_exit_then ?_
  refine e_exit_block ?_
  refine e_next ?_
  refine c_seq ?_
  refine c_region ?_
  refine r_val .none rfl (p_move rfl) ?_
  refine r_val .none rfl (p_eq rfl rfl) ?_
  refine r_val .none rfl (p_move rfl) ?_
  refine' r_and (c := 18) (d := 22) [_, _, _, _] rfl (fun h_16 Q_17 hQ_18 => ?_) (fun h_16 Q_17 hQ_18 => ?_) ?_
  rotate_left 1
  · skip
    replace h_16 := of_decide_eq_true h_16
    refine r_val (.some rfl rfl) rfl (p_ldw (k := 0) Try.underlying27 rfl sz27 rfl rfl (rfl : _ = Value.agg #[_, _, _, _, _, _, _, _])) ?_
    refine r_call (vs := [_, _]) (.some rfl rfl) rfl cl13 rfl (fun w hw => c_check (cB (cB (cB cA))) _ 1 ht_14 w hw) ?_
    refine r_val (.some rfl rfl) rfl (p_eq rfl rfl) ?_
    refine r_val .none rfl (p_pick_t rfl rfl) ?_
    refine r_nil (e_fin (d := 22) hQ_18 rfl (by repeat (first | exact .refl | refine .put rfl ?_ | refine .say rfl ?_ | refine .say2 rfl (by first | assumption | simp_all) ?_)))
  · skip
    repeat (first | refine r_skip rfl (.no rfl rfl) ?_ | refine r_skip rfl (.un rfl rfl) ?_)
    refine r_val (by first | exact .none | exact .some rfl rfl) rfl (p_pick_f rfl rfl) ?_
    refine r_nil (e_fin (d := 22) hQ_18 rfl (by repeat (first | exact .refl | refine .put rfl ?_ | refine .say rfl ?_ | refine .say2 rfl (by first | assumption | simp_all) ?_)))
  refine r_val .none rfl (p_move rfl) ?_
  refine' r_and (c := 23) (d := 30) [_, _, _, _, _, _, _] rfl (fun h_20 Q_21 hQ_22 => ?_) (fun h_20 Q_21 hQ_22 => ?_) ?_
  rotate_left 1
  · skip
    try simp only [norms] at h_20
    refine r_val (.some rfl rfl) rfl (p_field Try.underlying27 rfl sz25 rfl) ?_
    refine r_val (.some rfl rfl) rfl (p_ld (k := 0) Try.underlying25 rfl rfl rfl (by first | exact of_decide_eq_true rfl | omega) rfl) ?_
    refine r_iaddr_g (i := 0) (.some rfl rfl) rfl Try.underlying25 sz27 rfl hl_15 rfl (by first | exact of_decide_eq_true rfl | omega) (fun p_25 o_26 R_24 => ?_)
    refine r_val (.some rfl rfl) rfl (p_ldga0 Try.underlying27 rfl sz27 rfl R_24 (by first | exact of_decide_eq_true rfl | omega) (rfl : _ = Value.agg #[_, _, _, _, _, _, _, _])) ?_
    refine r_call (vs := [_, _]) (.some rfl rfl) rfl cl13 rfl (fun w hw => c_check (cB (cB cA)) _ 1 ht_9 w hw) ?_
    refine r_val (.some rfl rfl) rfl (p_eq rfl rfl) ?_
    refine r_val .none rfl (p_pick_t rfl rfl) ?_
    refine r_nil (e_fin (d := 30) hQ_22 rfl (by repeat (first | exact .refl | refine .put rfl ?_ | refine .say rfl ?_ | refine .say2 rfl (by first | assumption | simp_all) ?_)))
  · skip
    repeat (first | refine r_skip rfl (.no rfl rfl) ?_ | refine r_skip rfl (.un rfl rfl) ?_)
    refine r_val (by first | exact .none | exact .some rfl rfl) rfl (p_pick_f rfl rfl) ?_
    refine r_nil (e_fin (d := 30) hQ_22 rfl (by repeat (first | exact .refl | refine .put rfl ?_ | refine .say rfl ?_ | refine .say2 rfl (by first | assumption | simp_all) ?_)))
  refine r_val .none rfl (p_move rfl) ?_
  refine' r_and (c := 31) (d := 38) [_, _, _, _, _, _, _] rfl (fun h_27 Q_28 hQ_29 => ?_) (fun h_27 Q_28 hQ_29 => ?_) ?_
  rotate_left 1
  · skip
    try simp only [norms] at h_27
    refine r_val (.some rfl rfl) rfl (p_field Try.underlying27 rfl sz25 rfl) ?_
    refine r_val (.some rfl rfl) rfl (p_ld (k := 0) Try.underlying25 rfl rfl rfl (by first | exact of_decide_eq_true rfl | omega) rfl) ?_
    refine r_iaddr_g (i := 0) (.some rfl rfl) rfl Try.underlying25 sz27 rfl hl_15 rfl (by first | exact of_decide_eq_true rfl | omega) (fun p_32 o_33 R_31 => ?_)
    refine r_val (.some rfl rfl) rfl (p_ldga0 Try.underlying27 rfl sz27 rfl R_31 (by first | exact of_decide_eq_true rfl | omega) (rfl : _ = Value.agg #[_, _, _, _, _, _, _, _])) ?_
    refine r_call (vs := [_]) (.some rfl rfl) rfl cl32 rfl (fun w hw => c_size (cB (cB cA)) _ (by decide) ht_9 w hw) ?_
    refine r_val (.some rfl rfl) rfl (p_eq rfl rfl) ?_
    refine r_val .none rfl (p_pick_t rfl rfl) ?_
    refine r_nil (e_fin (d := 38) hQ_29 rfl (by repeat (first | exact .refl | refine .put rfl ?_ | refine .say rfl ?_ | refine .say2 rfl (by first | assumption | simp_all) ?_)))
  · skip
    repeat (first | refine r_skip rfl (.no rfl rfl) ?_ | refine r_skip rfl (.un rfl rfl) ?_)
    refine r_val (by first | exact .none | exact .some rfl rfl) rfl (p_pick_f rfl rfl) ?_
    refine r_nil (e_fin (d := 38) hQ_29 rfl (by repeat (first | exact .refl | refine .put rfl ?_ | refine .say rfl ?_ | refine .say2 rfl (by first | assumption | simp_all) ?_)))
  refine r_val .none rfl (p_assign rfl) ?_
  refine r_nil ?_
  refine e_next ?_
  refine c_ret ?_
  refine e_ret1 Try.results12 (.tmp rfl .nil) (fun w hm => ⟨?_, hm.since⟩)
  exact congrArg Value.bool (by decide +kernel)
end Go.Proofs.Ytpcpbfajadgmpaa

/- Walks: what Go functions of this chapter come to, each as a function on plain data; no condition but those that each theorem names. Printed by a program of this work (gen.py). -/
namespace Go.Proofs.Ytpcpbfajadgmpaa
open Go.Gx Go.Gx.T1 Go.Gx.T3 Go.Gx.T4 Go.Gx.T3 Go.Gx.T5 Go.Gx.T1 Go.Gx.T8 Go.Gx.T6 Go.Gx.T4 Go.Gx.T3 Go.Gx.T6 Go.Gx.T8 Go.Gx.T4 Go.Gx.T3 Go.Gx.T8 Go.Gx.T4 Go.Gx.T3 Go.Gx.T8 Go.Gx.T6 Go.Gx.T4 Go.Gx.T3
theorem sz9 : SzIs Try.prog 9 1 := by
  unfold SzIs
  kernel_rfl
theorem cl26 : Callable Try.prog 26 := callable Try.func26 (by kernel_rfl) rfl
theorem cl42 : Callable Try.prog 42 := callable Try.func42 (by kernel_rfl) rfl
theorem cl43 : Callable Try.prog 43 := callable Try.func43 (by kernel_rfl) rfl
theorem c_symRight (s : ByteArray)  (w : World)  :
    Calls Try.prog 42 #[Value.string s] w (Ret fun r w' => r = Value.bool (symRight s) ∧ Since nX w w') := by
  refine enter (args := [_]) (X := nX) (G := (fun _ => none)) (l := [(0, Value.string s)]) Try.func42 rfl Try.ntmps42 (fun _ _ h => by cases h) ⟨rfl, trivial⟩ (Nat.le_of_ble_eq_true rfl) ?_
  refine c_seq ?_
  refine c_region ?_
  refine r_val .none rfl (p_assign rfl) ?_
  refine r_nil ?_
  refine e_next ?_
  refine c_seq ?_
  refine c_seq ?_
  refine c_region ?_
  refine r_val .none rfl (p_move rfl) ?_
  refine r_range_str .none rfl Try.underlying9 rfl (fun r_1 => ?_)
  refine r_nil ?_
  refine e_next ?_
  refine c_block ?_
  refine c_name (d := 0) rfl (fun u_2 hu_2 => ?_)
  refine c_name (d := 6) rfl (fun u_3 hu_3 => ?_)
  refine c_loop (σ := Nat) (fun k => [(0, u_2), (6, u_3)]) (fun k => [strI r_1 s k]) (fun _ => _) (fun k => k ≤ s.size ∧ okTo s k) (fun k => s.size - k) (0) ⟨Nat.zero_le _, okTo_zero s⟩ rfl ⟨rfl, rfl, trivial⟩ (.keep (fun _ _ h => h) (.nil)) (fun k hphi => ?_)
  subst hu_2
  subst hu_3
  refine c_seq ?_
  refine c_region ?_
  refine r_next_str (i := 0) .none rfl rfl rfl (fun h_4 => ?_) (fun h_4 => ?_)
  · skip
    have hk := h_4
    refine r_val .none rfl (p_extract rfl rfl) ?_
    refine r_nil ?_
    refine e_next ?_
    refine c_seq ?_
    refine c_cond_t rfl ?_
    refine c_skip ?_
    refine e_next ?_
    refine c_block ?_
    refine c_seq ?_
    refine c_region ?_
    refine r_val .none rfl (p_extract rfl rfl) ?_
    refine r_val .none rfl (p_assign rfl) ?_
    refine r_nil ?_
    refine e_next ?_
    refine c_block ?_
    refine c_seq ?_
    refine c_seq ?_
    refine c_region ?_
    refine r_val .none rfl (p_move rfl) ?_
    refine r_val .none rfl (p_ge rfl rfl) ?_
    refine r_val .none rfl (p_move rfl) ?_
    refine' r_and (c := 13) (d := 16) [_, _, _] rfl (fun h_5 Q_6 hQ_7 => ?_) (fun h_5 Q_6 hQ_7 => ?_) ?_
    rotate_left 1
    · skip
      replace h_5 := of_decide_eq_true h_5
      refine r_val (.some rfl rfl) rfl (p_move rfl) ?_
      refine r_val (.some rfl rfl) rfl (p_le rfl rfl) ?_
      refine r_val .none rfl (p_pick_t rfl rfl) ?_
      refine r_nil (e_fin (d := 16) hQ_7 rfl (by repeat (first | exact .refl | refine .put rfl ?_ | refine .say rfl ?_ | refine .say2 rfl (by first | assumption | simp_all) ?_)))
    · skip
      repeat (first | refine r_skip rfl (.no rfl rfl) ?_ | refine r_skip rfl (.un rfl rfl) ?_)
      refine r_val (by first | exact .none | exact .some rfl rfl) rfl (p_pick_f rfl rfl) ?_
      refine r_nil (e_fin (d := 16) hQ_7 rfl (by repeat (first | exact .refl | refine .put rfl ?_ | refine .say rfl ?_ | refine .say2 rfl (by first | assumption | simp_all) ?_)))
    refine r_val .none rfl (p_assign rfl) ?_
    refine r_nil ?_
    refine e_next ?_
    refine' c_join (c := 10) (D1 := [(10, .bool _)]) (D2 := [(10, .bool _)]) rfl (.cons .bool (.nil)) (fun h_11 hQ_12 => ?_) (fun h_11 hQ_12 => ?_) ?_
    rotate_left 2
    · skip
      try simp only [norms] at h_11
      refine c_skip ?_
      refine e_finD hQ_12 ⟨rfl, trivial⟩ (by repeat (first | exact .refl | refine .put rfl ?_ | refine .say rfl (by first | assumption | simp_all) ?_))
    · skip
      try simp only [norms] at h_11
      refine c_seq ?_
      refine c_region ?_
      refine r_val .none rfl (p_move rfl) ?_
      refine r_val .none rfl (p_ge rfl rfl) ?_
      refine r_val .none rfl (p_move rfl) ?_
      refine' r_and (c := 19) (d := 22) [_, _, _] rfl (fun h_13 Q_14 hQ_15 => ?_) (fun h_13 Q_14 hQ_15 => ?_) ?_
      rotate_left 1
      · skip
        replace h_13 := of_decide_eq_true h_13
        refine r_val (.some rfl rfl) rfl (p_move rfl) ?_
        refine r_val (.some rfl rfl) rfl (p_le rfl rfl) ?_
        refine r_val .none rfl (p_pick_t rfl rfl) ?_
        refine r_nil (e_fin (d := 22) hQ_15 rfl (by repeat (first | exact .refl | refine .put rfl ?_ | refine .say rfl ?_ | refine .say2 rfl (by first | assumption | simp_all) ?_)))
      · skip
        repeat (first | refine r_skip rfl (.no rfl rfl) ?_ | refine r_skip rfl (.un rfl rfl) ?_)
        refine r_val (by first | exact .none | exact .some rfl rfl) rfl (p_pick_f rfl rfl) ?_
        refine r_nil (e_fin (d := 22) hQ_15 rfl (by repeat (first | exact .refl | refine .put rfl ?_ | refine .say rfl ?_ | refine .say2 rfl (by first | assumption | simp_all) ?_)))
      refine r_val .none rfl (p_assign rfl) ?_
      refine r_nil ?_
      refine e_next ?_
      refine' c_join (c := 10) (D1 := [(10, .bool _)]) (D2 := [(10, .bool _)]) rfl (.cons .bool (.nil)) (fun h_19 hQ_20 => ?_) (fun h_19 hQ_20 => ?_) ?_
      rotate_left 2
      · skip
        try simp only [norms] at h_19
        refine c_skip ?_
        refine e_finD hQ_20 ⟨rfl, trivial⟩ (by repeat (first | exact .refl | refine .put rfl ?_ | refine .say rfl (by first | assumption | simp_all) ?_))
      · skip
        try simp only [norms] at h_19
        refine c_seq ?_
        refine c_region ?_
        refine r_val .none rfl (p_move rfl) ?_
        refine r_val .none rfl (p_ge rfl rfl) ?_
        refine r_val .none rfl (p_move rfl) ?_
        refine' r_and (c := 25) (d := 28) [_, _, _] rfl (fun h_21 Q_22 hQ_23 => ?_) (fun h_21 Q_22 hQ_23 => ?_) ?_
        rotate_left 1
        · skip
          replace h_21 := of_decide_eq_true h_21
          refine r_val (.some rfl rfl) rfl (p_move rfl) ?_
          refine r_val (.some rfl rfl) rfl (p_le rfl rfl) ?_
          refine r_val .none rfl (p_pick_t rfl rfl) ?_
          refine r_nil (e_fin (d := 28) hQ_23 rfl (by repeat (first | exact .refl | refine .put rfl ?_ | refine .say rfl ?_ | refine .say2 rfl (by first | assumption | simp_all) ?_)))
        · skip
          repeat (first | refine r_skip rfl (.no rfl rfl) ?_ | refine r_skip rfl (.un rfl rfl) ?_)
          refine r_val (by first | exact .none | exact .some rfl rfl) rfl (p_pick_f rfl rfl) ?_
          refine r_nil (e_fin (d := 28) hQ_23 rfl (by repeat (first | exact .refl | refine .put rfl ?_ | refine .say rfl ?_ | refine .say2 rfl (by first | assumption | simp_all) ?_)))
        refine r_val .none rfl (p_assign rfl) ?_
        refine r_nil ?_
        refine e_next ?_
        refine' c_join (c := 10) (D1 := [(10, .bool _)]) (D2 := [(10, .bool _)]) rfl (.cons .bool (.nil)) (fun h_27 hQ_28 => ?_) (fun h_27 hQ_28 => ?_) ?_
        rotate_left 2
        · skip
          try simp only [norms] at h_27
          refine c_skip ?_
          refine e_finD hQ_28 ⟨rfl, trivial⟩ (by repeat (first | exact .refl | refine .put rfl ?_ | refine .say rfl (by first | assumption | simp_all) ?_))
        · skip
          try simp only [norms] at h_27
          refine c_seq ?_
          refine c_region ?_
          refine r_val .none rfl (p_move rfl) ?_
          refine r_val .none rfl (p_eq rfl rfl) ?_
          refine r_val .none rfl (p_assign rfl) ?_
          refine r_nil ?_
          refine e_next ?_
          refine' c_join (c := 10) (D1 := [(10, .bool _)]) (D2 := [(10, .bool _)]) rfl (.cons .bool (.nil)) (fun h_31 hQ_32 => ?_) (fun h_31 hQ_32 => ?_) ?_
          rotate_left 2
          · skip
            replace h_31 := of_decide_eq_true h_31
            refine c_skip ?_
            refine e_finD hQ_32 ⟨rfl, trivial⟩ (by repeat (first | exact .refl | refine .put rfl ?_ | refine .say rfl (by first | assumption | simp_all) ?_))
          · skip
            replace h_31 := of_decide_eq_false h_31
            refine c_region ?_
            refine r_val .none rfl (p_move rfl) ?_
            refine r_val .none rfl (p_eq rfl rfl) ?_
            refine r_val .none rfl (p_assign rfl) ?_
            refine r_nil ?_
            refine e_finD hQ_32 ⟨rfl, trivial⟩ (by repeat (first | exact .refl | refine .put rfl ?_ | refine .say rfl (by first | assumption | simp_all) ?_))
          refine e_finD hQ_28 ⟨rfl, trivial⟩ (by repeat (first | exact .refl | refine .put rfl ?_ | refine .say rfl (by first | assumption | simp_all) ?_))
        refine e_finD hQ_20 ⟨rfl, trivial⟩ (by repeat (first | exact .refl | refine .put rfl ?_ | refine .say rfl (by first | assumption | simp_all) ?_))
      refine e_finD hQ_12 ⟨rfl, trivial⟩ (by repeat (first | exact .refl | refine .put rfl ?_ | refine .say rfl (by first | assumption | simp_all) ?_))
    refine e_next ?_
    refine c_split (d := 10) rfl (fun h_33 => ?_) (fun h_33 => ?_)
    · skip
      try simp only [norms] at h_33
      first
        | (exfalso; omega)
        | (
          refine c_cond_t rfl ?_
          refine c_skip ?_
          refine e_norm_block ?_
          refine e_norm_block ?_
          refine e_round (k + 1) ⟨⟨by omega, okTo_succ hphi.2 (decode_ok (by simp [okb]; omega)).1⟩, by omega⟩ rfl ⟨rfl, rfl, trivial⟩ (.keep (fun _ _ h => by rw [(decode_ok (by simp [okb]; omega)).2] at h; exact h) (.nil))
          )
    · skip
      try simp only [norms] at h_33
      first
        | (exfalso; omega)
        | (
          refine c_cond_f rfl ?_
          refine c_seq ?_
          refine c_region ?_
          refine r_val .none rfl (p_assign rfl) ?_
          refine r_nil ?_
          refine e_next ?_
          refine c_ret ?_
          refine e_ret_block ?_
          refine e_ret_block ?_
          refine e_ret_then ?_
          refine e_ret_block ?_
          refine e_ret_then ?_
          refine e_ret1 Try.results42 (.tmp rfl .nil) (fun w hm => ⟨?_, hm.since⟩)
          first
          | (have hb : okb (Utf8.decode s k).1 = false := (by simp [okb]; omega); rw [symRight_bad hk (decode_bad hb)]; done)
          | (have he : k = s.size := (by omega); subst he; by_cases hz : 1 ≤ s.size ∧ s.size ≤ 32; rw [symRight_yes hz hphi.2]; simp; (try omega); rw [symRight_size hz]; simp; (try omega))
          )
  · skip
    refine r_val .none rfl (p_extract rfl rfl) ?_
    refine r_nil ?_
    refine e_next ?_
    refine c_seq ?_
    refine c_cond_f rfl ?_
    refine c_exit ?_
    refine e_exit_then ?_
    refine e_exit_then ?_
    refine e_exit_block ?_
    refine e_next ?_
    refine c_seq ?_
    refine c_region ?_
    refine r_val .none rfl (p_move rfl) ?_
    refine r_val .none rfl (p_len_str Try.underlying9 rfl) ?_
    refine r_val .none rfl (p_ge rfl rfl) ?_
    refine r_val .none rfl (p_move rfl) ?_
    refine' r_and (c := 36) (d := 40) [_, _, _, _] rfl (fun h_34 Q_35 hQ_36 => ?_) (fun h_34 Q_35 hQ_36 => ?_) ?_
    rotate_left 1
    · skip
      replace h_34 := of_decide_eq_true h_34
      refine r_val (.some rfl rfl) rfl (p_move rfl) ?_
      refine r_val (.some rfl rfl) rfl (p_len_str Try.underlying9 rfl) ?_
      refine r_val (.some rfl rfl) rfl (p_le rfl rfl) ?_
      refine r_val .none rfl (p_pick_t rfl rfl) ?_
      refine r_nil (e_fin (d := 40) hQ_36 rfl (by repeat (first | exact .refl | refine .put rfl ?_ | refine .say rfl ?_ | refine .say2 rfl (by first | assumption | simp_all) ?_)))
    · skip
      repeat (first | refine r_skip rfl (.no rfl rfl) ?_ | refine r_skip rfl (.un rfl rfl) ?_)
      refine r_val (by first | exact .none | exact .some rfl rfl) rfl (p_pick_f rfl rfl) ?_
      refine r_nil (e_fin (d := 40) hQ_36 rfl (by repeat (first | exact .refl | refine .put rfl ?_ | refine .say rfl ?_ | refine .say2 rfl (by first | assumption | simp_all) ?_)))
    refine r_val .none rfl (p_assign rfl) ?_
    refine r_nil ?_
    refine e_next ?_
    refine c_ret ?_
    refine e_ret1 Try.results42 (.tmp rfl .nil) (fun w hm => ⟨?_, hm.since⟩)
    first
    | (have hb : okb (Utf8.decode s k).1 = false := (by simp [okb]; omega); rw [symRight_bad hk (decode_bad hb)]; done)
    | (have he : k = s.size := (by omega); subst he; by_cases hz : 1 ≤ s.size ∧ s.size ≤ 32; rw [symRight_yes hz hphi.2]; simp; (try omega); rw [symRight_size hz]; simp; (try omega))
theorem c_ids (nm : ByteArray) (cv : Value) (l : List CT) {G : Ghost} (hs : Cs G cv l) (w : World) (hG : Has G w) :
    Calls Try.prog 28 #[Value.agg #[Value.string nm, cv]] w (Ret fun r w' => r = Value.int .i64 (posC l : Nat) ∧ Since nX w w') := by
  refine enter (args := [_]) (X := nX) (G := G) (l := [(0, Value.agg #[Value.string nm, cv])]) Try.func28 rfl Try.ntmps28 hG ⟨rfl, trivial⟩ (Nat.le_of_ble_eq_true rfl) ?_
  obtain ⟨rs, hr, hp, hl⟩ := hs.inv
  have hbd := hr.bound
  have hlr : l.length = rs.length := by rw [hl]; simp
  refine c_seq ?_
  refine c_region ?_
  refine r_box .none rfl rfl (IsRow.lit _) (fun b_1 => ?_)
  refine r_val .none rfl (p_assign rfl) ?_
  refine r_nil ?_
  refine e_next ?_
  refine c_seq ?_
  refine c_region ?_
  refine r_val .none rfl (p_assign rfl) ?_
  refine r_nil ?_
  refine e_next ?_
  refine c_seq ?_
  refine c_seq ?_
  refine c_region ?_
  refine r_val .none rfl (p_field Try.underlying46 rfl sz25 rfl) ?_
  refine r_val .none rfl (p_ld (k := 0) Try.underlying25 rfl rfl rfl (by first | exact of_decide_eq_true rfl | omega) rfl) ?_
  refine r_val .none rfl (p_leng Try.underlying25 rfl hr) ?_
  have bd_1 := (hr).bound
  refine r_val .none rfl (p_move rfl) ?_
  refine r_nil ?_
  refine e_next ?_
  refine c_block ?_
  refine c_name (d := 2) rfl (fun u_2 hu_2 => ?_)
  refine c_name (d := 7) rfl (fun u_3 hu_3 => ?_)
  refine c_name (d := 8) rfl (fun u_4 hu_4 => ?_)
  refine c_nameL (k := 0) rfl (fun A_5 hA_5 => ?_)
  refine c_loop (σ := Nat) (fun k => [(9, Value.int .i64 (k : Nat)), (3, Value.int .i64 (posC ((rs.map Prod.fst).take k) : Nat)), (2, u_2), (7, u_3), (8, u_4)]) (fun k => [A_5]) (fun _ => _) (fun k => k ≤ rs.length) (fun k => rs.length - k) (0) (Nat.zero_le _) rfl ⟨rfl, rfl, rfl, rfl, rfl, trivial⟩ (.keep (fun _ _ h => h) (.nil)) (fun k hphi => ?_)
  subst hu_2
  subst hu_3
  subst hu_4
  subst hA_5
  have hpl : posC ((rs.map Prod.fst).take k) ≤ k := Nat.le_trans (posC_le _) (by simp; omega)
  refine c_seq ?_
  refine c_region ?_
  refine r_val .none rfl (p_lt rfl rfl) ?_
  refine r_nil ?_
  refine e_next ?_
  refine c_seq ?_
  refine c_splitd (d := 10) rfl (fun h_6 => ?_) (fun h_6 => ?_)
  · skip
    first
      | (exfalso; omega)
      | (
        refine c_cond_t rfl ?_
        refine c_skip ?_
        refine e_next ?_
        refine c_seq ?_
        refine c_block ?_
        refine c_seq ?_
        refine c_region ?_
        refine r_iaddr_g .none rfl Try.underlying25 sz27 rfl hr rfl (by first | exact of_decide_eq_true rfl | omega) (fun p_8 o_9 R_7 => ?_)
        have hc_10 := hp _ (getD_mem (i := k) (d := d0) (by omega))
        refine r_val .none rfl (p_ldga0 Try.underlying27 rfl sz27 rfl R_7 (by first | exact of_decide_eq_true rfl | omega) (rfl : _ = Value.agg #[_, _, _, _, _, _, _, _])) ?_
        refine r_alloc .none rfl zr27 (IsRow.lit _) (fun b_2 => ?_)
        refine r_stw (k := 0) .none sz27 rfl rfl (IsRow.lit _) (one_lit rfl (all_cons rfl (all_cons rfl (all_cons rfl (all_cons rfl (all_cons rfl (all_cons rfl (all_cons rfl (all_cons (hc_10).one rfl))))))))) rfl ?_
        refine r_nil ?_
        refine e_next ?_
        refine c_seq ?_
        refine c_region ?_
        refine r_val .none rfl (p_field Try.underlying27 rfl sz3 rfl) ?_
        refine r_val .none rfl (p_ld (k := 0) Try.underlying3 rfl rfl rfl (by first | exact of_decide_eq_true rfl | omega) (rfl : _ = Value.int _ _)) ?_
        refine r_val .none rfl (p_eq rfl rfl) ?_
        refine r_nil ?_
        refine e_next ?_
        refine c_splitd (d := 15) rfl (fun h_11 => ?_) (fun h_11 => ?_)
        · skip
          have hk := h_11
          first
            | (exfalso; omega)
            | (
              refine c_cond_t rfl ?_
              refine c_region ?_
              refine r_val .none rfl (p_move rfl) ?_
              refine r_val .none rfl (p_add rfl rfl (by omega)) ?_
              refine r_val .none rfl (p_assign rfl) ?_
              refine r_nil ?_
              refine e_norm_block ?_
              refine e_next ?_
              refine c_region ?_
              refine r_val .none rfl (p_add rfl rfl (by omega)) ?_
              refine r_val .none rfl (p_move rfl) ?_
              refine r_nil ?_
              refine e_round (k + 1) ⟨by omega, by omega⟩ rfl ⟨rfl, (congrArg (fun z => some (Value.int .i64 z)) (by rw [posC_take (by omega)]; first | (rw [if_pos hk]; omega) | (rw [if_neg hk]; omega))), rfl, rfl, rfl, trivial⟩ (.drop (.keep (fun _ _ h => h) (.nil)))
              )
        · skip
          have hk := h_11
          first
            | (exfalso; omega)
            | (
              refine c_cond_f rfl ?_
              refine c_skip ?_
              refine e_norm_block ?_
              refine e_next ?_
              refine c_region ?_
              refine r_val .none rfl (p_add rfl rfl (by omega)) ?_
              refine r_val .none rfl (p_move rfl) ?_
              refine r_nil ?_
              refine e_round (k + 1) ⟨by omega, by omega⟩ rfl ⟨rfl, (congrArg (fun z => some (Value.int .i64 z)) (by rw [posC_take (by omega)]; first | (rw [if_pos hk]; omega) | (rw [if_neg hk]; omega))), rfl, rfl, rfl, trivial⟩ (.drop (.keep (fun _ _ h => h) (.nil)))
              )
        )
  · skip
    first
      | (exfalso; omega)
      | (
        refine c_cond_f rfl ?_
        refine c_exit ?_
        refine e_exit_then ?_
        refine e_exit_then ?_
        refine e_exit_block ?_
        refine e_next ?_
        refine c_seq ?_
        refine c_region ?_
        refine r_val .none rfl (p_move rfl) ?_
        refine r_val .none rfl (p_assign rfl) ?_
        refine r_nil ?_
        refine e_next ?_
        refine c_ret ?_
        refine e_ret1 Try.results28 (.tmp rfl .nil) (fun w hm => ⟨?_, hm.since⟩)
        rw [show l = (rs.map Prod.fst).take k by rw [hl, List.take_of_length_le (by simp; omega)]]
        )
theorem c_check5 (nm : ByteArray) (cv : Value) (l : List CT) {G : Ghost} (hsz : sizeL l ≤ 1000) (hs : Cs G cv l) (w : World) (hG : Has G w) :
    Calls Try.prog 22 #[Value.agg #[Value.string nm, cv]] w (Ret fun r w' => r = Value.int .i64 (ruleChk nm l) ∧ Since nX w w') := by
  refine enter (args := [_]) (X := nX) (G := G) (l := [(0, Value.agg #[Value.string nm, cv])]) Try.func22 rfl Try.ntmps22 hG ⟨rfl, trivial⟩ (Nat.le_of_ble_eq_true rfl) ?_
  obtain ⟨rs, hr, hp, hl⟩ := hs.inv
  have hbd := hr.bound
  have hlr : l.length = rs.length := by rw [hl]; simp
  refine c_seq ?_
  refine c_region ?_
  refine r_box .none rfl rfl (IsRow.lit _) (fun b_1 => ?_)
  refine r_val .none rfl (p_assign rfl) ?_
  refine r_nil ?_
  refine e_next ?_
  refine c_seq ?_
  refine c_block ?_
  refine c_seq ?_
  refine c_region ?_
  refine r_val .none rfl (p_field Try.underlying46 rfl sz9 rfl) ?_
  refine r_val .none rfl (p_ld (k := 0) Try.underlying9 rfl rfl rfl (by first | exact of_decide_eq_true rfl | omega) (rfl : _ = Value.string _)) ?_
  refine r_call (vs := [_]) .none rfl cl42 rfl (fun w hw => c_symRight nm w) ?_
  refine r_val .none rfl (p_not rfl) ?_
  refine r_val .none rfl (p_assign rfl) ?_
  refine r_nil ?_
  refine e_next ?_
  refine c_splitn (d := 8) rfl (fun h_1 => ?_) (fun h_1 => ?_)
  · skip
    have hN : symRight nm = false := by simpa using h_1
    first
      | (exfalso; omega)
      | (
        refine c_cond_t rfl ?_
        refine c_seq ?_
        refine c_region ?_
        refine r_val .none rfl (p_assign rfl) ?_
        refine r_nil ?_
        refine e_next ?_
        refine c_ret ?_
        refine e_ret_block ?_
        refine e_ret_then ?_
        refine e_ret1 Try.results22 (.tmp rfl .nil) (fun w hm => ⟨?_, hm.since⟩)
        first
        | (rw [chk_name hN]; done)
        | (rw [chk_empty hN (by omega)]; done)
        | (rw [chk_bad hN (by omega) (by rw [hl, checkL_at (by omega) hphi.2 hE]; exact hE), hl, checkL_at (by omega) hphi.2 hE]; done)
        | (rw [chk_long hN (by omega) hC0 (by omega)]; done)
        | (rw [chk_scope hN (by omega) hC0 (by omega) (anyBad_yes (v := v) (by omega) (by omega) hB)]; done)
        | (rw [chk_ok hN (by omega) hC0 (by omega) (anyBad_no (fun u h1 h2 => hno u h1 (by omega)))]; done)
        )
  · skip
    have hN : symRight nm = true := by simpa using h_1
    first
      | (exfalso; omega)
      | (
        refine c_cond_f rfl ?_
        refine c_seq ?_
        refine c_region ?_
        refine r_val .none rfl (p_field Try.underlying46 rfl sz25 rfl) ?_
        refine r_val .none rfl (p_ld (k := 0) Try.underlying25 rfl rfl rfl (by first | exact of_decide_eq_true rfl | omega) rfl) ?_
        refine r_val .none rfl (p_leng Try.underlying25 rfl hr) ?_
        have bd_2 := (hr).bound
        refine r_val .none rfl (p_eq rfl rfl) ?_
        refine r_val .none rfl (p_assign rfl) ?_
        refine r_nil ?_
        refine e_next ?_
        refine c_splitd (d := 13) rfl (fun h_3 => ?_) (fun h_3 => ?_)
        · skip
          first
            | (exfalso; omega)
            | (
              refine c_cond_t rfl ?_
              refine c_seq ?_
              refine c_region ?_
              refine r_val .none rfl (p_assign rfl) ?_
              refine r_nil ?_
              refine e_next ?_
              refine c_ret ?_
              refine e_ret_block ?_
              refine e_ret_then ?_
              refine e_ret1 Try.results22 (.tmp rfl .nil) (fun w hm => ⟨?_, hm.since⟩)
              first
              | (rw [chk_name hN]; done)
              | (rw [chk_empty hN (by omega)]; done)
              | (rw [chk_bad hN (by omega) (by rw [hl, checkL_at (by omega) hphi.2 hE]; exact hE), hl, checkL_at (by omega) hphi.2 hE]; done)
              | (rw [chk_long hN (by omega) hC0 (by omega)]; done)
              | (rw [chk_scope hN (by omega) hC0 (by omega) (anyBad_yes (v := v) (by omega) (by omega) hB)]; done)
              | (rw [chk_ok hN (by omega) hC0 (by omega) (anyBad_no (fun u h1 h2 => hno u h1 (by omega)))]; done)
              )
        · skip
          first
            | (exfalso; omega)
            | (
              refine c_cond_f rfl ?_
              refine c_skip ?_
              refine e_norm_block ?_
              refine e_next ?_
              refine c_seq ?_
              refine c_region ?_
              refine r_val .none rfl (p_assign rfl) ?_
              refine r_nil ?_
              refine e_next ?_
              refine c_seq ?_
              refine c_seq ?_
              refine c_region ?_
              refine r_val .none rfl (p_field Try.underlying46 rfl sz25 rfl) ?_
              refine r_val .none rfl (p_ld (k := 0) Try.underlying25 rfl rfl rfl (by first | exact of_decide_eq_true rfl | omega) rfl) ?_
              refine r_val .none rfl (p_leng Try.underlying25 rfl hr) ?_
              have bd_4 := (hr).bound
              refine r_val .none rfl (p_move rfl) ?_
              refine r_nil ?_
              refine e_next ?_
              refine c_block ?_
              refine c_name (d := 1) rfl (fun u_5 hu_5 => ?_)
              refine c_name (d := 19) rfl (fun u_6 hu_6 => ?_)
              refine c_name (d := 20) rfl (fun u_7 hu_7 => ?_)
              refine c_nameL (k := 0) rfl (fun A_8 hA_8 => ?_)
              refine c_loop (σ := Nat) (fun k => [(21, Value.int .i64 (k : Nat)), (3, Value.int .i64 (sizeL ((rs.map Prod.fst).take k) : Nat)), (1, u_5), (19, u_6), (20, u_7)]) (fun k => [A_8]) (fun _ => _) (fun k => k ≤ rs.length ∧ ∀ c ∈ (rs.map Prod.fst).take k, check c 1 = 0) (fun k => rs.length - k) (0) ⟨Nat.zero_le _, by simp⟩ rfl ⟨rfl, rfl, rfl, rfl, rfl, trivial⟩ (.keep (fun _ _ h => h) (.nil)) (fun k hphi => ?_)
              subst hu_5
              subst hu_6
              subst hu_7
              subst hA_8
              refine c_seq ?_
              refine c_region ?_
              refine r_val .none rfl (p_lt rfl rfl) ?_
              refine r_nil ?_
              refine e_next ?_
              refine c_seq ?_
              refine c_splitd (d := 22) rfl (fun h_9 => ?_) (fun h_9 => ?_)
              · skip
                first
                  | (exfalso; omega)
                  | (
                    refine c_cond_t rfl ?_
                    refine c_skip ?_
                    refine e_next ?_
                    refine c_seq ?_
                    refine c_block ?_
                    refine c_seq ?_
                    refine c_region ?_
                    refine r_iaddr_g .none rfl Try.underlying25 sz27 rfl hr rfl (by first | exact of_decide_eq_true rfl | omega) (fun p_11 o_12 R_10 => ?_)
                    have hc_13 := hp _ (getD_mem (i := k) (d := d0) (by omega))
                    have hz3 : size (rs.getD k d0).1 ≤ 1000 := Nat.le_trans (sizeL_mem (by rw [hl]; exact List.mem_map.2 ⟨_, getD_mem (i := k) (d := d0) (by omega), rfl⟩)) hsz
                    have hst := sizeL_take (rs := rs) (k := k) (by omega)
                    have hst2 : sizeL ((rs.map Prod.fst).take (k + 1)) ≤ sizeL l := by rw [hl]; exact sizeL_take_le _ _
                    refine r_val .none rfl (p_ldga0 Try.underlying27 rfl sz27 rfl R_10 (by first | exact of_decide_eq_true rfl | omega) (rfl : _ = Value.agg #[_, _, _, _, _, _, _, _])) ?_
                    refine r_alloc .none rfl zr27 (IsRow.lit _) (fun b_2 => ?_)
                    refine r_stw (k := 0) .none sz27 rfl rfl (IsRow.lit _) (one_lit rfl (all_cons rfl (all_cons rfl (all_cons rfl (all_cons rfl (all_cons rfl (all_cons rfl (all_cons rfl (all_cons (hc_13).one rfl))))))))) rfl ?_
                    refine r_nil ?_
                    refine e_next ?_
                    refine c_seq ?_
                    refine c_seq ?_
                    refine c_region ?_
                    refine r_val .none rfl (p_ldw (k := 0) Try.underlying27 rfl sz27 rfl rfl (rfl : _ = Value.agg #[_, _, _, _, _, _, _, _])) ?_
                    refine r_call (vs := [_, _]) .none rfl cl13 rfl (fun w hw => c_check (rs.getD k d0).1 _ 1 hc_13 w hw) ?_
                    refine r_val .none rfl (p_assign rfl) ?_
                    refine r_nil ?_
                    refine e_next ?_
                    refine c_seq ?_
                    refine c_region ?_
                    refine r_val .none rfl (p_move rfl) ?_
                    refine r_val .none rfl (p_ne rfl rfl) ?_
                    refine r_nil ?_
                    refine e_next ?_
                    refine c_splitd (d := 28) rfl (fun h_14 => ?_) (fun h_14 => ?_)
                    · skip
                      have hE := h_14
                      first
                        | (exfalso; omega)
                        | (
                          refine c_cond_t rfl ?_
                          refine c_seq ?_
                          refine c_region ?_
                          refine r_val .none rfl (p_move rfl) ?_
                          refine r_val .none rfl (p_assign rfl) ?_
                          refine r_nil ?_
                          refine e_next ?_
                          refine c_ret ?_
                          refine e_ret_then ?_
                          refine e_ret_block ?_
                          refine e_ret_then ?_
                          refine e_ret_then ?_
                          refine e_ret_block ?_
                          refine e_ret_then ?_
                          refine e_ret1 Try.results22 (.tmp rfl .nil) (fun w hm => ⟨?_, hm.since⟩)
                          first
                          | (rw [chk_name hN]; done)
                          | (rw [chk_empty hN (by omega)]; done)
                          | (rw [chk_bad hN (by omega) (by rw [hl, checkL_at (by omega) hphi.2 hE]; exact hE), hl, checkL_at (by omega) hphi.2 hE]; done)
                          | (rw [chk_long hN (by omega) hC0 (by omega)]; done)
                          | (rw [chk_scope hN (by omega) hC0 (by omega) (anyBad_yes (v := v) (by omega) (by omega) hB)]; done)
                          | (rw [chk_ok hN (by omega) hC0 (by omega) (anyBad_no (fun u h1 h2 => hno u h1 (by omega)))]; done)
                          )
                    · skip
                      have hE := Decidable.not_not.1 h_14
                      first
                        | (exfalso; omega)
                        | (
                          refine c_cond_f rfl ?_
                          refine c_skip ?_
                          refine e_next ?_
                          refine c_region ?_
                          refine r_val .none rfl (p_move rfl) ?_
                          refine r_val .none rfl (p_ldw (k := 0) Try.underlying27 rfl sz27 rfl rfl (rfl : _ = Value.agg #[_, _, _, _, _, _, _, _])) ?_
                          refine r_call (vs := [_]) .none rfl cl32 rfl (fun w hw => c_size (rs.getD k d0).1 _ hz3 hc_13 w hw) ?_
                          refine r_val .none rfl (p_add rfl rfl (by omega)) ?_
                          refine r_val .none rfl (p_assign rfl) ?_
                          refine r_nil ?_
                          refine e_norm_block ?_
                          refine e_next ?_
                          refine c_region ?_
                          refine r_val .none rfl (p_add rfl rfl (by omega)) ?_
                          refine r_val .none rfl (p_move rfl) ?_
                          refine r_nil ?_
                          refine e_round (k + 1) ⟨⟨by omega, fun c hc => by rw [map_take (d := d0) (by omega)] at hc; rcases List.mem_append.1 hc with h | h; exact hphi.2 c h; rw [List.mem_singleton.1 h]; exact hE⟩, by omega⟩ rfl ⟨rfl, (congrArg (fun z => some (Value.int .i64 z)) (by rw [hst]; omega)), rfl, rfl, rfl, trivial⟩ (.drop (.keep (fun _ _ h => h) (.nil)))
                          )
                    )
              · skip
                first
                  | (exfalso; omega)
                  | (
                    refine c_cond_f rfl ?_
                    refine c_exit ?_
                    refine e_exit_then ?_
                    refine e_exit_then ?_
                    refine e_exit_block ?_
                    refine e_next ?_
                    refine c_seq ?_
                    refine c_seq ?_
                    refine c_region ?_
                    have hlt : (rs.map Prod.fst).take k = l := by rw [List.take_of_length_le (by simp; omega), hl]
                    have hC0 : checkL l 1 = 0 := checkL_all (fun c hc => hphi.2 c (by rw [hlt]; exact hc))
                    rw [hlt] at *
                    refine r_val .none rfl (p_move rfl) ?_
                    refine r_val .none rfl (p_gt rfl rfl) ?_
                    refine r_nil ?_
                    refine e_next ?_
                    refine c_splitd (d := 36) rfl (fun h_15 => ?_) (fun h_15 => ?_)
                    · skip
                      first
                        | (exfalso; omega)
                        | (
                          refine c_cond_t rfl ?_
                          refine c_seq ?_
                          refine c_region ?_
                          refine r_val .none rfl (p_assign rfl) ?_
                          refine r_nil ?_
                          refine e_next ?_
                          refine c_ret ?_
                          refine e_ret_then ?_
                          refine e_ret1 Try.results22 (.tmp rfl .nil) (fun w hm => ⟨?_, hm.since⟩)
                          first
                          | (rw [chk_name hN]; done)
                          | (rw [chk_empty hN (by omega)]; done)
                          | (rw [chk_bad hN (by omega) (by rw [hl, checkL_at (by omega) hphi.2 hE]; exact hE), hl, checkL_at (by omega) hphi.2 hE]; done)
                          | (rw [chk_long hN (by omega) hC0 (by omega)]; done)
                          | (rw [chk_scope hN (by omega) hC0 (by omega) (anyBad_yes (v := v) (by omega) (by omega) hB)]; done)
                          | (rw [chk_ok hN (by omega) hC0 (by omega) (anyBad_no (fun u h1 h2 => hno u h1 (by omega)))]; done)
                          )
                    · skip
                      first
                        | (exfalso; omega)
                        | (
                          refine c_cond_f rfl ?_
                          refine c_skip ?_
                          refine e_next ?_
                          refine c_seq ?_
                          refine c_seq ?_
                          refine c_region ?_
                          refine r_val .none rfl (p_assign rfl) ?_
                          refine r_nil ?_
                          refine e_next ?_
                          refine c_block ?_
                          refine c_name (d := 1) rfl (fun u_16 hu_16 => ?_)
                          refine c_nameL (k := 0) rfl (fun A_17 hA_17 => ?_)
                          refine c_loop (σ := Nat × Ghost) (fun s => [(7, Value.int .i64 (s.1 : Nat)), (1, u_16)]) (fun s => [A_17]) (fun s => s.2) (fun s => (1 ≤ s.1 ∧ s.1 ≤ 33) ∧ (∀ u, 1 ≤ u → u < s.1 → out l u ≠ 1) ∧ GNew w nX G s.2) (fun s => 33 - s.1) ((1, _)) ⟨⟨Nat.le_refl _, Nat.le_of_ble_eq_true rfl⟩, fun u h1 h2 => absurd (Nat.lt_of_le_of_lt h1 h2) (Nat.lt_irrefl _), GNew.refl _ _ _⟩ rfl ⟨rfl, rfl, trivial⟩ (.keep (fun _ _ h => h) (.nil)) (fun s hphi => ?_)
                          subst hu_16
                          subst hA_17
                          obtain ⟨v, H⟩ := s
                          obtain ⟨hv, hno, hgn⟩ := hphi
                          dsimp only at hv hno hgn ⊢
                          replace hp := fun p hm0 => (hp p hm0).mono hgn.le
                          replace hr := hr.mono hgn.le
                          replace hs := hs.mono hgn.le
                          refine c_seq ?_
                          refine c_seq ?_
                          refine c_region ?_
                          refine r_val .none rfl (p_move rfl) ?_
                          refine r_val .none rfl (p_le rfl rfl) ?_
                          refine r_nil ?_
                          refine e_next ?_
                          refine c_splitd (d := 38) rfl (fun h_18 => ?_) (fun h_18 => ?_)
                          · skip
                            first
                              | (exfalso; omega)
                              | (
                                refine c_cond_t rfl ?_
                                refine c_skip ?_
                                refine e_next ?_
                                refine c_seq ?_
                                refine c_block ?_
                                refine c_seq ?_
                                refine c_region_d (fun _ => false) _ mixed (.keep (fun _ _ h => h) (.nil)) ?_
                                refine d_val1 0 rfl rfl (by kernel_rfl) (fun _ _ => rfl) .none rfl (p_ldw (k := 0) Try.underlying46 rfl sz46 rfl rfl (rfl : _ = Value.agg #[_, _])) ?_
                                refine d_val1 1 rfl rfl (by kernel_rfl) (fun _ _ => rfl) .none rfl (p_ldw (k := 0) Try.underlying46 rfl sz46 rfl rfl (rfl : _ = Value.agg #[_, _])) ?_
                                refine d_val1 2 rfl rfl (by kernel_rfl) (fun _ _ => rfl) .none rfl (p_move rfl) ?_
                                refine d_eff 3 rfl (by kernel_rfl) (fun K_19 hKK_19 hcK_19 => ?_)
                                refine r_callm (vs := [_, _]) .none rfl cl26 rfl (fun w hw => c_places _ _ l v hsz hs w hw) (fun G_20 v_23 hn_21 hr_22 => ?_)
                                replace hp := fun p hm0 => (hp p hm0).mono hn_21.le
                                replace hr := hr.mono hn_21.le
                                replace hs := hs.mono hn_21.le
                                have u_24 := hr_22
                                refine r_nil (e_d (i := 3) (brk := (fun _ => false)) (ph' := true) hKK_19 hcK_19 rfl (fun _ => hn_21.le) (fun _ => .keep (fun _ _ h => h) (.nil)) ?_)
                                clear hKK_19 hcK_19 K_19
                                refine d_eff 4 rfl (by kernel_rfl) (fun K_25 hKK_25 hcK_25 => ?_)
                                refine r_call (vs := [_, _]) .none rfl cl43 rfl (fun w hw => c_inPl nm _ _ l v hs u_24 w hw) ?_
                                refine r_nil (e_d (i := 4) (brk := (fun _ => false)) (ph' := true) hKK_25 hcK_25 rfl (fun _ => hn_21.le) (fun _ => .keep (fun _ _ h => h) (.nil)) ?_)
                                clear hKK_25 hcK_25 K_25
                                refine d_val1 5 rfl rfl (by kernel_rfl) (fun _ _ => rfl) .none rfl (p_not rfl) ?_
                                refine d_nil (by kernel_rfl) ?_
                                refine e_next ?_
                                refine c_splitn (d := 46) rfl (fun h_26 => ?_) (fun h_26 => ?_)
                                · skip
                                  have hB := bad_of hC0 (by simpa using h_26)
                                  first
                                    | (exfalso; omega)
                                    | (
                                      refine c_cond_t rfl ?_
                                      refine c_seq ?_
                                      refine c_region ?_
                                      refine r_val .none rfl (p_assign rfl) ?_
                                      refine r_nil ?_
                                      refine e_next ?_
                                      refine c_ret ?_
                                      refine e_ret_block ?_
                                      refine e_ret_then ?_
                                      refine e_ret_then ?_
                                      refine e_ret_block ?_
                                      refine e_ret_then ?_
                                      refine e_ret1 Try.results22 (.tmp rfl .nil) (fun w hm => ⟨?_, hm.since⟩)
                                      first
                                      | (rw [chk_name hN]; done)
                                      | (rw [chk_empty hN (by omega)]; done)
                                      | (rw [chk_bad hN (by omega) (by rw [hl, checkL_at (by omega) hphi.2 hE]; exact hE), hl, checkL_at (by omega) hphi.2 hE]; done)
                                      | (rw [chk_long hN (by omega) hC0 (by omega)]; done)
                                      | (rw [chk_scope hN (by omega) hC0 (by omega) (anyBad_yes (v := v) (by omega) (by omega) hB)]; done)
                                      | (rw [chk_ok hN (by omega) hC0 (by omega) (anyBad_no (fun u h1 h2 => hno u h1 (by omega)))]; done)
                                      )
                                · skip
                                  have hB := good_of hC0 (by simpa using h_26)
                                  first
                                    | (exfalso; omega)
                                    | (
                                      refine c_cond_f rfl ?_
                                      refine c_skip ?_
                                      refine e_norm_block ?_
                                      refine e_next ?_
                                      refine c_region ?_
                                      refine r_val .none rfl (p_move rfl) ?_
                                      refine r_val .none rfl (p_add rfl rfl (by omega)) ?_
                                      refine r_val .none rfl (p_assign rfl) ?_
                                      refine r_nil ?_
                                      refine e_round ((v + 1, _)) ⟨⟨⟨by dsimp only; omega, by dsimp only; omega⟩, fun u h1 h2 => by rcases Nat.lt_or_ge u v with h3 | h3; exact hno u h1 h3; rw [show u = v by dsimp only at h2; omega]; exact hB, (hgn.trans hn_21)⟩, by dsimp only; omega⟩ rfl ⟨rfl, rfl, trivial⟩ (.keep (fun _ _ h => h) (.nil))
                                      )
                                )
                          · skip
                            first
                              | (exfalso; omega)
                              | (
                                refine c_cond_f rfl ?_
                                refine c_exit ?_
                                refine e_exit_then ?_
                                refine e_exit_then ?_
                                refine e_exit_block ?_
                                refine e_next ?_
                                refine c_seq ?_
                                refine c_region ?_
                                refine r_val .none rfl (p_assign rfl) ?_
                                refine r_nil ?_
                                refine e_next ?_
                                refine c_ret ?_
                                refine e_ret1 Try.results22 (.tmp rfl .nil) (fun w hm => ⟨?_, hm.since⟩)
                                first
                                | (rw [chk_name hN]; done)
                                | (rw [chk_empty hN (by omega)]; done)
                                | (rw [chk_bad hN (by omega) (by rw [hl, checkL_at (by omega) hphi.2 hE]; exact hE), hl, checkL_at (by omega) hphi.2 hE]; done)
                                | (rw [chk_long hN (by omega) hC0 (by omega)]; done)
                                | (rw [chk_scope hN (by omega) hC0 (by omega) (anyBad_yes (v := v) (by omega) (by omega) hB)]; done)
                                | (rw [chk_ok hN (by omega) hC0 (by omega) (anyBad_no (fun u h1 h2 => hno u h1 (by omega)))]; done)
                                )
                          )
                    )
              )
        )
end Go.Proofs.Ytpcpbfajadgmpaa

/- Walks: what Go functions of this chapter come to, each as a function on plain data; no condition but those that each theorem names. Printed by a program of this work (gen.py). -/
namespace Go.Proofs.Ytpcpbfajadgmpaa
open Go.Gx Go.Gx.T3 Go.Gx.T4 Go.Gx.T3
theorem cl11 : Callable Try.prog 11 := callable Try.func11 (by kernel_rfl) rfl
theorem cl12 : Callable Try.prog 12 := callable Try.func12 (by kernel_rfl) rfl
theorem c_CondHigher (c : CT) (sv : Value) {G : Ghost} (hs : Cs G sv c.subs) (w : World) (hG : Has G w) :
    Calls Try.prog 4 #[Value.agg #[Value.int .i64 c.h.k, Value.bool c.h.v0, Value.int .i64 c.h.n0, Value.bool c.h.v1, Value.int .i64 c.h.n1, Value.bool c.h.v2, Value.int .i64 c.h.n2, sv]] w (Ret fun r w' => r = Value.bool true ∧ Since nX w w') := by
  refine enter (args := [_]) (X := nX) (G := G) (l := [(0, Value.agg #[Value.int .i64 c.h.k, Value.bool c.h.v0, Value.int .i64 c.h.n0, Value.bool c.h.v1, Value.int .i64 c.h.n1, Value.bool c.h.v2, Value.int .i64 c.h.n2, sv])]) Try.func4 rfl Try.ntmps4 hG ⟨rfl, trivial⟩ (Nat.le_of_ble_eq_true rfl) ?_
  refine c_seq ?_
  refine c_region ?_
  refine r_box .none rfl rfl (IsRow.lit _) (fun b_1 => ?_)
  refine r_val .none rfl (p_assign rfl) ?_
  refine r_nil ?_
  refine e_next ?_
  refine c_seq ?_
  refine c_seq ?_
  refine c_region ?_
  refine r_val .none rfl (p_ldw (k := 0) Try.underlying27 rfl sz27 rfl rfl (rfl : _ = Value.agg #[_, _, _, _, _, _, _, _])) ?_
  refine r_call (vs := [_, _]) .none rfl cl11 rfl (fun w hw => c_Small c sv 60 (by omega) hs w hw) ?_
  refine r_val .none rfl (p_not rfl) ?_
  refine r_nil ?_
  refine e_next ?_
  refine c_splitn (d := 8) rfl (fun h_1 => ?_) (fun h_1 => ?_)
  · skip
    first
      | (exfalso; omega)
      | (
        refine c_cond_t rfl ?_
        refine c_seq ?_
        refine c_region ?_
        refine r_call (vs := []) .none rfl cl12 rfl (fun w hw => c_awake4 w) ?_
        refine r_val .none rfl (p_assign rfl) ?_
        refine r_nil ?_
        refine e_next ?_
        refine c_ret ?_
        refine e_ret_then ?_
        refine e_ret1 Try.results4 (.tmp rfl .nil) (fun w hm => ⟨?_, hm.since⟩)
        first
        | rfl
        | (exfalso; rcases hC with ⟨h, h'⟩ | ⟨h, h'⟩; (rw [rgt_yes (by omega) h] at h'; cases h'); exact check_deep c (by omega) h)
        )
  · skip
    first
      | (exfalso; omega)
      | (
        refine c_cond_f rfl ?_
        refine c_skip ?_
        refine e_next ?_
        refine c_seq ?_
        refine c_region ?_
        refine r_val .none rfl (p_assign rfl) ?_
        refine r_nil ?_
        refine e_next ?_
        refine c_seq ?_
        refine c_seq ?_
        refine c_region ?_
        refine r_val .none rfl (p_assign rfl) ?_
        refine r_nil ?_
        refine e_next ?_
        refine c_block ?_
        refine c_name (d := 1) rfl (fun u_2 hu_2 => ?_)
        refine c_nameL (k := 0) rfl (fun A_3 hA_3 => ?_)
        refine c_loop (σ := Nat) (fun s => [(4, Value.int .i64 (s : Nat)), (3, Value.bool (rgt c s)), (1, u_2)]) (fun s => [A_3]) (fun _ => _) (fun s => 1 ≤ s ∧ s ≤ 5) (fun s => 5 - s) (1) ⟨Nat.le_refl _, by omega⟩ rfl ⟨rfl, (congrArg (fun b => some (Value.bool b)) (rgt_one c).symm), rfl, trivial⟩ (.keep (fun _ _ h => h) (.nil)) (fun s hphi => ?_)
        subst hu_2
        subst hA_3
        refine c_seq ?_
        refine c_seq ?_
        refine c_region ?_
        refine r_val .none rfl (p_move rfl) ?_
        refine r_val .none rfl (p_le rfl rfl) ?_
        refine r_nil ?_
        refine e_next ?_
        refine c_splitd (d := 11) rfl (fun h_4 => ?_) (fun h_4 => ?_)
        · skip
          first
            | (exfalso; omega)
            | (
              refine c_cond_t rfl ?_
              refine c_skip ?_
              refine e_next ?_
              refine c_seq ?_
              refine c_block ?_
              refine c_seq ?_
              refine c_region ?_
              refine r_val .none rfl (p_ldw (k := 0) Try.underlying27 rfl sz27 rfl rfl (rfl : _ = Value.agg #[_, _, _, _, _, _, _, _])) ?_
              refine r_val .none rfl (p_move rfl) ?_
              refine r_call (vs := [_, _]) .none rfl cl13 rfl (fun w hw => c_check c sv _ hs w hw) ?_
              refine r_val .none rfl (p_eq rfl rfl) ?_
              refine r_val .none rfl (p_assign rfl) ?_
              refine r_nil ?_
              refine e_next ?_
              refine c_seq ?_
              refine c_seq ?_
              refine c_region ?_
              refine r_val .none rfl (p_move rfl) ?_
              refine r_val .none rfl (p_move rfl) ?_
              refine' r_and (c := 19) (d := 22) [_, _, _] rfl (fun h_5 Q_6 hQ_7 => ?_) (fun h_5 Q_6 hQ_7 => ?_) ?_
              rotate_left 1
              · skip
                replace h_5 := of_decide_eq_true h_5
                refine r_val (.some rfl rfl) rfl (p_move rfl) ?_
                refine r_val (.some rfl rfl) rfl (p_not rfl) ?_
                refine r_val .none rfl (p_pick_t rfl rfl) ?_
                refine r_nil (e_fin (d := 22) hQ_7 rfl (by repeat (first | exact .refl | refine .put rfl ?_ | refine .say rfl ?_ | refine .say2 rfl (by first | assumption | simp_all) ?_)))
              · skip
                repeat (first | refine r_skip rfl (.no rfl rfl) ?_ | refine r_skip rfl (.un rfl rfl) ?_)
                refine r_val (by first | exact .none | exact .some rfl rfl) rfl (p_pick_f rfl rfl) ?_
                refine r_nil (e_fin (d := 22) hQ_7 rfl (by repeat (first | exact .refl | refine .put rfl ?_ | refine .say rfl ?_ | refine .say2 rfl (by first | assumption | simp_all) ?_)))
              refine r_val .none rfl (p_move rfl) ?_
              refine' r_or (c := 23) (d := 29) [_, _, _, _, _, _] rfl (fun h_9 Q_10 hQ_11 => ?_) (fun h_9 Q_10 hQ_11 => ?_) ?_
              rotate_left 1
              · skip
                try simp only [norms] at h_9
                refine r_val (.some rfl rfl) rfl (p_move rfl) ?_
                refine r_val (.some rfl rfl) rfl (p_move rfl) ?_
                refine' r_and (c := 25) (d := 28) [_, _, _] rfl (fun h_13 Q_14 hQ_15 => ?_) (fun h_13 Q_14 hQ_15 => ?_) ?_
                rotate_left 1
                · skip
                  replace h_13 := of_decide_eq_true h_13
                  refine r_val (.some rfl rfl) rfl (p_move rfl) ?_
                  refine r_val (.some rfl rfl) rfl (p_eq rfl rfl) ?_
                  refine r_val (.some rfl rfl) rfl (p_pick_t rfl rfl) ?_
                  refine r_nil (e_fin (d := 28) hQ_15 rfl (by repeat (first | exact .refl | refine .put rfl ?_ | refine .say rfl ?_ | refine .say2 rfl (by first | assumption | simp_all) ?_)))
                · skip
                  repeat (first | refine r_skip rfl (.no rfl rfl) ?_ | refine r_skip rfl (.un rfl rfl) ?_)
                  refine r_val (by first | exact .none | exact .some rfl rfl) rfl (p_pick_f rfl rfl) ?_
                  refine r_nil (e_fin (d := 28) hQ_15 rfl (by repeat (first | exact .refl | refine .put rfl ?_ | refine .say rfl ?_ | refine .say2 rfl (by first | assumption | simp_all) ?_)))
                refine r_val .none rfl (p_pick_f rfl rfl) ?_
                refine r_nil (e_fin (d := 29) hQ_11 rfl (by repeat (first | exact .refl | refine .put rfl ?_ | refine .say rfl ?_ | refine .say2 rfl (by first | assumption | simp_all) ?_)))
              · skip
                repeat (first | refine r_skip rfl (.no rfl rfl) ?_ | refine r_skip rfl (.un rfl rfl) ?_)
                refine r_val (by first | exact .none | exact .some rfl rfl) rfl (p_pick_t rfl rfl) ?_
                refine r_nil (e_fin (d := 29) hQ_11 rfl (by repeat (first | exact .refl | refine .put rfl ?_ | refine .say rfl ?_ | refine .say2 rfl (by first | assumption | simp_all) ?_)))
              refine r_nil ?_
              refine e_next ?_
              refine c_split (d := 29) rfl (fun h_17 => ?_) (fun h_17 => ?_)
              · skip
                try simp only [norms] at h_17
                have hC := h_17
                first
                  | (exfalso; omega)
                  | (
                    refine c_cond_t rfl ?_
                    refine c_seq ?_
                    refine c_region ?_
                    refine r_val .none rfl (p_assign rfl) ?_
                    refine r_nil ?_
                    refine e_next ?_
                    refine c_ret ?_
                    refine e_ret_then ?_
                    refine e_ret_block ?_
                    refine e_ret_then ?_
                    refine e_ret_then ?_
                    refine e_ret_block ?_
                    refine e_ret_then ?_
                    refine e_ret1 Try.results4 (.tmp rfl .nil) (fun w hm => ⟨?_, hm.since⟩)
                    first
                    | rfl
                    | (exfalso; rcases hC with ⟨h, h'⟩ | ⟨h, h'⟩; (rw [rgt_yes (by omega) h] at h'; cases h'); exact check_deep c (by omega) h)
                    )
              · skip
                try simp only [norms] at h_17
                first
                  | (exfalso; omega)
                  | (
                    refine c_cond_f rfl ?_
                    refine c_skip ?_
                    refine e_next ?_
                    refine c_region ?_
                    refine r_val .none rfl (p_move rfl) ?_
                    refine r_val .none rfl (p_assign rfl) ?_
                    refine r_nil ?_
                    refine e_norm_block ?_
                    refine e_next ?_
                    refine c_region ?_
                    refine r_val .none rfl (p_move rfl) ?_
                    refine r_val .none rfl (p_add rfl rfl (by omega)) ?_
                    refine r_val .none rfl (p_assign rfl) ?_
                    refine r_nil ?_
                    refine e_round (s + 1) ⟨⟨by omega, by omega⟩, by omega⟩ rfl ⟨rfl, (congrArg (fun b => some (Value.bool b)) (rgt_next c (by omega)).symm), rfl, trivial⟩ (.keep (fun _ _ h => h) (.nil))
                    )
              )
        · skip
          first
            | (exfalso; omega)
            | (
              refine c_cond_f rfl ?_
              refine c_exit ?_
              refine e_exit_then ?_
              refine e_exit_then ?_
              refine e_exit_block ?_
              refine e_next ?_
              refine c_seq ?_
              refine c_region ?_
              refine r_call (vs := []) .none rfl cl12 rfl (fun w hw => c_awake4 w) ?_
              refine r_val .none rfl (p_assign rfl) ?_
              refine r_nil ?_
              refine e_next ?_
              refine c_ret ?_
              refine e_ret1 Try.results4 (.tmp rfl .nil) (fun w hm => ⟨?_, hm.since⟩)
              first
              | rfl
              | (exfalso; rcases hC with ⟨h, h'⟩ | ⟨h, h'⟩; (rw [rgt_yes (by omega) h] at h'; cases h'); exact check_deep c (by omega) h)
              )
        )
theorem c_CondChecks (c : CT) (sv : Value) (d : Int) {G : Ghost} (hs : Cs G sv c.subs) (w : World) (hG : Has G w) :
    Calls Try.prog 3 #[Value.agg #[Value.int .i64 c.h.k, Value.bool c.h.v0, Value.int .i64 c.h.n0, Value.bool c.h.v1, Value.int .i64 c.h.n1, Value.bool c.h.v2, Value.int .i64 c.h.n2, sv], Value.int .i64 d] w (Ret fun r w' => r = Value.bool true ∧ Since nX w w') := by
  refine enter (args := [_, _]) (X := nX) (G := G) (l := [(0, Value.agg #[Value.int .i64 c.h.k, Value.bool c.h.v0, Value.int .i64 c.h.n0, Value.bool c.h.v1, Value.int .i64 c.h.n1, Value.bool c.h.v2, Value.int .i64 c.h.n2, sv]), (1, Value.int .i64 d)]) Try.func3 rfl Try.ntmps3 hG ⟨rfl, rfl, trivial⟩ (Nat.le_of_ble_eq_true rfl) ?_
  refine c_seq ?_
  refine c_region ?_
  refine r_box .none rfl rfl (IsRow.lit _) (fun b_1 => ?_)
  refine r_val .none rfl (p_assign rfl) ?_
  refine r_nil ?_
  refine e_next ?_
  refine c_seq ?_
  refine c_seq ?_
  refine c_region ?_
  refine r_val .none rfl (p_ldw (k := 0) Try.underlying27 rfl sz27 rfl rfl (rfl : _ = Value.agg #[_, _, _, _, _, _, _, _])) ?_
  refine r_call (vs := [_, _]) .none rfl cl11 rfl (fun w hw => c_Small c sv 60 (by omega) hs w hw) ?_
  refine r_val .none rfl (p_not rfl) ?_
  refine r_nil ?_
  refine e_next ?_
  refine c_splitn (d := 7) rfl (fun h_1 => ?_) (fun h_1 => ?_)
  · skip
    first
      | (exfalso; omega)
      | (
        refine c_cond_t rfl ?_
        refine c_seq ?_
        refine c_region ?_
        refine r_call (vs := []) .none rfl cl12 rfl (fun w hw => c_awake4 w) ?_
        refine r_val .none rfl (p_assign rfl) ?_
        refine r_nil ?_
        refine e_next ?_
        refine c_ret ?_
        refine e_ret_then ?_
        refine e_ret1 Try.results3 (.tmp rfl .nil) (fun w hm => ⟨?_, hm.since⟩)
        first
        | rfl
        | (exfalso; exact absurd (check_max c d).symm (by assumption))
        )
  · skip
    first
      | (exfalso; omega)
      | (
        refine c_cond_f rfl ?_
        refine c_skip ?_
        refine e_next ?_
        refine c_seq ?_
        refine c_region_d (fun _ => false) _ mixed (.keep (fun _ _ h => h) (.nil)) ?_
        refine d_val1 0 rfl rfl (by kernel_rfl) (fun _ _ => rfl) .none rfl (p_ldw (k := 0) Try.underlying27 rfl sz27 rfl rfl (rfl : _ = Value.agg #[_, _, _, _, _, _, _, _])) ?_
        refine d_val1 1 rfl rfl (by kernel_rfl) (fun _ _ => rfl) .none rfl (p_move rfl) ?_
        refine d_val1 3 rfl rfl (by kernel_rfl) (fun _ _ => rfl) .none rfl (p_ldw (k := 0) Try.underlying27 rfl sz27 rfl rfl (rfl : _ = Value.agg #[_, _, _, _, _, _, _, _])) ?_
        refine d_val1 5 rfl rfl (by kernel_rfl) (fun _ _ => rfl) .none rfl (p_move rfl) ?_
        refine d_val1 6 rfl rfl (by kernel_rfl) (fun _ _ => rfl) .none rfl (p_max rfl rfl) ?_
        refine d_eff 2 rfl (by kernel_rfl) (fun K_2 hKK_2 hcK_2 => ?_)
        refine r_call (vs := [_, _]) .none rfl cl13 rfl (fun w hw => c_check c sv _ hs w hw) ?_
        refine r_nil (e_d (i := 2) (brk := (fun _ => false)) (ph' := true) hKK_2 hcK_2 rfl (fun _ => GLe.refl _) (fun _ => .keep (fun _ _ h => h) (.nil)) ?_)
        clear hKK_2 hcK_2 K_2
        refine d_eff 4 rfl (by kernel_rfl) (fun K_3 hKK_3 hcK_3 => ?_)
        refine r_callm (vs := [_]) .none rfl cl15 rfl (fun w hw => c_ref4 c sv (Nat.le_trans (small_le (m := 60) (by assumption)) (by decide)) hs w hw) (fun G_4 v_7 hn_5 hr_6 => ?_)
        replace hs := hs.mono hn_5.le
        obtain ⟨u_8, rfl, u_8s⟩ := hr_6
        refine r_nil (e_d (i := 4) (brk := (fun _ => false)) (ph' := true) hKK_3 hcK_3 rfl (fun _ => hn_5.le) (fun _ => .keep (fun _ _ h => h) (.nil)) ?_)
        clear hKK_3 hcK_3 K_3
        refine d_eff 7 rfl (by kernel_rfl) (fun K_9 hKK_9 hcK_9 => ?_)
        refine r_call (vs := [_, _]) .none rfl cl14 rfl (fun w hw => c_rcheck c _ _ (by omega) u_8s w hw) ?_
        refine r_nil (e_d (i := 7) (brk := (fun _ => false)) (ph' := true) hKK_9 hcK_9 rfl (fun _ => hn_5.le) (fun _ => .keep (fun _ _ h => h) (.nil)) ?_)
        clear hKK_9 hcK_9 K_9
        refine d_val1 8 rfl rfl (by kernel_rfl) (fun _ _ => rfl) .none rfl (p_eq rfl rfl) ?_
        refine d_val1 9 rfl rfl (by kernel_rfl) (fun _ _ => rfl) .none rfl (p_move rfl) ?_
        refine d_splitd (d := 18) rfl (fun h_10 => ?_) (fun h_10 => ?_)
        · skip
          first
            | (exfalso; omega)
            | (
              refine d_eff 10 rfl (by kernel_rfl) (fun K_11 hKK_11 hcK_11 => ?_)
              refine r_call (vs := []) (.some rfl rfl) rfl cl12 rfl (fun w hw => c_awake4 w) ?_
              refine r_nil (e_d (i := 10) (brk := (fun _ => false)) (ph' := true) hKK_11 hcK_11 rfl (fun _ => hn_5.le) (fun _ => .keep (fun _ _ h => h) (.nil)) ?_)
              clear hKK_11 hcK_11 K_11
              refine d_val1 11 rfl rfl (by kernel_rfl) (fun _ _ => rfl) .none rfl (p_pick_t rfl rfl) ?_
              refine d_val1 12 rfl rfl (by kernel_rfl) (fun _ _ => rfl) .none rfl (p_assign rfl) ?_
              refine d_nil (by kernel_rfl) ?_
              refine e_next ?_
              refine c_ret ?_
              refine e_ret1 Try.results3 (.tmp rfl .nil) (fun w hm => ⟨?_, hm.since⟩)
              first
              | rfl
              | (exfalso; exact absurd (check_max c d).symm (by assumption))
              )
        · skip
          first
            | (exfalso; omega)
            | (
              refine d_skip1 10 rfl rfl (by kernel_rfl) (fun _ _ => rfl) rfl (.no rfl rfl) ?_
              refine d_val1 11 rfl rfl (by kernel_rfl) (fun _ _ => rfl) .none rfl (p_pick_f rfl rfl) ?_
              refine d_val1 12 rfl rfl (by kernel_rfl) (fun _ _ => rfl) .none rfl (p_assign rfl) ?_
              refine d_nil (by kernel_rfl) ?_
              refine e_next ?_
              refine c_ret ?_
              refine e_ret1 Try.results3 (.tmp rfl .nil) (fun w hm => ⟨?_, hm.since⟩)
              first
              | rfl
              | (exfalso; exact absurd (check_max c d).symm (by assumption))
              )
        )
theorem open_cond_l : leafT Try.prog 10 27 = some [3, 4, 3, 4, 3, 4, 3, 25] := by kernel_rfl
theorem open_cond_n {H : Type} {enc : TypeId × Value → H} {W : World} {base : Nat} {sp : Nat → Bool} {held : Bool} : ∀ (B n : Nat) (cs : List Value) (x : DataW H × List MemPlace), n ≤ B → DataW.trod enc Try.prog W base sp held n 27 cs = some x → ∃ a : CT × Value, cs = cvC a ∧ Cs (GW W) a.2 a.1.subs
  | 0, n, cs, x, hn, h => by
    obtain rfl : n = 0 := by omega
    simp [DataW.trod] at h
  | B + 1, n, cs, x, hn, h => by
    obtain ⟨n', rfl, hl⟩ := leavesB_struct 9 Try.underlying27 open_cond_l h
    obtain ⟨x0, r0, e0, f0, g0⟩ := hl.inv
    obtain ⟨a0, rfl, _⟩ := f0.leaf.int Try.underlying3
    obtain ⟨x1, r1, e1, f1, g1⟩ := g0.inv
    obtain ⟨a1, rfl⟩ := f1.leaf.bool Try.underlying4
    obtain ⟨x2, r2, e2, f2, g2⟩ := g1.inv
    obtain ⟨a2, rfl, _⟩ := f2.leaf.int Try.underlying3
    obtain ⟨x3, r3, e3, f3, g3⟩ := g2.inv
    obtain ⟨a3, rfl⟩ := f3.leaf.bool Try.underlying4
    obtain ⟨x4, r4, e4, f4, g4⟩ := g3.inv
    obtain ⟨a4, rfl, _⟩ := f4.leaf.int Try.underlying3
    obtain ⟨x5, r5, e5, f5, g5⟩ := g4.inv
    obtain ⟨a5, rfl⟩ := f5.leaf.bool Try.underlying4
    obtain ⟨x6, r6, e6, f6, g6⟩ := g5.inv
    obtain ⟨a6, rfl, _⟩ := f6.leaf.int Try.underlying3
    obtain ⟨x7, r7, e7, f7, g7⟩ := g6.inv
    have z := g7.inv0
    obtain ⟨l, h1, h2⟩ := open_slB (cells := cvC) (Qa := fun a => Cs (GW W) a.2 a.1.subs) d0 Try.underlying25 (show Program.cellsOf Try.prog 27 = 8 by kernel_rfl) (by decide) (fun m cs' y hm hy => open_cond_n B m cs' y (by omega) hy) f7
    refine ⟨(CT.mk ⟨a0, a1, a2, a3, a4, a5, a6⟩ (l.map Prod.fst), x7), ?_, Tr.mk l h1 h2⟩
    rw [e0, e1, e2, e3, e4, e5, e6, e7, z]; rfl
set_option maxRecDepth 100000 in
theorem open_cond {H : Type} {enc : TypeId × Value → H} {W : World} {base : Nat} {sp : Nat → Bool} {held : Bool} {r : Reach} {b0 : Nat} {v : Value} {y : DataW H} {ps : List MemPlace} (hv : Value.okWide Try.prog W r b0 27 v) (h : DataW.Trod enc Try.prog W base sp held 27 v y ps) : ∃ (c : CT) (sv : Value), v = Value.agg #[Value.int .i64 c.h.k, Value.bool c.h.v0, Value.int .i64 c.h.n0, Value.bool c.h.v1, Value.int .i64 c.h.n1, Value.bool c.h.v2, Value.int .i64 c.h.n2, sv] ∧ Cs (GW W) sv c.subs := by
  obtain ⟨cs, rfl⟩ := agg_of_wide Try.underlying27 rfl hv
  obtain ⟨fuel, hf⟩ := h
  obtain ⟨a, e, hs⟩ := open_cond_n fuel fuel cs.toList _ (Nat.le_refl _) hf
  refine ⟨a.1, a.2, ?_, hs⟩
  have : cs = (cvC a).toArray := by apply Array.ext'; simpa using e
  rw [this]; rfl
end Go.Proofs.Ytpcpbfajadgmpaa

/-
  DERIVED: THE SHELF's CONTRACTS AT THIS DUMP, IN PLAIN WORDS (tools/lay-plain.mjs out of 'TryShelf.lean', which tools/lay-shelf.mjs wrote): THE SAME DECLARATIONS UNDER THE SAME NAMES: 'import', 'namespace', 'open', 'def', 'theorem' AND NOTHING ELSE: no command of the shelf's: FOR A HAND-IN. Each laying: the table of numbers ('.._ren') and one theorem, a field a fact of the dump's own or the kernel's comparison; each contract: ONE APPLICATION.
-/
namespace Go.Proofs
open Go.Shelf
def Try.lays128_ren : Go.Shelf.Ren := ⟨fun | 128 => 71 | n => n, fun | 51 => 104 | 3 => 3 | 4 => 4 | 46 => 91 | 5 => 5 | 9 => 9 | n => n, fun | n => n⟩
theorem Try.lays128 : Go.Proofs.Lays.n128 Try.prog Try.lays128_ren := {
  mixed := by kernel_rfl
  f128 := Try.func71.trans (congrArg some (by kernel_rfl))
  t3 := Try.underlying3
  a3 := Try.isAgg3
  z3 := Try.sizeOf3
  v3 := Try.zeroValue3
  t4 := Try.underlying4
  a4 := Try.isAgg4
  z4 := Try.sizeOf4
  v4 := Try.zeroValue4
  t5 := Try.underlying5
  a5 := Try.isAgg5
  z5 := Try.sizeOf5
  v5 := Try.zeroValue5
  t9 := Try.underlying9
  a9 := Try.isAgg9
  z9 := Try.sizeOf9
  v9 := Try.zeroValue9
  t46 := Try.underlying91
  a46 := Try.isAgg91
  z46 := Try.sizeOf91
  v46 := Try.zeroValue91
  t51 := Try.underlying104
  a51 := Try.isAgg104
  z51 := Try.sizeOf104
  v51 := Try.zeroValue104 }
/-- bits.Len32: "Len32 returns the minimum number of bits required to represent x; the result is 0 for x == 0.": IT RETURNS 'Lib.bitLen x'; the world is as it was. ('h0', 'h1': x is a uint32.) (LAID: no walk: one application.) -/
theorem Try.bits_Len32 (x : Int) (w : World) (h0 : 0 ≤ x) (h1 : x ≤ 4294967295) :
    Calls Try.prog 71 #[.int .u32 x] w fun e w' => e = .returned (.int .i64 (Lib.bitLen x.toNat)) ∧ w' = w := Any.bits_Len32 Try.lays128 x w h0 h1
def Try.lays125_ren : Go.Shelf.Ren := ⟨fun | 125 => 59 | 128 => 71 | 129 => 72 | n => n, fun | 46 => 91 | 3 => 3 | 51 => 104 | 53 => 106 | 4 => 4 | 5 => 5 | 9 => 9 | n => n, fun | n => n⟩
theorem Try.lays125 : Go.Proofs.Lays.n125 Try.prog Try.lays125_ren := {
  mixed := by kernel_rfl
  f125 := Try.func59.trans (congrArg some (by kernel_rfl))
  f128 := Try.func71.trans (congrArg some (by kernel_rfl))
  f129 := Try.func72.trans (congrArg some (by kernel_rfl))
  t3 := Try.underlying3
  a3 := Try.isAgg3
  z3 := Try.sizeOf3
  v3 := Try.zeroValue3
  t4 := Try.underlying4
  a4 := Try.isAgg4
  z4 := Try.sizeOf4
  v4 := Try.zeroValue4
  t5 := Try.underlying5
  a5 := Try.isAgg5
  z5 := Try.sizeOf5
  v5 := Try.zeroValue5
  t9 := Try.underlying9
  a9 := Try.isAgg9
  z9 := Try.sizeOf9
  v9 := Try.zeroValue9
  t46 := Try.underlying91
  a46 := Try.isAgg91
  z46 := Try.sizeOf91
  v46 := Try.zeroValue91
  t51 := Try.underlying104
  a51 := Try.isAgg104
  z51 := Try.sizeOf104
  v51 := Try.zeroValue104
  t53 := Try.underlying106
  a53 := Try.isAgg106
  z53 := Try.sizeOf106
  v53 := Try.zeroValue106 }
/-- bits.Len: "Len returns the minimum number of bits required to represent x; the result is 0 for x == 0.": IT RETURNS 'Lib.bitLen x'; the world is as it was. (A uint has 64 bits in the model.) ITS CALLEE bits.Len64 IS MET BY ITS OWN CONTRACT OFF THE SHELF (lay that first). (LAID: no walk: one application.) -/
theorem Try.bits_Len (x : Int) (w : World) (h0 : 0 ≤ x) (h1 : x ≤ 18446744073709551615) :
    Calls Try.prog 59 #[.int .u64 x] w fun e w' => e = .returned (.int .i64 (Lib.bitLen x.toNat)) ∧ w' = w := Any.bits_Len Try.lays125 x w h0 h1
def Try.lays215_ren : Go.Shelf.Ren := ⟨fun | 215 => 78 | n => n, fun | 3 => 3 | 4 => 4 | n => n, fun | n => n⟩
theorem Try.lays215 : Go.Proofs.Lays.n215 Try.prog Try.lays215_ren := {
  mixed := by kernel_rfl
  f215 := Try.func78.trans (congrArg some (by kernel_rfl))
  t3 := Try.underlying3
  a3 := Try.isAgg3
  z3 := Try.sizeOf3
  v3 := Try.zeroValue3
  t4 := Try.underlying4
  a4 := Try.isAgg4
  z4 := Try.sizeOf4
  v4 := Try.zeroValue4 }
open Go.RowKit in
/-- cmp.isNaN at int: 'x != x': false. (LAID: no walk: one application.) -/
theorem Try.cmp_isNaN_int (x : Int) (w : World) :
    Calls Try.prog 78 #[.int .i64 x] w fun e w' => e = .returned (.bool false) ∧ w' = w := Any.cmp_isNaN_int Try.lays215 x w
def Try.lays129_ren : Go.Shelf.Ren := ⟨fun | 129 => 72 | n => n, fun | 53 => 106 | 3 => 3 | 4 => 4 | 46 => 91 | 5 => 5 | 9 => 9 | n => n, fun | n => n⟩
theorem Try.lays129 : Go.Proofs.Lays.n129 Try.prog Try.lays129_ren := {
  mixed := by kernel_rfl
  f129 := Try.func72.trans (congrArg some (by kernel_rfl))
  t3 := Try.underlying3
  a3 := Try.isAgg3
  z3 := Try.sizeOf3
  v3 := Try.zeroValue3
  t4 := Try.underlying4
  a4 := Try.isAgg4
  z4 := Try.sizeOf4
  v4 := Try.zeroValue4
  t5 := Try.underlying5
  a5 := Try.isAgg5
  z5 := Try.sizeOf5
  v5 := Try.zeroValue5
  t9 := Try.underlying9
  a9 := Try.isAgg9
  z9 := Try.sizeOf9
  v9 := Try.zeroValue9
  t46 := Try.underlying91
  a46 := Try.isAgg91
  z46 := Try.sizeOf91
  v46 := Try.zeroValue91
  t53 := Try.underlying106
  a53 := Try.isAgg106
  z53 := Try.sizeOf106
  v53 := Try.zeroValue106 }
/-- bits.Len64: "Len64 returns the minimum number of bits required to represent x; the result is 0 for x == 0.": IT RETURNS 'Lib.bitLen x'; the world is as it was. ('h0', 'h1': x is a uint64.) (LAID: no walk: one application.) -/
theorem Try.bits_Len64 (x : Int) (w : World) (h0 : 0 ≤ x) (h1 : x ≤ 18446744073709551615) :
    Calls Try.prog 72 #[.int .u64 x] w fun e w' => e = .returned (.int .i64 (Lib.bitLen x.toNat)) ∧ w' = w := Any.bits_Len64 Try.lays129 x w h0 h1
def Try.lays189_ren : Go.Shelf.Ren := ⟨fun | 189 => 49 | 125 => 59 | 257 => 58 | 128 => 71 | 129 => 72 | 294 => 62 | 295 => 63 | 296 => 64 | 297 => 65 | 298 => 66 | 299 => 67 | 216 => 68 | 300 => 69 | 301 => 70 | 328 => 73 | 329 => 74 | 330 => 75 | 331 => 76 | 332 => 77 | 215 => 78 | 343 => 79 | n => n, fun | 28 => 57 | 3 => 3 | 46 => 91 | 0 => 0 | 51 => 104 | 53 => 106 | 4 => 4 | 183 => 96 | 182 => 95 | 131 => 101 | 5 => 5 | 9 => 9 | 218 => 107 | 222 => 68 | 228 => 113 | 229 => 114 | n => n, fun | n => n⟩
theorem Try.lays189 : Go.Proofs.Lays.n189 Try.prog Try.lays189_ren := {
  mixed := by kernel_rfl
  f125 := Try.func59.trans (congrArg some (by kernel_rfl))
  f128 := Try.func71.trans (congrArg some (by kernel_rfl))
  f129 := Try.func72.trans (congrArg some (by kernel_rfl))
  f189 := Try.func49.trans (congrArg some (by kernel_rfl))
  f215 := Try.func78.trans (congrArg some (by kernel_rfl))
  f216 := Try.func68.trans (congrArg some (by kernel_rfl))
  f257 := Try.func58.trans (congrArg some (by kernel_rfl))
  f294 := Try.func62.trans (congrArg some (by kernel_rfl))
  f295 := Try.func63.trans (congrArg some (by kernel_rfl))
  f296 := Try.func64.trans (congrArg some (by kernel_rfl))
  f297 := Try.func65.trans (congrArg some (by kernel_rfl))
  f298 := Try.func66.trans (congrArg some (by kernel_rfl))
  f299 := Try.func67.trans (congrArg some (by kernel_rfl))
  f300 := Try.func69.trans (congrArg some (by kernel_rfl))
  f301 := Try.func70.trans (congrArg some (by kernel_rfl))
  f328 := Try.func73.trans (congrArg some (by kernel_rfl))
  f329 := Try.func74.trans (congrArg some (by kernel_rfl))
  f330 := Try.func75.trans (congrArg some (by kernel_rfl))
  f331 := Try.func76.trans (congrArg some (by kernel_rfl))
  f332 := Try.func77.trans (congrArg some (by kernel_rfl))
  f343 := Try.func79.trans (congrArg some (by kernel_rfl))
  t0 := Try.underlying0
  a0 := Try.isAgg0
  z0 := Try.sizeOf0
  v0 := Try.zeroValue0
  t3 := Try.underlying3
  a3 := Try.isAgg3
  z3 := Try.sizeOf3
  v3 := Try.zeroValue3
  t4 := Try.underlying4
  a4 := Try.isAgg4
  z4 := Try.sizeOf4
  v4 := Try.zeroValue4
  t5 := Try.underlying5
  a5 := Try.isAgg5
  z5 := Try.sizeOf5
  v5 := Try.zeroValue5
  t9 := Try.underlying9
  a9 := Try.isAgg9
  z9 := Try.sizeOf9
  v9 := Try.zeroValue9
  t28 := Try.underlying57
  a28 := Try.isAgg57
  z28 := Try.sizeOf57
  v28 := Try.zeroValue57
  t46 := Try.underlying91
  a46 := Try.isAgg91
  z46 := Try.sizeOf91
  v46 := Try.zeroValue91
  t51 := Try.underlying104
  a51 := Try.isAgg104
  z51 := Try.sizeOf104
  v51 := Try.zeroValue104
  t53 := Try.underlying106
  a53 := Try.isAgg106
  z53 := Try.sizeOf106
  v53 := Try.zeroValue106
  t131 := Try.underlying101
  a131 := Try.isAgg101
  z131 := Try.sizeOf101
  v131 := Try.zeroValue101
  t182 := Try.underlying95
  a182 := Try.isAgg95
  z182 := Try.sizeOf95
  v182 := Try.zeroValue95
  t183 := Try.underlying96
  a183 := Try.isAgg96
  z183 := Try.sizeOf96
  v183 := Try.zeroValue96
  t218 := Try.underlying107
  a218 := Try.isAgg107
  z218 := Try.sizeOf107
  v218 := Try.zeroValue107
  t222 := Try.underlying68
  a222 := Try.isAgg68
  z222 := Try.sizeOf68
  v222 := Try.zeroValue68
  t228 := Try.underlying113
  a228 := Try.isAgg113
  z228 := Try.sizeOf113
  v228 := Try.zeroValue113
  t229 := Try.underlying114
  a229 := Try.isAgg114
  z229 := Try.sizeOf114
  v229 := Try.zeroValue114 }
open Go.Sort Go.RowKit in
theorem Try.slices_Sort_int (blk off cap : Nat) (zs : List Int) (w : World) (hH : Holds (Value.int .i64) w blk off zs.toArray) (hblk : blk < w.heap.size) (hsz : zs.length < 4611686018427387904) :
    Calls Try.prog 49 #[.slice (some ⟨blk, off, none⟩) zs.length cap] w fun e w' =>
      e = .returned (.tuple #[]) ∧ ∃ n os, w' = grow (putRow (Value.int .i64) (Sort.ahead w n) blk off (zs.mergeSort fun x y => decide (x ≤ y)).toArray) os := Any.slices_Sort_int Try.lays189 blk off cap zs w hH hblk hsz
def Try.laysNm215_ren : Go.Shelf.Ren := ⟨fun | 15 => 56 | n => n, fun | 22 => 57 | 3 => 3 | 4 => 4 | n => n, fun | n => n⟩
theorem Try.laysNm215 : Go.Proofs.Lays2.n15 Try.prog Try.laysNm215_ren := {
  mixed := by kernel_rfl
  f15 := Try.func56.trans (congrArg some (by kernel_rfl))
  t3 := Try.underlying3
  a3 := Try.isAgg3
  z3 := Try.sizeOf3
  v3 := Try.zeroValue3
  t4 := Try.underlying4
  a4 := Try.isAgg4
  z4 := Try.sizeOf4
  v4 := Try.zeroValue4
  t22 := Try.underlying57
  a22 := Try.isAgg57
  z22 := Try.sizeOf57
  v22 := Try.zeroValue57
  i3 := by kernel_rfl }
open Go.RowKit Go.Lib in
/-- slices.Clone at []int: "Clone returns a copy of the slice. The elements are copied using assignment, so this is a shallow clone. The result may have additional unused capacity. The result preserves the nilness of s.": OF A SLICE THAT IS NOT nil IT RETURNS A SLICE THAT IS NOT nil, OF THE SAME ELEMENTS, IN MEMORY OF THE CALL's OWN: in the how-to's words (6f): 'w'.ownsRow B e 1 v' n cells': v' begins at the head of a row among the blocks from B on (B: the heap's size at the call), not frozen, whose first cells are the elements · 'Below B w w'': below B all is as it was. The capacity is whatever the run-time gives. 'zs': what the cells behind the slice's address hold; 'zs.take n': its elements. (LAID: no walk: one application.) -/
theorem Try.slices_Clone_int (b off n c : Nat) (zs : List Int) (w : World) (hz : n ≤ zs.length) (hbig : n * 8 ≤ 140737488355328) (hc : ∀ j, j < zs.length → w.cell? ⟨b, off + j, none⟩ = some (.int .i64 (zs.getD j 0))) :
    Calls Try.prog 56 #[.slice (some ⟨b, off, none⟩) n c] w fun e w' => ∃ v', e = .returned v' ∧ w'.ownsRow w.heap.size 3 1 v' n ((zs.take n).map (Value.int .i64)) ∧ v' ≠ .slice none 0 0 ∧ Below w.heap.size w w' := Any.slices_Clone_int Try.laysNm215 b off n c zs w hz hbig hc
open Go.RowKit Go.Lib in
/-- The same at nil: nil comes back; the world is as it was. (LAID: no walk: one application.) -/
theorem Try.slices_Clone_int_nil (n c : Nat) (w : World) :
    Calls Try.prog 56 #[.slice none n c] w fun e w' => e = .returned (.slice none 0 0) ∧ w' = w := Any.slices_Clone_int_nil Try.laysNm215 n c w
open Go.RowKit Go.Lib in
/-- The same at a slice of length 0 that is not nil, WHATEVER ITS ADDRESS (no cell is asked for): a slice that is not nil and owns nothing comes back. (LAID: no walk: one application.) -/
theorem Try.slices_Clone_int_zero (a : Addr) (c : Nat) (w : World) :
    Calls Try.prog 56 #[.slice (some a) 0 c] w fun e w' => ∃ v', e = .returned v' ∧ w'.ownsRow w.heap.size 3 1 v' 0 [] ∧ v' ≠ .slice none 0 0 ∧ Below w.heap.size w w' := Any.slices_Clone_int_zero Try.laysNm215 a c w
def Try.laysNm220_ren : Go.Shelf.Ren := ⟨fun | 20 => 50 | n => n, fun | 22 => 57 | 3 => 3 | 4 => 4 | 0 => 0 | n => n, fun | n => n⟩
theorem Try.laysNm220 : Go.Proofs.Lays2.n20 Try.prog Try.laysNm220_ren := {
  mixed := by kernel_rfl
  f20 := Try.func50.trans (congrArg some (by kernel_rfl))
  t0 := Try.underlying0
  a0 := Try.isAgg0
  z0 := Try.sizeOf0
  v0 := Try.zeroValue0
  t3 := Try.underlying3
  a3 := Try.isAgg3
  z3 := Try.sizeOf3
  v3 := Try.zeroValue3
  t4 := Try.underlying4
  a4 := Try.isAgg4
  z4 := Try.sizeOf4
  v4 := Try.zeroValue4
  t22 := Try.underlying57
  a22 := Try.isAgg57
  z22 := Try.sizeOf57
  v22 := Try.zeroValue57
  i3 := by kernel_rfl }
open Go.RowKit Go.Lib Go.Sort in
/-- slices.Compact at []int, over an array: the library's two loops are walked. (LAID: no walk: one application.) -/
theorem Try.slices_Compact_int_arr (blk off cap : Nat) (d : Array Int) (w : World) (hH : Holds encI w blk off d) (hsz : d.size ≤ 9223372036854775807) (hcap : d.size ≤ cap) :
    Calls Try.prog 50 #[.slice (some ⟨blk, off, none⟩) d.size cap] w fun e w' => e = .returned (.slice (some ⟨blk, off, none⟩) (compactUpTo d d.size).length cap) ∧ ∃ q, w' = putRow encI (Sort.ahead w q) blk off (compactUpTo d d.size ++ List.replicate (d.size - (compactUpTo d d.size).length) 0).toArray := Any.slices_Compact_int_arr Try.laysNm220 blk off cap d w hH hsz hcap
open Go.RowKit Go.Lib Go.Sort in
/-- slices.Compact at []int: "Compact replaces consecutive runs of equal elements with a single copy. This is like the uniq command found on Unix. Compact modifies the contents of the slice s and returns the modified slice, which may have a smaller length. Compact zeroes the elements between the new length and the original length. The result preserves the nilness of s.": IT RETURNS THE SLICE CUT TO 'Lib.compact zs'; ITS CELLS HOLD 'Lib.compact zs', THEN ZERO VALUES up to the old length; all else is as it was, but for the count of draws. IN THE WORDS OF slices.Sort's CONTRACT ('Holds', 'putRow'): so the everyday 'slices.Sort(xs); xs = slices.Compact(xs)' goes from the one contract to the other. It asks 'zs.length ≤ cap' (every slice's: the reslicing 's[:k]' looks at it). Length 0, nil: '.._empty'. (LAID: no walk: one application.) -/
theorem Try.slices_Compact_int (blk off cap : Nat) (zs : List Int) (w : World) (hH : Holds (Value.int .i64) w blk off zs.toArray) (hsz : zs.length ≤ 9223372036854775807) (hcap : zs.length ≤ cap) :
    Calls Try.prog 50 #[.slice (some ⟨blk, off, none⟩) zs.length cap] w fun e w' => e = .returned (.slice (some ⟨blk, off, none⟩) (Lib.compact zs).length cap) ∧ ∃ q, w' = putRow (Value.int .i64) (Sort.ahead w q) blk off (Lib.compact zs ++ List.replicate (zs.length - (Lib.compact zs).length) 0).toArray := Any.slices_Compact_int Try.laysNm220 blk off cap zs w hH hsz hcap
open Go.RowKit Go.Lib Go.Sort in
/-- The same at a slice of length 0, a nil one too: it comes back as it is. (LAID: no walk: one application.) -/
theorem Try.slices_Compact_int_empty (a : Option Addr) (cap : Nat) (w : World) :
    Calls Try.prog 50 #[.slice a 0 cap] w fun e w' => e = .returned (.slice a 0 cap) ∧ w' = w := Any.slices_Compact_int_empty Try.laysNm220 a cap w
def Try.laysNm237_ren : Go.Shelf.Ren := ⟨fun | 37 => 78 | n => n, fun | 3 => 3 | 4 => 4 | n => n, fun | n => n⟩
theorem Try.laysNm237 : Go.Proofs.Lays2.n37 Try.prog Try.laysNm237_ren := {
  mixed := by kernel_rfl
  f37 := Try.func78.trans (congrArg some (by kernel_rfl))
  t3 := Try.underlying3
  a3 := Try.isAgg3
  z3 := Try.sizeOf3
  v3 := Try.zeroValue3
  t4 := Try.underlying4
  a4 := Try.isAgg4
  z4 := Try.sizeOf4
  v4 := Try.zeroValue4 }
open Go.RowKit Go.Lib in
/-- cmp.isNaN[int]: 'x != x': false. (LAID: no walk: one application.) -/
theorem Try.cmp_isNaN_int2 (x : Int) (w : World) :
    Calls Try.prog 78 #[.int .i64 x] w fun e w' => e = .returned (.bool false) ∧ w' = w := Any.cmp_isNaN_int2 Try.laysNm237 x w
def Try.laysNm231_ren : Go.Shelf.Ren := ⟨fun | 31 => 68 | 37 => 78 | n => n, fun | 3 => 3 | 4 => 4 | n => n, fun | n => n⟩
theorem Try.laysNm231 : Go.Proofs.Lays2.n31 Try.prog Try.laysNm231_ren := {
  mixed := by kernel_rfl
  f31 := Try.func68.trans (congrArg some (by kernel_rfl))
  f37 := Try.func78.trans (congrArg some (by kernel_rfl))
  t3 := Try.underlying3
  a3 := Try.isAgg3
  z3 := Try.sizeOf3
  v3 := Try.zeroValue3
  t4 := Try.underlying4
  a4 := Try.isAgg4
  z4 := Try.sizeOf4
  v4 := Try.zeroValue4 }
open Go.RowKit Go.Lib in
/-- cmp.Less[int]: "Less reports whether x is less than y.": 'x < y'; the world is as it was. (LAID: no walk: one application.) -/
theorem Try.cmp_Less_int2 (x y : Int) (w : World) :
    Calls Try.prog 68 #[.int .i64 x, .int .i64 y] w fun e w' => e = .returned (.bool (decide (x < y))) ∧ w' = w := Any.cmp_Less_int2 Try.laysNm231 x y w
open Go.RowKit Go.Lib Go.Sort in
/-- slices.Compact at []int, of an argument: the slice cut to 'Lib.compact (elements)'; the n cells hold that, then zeros. (LAID: no walk: one application.) -/
theorem Try.slices_Compact_int_cells (b off n c : Nat) (zs : List Int) (w : World) (hz : n ≤ zs.length) (hbig : n ≤ 9223372036854775807) (hcap : n ≤ c) (hc : ∀ j, j < zs.length → w.cell? ⟨b, off + j, none⟩ = some (.int .i64 (zs.getD j 0))) (hf : ∀ j, j < n → w.frozen? ⟨b, off + j, none⟩ = false) :
    Calls Try.prog 50 #[.slice (some ⟨b, off, none⟩) n c] w fun e w' => e = .returned (.slice (some ⟨b, off, none⟩) (Lib.compact (zs.take n)).length c) ∧ ∃ q, w' = (w.drewN q).setCells b off ((Lib.compact (zs.take n) ++ List.replicate (n - (Lib.compact (zs.take n)).length) 0).map (Value.int .i64)) := Any.slices_Compact_int_cells Try.laysNm220 b off n c zs w hz hbig hcap hc hf
open Go.RowKit Go.Sort in
/-- .. and plain. (LAID: no walk: one application.) -/
theorem Try.slices_Sort_int_none (p : Option Addr) (cap : Nat) (w : World) :
    Calls Try.prog 49 #[.slice p 0 cap] w fun e w' => e = .returned (.tuple #[]) ∧ w' = w := Any.slices_Sort_int_none Try.lays189 p cap w
def Try.laysSlE041_f56_ren : Go.Shelf.Ren := ⟨fun | 41 => 56 | n => n, fun | 22 => 57 | 23 => 3 | 4 => 4 | n => n, fun | n => n⟩
theorem Try.laysSlE041_f56 : Go.Proofs.SlLaysE0.n41 Try.prog Try.laysSlE041_f56_ren := {
  mixed := by kernel_rfl
  f41 := ⟨Try.f56.name, by decide, Try.func56.trans (congrArg some (by kernel_rfl))⟩
  t4 := Try.underlying4
  a4 := Try.isAgg4
  z4 := Try.sizeOf4
  v4 := Try.zeroValue4
  t22 := Try.underlying57
  a22 := Try.isAgg57
  z22 := Try.sizeOf57
  v22 := Try.zeroValue57 }
open Go.RowKit Go.Lib in
/-- slices.Clone: "Clone returns a copy of the slice. The elements are copied using assignment, so this is a shallow clone. The result may have additional unused capacity. The result preserves the nilness of s.": OF A SLICE THAT IS NOT nil IT RETURNS A SLICE THAT IS NOT nil, OF THE SAME CELLS, IN MEMORY OF THE CALL's OWN ('ownsRow': the how-to's 6f); below the heap's size at the call all is as it was. (LAID AT THE INSTANCE 'slices.Clone[[]int,int]': no walk: one application.) -/
theorem Try.slices_Clone (i0 : TypeInfo) (z : Value) (size bytes : Nat) (hi : Try.prog.info? 3 = some i0) (hz0 : i0.zero = some z) (hz1 : i0.size = size) (hz2 : i0.bytes = bytes) (hzs : z.cells.size = size) (hsz : 0 < size) (z23 : ∀ w, (Go.sizeOf 3).run Try.prog w = .ok size w) (b off n c : Nat) (news : List Value) (w : World) (hl : news.length = n * size) (hn : n ≤ maxLen) (hbig : n * bytes ≤ 140737488355328) (hc : ∀ j u, news[j]? = some u → w.cell? ⟨b, off + j, none⟩ = some u) (h1 : ∀ u ∈ news, u.oneCell' = true) :
    Calls Try.prog 56 #[.slice (some ⟨b, off, none⟩) n c] w fun e w' => ∃ v', e = .returned v' ∧ w'.ownsRow w.heap.size 3 size v' n news ∧ v' ≠ .slice none 0 0 ∧ Below w.heap.size w w' := AnyE.slices_Clone Try.laysSlE041_f56 i0 z size bytes hi hz0 hz1 hz2 hzs hsz z23 b off n c news w hl hn hbig hc h1
open Go.RowKit Go.Lib in
/-- The same at nil: nil comes back; the world is as it was; nothing is asked of the element's type. (LAID AT THE INSTANCE 'slices.Clone[[]int,int]': no walk: one application.) -/
theorem Try.slices_Clone_nil (n c : Nat) (w : World) :
    Calls Try.prog 56 #[.slice none n c] w fun e w' => e = .returned (.slice none 0 0) ∧ w' = w := AnyE.slices_Clone_nil Try.laysSlE041_f56 n c w
end Go.Proofs

/- Walks: what Go functions of this chapter come to, each as a function on plain data; no condition but those that each theorem names. Printed by a program of this work (gen.py). -/
namespace Go.Proofs.Ytpcpbfajadgmpaa
open Go.Gx Go.Gx.T3 Go.Gx.T4 Go.Gx.T3
theorem cl30 : Callable Try.prog 30 := callable Try.func30 (by kernel_rfl) rfl
theorem cl31 : Callable Try.prog 31 := callable Try.func31 (by kernel_rfl) rfl
theorem cl33 : Callable Try.prog 33 := callable Try.func33 (by kernel_rfl) rfl
theorem cl48 : Callable Try.prog 48 := callable Try.func48 (by kernel_rfl) rfl
theorem cl49 : Callable Try.prog 49 := callable Try.func49 (by kernel_rfl) rfl
theorem cl50 : Callable Try.prog 50 := callable Try.func50 (by kernel_rfl) rfl
def VarsIs (n : Nat) : Prop := ∀ (c : CT) (sv : Value) (G : Ghost) (w : World), SizeOf.sizeOf c ≤ n → size c ≤ 1000 → Cs G sv c.subs → Has G w → Calls Try.prog 30 #[Value.agg #[Value.int .i64 c.h.k, Value.bool c.h.v0, Value.int .i64 c.h.n0, Value.bool c.h.v1, Value.int .i64 c.h.n1, Value.bool c.h.v2, Value.int .i64 c.h.n2, sv]] w (Ret fun r w' => Since nX w w' ∧ ∃ F', (rowA r 3 1 (cvars c).length ((cvars c).flatMap cI)).holds w' F' ∧ ∀ b, F' b → w.heap.size ≤ b)
def RhasIs (n : Nat) : Prop := ∀ (c : CT) (sv : Value) (v : Nat) (G : Ghost) (w : World), SizeOf.sizeOf c ≤ n → Rs G sv c.subs → Has G w → Calls Try.prog 31 #[Value.agg #[Value.int .i64 c.h.k, Value.int .i64 (vi c.h.v0), Value.int .i64 c.h.n0, Value.int .i64 (vi c.h.v1), Value.int .i64 c.h.n1, Value.int .i64 (vi c.h.v2), Value.int .i64 c.h.n2, sv], Value.int .i64 (v : Nat)] w (Ret fun r w' => r = Value.bool (has c v) ∧ Since nX w w')
def RsizeIs (n : Nat) : Prop := ∀ (c : CT) (sv : Value) (G : Ghost) (w : World), SizeOf.sizeOf c ≤ n → size c ≤ 1000 → Rs G sv c.subs → Has G w → Calls Try.prog 33 #[Value.agg #[Value.int .i64 c.h.k, Value.int .i64 (vi c.h.v0), Value.int .i64 c.h.n0, Value.int .i64 (vi c.h.v1), Value.int .i64 c.h.n1, Value.int .i64 (vi c.h.v2), Value.int .i64 c.h.n2, sv]] w (Ret fun r w' => r = Value.int .i64 (size c : Nat) ∧ Since nX w w')
theorem sortC : SortC Try.prog 49 := fun b o c zs w h1 h2 h3 => Try.slices_Sort_int b o c zs w h1 h2 h3
theorem sortN : SortN Try.prog 49 := fun p c w => Try.slices_Sort_int_none p c w
theorem compC : CompC Try.prog 50 := fun b o c zs w h1 h2 h3 => Try.slices_Compact_int b o c zs w h1 h2 h3
theorem compN : CompN Try.prog 50 := fun a c w => Try.slices_Compact_int_empty a c w
theorem c_varsO (v0 : Bool) (n0 : Int) (v1 : Bool) (n1 : Int) (v2 : Bool) (n2 : Int) {G : Ghost}  (w : World) (hG : Has G w) :
    Calls Try.prog 48 #[Value.agg #[Value.bool v0, Value.int .i64 n0, Value.bool v1, Value.int .i64 n1, Value.bool v2, Value.int .i64 n2]] w (Ret fun r w' => Since nX w w' ∧ ∃ F', (rowA r 3 1 (vars v0 n0 v1 n1 v2 n2).length ((vars v0 n0 v1 n1 v2 n2).flatMap cI)).holds w' F' ∧ ∀ b, F' b → w.heap.size ≤ b) := by
  refine enter (args := [_]) (X := nX) (G := G) (l := [(0, Value.agg #[Value.bool v0, Value.int .i64 n0, Value.bool v1, Value.int .i64 n1, Value.bool v2, Value.int .i64 n2])]) Try.func48 rfl Try.ntmps48 hG ⟨rfl, trivial⟩ (Nat.le_of_ble_eq_true rfl) ?_
  refine c_seq ?_
  refine c_region ?_
  refine r_box .none rfl rfl (IsRow.lit _) (fun b_1 => ?_)
  refine r_val .none rfl (p_assign rfl) ?_
  refine r_nil ?_
  refine e_next ?_
  refine c_seq ?_
  refine c_region ?_
  refine r_val .none rfl (p_assign rfl) ?_
  refine r_nil ?_
  refine e_next ?_
  refine c_seq ?_
  refine c_seq ?_
  refine c_region ?_
  refine r_val .none rfl (p_ldw (k := 0) Try.underlying24 rfl sz24 rfl rfl (rfl : _ = Value.agg #[_, _, _, _, _, _])) ?_
  refine r_val .none rfl (p_move rfl) ?_
  refine r_nil ?_
  refine e_next ?_
  refine c_block ?_
  refine c_nilrow 3 1 ?_
  refine c_name (d := 2) rfl (fun u_1 hu_1 => ?_)
  refine c_name (d := 6) rfl (fun u_2 hu_2 => ?_)
  refine c_nameL (k := 1) rfl (fun A_3 hA_3 => ?_)
  refine c_loop (σ := Nat × Value) (fun s => [(7, Value.int .i64 (s.1 : Nat)), (3, s.2), (2, u_1), (6, u_2)]) (fun s => [rowA (s.2) 3 1 (vsTo v0 n0 v1 n1 v2 n2 s.1).length ((vsTo v0 n0 v1 n1 v2 n2 s.1).flatMap cI), A_3]) (fun _ => _) (fun s => s.1 ≤ 3) (fun s => 3 - s.1) ((0, _)) (by omega) rfl ⟨rfl, rfl, rfl, rfl, trivial⟩ (.keep (fun _ _ h => rowA_nil rfl _ _ h) (.keep (fun _ _ h => h) (.nil))) (fun s hphi => ?_)
  subst hu_1
  subst hu_2
  subst hA_3
  obtain ⟨k, v⟩ := s
  dsimp only at hphi ⊢
  obtain rfl | rfl | rfl | rfl : k = 0 ∨ k = 1 ∨ k = 2 ∨ k = 3 := by omega
  · skip
    refine c_seq ?_
    refine c_region ?_
    refine r_val .none rfl (p_lt rfl rfl) ?_
    refine r_say (d := 8) (v := Value.bool true) rfl ?_
    refine r_nil ?_
    refine e_next ?_
    refine c_seq ?_
    refine c_cond_t rfl ?_
    refine c_skip ?_
    refine e_next ?_
    refine c_seq ?_
    refine c_block ?_
    refine c_seq ?_
    refine c_region ?_
    refine r_val .none rfl (p_indexa (k := 0) Try.underlying24 Try.underlying23 rfl sz23 rfl (IsRow.lit _) rfl rfl (by first | exact of_decide_eq_true rfl | omega) (rfl : _ = Value.agg #[_, _])) ?_
    refine r_alloc .none rfl zr23 (IsRow.lit _) (fun b_2 => ?_)
    refine r_stw (k := 0) .none sz23 rfl rfl (IsRow.lit _) (one_lit rfl rfl) rfl ?_
    refine r_nil ?_
    refine e_next ?_
    refine c_seq ?_
    refine c_region ?_
    refine r_val .none rfl (p_field Try.underlying23 rfl sz4 rfl) ?_
    refine r_val .none rfl (p_ld (k := 0) Try.underlying4 rfl rfl rfl (by first | exact of_decide_eq_true rfl | omega) (rfl : _ = Value.bool _)) ?_
    refine r_nil ?_
    refine e_next ?_
    refine c_split (d := 11) rfl (fun h_4 => ?_) (fun h_4 => ?_)
    · skip
      first
        | (exfalso; omega)
        | (
          refine c_cond_t rfl ?_
          refine c_region ?_
          refine r_val .none rfl (p_move rfl) ?_
          refine r_val .none rfl (p_field Try.underlying23 rfl sz3 rfl) ?_
          refine r_val .none rfl (p_ld (k := 0) Try.underlying3 rfl rfl rfl (by first | exact of_decide_eq_true rfl | omega) (rfl : _ = Value.int _ _)) ?_
          refine r_bslice (vs := [(0, Value.int _ _)]) (c := #[_]) .none rfl Try.underlying57 el3 rfl rfl rfl (bs3_10i2 _ _) (IsRow.lit _) (fun b_3 => ?_)
          refine r_append (k := 2) (k2 := 0) .none rfl Try.underlying57 el3 rfl (by decide) rfl rfl rfl rfl rfl (one_lit rfl rfl) (by have := @vs_len v0 n0 v1 n1 v2 n2; simp only [maxLen]; have h1 := this 0; have h2 := this 1; have h3 := this 2; omega) (by have := @vs_len v0 n0 v1 n1 v2 n2; have h1 := this 0; have h2 := this 1; have h3 := this 2; omega) (fun v_5 => ?_)
          refine r_row1 (k := 2) rfl (fun o_6 => ?_)
          refine r_val .none rfl (p_assign rfl) ?_
          refine r_nil ?_
          refine e_norm_block ?_
          refine e_next ?_
          refine c_region ?_
          refine r_val .none rfl (p_add rfl rfl (by omega)) ?_
          refine r_val .none rfl (p_move rfl) ?_
          refine r_nil ?_
          refine e_round ((1, _)) ⟨Nat.le_of_ble_eq_true rfl, Nat.le_of_ble_eq_true rfl⟩ rfl ⟨rfl, rfl, rfl, rfl, trivial⟩ (.drop (.drop (.keep (fun _ _ h => rowA_snoc (vs_yes (k := 0) (show selB v0 v1 v2 0 = true from ‹v0 = true›)) rfl rfl rfl _ _ h) (.keep (fun _ _ h => h) (.nil)))))
          )
    · skip
      first
        | (exfalso; omega)
        | (
          refine c_cond_f rfl ?_
          refine c_skip ?_
          refine e_norm_block ?_
          refine e_next ?_
          refine c_region ?_
          refine r_val .none rfl (p_add rfl rfl (by omega)) ?_
          refine r_val .none rfl (p_move rfl) ?_
          refine r_nil ?_
          refine e_round ((1, _)) ⟨Nat.le_of_ble_eq_true rfl, Nat.le_of_ble_eq_true rfl⟩ rfl ⟨rfl, rfl, rfl, rfl, trivial⟩ (.drop (.keep (fun _ _ h => rowA_same (vs_no (k := 0) (show selB v0 v1 v2 0 = false from ‹v0 = false›)) _ _ h) (.keep (fun _ _ h => h) (.nil))))
          )
  · skip
    refine c_seq ?_
    refine c_region ?_
    refine r_val .none rfl (p_lt rfl rfl) ?_
    refine r_say (d := 8) (v := Value.bool true) rfl ?_
    refine r_nil ?_
    refine e_next ?_
    refine c_seq ?_
    refine c_cond_t rfl ?_
    refine c_skip ?_
    refine e_next ?_
    refine c_seq ?_
    refine c_block ?_
    refine c_seq ?_
    refine c_region ?_
    refine r_val .none rfl (p_indexa (k := 1) Try.underlying24 Try.underlying23 rfl sz23 rfl (IsRow.lit _) rfl rfl (by first | exact of_decide_eq_true rfl | omega) (rfl : _ = Value.agg #[_, _])) ?_
    refine r_alloc .none rfl zr23 (IsRow.lit _) (fun b_4 => ?_)
    refine r_stw (k := 0) .none sz23 rfl rfl (IsRow.lit _) (one_lit rfl rfl) rfl ?_
    refine r_nil ?_
    refine e_next ?_
    refine c_seq ?_
    refine c_region ?_
    refine r_val .none rfl (p_field Try.underlying23 rfl sz4 rfl) ?_
    refine r_val .none rfl (p_ld (k := 0) Try.underlying4 rfl rfl rfl (by first | exact of_decide_eq_true rfl | omega) (rfl : _ = Value.bool _)) ?_
    refine r_nil ?_
    refine e_next ?_
    refine c_split (d := 11) rfl (fun h_7 => ?_) (fun h_7 => ?_)
    · skip
      first
        | (exfalso; omega)
        | (
          refine c_cond_t rfl ?_
          refine c_region ?_
          refine r_val .none rfl (p_move rfl) ?_
          refine r_val .none rfl (p_field Try.underlying23 rfl sz3 rfl) ?_
          refine r_val .none rfl (p_ld (k := 0) Try.underlying3 rfl rfl rfl (by first | exact of_decide_eq_true rfl | omega) (rfl : _ = Value.int _ _)) ?_
          refine r_bslice (vs := [(0, Value.int _ _)]) (c := #[_]) .none rfl Try.underlying57 el3 rfl rfl rfl (bs3_10i2 _ _) (IsRow.lit _) (fun b_5 => ?_)
          refine r_append (k := 2) (k2 := 0) .none rfl Try.underlying57 el3 rfl (by decide) rfl rfl rfl rfl rfl (one_lit rfl rfl) (by have := @vs_len v0 n0 v1 n1 v2 n2; simp only [maxLen]; have h1 := this 0; have h2 := this 1; have h3 := this 2; omega) (by have := @vs_len v0 n0 v1 n1 v2 n2; have h1 := this 0; have h2 := this 1; have h3 := this 2; omega) (fun v_8 => ?_)
          refine r_row1 (k := 2) rfl (fun o_9 => ?_)
          refine r_val .none rfl (p_assign rfl) ?_
          refine r_nil ?_
          refine e_norm_block ?_
          refine e_next ?_
          refine c_region ?_
          refine r_val .none rfl (p_add rfl rfl (by omega)) ?_
          refine r_val .none rfl (p_move rfl) ?_
          refine r_nil ?_
          refine e_round ((2, _)) ⟨Nat.le_of_ble_eq_true rfl, Nat.le_of_ble_eq_true rfl⟩ rfl ⟨rfl, rfl, rfl, rfl, trivial⟩ (.drop (.drop (.keep (fun _ _ h => rowA_snoc (vs_yes (k := 1) (show selB v0 v1 v2 1 = true from ‹v1 = true›)) rfl rfl rfl _ _ h) (.keep (fun _ _ h => h) (.nil)))))
          )
    · skip
      first
        | (exfalso; omega)
        | (
          refine c_cond_f rfl ?_
          refine c_skip ?_
          refine e_norm_block ?_
          refine e_next ?_
          refine c_region ?_
          refine r_val .none rfl (p_add rfl rfl (by omega)) ?_
          refine r_val .none rfl (p_move rfl) ?_
          refine r_nil ?_
          refine e_round ((2, _)) ⟨Nat.le_of_ble_eq_true rfl, Nat.le_of_ble_eq_true rfl⟩ rfl ⟨rfl, rfl, rfl, rfl, trivial⟩ (.drop (.keep (fun _ _ h => rowA_same (vs_no (k := 1) (show selB v0 v1 v2 1 = false from ‹v1 = false›)) _ _ h) (.keep (fun _ _ h => h) (.nil))))
          )
  · skip
    refine c_seq ?_
    refine c_region ?_
    refine r_val .none rfl (p_lt rfl rfl) ?_
    refine r_say (d := 8) (v := Value.bool true) rfl ?_
    refine r_nil ?_
    refine e_next ?_
    refine c_seq ?_
    refine c_cond_t rfl ?_
    refine c_skip ?_
    refine e_next ?_
    refine c_seq ?_
    refine c_block ?_
    refine c_seq ?_
    refine c_region ?_
    refine r_val .none rfl (p_indexa (k := 2) Try.underlying24 Try.underlying23 rfl sz23 rfl (IsRow.lit _) rfl rfl (by first | exact of_decide_eq_true rfl | omega) (rfl : _ = Value.agg #[_, _])) ?_
    refine r_alloc .none rfl zr23 (IsRow.lit _) (fun b_6 => ?_)
    refine r_stw (k := 0) .none sz23 rfl rfl (IsRow.lit _) (one_lit rfl rfl) rfl ?_
    refine r_nil ?_
    refine e_next ?_
    refine c_seq ?_
    refine c_region ?_
    refine r_val .none rfl (p_field Try.underlying23 rfl sz4 rfl) ?_
    refine r_val .none rfl (p_ld (k := 0) Try.underlying4 rfl rfl rfl (by first | exact of_decide_eq_true rfl | omega) (rfl : _ = Value.bool _)) ?_
    refine r_nil ?_
    refine e_next ?_
    refine c_split (d := 11) rfl (fun h_10 => ?_) (fun h_10 => ?_)
    · skip
      first
        | (exfalso; omega)
        | (
          refine c_cond_t rfl ?_
          refine c_region ?_
          refine r_val .none rfl (p_move rfl) ?_
          refine r_val .none rfl (p_field Try.underlying23 rfl sz3 rfl) ?_
          refine r_val .none rfl (p_ld (k := 0) Try.underlying3 rfl rfl rfl (by first | exact of_decide_eq_true rfl | omega) (rfl : _ = Value.int _ _)) ?_
          refine r_bslice (vs := [(0, Value.int _ _)]) (c := #[_]) .none rfl Try.underlying57 el3 rfl rfl rfl (bs3_10i2 _ _) (IsRow.lit _) (fun b_7 => ?_)
          refine r_append (k := 2) (k2 := 0) .none rfl Try.underlying57 el3 rfl (by decide) rfl rfl rfl rfl rfl (one_lit rfl rfl) (by have := @vs_len v0 n0 v1 n1 v2 n2; simp only [maxLen]; have h1 := this 0; have h2 := this 1; have h3 := this 2; omega) (by have := @vs_len v0 n0 v1 n1 v2 n2; have h1 := this 0; have h2 := this 1; have h3 := this 2; omega) (fun v_11 => ?_)
          refine r_row1 (k := 2) rfl (fun o_12 => ?_)
          refine r_val .none rfl (p_assign rfl) ?_
          refine r_nil ?_
          refine e_norm_block ?_
          refine e_next ?_
          refine c_region ?_
          refine r_val .none rfl (p_add rfl rfl (by omega)) ?_
          refine r_val .none rfl (p_move rfl) ?_
          refine r_nil ?_
          refine e_round ((3, _)) ⟨Nat.le_of_ble_eq_true rfl, Nat.le_of_ble_eq_true rfl⟩ rfl ⟨rfl, rfl, rfl, rfl, trivial⟩ (.drop (.drop (.keep (fun _ _ h => rowA_snoc (vs_yes (k := 2) (show selB v0 v1 v2 2 = true from ‹v2 = true›)) rfl rfl rfl _ _ h) (.keep (fun _ _ h => h) (.nil)))))
          )
    · skip
      first
        | (exfalso; omega)
        | (
          refine c_cond_f rfl ?_
          refine c_skip ?_
          refine e_norm_block ?_
          refine e_next ?_
          refine c_region ?_
          refine r_val .none rfl (p_add rfl rfl (by omega)) ?_
          refine r_val .none rfl (p_move rfl) ?_
          refine r_nil ?_
          refine e_round ((3, _)) ⟨Nat.le_of_ble_eq_true rfl, Nat.le_of_ble_eq_true rfl⟩ rfl ⟨rfl, rfl, rfl, rfl, trivial⟩ (.drop (.keep (fun _ _ h => rowA_same (vs_no (k := 2) (show selB v0 v1 v2 2 = false from ‹v2 = false›)) _ _ h) (.keep (fun _ _ h => h) (.nil))))
          )
  · skip
    refine c_seq ?_
    refine c_region ?_
    refine r_val .none rfl (p_lt rfl rfl) ?_
    refine r_say (d := 8) (v := Value.bool false) rfl ?_
    refine r_nil ?_
    refine e_next ?_
    refine c_seq ?_
    refine c_cond_f rfl ?_
    refine c_exit ?_
    refine e_exit_then ?_
    refine e_exit_then ?_
    refine e_exit_block ?_
    refine e_next ?_
    refine c_seq ?_
    refine c_region ?_
    refine r_val .none rfl (p_move rfl) ?_
    refine r_sort (k := 0) (zs := _) .none rfl cl49 rfl rfl sortC sortN (by have := @vs_len v0 n0 v1 n1 v2 n2 3; omega) ?_
    refine r_nil ?_
    refine e_next ?_
    refine c_seq ?_
    refine c_region ?_
    refine r_val .none rfl (p_move rfl) ?_
    refine r_compact (k := 0) .none rfl cl50 rfl rfl compC compN (compact_le _) (fun v_13 => ?_)
    refine r_val .none rfl (p_assign rfl) ?_
    refine r_nil ?_
    refine e_next ?_
    refine c_ret ?_
    refine e_ret1 Try.results48 (.tmp rfl .nil) (fun w hm => hm.made [rowA v_13 3 1 (vars v0 n0 v1 n1 v2 n2).length ((vars v0 n0 v1 n1 v2 n2).flatMap cI)] (.keep (fun _ _ h => h) (.drop (.nil))) _ (fun F' h => starL_one h))
theorem c_cvars_s (n : Nat) (ih : VarsIs n) (c : CT) (sv : Value)  {G : Ghost} (hz : SizeOf.sizeOf c ≤ n + 1) (hsz : size c ≤ 1000) (hs : Cs G sv c.subs) (w : World) (hG : Has G w) :
    Calls Try.prog 30 #[Value.agg #[Value.int .i64 c.h.k, Value.bool c.h.v0, Value.int .i64 c.h.n0, Value.bool c.h.v1, Value.int .i64 c.h.n1, Value.bool c.h.v2, Value.int .i64 c.h.n2, sv]] w (Ret fun r w' => Since nX w w' ∧ ∃ F', (rowA r 3 1 (cvars c).length ((cvars c).flatMap cI)).holds w' F' ∧ ∀ b, F' b → w.heap.size ≤ b) := by
  refine enter (args := [_]) (X := nX) (G := G) (l := [(0, Value.agg #[Value.int .i64 c.h.k, Value.bool c.h.v0, Value.int .i64 c.h.n0, Value.bool c.h.v1, Value.int .i64 c.h.n1, Value.bool c.h.v2, Value.int .i64 c.h.n2, sv])]) Try.func30 rfl Try.ntmps30 hG ⟨rfl, trivial⟩ (Nat.le_of_ble_eq_true rfl) ?_
  obtain ⟨rs, hr, hp, hl⟩ := hs.inv
  have hlen : c.subs.length = rs.length := by rw [hl]; simp
  have hbd := hr.bound
  refine c_seq ?_
  refine c_region ?_
  refine r_box .none rfl rfl (IsRow.lit _) (fun b_1 => ?_)
  refine r_val .none rfl (p_assign rfl) ?_
  refine r_nil ?_
  refine e_next ?_
  refine c_seq ?_
  refine c_region ?_
  refine r_val .none rfl (p_assign rfl) ?_
  refine r_nil ?_
  refine e_next ?_
  refine c_seq ?_
  refine c_seq ?_
  refine c_region ?_
  refine r_val .none rfl (p_field Try.underlying27 rfl sz3 rfl) ?_
  refine r_val .none rfl (p_ld (k := 0) Try.underlying3 rfl rfl rfl (by first | exact of_decide_eq_true rfl | omega) (rfl : _ = Value.int _ _)) ?_
  refine r_val .none rfl (p_ne rfl rfl) ?_
  refine r_nil ?_
  refine e_next ?_
  refine c_splitd (d := 8) rfl (fun h_1 => ?_) (fun h_1 => ?_)
  · skip
    first
      | (exfalso; omega)
      | (
        refine c_cond_t rfl ?_
        refine c_region ?_
        refine r_val .none rfl (p_field Try.underlying27 rfl sz24 rfl) ?_
        refine r_val .none rfl (p_lda (k := 0) Try.underlying24 rfl sz24 rfl rfl (by first | exact of_decide_eq_true rfl | omega) (rfl : _ = Value.agg #[_, _, _, _, _, _])) ?_
        refine r_callrow (vs := [_]) .none rfl cl48 rfl (fun w hw => c_varsO _ _ _ _ _ _ w hw) (fun v_2 => ?_)
        refine r_val .none rfl (p_assign rfl) ?_
        refine r_nil ?_
        refine e_next ?_
        refine c_seq ?_
        refine c_seq ?_
        refine c_region ?_
        refine r_val .none rfl (p_field Try.underlying27 rfl sz25 rfl) ?_
        refine r_val .none rfl (p_ld (k := 1) Try.underlying25 rfl rfl rfl (by first | exact of_decide_eq_true rfl | omega) rfl) ?_
        refine r_val .none rfl (p_leng Try.underlying25 rfl hr) ?_
        have bd_3 := (hr).bound
        refine r_val .none rfl (p_move rfl) ?_
        refine r_nil ?_
        refine e_next ?_
        refine c_block ?_
        refine c_name (d := 2) rfl (fun u_4 hu_4 => ?_)
        refine c_name (d := 13) rfl (fun u_5 hu_5 => ?_)
        refine c_name (d := 14) rfl (fun u_6 hu_6 => ?_)
        refine c_nameL (k := 1) rfl (fun A_7 hA_7 => ?_)
        refine c_loop (σ := Nat × Value × Ghost) (fun s => [(15, Value.int .i64 (s.1 : Nat)), (3, s.2.1), (2, u_4), (13, u_5), (14, u_6)]) (fun s => [rowA (s.2.1) 3 1 ((own c.h ++ cvarsL ((rs.map Prod.fst).take s.1))).length (((own c.h ++ cvarsL ((rs.map Prod.fst).take s.1))).flatMap cI), A_7]) (fun s => s.2.2) (fun s => s.1 ≤ rs.length ∧ GNew w nX G s.2.2) (fun s => rs.length - s.1) ((0, _, _)) ⟨Nat.zero_le _, GNew.refl _ _ _⟩ rfl ⟨rfl, rfl, rfl, rfl, rfl, trivial⟩ (.keep (fun _ _ h => rowA_congr (by first | (rw [own, if_pos (by omega)]; rfl) | (rw [own, if_neg (by omega)]; simp [cvarsL])) (by first | (rw [own, if_pos (by omega)]; rfl) | (rw [own, if_neg (by omega)]; simp [cvarsL])) _ _ h) (.keep (fun _ _ h => h) (.nil))) (fun s hphi => ?_)
        subst hu_4
        subst hu_5
        subst hu_6
        subst hA_7
        obtain ⟨k, v, H⟩ := s
        obtain ⟨hk, hgn⟩ := hphi
        dsimp only at hk hgn ⊢
        replace hp := fun p hm0 => (hp p hm0).mono hgn.le
        replace hr := hr.mono hgn.le
        refine c_seq ?_
        refine c_region ?_
        refine r_val .none rfl (p_lt rfl rfl) ?_
        refine r_nil ?_
        refine e_next ?_
        refine c_seq ?_
        refine c_splitd (d := 16) rfl (fun h_8 => ?_) (fun h_8 => ?_)
        · skip
          first
            | (exfalso; omega)
            | (
              refine c_cond_t rfl ?_
              refine c_skip ?_
              refine e_next ?_
              refine c_seq ?_
              refine c_block ?_
              refine c_seq ?_
              refine c_region ?_
              refine r_iaddr_g .none rfl Try.underlying25 sz27 rfl hr rfl (by first | exact of_decide_eq_true rfl | omega) (fun p_10 o_11 R_9 => ?_)
              have hc_12 := hp _ (getD_mem (i := k) (d := d0) (by omega))
              have hz3 := size_child (i := k) hl (by omega) hsz
              refine r_val .none rfl (p_ldga0 Try.underlying27 rfl sz27 rfl R_9 (by first | exact of_decide_eq_true rfl | omega) (rfl : _ = Value.agg #[_, _, _, _, _, _, _, _])) ?_
              refine r_alloc .none rfl zr27 (IsRow.lit _) (fun b_2 => ?_)
              refine r_stw (k := 0) .none sz27 rfl rfl (IsRow.lit _) (one_lit rfl (all_cons rfl (all_cons rfl (all_cons rfl (all_cons rfl (all_cons rfl (all_cons rfl (all_cons rfl (all_cons (hc_12).one rfl))))))))) rfl ?_
              refine r_nil ?_
              refine e_next ?_
              refine c_region ?_
              refine r_val .none rfl (p_move rfl) ?_
              refine r_val .none rfl (p_ldw (k := 0) Try.underlying27 rfl sz27 rfl rfl (rfl : _ = Value.agg #[_, _, _, _, _, _, _, _])) ?_
              refine r_callrow (vs := [_]) .none rfl cl30 rfl (fun w hw => ih (rs.getD k d0).1 _ _ w (size_at hl (by omega) hz) hz3 hc_12 hw) (fun v_13 => ?_)
              refine r_freeze (k := 0) rfl (fun G_15 hn_16 hs_17 => ?_)
              replace hp := fun p hm0 => (hp p hm0).mono hn_16.le
              replace hr := hr.mono hn_16.le
              replace R_9 := R_9.mono hn_16.le
              replace hc_12 := hc_12.mono hn_16.le
              have hs_18 := SlL.of (cells := cI) (0 : Int) (fun _ => rfl) rfl hs_17
              refine r_append_g (k := 1) .none rfl Try.underlying57 el3 rfl (by decide) rfl rfl rfl hs_18 (fun _ _ _ hj => one_lit rfl rfl _ hj) (by have q1 := own_len c.h; have q2 := cvarsL_some (rs := rs) k; have q3 := size_eq c; rw [hl] at q3; have q4 := cvars_len (rs.getD k d0).1; rw [List.length_append]; simp only [maxLen]; omega) (by have q1 := own_len c.h; have q2 := cvarsL_some (rs := rs) k; have q3 := size_eq c; rw [hl] at q3; have q4 := cvars_len (rs.getD k d0).1; rw [List.length_append]; omega) (fun v_14 => ?_)
              refine r_row1 (k := 1) rfl (fun o_19 => ?_)
              refine r_val .none rfl (p_assign rfl) ?_
              refine r_nil ?_
              refine e_norm_block ?_
              refine e_next ?_
              refine c_region ?_
              refine r_val .none rfl (p_add rfl rfl (by omega)) ?_
              refine r_val .none rfl (p_move rfl) ?_
              refine r_nil ?_
              refine e_round ((k + 1, _, _)) ⟨⟨by dsimp only; omega, (hgn.trans hn_16)⟩, by dsimp only; omega⟩ rfl ⟨rfl, rfl, rfl, rfl, rfl, trivial⟩ (.drop (.keep (fun _ _ h => rowA_congr (by rw [cvarsL_take (by omega)]; simp only [List.length_append]; omega) (by rw [flat_all (cells := cI) (fun _ => rfl), ← List.flatMap_append, cvarsL_take (by omega), List.append_assoc]) _ _ h) (.keep (fun _ _ h => h) (.nil))))
              )
        · skip
          first
            | (exfalso; omega)
            | (
              refine c_cond_f rfl ?_
              refine c_exit ?_
              refine e_exit_then ?_
              refine e_exit_then ?_
              refine e_exit_block ?_
              refine e_next ?_
              refine c_seq ?_
              refine c_region ?_
              refine r_val .none rfl (p_move rfl) ?_
              refine r_sort (k := 0) (zs := _) .none rfl cl49 rfl rfl sortC sortN (by have q1 := own_len c.h; have q2 := cvarsL_some (rs := rs) k; have q3 := size_eq c; rw [hl] at q3; rw [List.length_append]; omega) ?_
              refine r_nil ?_
              refine e_next ?_
              refine c_seq ?_
              refine c_region ?_
              refine r_val .none rfl (p_move rfl) ?_
              refine r_compact (k := 0) .none rfl cl50 rfl rfl compC compN (compact_le _) (fun v_20 => ?_)
              refine r_val .none rfl (p_assign rfl) ?_
              refine r_nil ?_
              refine e_next ?_
              refine c_ret ?_
              have hk2 : k = rs.length := by omega
              have he : cvars c = Lib.compact (sortI (own c.h ++ cvarsL ((rs.map Prod.fst).take k))) := by rw [cvars_eq, hl, List.take_of_length_le (by simp; omega)]; rfl
              refine e_ret1 Try.results30 (.tmp rfl .nil) (fun w hm => hm.made [rowA v_20 3 1 (cvars c).length ((cvars c).flatMap cI)] (.keep (fun _ _ h => rowA_congr (by rw [he]) (by rw [he]) _ _ h) (.drop (.nil))) _ (fun F' h => starL_one h))
              )
        )
  · skip
    first
      | (exfalso; omega)
      | (
        refine c_cond_f rfl ?_
        refine c_skip ?_
        refine e_next ?_
        refine c_seq ?_
        refine c_seq ?_
        refine c_region ?_
        refine r_val .none rfl (p_field Try.underlying27 rfl sz25 rfl) ?_
        refine r_val .none rfl (p_ld (k := 0) Try.underlying25 rfl rfl rfl (by first | exact of_decide_eq_true rfl | omega) rfl) ?_
        refine r_val .none rfl (p_leng Try.underlying25 rfl hr) ?_
        have bd_21 := (hr).bound
        refine r_val .none rfl (p_move rfl) ?_
        refine r_nil ?_
        refine e_next ?_
        refine c_block ?_
        refine c_nilrow 3 1 ?_
        refine c_name (d := 2) rfl (fun u_22 hu_22 => ?_)
        refine c_name (d := 13) rfl (fun u_23 hu_23 => ?_)
        refine c_name (d := 14) rfl (fun u_24 hu_24 => ?_)
        refine c_nameL (k := 1) rfl (fun A_25 hA_25 => ?_)
        refine c_loop (σ := Nat × Value × Ghost) (fun s => [(15, Value.int .i64 (s.1 : Nat)), (3, s.2.1), (2, u_22), (13, u_23), (14, u_24)]) (fun s => [rowA (s.2.1) 3 1 ((own c.h ++ cvarsL ((rs.map Prod.fst).take s.1))).length (((own c.h ++ cvarsL ((rs.map Prod.fst).take s.1))).flatMap cI), A_25]) (fun s => s.2.2) (fun s => s.1 ≤ rs.length ∧ GNew w nX G s.2.2) (fun s => rs.length - s.1) ((0, _, _)) ⟨Nat.zero_le _, GNew.refl _ _ _⟩ rfl ⟨rfl, rfl, rfl, rfl, rfl, trivial⟩ (.keep (fun _ _ h => rowA_congr (by first | (rw [own, if_pos (by omega)]; rfl) | (rw [own, if_neg (by omega)]; simp [cvarsL])) (by first | (rw [own, if_pos (by omega)]; rfl) | (rw [own, if_neg (by omega)]; simp [cvarsL])) _ _ h) (.keep (fun _ _ h => h) (.nil))) (fun s hphi => ?_)
        subst hu_22
        subst hu_23
        subst hu_24
        subst hA_25
        obtain ⟨k, v, H⟩ := s
        obtain ⟨hk, hgn⟩ := hphi
        dsimp only at hk hgn ⊢
        replace hp := fun p hm0 => (hp p hm0).mono hgn.le
        replace hr := hr.mono hgn.le
        refine c_seq ?_
        refine c_region ?_
        refine r_val .none rfl (p_lt rfl rfl) ?_
        refine r_nil ?_
        refine e_next ?_
        refine c_seq ?_
        refine c_splitd (d := 16) rfl (fun h_26 => ?_) (fun h_26 => ?_)
        · skip
          first
            | (exfalso; omega)
            | (
              refine c_cond_t rfl ?_
              refine c_skip ?_
              refine e_next ?_
              refine c_seq ?_
              refine c_block ?_
              refine c_seq ?_
              refine c_region ?_
              refine r_iaddr_g .none rfl Try.underlying25 sz27 rfl hr rfl (by first | exact of_decide_eq_true rfl | omega) (fun p_28 o_29 R_27 => ?_)
              have hc_30 := hp _ (getD_mem (i := k) (d := d0) (by omega))
              have hz3 := size_child (i := k) hl (by omega) hsz
              refine r_val .none rfl (p_ldga0 Try.underlying27 rfl sz27 rfl R_27 (by first | exact of_decide_eq_true rfl | omega) (rfl : _ = Value.agg #[_, _, _, _, _, _, _, _])) ?_
              refine r_alloc .none rfl zr27 (IsRow.lit _) (fun b_3 => ?_)
              refine r_stw (k := 0) .none sz27 rfl rfl (IsRow.lit _) (one_lit rfl (all_cons rfl (all_cons rfl (all_cons rfl (all_cons rfl (all_cons rfl (all_cons rfl (all_cons rfl (all_cons (hc_30).one rfl))))))))) rfl ?_
              refine r_nil ?_
              refine e_next ?_
              refine c_region ?_
              refine r_val .none rfl (p_move rfl) ?_
              refine r_val .none rfl (p_ldw (k := 0) Try.underlying27 rfl sz27 rfl rfl (rfl : _ = Value.agg #[_, _, _, _, _, _, _, _])) ?_
              refine r_callrow (vs := [_]) .none rfl cl30 rfl (fun w hw => ih (rs.getD k d0).1 _ _ w (size_at hl (by omega) hz) hz3 hc_30 hw) (fun v_31 => ?_)
              refine r_freeze (k := 0) rfl (fun G_33 hn_34 hs_35 => ?_)
              replace hp := fun p hm0 => (hp p hm0).mono hn_34.le
              replace hr := hr.mono hn_34.le
              replace R_27 := R_27.mono hn_34.le
              replace hc_30 := hc_30.mono hn_34.le
              have hs_36 := SlL.of (cells := cI) (0 : Int) (fun _ => rfl) rfl hs_35
              refine r_append_g (k := 1) .none rfl Try.underlying57 el3 rfl (by decide) rfl rfl rfl hs_36 (fun _ _ _ hj => one_lit rfl rfl _ hj) (by have q1 := own_len c.h; have q2 := cvarsL_some (rs := rs) k; have q3 := size_eq c; rw [hl] at q3; have q4 := cvars_len (rs.getD k d0).1; rw [List.length_append]; simp only [maxLen]; omega) (by have q1 := own_len c.h; have q2 := cvarsL_some (rs := rs) k; have q3 := size_eq c; rw [hl] at q3; have q4 := cvars_len (rs.getD k d0).1; rw [List.length_append]; omega) (fun v_32 => ?_)
              refine r_row1 (k := 1) rfl (fun o_37 => ?_)
              refine r_val .none rfl (p_assign rfl) ?_
              refine r_nil ?_
              refine e_norm_block ?_
              refine e_next ?_
              refine c_region ?_
              refine r_val .none rfl (p_add rfl rfl (by omega)) ?_
              refine r_val .none rfl (p_move rfl) ?_
              refine r_nil ?_
              refine e_round ((k + 1, _, _)) ⟨⟨by dsimp only; omega, (hgn.trans hn_34)⟩, by dsimp only; omega⟩ rfl ⟨rfl, rfl, rfl, rfl, rfl, trivial⟩ (.drop (.keep (fun _ _ h => rowA_congr (by rw [cvarsL_take (by omega)]; simp only [List.length_append]; omega) (by rw [flat_all (cells := cI) (fun _ => rfl), ← List.flatMap_append, cvarsL_take (by omega), List.append_assoc]) _ _ h) (.keep (fun _ _ h => h) (.nil))))
              )
        · skip
          first
            | (exfalso; omega)
            | (
              refine c_cond_f rfl ?_
              refine c_exit ?_
              refine e_exit_then ?_
              refine e_exit_then ?_
              refine e_exit_block ?_
              refine e_next ?_
              refine c_seq ?_
              refine c_region ?_
              refine r_val .none rfl (p_move rfl) ?_
              refine r_sort (k := 0) (zs := _) .none rfl cl49 rfl rfl sortC sortN (by have q1 := own_len c.h; have q2 := cvarsL_some (rs := rs) k; have q3 := size_eq c; rw [hl] at q3; rw [List.length_append]; omega) ?_
              refine r_nil ?_
              refine e_next ?_
              refine c_seq ?_
              refine c_region ?_
              refine r_val .none rfl (p_move rfl) ?_
              refine r_compact (k := 0) .none rfl cl50 rfl rfl compC compN (compact_le _) (fun v_38 => ?_)
              refine r_val .none rfl (p_assign rfl) ?_
              refine r_nil ?_
              refine e_next ?_
              refine c_ret ?_
              have hk2 : k = rs.length := by omega
              have he : cvars c = Lib.compact (sortI (own c.h ++ cvarsL ((rs.map Prod.fst).take k))) := by rw [cvars_eq, hl, List.take_of_length_le (by simp; omega)]; rfl
              refine e_ret1 Try.results30 (.tmp rfl .nil) (fun w hm => hm.made [rowA v_38 3 1 (cvars c).length ((cvars c).flatMap cI)] (.keep (fun _ _ h => rowA_congr (by rw [he]) (by rw [he]) _ _ h) (.drop (.nil))) _ (fun F' h => starL_one h))
              )
        )
theorem c_cvars_n : ∀ n, VarsIs n
  | 0 => fun c sv G w hz hsz hs hG => absurd hz (by have := size_subs c; omega)
  | n + 1 => fun c sv G w hz hsz hs hG => c_cvars_s n (c_cvars_n n) c sv hz hsz hs w hG
theorem c_cvars (c : CT) (sv : Value) {G : Ghost} (hsz : size c ≤ 1000) (hs : Cs G sv c.subs) (w : World) (hG : Has G w) : Calls Try.prog 30 #[Value.agg #[Value.int .i64 c.h.k, Value.bool c.h.v0, Value.int .i64 c.h.n0, Value.bool c.h.v1, Value.int .i64 c.h.n1, Value.bool c.h.v2, Value.int .i64 c.h.n2, sv]] w (Ret fun r w' => Since nX w w' ∧ ∃ F', (rowA r 3 1 (cvars c).length ((cvars c).flatMap cI)).holds w' F' ∧ ∀ b, F' b → w.heap.size ≤ b) := c_cvars_n _ c sv G w (Nat.le_refl _) hsz hs hG
theorem c_rhas_s (n : Nat) (ih : RhasIs n) (c : CT) (sv : Value) (v : Nat) {G : Ghost} (hz : SizeOf.sizeOf c ≤ n + 1) (hs : Rs G sv c.subs) (w : World) (hG : Has G w) :
    Calls Try.prog 31 #[Value.agg #[Value.int .i64 c.h.k, Value.int .i64 (vi c.h.v0), Value.int .i64 c.h.n0, Value.int .i64 (vi c.h.v1), Value.int .i64 c.h.n1, Value.int .i64 (vi c.h.v2), Value.int .i64 c.h.n2, sv], Value.int .i64 (v : Nat)] w (Ret fun r w' => r = Value.bool (has c v) ∧ Since nX w w') := by
  refine enter (args := [_, _]) (X := nX) (G := G) (l := [(0, Value.agg #[Value.int .i64 c.h.k, Value.int .i64 (vi c.h.v0), Value.int .i64 c.h.n0, Value.int .i64 (vi c.h.v1), Value.int .i64 c.h.n1, Value.int .i64 (vi c.h.v2), Value.int .i64 c.h.n2, sv]), (1, Value.int .i64 (v : Nat))]) Try.func31 rfl Try.ntmps31 hG ⟨rfl, rfl, trivial⟩ (Nat.le_of_ble_eq_true rfl) ?_
  obtain ⟨rs, hr, hp, hl⟩ := hs.inv
  have hlen : c.subs.length = rs.length := by rw [hl]; simp
  have hbd := hr.bound
  refine c_seq ?_
  refine c_region ?_
  refine r_box .none rfl rfl (IsRow.lit _) (fun b_1 => ?_)
  refine r_val .none rfl (p_assign rfl) ?_
  refine r_nil ?_
  refine e_next ?_
  refine c_seq ?_
  refine c_seq ?_
  refine c_region ?_
  refine r_val .none rfl (p_assign rfl) ?_
  refine r_nil ?_
  refine e_next ?_
  refine c_block ?_
  refine c_unroll 4 ?_
  refine l_round (n := 3) ?_
  refine c_seq ?_
  refine c_seq ?_
  refine c_region ?_
  refine r_val .none rfl (p_move rfl) ?_
  refine r_val .none rfl (p_lt rfl rfl) ?_
  refine r_say (d := 9) (v := Value.bool true) rfl ?_
  refine r_nil ?_
  refine e_next ?_
  refine c_cond_t rfl ?_
  refine c_skip ?_
  refine e_next ?_
  refine c_seq ?_
  refine c_block ?_
  refine c_seq ?_
  refine c_region ?_
  refine r_val .none rfl (p_field Try.underlying38 rfl sz3 rfl) ?_
  refine r_val .none rfl (p_ld (k := 0) Try.underlying3 rfl rfl rfl (by first | exact of_decide_eq_true rfl | omega) (rfl : _ = Value.int _ _)) ?_
  refine r_val .none rfl (p_lt rfl rfl) ?_
  refine r_val .none rfl (p_move rfl) ?_
  refine' r_and (c := 15) (d := 22) [_, _, _, _, _, _, _] rfl (fun h_1 Q_2 hQ_3 => ?_) (fun h_1 Q_2 hQ_3 => ?_) ?_
  rotate_left 1
  · skip
    replace h_1 := of_decide_eq_true h_1
    refine r_val (.some rfl rfl) rfl (p_move rfl) ?_
    refine r_val (.some rfl rfl) rfl (p_field Try.underlying38 rfl sz35 rfl) ?_
    refine r_val (.some rfl rfl) rfl (p_iaddr (k := 0) Try.underlying35 sz34 rfl rfl (by first | exact of_decide_eq_true rfl | omega)) ?_
    refine r_val (.some rfl rfl) rfl (p_field Try.underlying34 rfl sz3 rfl) ?_
    refine r_val (.some rfl rfl) rfl (p_ld (k := 0) Try.underlying3 rfl rfl rfl (by first | exact of_decide_eq_true rfl | omega) (rfl : _ = Value.int _ _)) ?_
    refine r_val (.some rfl rfl) rfl (p_eq rfl rfl) ?_
    refine r_val .none rfl (p_pick_t rfl rfl) ?_
    refine r_nil (e_fin (d := 22) hQ_3 rfl (by repeat (first | exact .refl | refine .put rfl ?_ | refine .say rfl ?_ | refine .say2 rfl (by first | assumption | simp_all) ?_)))
  · skip
    repeat (first | refine r_skip rfl (.no rfl rfl) ?_ | refine r_skip rfl (.un rfl rfl) ?_)
    refine r_val (by first | exact .none | exact .some rfl rfl) rfl (p_pick_f rfl rfl) ?_
    refine r_nil (e_fin (d := 22) hQ_3 rfl (by repeat (first | exact .refl | refine .put rfl ?_ | refine .say rfl ?_ | refine .say2 rfl (by first | assumption | simp_all) ?_)))
  refine r_val .none rfl (p_move rfl) ?_
  refine' r_and (c := 23) (d := 31) [_, _, _, _, _, _, _, _] rfl (fun h_5 Q_6 hQ_7 => ?_) (fun h_5 Q_6 hQ_7 => ?_) ?_
  rotate_left 1
  · skip
    try simp only [norms] at h_5
    refine r_val (.some rfl rfl) rfl (p_move rfl) ?_
    refine r_val (.some rfl rfl) rfl (p_field Try.underlying38 rfl sz35 rfl) ?_
    refine r_val (.some rfl rfl) rfl (p_iaddr (k := 0) Try.underlying35 sz34 rfl rfl (by first | exact of_decide_eq_true rfl | omega)) ?_
    refine r_val (.some rfl rfl) rfl (p_field Try.underlying34 rfl sz3 rfl) ?_
    refine r_val (.some rfl rfl) rfl (p_ld (k := 0) Try.underlying3 rfl rfl rfl (by first | exact of_decide_eq_true rfl | omega) (rfl : _ = Value.int _ _)) ?_
    refine r_val (.some rfl rfl) rfl (p_move rfl) ?_
    refine r_val (.some rfl rfl) rfl (p_eq rfl rfl) ?_
    refine r_val .none rfl (p_pick_t rfl rfl) ?_
    refine r_nil (e_fin (d := 31) hQ_7 rfl (by repeat (first | exact .refl | refine .put rfl ?_ | refine .say rfl ?_ | refine .say2 rfl (by first | assumption | simp_all) ?_)))
  · skip
    repeat (first | refine r_skip rfl (.no rfl rfl) ?_ | refine r_skip rfl (.un rfl rfl) ?_)
    refine r_val (by first | exact .none | exact .some rfl rfl) rfl (p_pick_f rfl rfl) ?_
    refine r_nil (e_fin (d := 31) hQ_7 rfl (by repeat (first | exact .refl | refine .put rfl ?_ | refine .say rfl ?_ | refine .say2 rfl (by first | assumption | simp_all) ?_)))
  refine r_nil ?_
  refine e_next ?_
  refine c_split (d := 31) rfl (fun h_9 => ?_) (fun h_9 => ?_)
  · skip
    try simp only [norms] at h_9
    first
      | (exfalso; omega)
      | (
        refine c_cond_t rfl ?_
        refine c_seq ?_
        refine c_region ?_
        refine r_val .none rfl (p_assign rfl) ?_
        refine r_nil ?_
        refine e_next ?_
        refine c_ret ?_
        refine e_ret_block ?_
        refine e_ret_then ?_
        refine e_ret_then ?_
        refine e_ret_block ?_
        refine e_ret_then ?_
        refine e_ret1 Try.results31 (.tmp rfl .nil) (fun w hm => ⟨?_, hm.since⟩)
        rw [has_eq c v]
        first
        | (rw [own_yes (by omega)]; rfl)
        | (rw [own_no (by omega), Bool.false_or, ← hphi.2, map_drop (i := k) (d := d0) (by omega), hasL_yes hE]; done)
        | (rw [own_no (by omega), Bool.false_or, ← hphi.2, List.drop_eq_nil_of_le (by simp; omega)]; rfl)
        )
  · skip
    try simp only [norms] at h_9
    first
      | (exfalso; omega)
      | (
        refine c_cond_f rfl ?_
        refine c_skip ?_
        refine e_norm_block ?_
        refine e_next ?_
        refine c_region ?_
        refine r_val .none rfl (p_move rfl) ?_
        refine r_val .none rfl (p_add rfl rfl (by omega)) ?_
        refine r_val .none rfl (p_assign rfl) ?_
        refine r_nil ?_
        refine e_again ?_
        refine l_round (n := 2) ?_
        refine c_seq ?_
        refine c_seq ?_
        refine c_region ?_
        refine r_val .none rfl (p_move rfl) ?_
        refine r_val .none rfl (p_lt rfl rfl) ?_
        refine r_say (d := 9) (v := Value.bool true) rfl ?_
        refine r_nil ?_
        refine e_next ?_
        refine c_cond_t rfl ?_
        refine c_skip ?_
        refine e_next ?_
        refine c_seq ?_
        refine c_block ?_
        refine c_seq ?_
        refine c_region ?_
        refine r_val .none rfl (p_field Try.underlying38 rfl sz3 rfl) ?_
        refine r_val .none rfl (p_ld (k := 0) Try.underlying3 rfl rfl rfl (by first | exact of_decide_eq_true rfl | omega) (rfl : _ = Value.int _ _)) ?_
        refine r_val .none rfl (p_lt rfl rfl) ?_
        refine r_val .none rfl (p_move rfl) ?_
        refine r_splitd (d := 15) rfl (fun h_10 => ?_) (fun h_10 => ?_)
        · skip
          first
            | (exfalso; omega)
            | (
              refine r_val (.some rfl rfl) rfl (p_move rfl) ?_
              refine r_val (.some rfl rfl) rfl (p_field Try.underlying38 rfl sz35 rfl) ?_
              refine r_val (.some rfl rfl) rfl (p_iaddr (k := 1) Try.underlying35 sz34 rfl rfl (by first | exact of_decide_eq_true rfl | omega)) ?_
              refine r_val (.some rfl rfl) rfl (p_field Try.underlying34 rfl sz3 rfl) ?_
              refine r_val (.some rfl rfl) rfl (p_ld (k := 0) Try.underlying3 rfl rfl rfl (by first | exact of_decide_eq_true rfl | omega) (rfl : _ = Value.int _ _)) ?_
              refine r_val (.some rfl rfl) rfl (p_eq rfl rfl) ?_
              refine r_val .none rfl (p_pick_t rfl rfl) ?_
              refine r_val .none rfl (p_move rfl) ?_
              refine r_splitd (d := 23) rfl (fun h_11 => ?_) (fun h_11 => ?_)
              · skip
                first
                  | (exfalso; omega)
                  | (
                    refine r_val (.some rfl rfl) rfl (p_move rfl) ?_
                    refine r_val (.some rfl rfl) rfl (p_field Try.underlying38 rfl sz35 rfl) ?_
                    refine r_val (.some rfl rfl) rfl (p_iaddr (k := 1) Try.underlying35 sz34 rfl rfl (by first | exact of_decide_eq_true rfl | omega)) ?_
                    refine r_val (.some rfl rfl) rfl (p_field Try.underlying34 rfl sz3 rfl) ?_
                    refine r_val (.some rfl rfl) rfl (p_ld (k := 0) Try.underlying3 rfl rfl rfl (by first | exact of_decide_eq_true rfl | omega) (rfl : _ = Value.int _ _)) ?_
                    refine r_val (.some rfl rfl) rfl (p_move rfl) ?_
                    refine r_val (.some rfl rfl) rfl (p_eq rfl rfl) ?_
                    refine r_val .none rfl (p_pick_t rfl rfl) ?_
                    refine r_nil ?_
                    refine e_next ?_
                    refine c_splitd (d := 31) rfl (fun h_12 => ?_) (fun h_12 => ?_)
                    · skip
                      first
                        | (exfalso; omega)
                        | (
                          refine c_cond_t rfl ?_
                          refine c_seq ?_
                          refine c_region ?_
                          refine r_val .none rfl (p_assign rfl) ?_
                          refine r_nil ?_
                          refine e_next ?_
                          refine c_ret ?_
                          refine e_ret_block ?_
                          refine e_ret_then ?_
                          refine e_ret_then ?_
                          refine e_ret_block ?_
                          refine e_ret_then ?_
                          refine e_ret1 Try.results31 (.tmp rfl .nil) (fun w hm => ⟨?_, hm.since⟩)
                          rw [has_eq c v]
                          first
                          | (rw [own_yes (by omega)]; rfl)
                          | (rw [own_no (by omega), Bool.false_or, ← hphi.2, map_drop (i := k) (d := d0) (by omega), hasL_yes hE]; done)
                          | (rw [own_no (by omega), Bool.false_or, ← hphi.2, List.drop_eq_nil_of_le (by simp; omega)]; rfl)
                          )
                    · skip
                      first
                        | (exfalso; omega)
                        | (
                          refine c_cond_f rfl ?_
                          refine c_skip ?_
                          refine e_norm_block ?_
                          refine e_next ?_
                          refine c_region ?_
                          refine r_val .none rfl (p_move rfl) ?_
                          refine r_val .none rfl (p_add rfl rfl (by omega)) ?_
                          refine r_val .none rfl (p_assign rfl) ?_
                          refine r_nil ?_
                          refine e_again ?_
                          refine l_round (n := 1) ?_
                          refine c_seq ?_
                          refine c_seq ?_
                          refine c_region ?_
                          refine r_val .none rfl (p_move rfl) ?_
                          refine r_val .none rfl (p_lt rfl rfl) ?_
                          refine r_say (d := 9) (v := Value.bool true) rfl ?_
                          refine r_nil ?_
                          refine e_next ?_
                          refine c_cond_t rfl ?_
                          refine c_skip ?_
                          refine e_next ?_
                          refine c_seq ?_
                          refine c_block ?_
                          refine c_seq ?_
                          refine c_region ?_
                          refine r_val .none rfl (p_field Try.underlying38 rfl sz3 rfl) ?_
                          refine r_val .none rfl (p_ld (k := 0) Try.underlying3 rfl rfl rfl (by first | exact of_decide_eq_true rfl | omega) (rfl : _ = Value.int _ _)) ?_
                          refine r_val .none rfl (p_lt rfl rfl) ?_
                          refine r_val .none rfl (p_move rfl) ?_
                          refine r_splitd (d := 15) rfl (fun h_13 => ?_) (fun h_13 => ?_)
                          · skip
                            first
                              | (exfalso; omega)
                              | (
                                refine r_val (.some rfl rfl) rfl (p_move rfl) ?_
                                refine r_val (.some rfl rfl) rfl (p_field Try.underlying38 rfl sz35 rfl) ?_
                                refine r_val (.some rfl rfl) rfl (p_iaddr (k := 2) Try.underlying35 sz34 rfl rfl (by first | exact of_decide_eq_true rfl | omega)) ?_
                                refine r_val (.some rfl rfl) rfl (p_field Try.underlying34 rfl sz3 rfl) ?_
                                refine r_val (.some rfl rfl) rfl (p_ld (k := 0) Try.underlying3 rfl rfl rfl (by first | exact of_decide_eq_true rfl | omega) (rfl : _ = Value.int _ _)) ?_
                                refine r_val (.some rfl rfl) rfl (p_eq rfl rfl) ?_
                                refine r_val .none rfl (p_pick_t rfl rfl) ?_
                                refine r_val .none rfl (p_move rfl) ?_
                                refine r_splitd (d := 23) rfl (fun h_14 => ?_) (fun h_14 => ?_)
                                · skip
                                  first
                                    | (exfalso; omega)
                                    | (
                                      refine r_val (.some rfl rfl) rfl (p_move rfl) ?_
                                      refine r_val (.some rfl rfl) rfl (p_field Try.underlying38 rfl sz35 rfl) ?_
                                      refine r_val (.some rfl rfl) rfl (p_iaddr (k := 2) Try.underlying35 sz34 rfl rfl (by first | exact of_decide_eq_true rfl | omega)) ?_
                                      refine r_val (.some rfl rfl) rfl (p_field Try.underlying34 rfl sz3 rfl) ?_
                                      refine r_val (.some rfl rfl) rfl (p_ld (k := 0) Try.underlying3 rfl rfl rfl (by first | exact of_decide_eq_true rfl | omega) (rfl : _ = Value.int _ _)) ?_
                                      refine r_val (.some rfl rfl) rfl (p_move rfl) ?_
                                      refine r_val (.some rfl rfl) rfl (p_eq rfl rfl) ?_
                                      refine r_val .none rfl (p_pick_t rfl rfl) ?_
                                      refine r_nil ?_
                                      refine e_next ?_
                                      refine c_splitd (d := 31) rfl (fun h_15 => ?_) (fun h_15 => ?_)
                                      · skip
                                        first
                                          | (exfalso; omega)
                                          | (
                                            refine c_cond_t rfl ?_
                                            refine c_seq ?_
                                            refine c_region ?_
                                            refine r_val .none rfl (p_assign rfl) ?_
                                            refine r_nil ?_
                                            refine e_next ?_
                                            refine c_ret ?_
                                            refine e_ret_block ?_
                                            refine e_ret_then ?_
                                            refine e_ret_then ?_
                                            refine e_ret_block ?_
                                            refine e_ret_then ?_
                                            refine e_ret1 Try.results31 (.tmp rfl .nil) (fun w hm => ⟨?_, hm.since⟩)
                                            rw [has_eq c v]
                                            first
                                            | (rw [own_yes (by omega)]; rfl)
                                            | (rw [own_no (by omega), Bool.false_or, ← hphi.2, map_drop (i := k) (d := d0) (by omega), hasL_yes hE]; done)
                                            | (rw [own_no (by omega), Bool.false_or, ← hphi.2, List.drop_eq_nil_of_le (by simp; omega)]; rfl)
                                            )
                                      · skip
                                        first
                                          | (exfalso; omega)
                                          | (
                                            refine c_cond_f rfl ?_
                                            refine c_skip ?_
                                            refine e_norm_block ?_
                                            refine e_next ?_
                                            refine c_region ?_
                                            refine r_val .none rfl (p_move rfl) ?_
                                            refine r_val .none rfl (p_add rfl rfl (by omega)) ?_
                                            refine r_val .none rfl (p_assign rfl) ?_
                                            refine r_nil ?_
                                            refine e_again ?_
                                            refine l_round (n := 0) ?_
                                            refine c_seq ?_
                                            refine c_seq ?_
                                            refine c_region ?_
                                            refine r_val .none rfl (p_move rfl) ?_
                                            refine r_val .none rfl (p_lt rfl rfl) ?_
                                            refine r_say (d := 9) (v := Value.bool false) rfl ?_
                                            refine r_nil ?_
                                            refine e_next ?_
                                            refine c_cond_f rfl ?_
                                            refine c_exit ?_
                                            refine e_exit_then ?_
                                            refine e_exit_then ?_
                                            refine e_exit_block ?_
                                            refine e_next ?_
                                            refine c_seq ?_
                                            refine c_seq ?_
                                            refine c_region ?_
                                            refine r_val .none rfl (p_field Try.underlying38 rfl sz36 rfl) ?_
                                            refine r_val .none rfl (p_ld (k := 0) Try.underlying36 rfl rfl rfl (by first | exact of_decide_eq_true rfl | omega) rfl) ?_
                                            refine r_val .none rfl (p_leng Try.underlying36 rfl hr) ?_
                                            have bd_16 := (hr).bound
                                            refine r_val .none rfl (p_move rfl) ?_
                                            refine r_nil ?_
                                            refine e_next ?_
                                            refine c_block ?_
                                            refine c_name (d := 1) rfl (fun u_17 hu_17 => ?_)
                                            refine c_name (d := 33) rfl (fun u_18 hu_18 => ?_)
                                            refine c_name (d := 34) rfl (fun u_19 hu_19 => ?_)
                                            refine c_nameL (k := 0) rfl (fun A_20 hA_20 => ?_)
                                            refine c_loop (σ := Nat) (fun k => [(35, Value.int .i64 (k : Nat)), (1, u_17), (33, u_18), (34, u_19)]) (fun k => [A_20]) (fun _ => _) (fun k => k ≤ rs.length ∧ hasL ((rs.map Prod.fst).drop k) v = hasL c.subs v) (fun k => rs.length - k) (0) ⟨Nat.zero_le _, by rw [hl]; rfl⟩ rfl ⟨rfl, rfl, rfl, rfl, trivial⟩ (.keep (fun _ _ h => h) (.nil)) (fun k hphi => ?_)
                                            subst hu_17
                                            subst hu_18
                                            subst hu_19
                                            subst hA_20
                                            refine c_seq ?_
                                            refine c_region ?_
                                            refine r_val .none rfl (p_lt rfl rfl) ?_
                                            refine r_nil ?_
                                            refine e_next ?_
                                            refine c_seq ?_
                                            refine c_splitd (d := 36) rfl (fun h_21 => ?_) (fun h_21 => ?_)
                                            · skip
                                              first
                                                | (exfalso; omega)
                                                | (
                                                  refine c_cond_t rfl ?_
                                                  refine c_skip ?_
                                                  refine e_next ?_
                                                  refine c_seq ?_
                                                  refine c_block ?_
                                                  refine c_seq ?_
                                                  refine c_region ?_
                                                  refine r_iaddr_g .none rfl Try.underlying36 sz38 rfl hr rfl (by first | exact of_decide_eq_true rfl | omega) (fun p_23 o_24 R_22 => ?_)
                                                  have hc_25 := hp _ (getD_mem (i := k) (d := d0) (by omega))
                                                  refine r_val .none rfl (p_ldga0 Try.underlying38 rfl sz38 rfl R_22 (by first | exact of_decide_eq_true rfl | omega) (rfl : _ = Value.agg #[_, _, _, _, _, _, _, _])) ?_
                                                  refine r_alloc .none rfl zr38 (IsRow.lit _) (fun b_2 => ?_)
                                                  refine r_stw (k := 0) .none sz38 rfl rfl (IsRow.lit _) (one_lit rfl (all_cons rfl (all_cons rfl (all_cons rfl (all_cons rfl (all_cons rfl (all_cons rfl (all_cons rfl (all_cons (hc_25).one rfl))))))))) rfl ?_
                                                  refine r_nil ?_
                                                  refine e_next ?_
                                                  refine c_seq ?_
                                                  refine c_region ?_
                                                  refine r_val .none rfl (p_ldw (k := 0) Try.underlying38 rfl sz38 rfl rfl (rfl : _ = Value.agg #[_, _, _, _, _, _, _, _])) ?_
                                                  refine r_val .none rfl (p_move rfl) ?_
                                                  refine r_call (vs := [_, _]) .none rfl cl31 rfl (fun w hw => ih (rs.getD k d0).1 _ _ _ w (size_at hl (by omega) hz) hc_25 hw) ?_
                                                  refine r_nil ?_
                                                  refine e_next ?_
                                                  refine c_split (d := 41) rfl (fun h_26 => ?_) (fun h_26 => ?_)
                                                  · skip
                                                    have hE := h_26
                                                    first
                                                      | (exfalso; omega)
                                                      | (
                                                        refine c_cond_t rfl ?_
                                                        refine c_seq ?_
                                                        refine c_region ?_
                                                        refine r_val .none rfl (p_assign rfl) ?_
                                                        refine r_nil ?_
                                                        refine e_next ?_
                                                        refine c_ret ?_
                                                        refine e_ret_block ?_
                                                        refine e_ret_then ?_
                                                        refine e_ret_then ?_
                                                        refine e_ret_block ?_
                                                        refine e_ret_then ?_
                                                        refine e_ret1 Try.results31 (.tmp rfl .nil) (fun w hm => ⟨?_, hm.since⟩)
                                                        rw [has_eq c v]
                                                        first
                                                        | (rw [own_yes (by omega)]; rfl)
                                                        | (rw [own_no (by omega), Bool.false_or, ← hphi.2, map_drop (i := k) (d := d0) (by omega), hasL_yes hE]; done)
                                                        | (rw [own_no (by omega), Bool.false_or, ← hphi.2, List.drop_eq_nil_of_le (by simp; omega)]; rfl)
                                                        )
                                                  · skip
                                                    have hE := h_26
                                                    first
                                                      | (exfalso; omega)
                                                      | (
                                                        refine c_cond_f rfl ?_
                                                        refine c_skip ?_
                                                        refine e_norm_block ?_
                                                        refine e_next ?_
                                                        refine c_region ?_
                                                        refine r_val .none rfl (p_add rfl rfl (by omega)) ?_
                                                        refine r_val .none rfl (p_move rfl) ?_
                                                        refine r_nil ?_
                                                        refine e_round (k + 1) ⟨⟨by omega, by rw [← hphi.2, map_drop (i := k) (d := d0) (by omega), hasL_no hE]⟩, by omega⟩ rfl ⟨rfl, rfl, rfl, rfl, trivial⟩ (.drop (.keep (fun _ _ h => h) (.nil)))
                                                        )
                                                  )
                                            · skip
                                              first
                                                | (exfalso; omega)
                                                | (
                                                  refine c_cond_f rfl ?_
                                                  refine c_exit ?_
                                                  refine e_exit_then ?_
                                                  refine e_exit_then ?_
                                                  refine e_exit_block ?_
                                                  refine e_next ?_
                                                  refine c_seq ?_
                                                  refine c_region ?_
                                                  refine r_val .none rfl (p_assign rfl) ?_
                                                  refine r_nil ?_
                                                  refine e_next ?_
                                                  refine c_ret ?_
                                                  refine e_ret1 Try.results31 (.tmp rfl .nil) (fun w hm => ⟨?_, hm.since⟩)
                                                  rw [has_eq c v]
                                                  first
                                                  | (rw [own_yes (by omega)]; rfl)
                                                  | (rw [own_no (by omega), Bool.false_or, ← hphi.2, map_drop (i := k) (d := d0) (by omega), hasL_yes hE]; done)
                                                  | (rw [own_no (by omega), Bool.false_or, ← hphi.2, List.drop_eq_nil_of_le (by simp; omega)]; rfl)
                                                  )
                                            )
                                      )
                                · skip
                                  first
                                    | (exfalso; omega)
                                    | (
                                      refine r_skip rfl (.no rfl rfl) ?_
                                      refine r_skip rfl (.no rfl rfl) ?_
                                      refine r_skip rfl (.no rfl rfl) ?_
                                      refine r_skip rfl (.no rfl rfl) ?_
                                      refine r_skip rfl (.no rfl rfl) ?_
                                      refine r_skip rfl (.no rfl rfl) ?_
                                      refine r_skip rfl (.no rfl rfl) ?_
                                      refine r_val .none rfl (p_pick_f rfl rfl) ?_
                                      refine r_nil ?_
                                      refine e_next ?_
                                      refine c_cond_f rfl ?_
                                      refine c_skip ?_
                                      refine e_norm_block ?_
                                      refine e_next ?_
                                      refine c_region ?_
                                      refine r_val .none rfl (p_move rfl) ?_
                                      refine r_val .none rfl (p_add rfl rfl (by omega)) ?_
                                      refine r_val .none rfl (p_assign rfl) ?_
                                      refine r_nil ?_
                                      refine e_again ?_
                                      refine l_round (n := 0) ?_
                                      refine c_seq ?_
                                      refine c_seq ?_
                                      refine c_region ?_
                                      refine r_val .none rfl (p_move rfl) ?_
                                      refine r_val .none rfl (p_lt rfl rfl) ?_
                                      refine r_say (d := 9) (v := Value.bool false) rfl ?_
                                      refine r_nil ?_
                                      refine e_next ?_
                                      refine c_cond_f rfl ?_
                                      refine c_exit ?_
                                      refine e_exit_then ?_
                                      refine e_exit_then ?_
                                      refine e_exit_block ?_
                                      refine e_next ?_
                                      refine c_seq ?_
                                      refine c_seq ?_
                                      refine c_region ?_
                                      refine r_val .none rfl (p_field Try.underlying38 rfl sz36 rfl) ?_
                                      refine r_val .none rfl (p_ld (k := 0) Try.underlying36 rfl rfl rfl (by first | exact of_decide_eq_true rfl | omega) rfl) ?_
                                      refine r_val .none rfl (p_leng Try.underlying36 rfl hr) ?_
                                      have bd_27 := (hr).bound
                                      refine r_val .none rfl (p_move rfl) ?_
                                      refine r_nil ?_
                                      refine e_next ?_
                                      refine c_block ?_
                                      refine c_name (d := 1) rfl (fun u_28 hu_28 => ?_)
                                      refine c_name (d := 33) rfl (fun u_29 hu_29 => ?_)
                                      refine c_name (d := 34) rfl (fun u_30 hu_30 => ?_)
                                      refine c_nameL (k := 0) rfl (fun A_31 hA_31 => ?_)
                                      refine c_loop (σ := Nat) (fun k => [(35, Value.int .i64 (k : Nat)), (1, u_28), (33, u_29), (34, u_30)]) (fun k => [A_31]) (fun _ => _) (fun k => k ≤ rs.length ∧ hasL ((rs.map Prod.fst).drop k) v = hasL c.subs v) (fun k => rs.length - k) (0) ⟨Nat.zero_le _, by rw [hl]; rfl⟩ rfl ⟨rfl, rfl, rfl, rfl, trivial⟩ (.keep (fun _ _ h => h) (.nil)) (fun k hphi => ?_)
                                      subst hu_28
                                      subst hu_29
                                      subst hu_30
                                      subst hA_31
                                      refine c_seq ?_
                                      refine c_region ?_
                                      refine r_val .none rfl (p_lt rfl rfl) ?_
                                      refine r_nil ?_
                                      refine e_next ?_
                                      refine c_seq ?_
                                      refine c_splitd (d := 36) rfl (fun h_32 => ?_) (fun h_32 => ?_)
                                      · skip
                                        first
                                          | (exfalso; omega)
                                          | (
                                            refine c_cond_t rfl ?_
                                            refine c_skip ?_
                                            refine e_next ?_
                                            refine c_seq ?_
                                            refine c_block ?_
                                            refine c_seq ?_
                                            refine c_region ?_
                                            refine r_iaddr_g .none rfl Try.underlying36 sz38 rfl hr rfl (by first | exact of_decide_eq_true rfl | omega) (fun p_34 o_35 R_33 => ?_)
                                            have hc_36 := hp _ (getD_mem (i := k) (d := d0) (by omega))
                                            refine r_val .none rfl (p_ldga0 Try.underlying38 rfl sz38 rfl R_33 (by first | exact of_decide_eq_true rfl | omega) (rfl : _ = Value.agg #[_, _, _, _, _, _, _, _])) ?_
                                            refine r_alloc .none rfl zr38 (IsRow.lit _) (fun b_3 => ?_)
                                            refine r_stw (k := 0) .none sz38 rfl rfl (IsRow.lit _) (one_lit rfl (all_cons rfl (all_cons rfl (all_cons rfl (all_cons rfl (all_cons rfl (all_cons rfl (all_cons rfl (all_cons (hc_36).one rfl))))))))) rfl ?_
                                            refine r_nil ?_
                                            refine e_next ?_
                                            refine c_seq ?_
                                            refine c_region ?_
                                            refine r_val .none rfl (p_ldw (k := 0) Try.underlying38 rfl sz38 rfl rfl (rfl : _ = Value.agg #[_, _, _, _, _, _, _, _])) ?_
                                            refine r_val .none rfl (p_move rfl) ?_
                                            refine r_call (vs := [_, _]) .none rfl cl31 rfl (fun w hw => ih (rs.getD k d0).1 _ _ _ w (size_at hl (by omega) hz) hc_36 hw) ?_
                                            refine r_nil ?_
                                            refine e_next ?_
                                            refine c_split (d := 41) rfl (fun h_37 => ?_) (fun h_37 => ?_)
                                            · skip
                                              have hE := h_37
                                              first
                                                | (exfalso; omega)
                                                | (
                                                  refine c_cond_t rfl ?_
                                                  refine c_seq ?_
                                                  refine c_region ?_
                                                  refine r_val .none rfl (p_assign rfl) ?_
                                                  refine r_nil ?_
                                                  refine e_next ?_
                                                  refine c_ret ?_
                                                  refine e_ret_block ?_
                                                  refine e_ret_then ?_
                                                  refine e_ret_then ?_
                                                  refine e_ret_block ?_
                                                  refine e_ret_then ?_
                                                  refine e_ret1 Try.results31 (.tmp rfl .nil) (fun w hm => ⟨?_, hm.since⟩)
                                                  rw [has_eq c v]
                                                  first
                                                  | (rw [own_yes (by omega)]; rfl)
                                                  | (rw [own_no (by omega), Bool.false_or, ← hphi.2, map_drop (i := k) (d := d0) (by omega), hasL_yes hE]; done)
                                                  | (rw [own_no (by omega), Bool.false_or, ← hphi.2, List.drop_eq_nil_of_le (by simp; omega)]; rfl)
                                                  )
                                            · skip
                                              have hE := h_37
                                              first
                                                | (exfalso; omega)
                                                | (
                                                  refine c_cond_f rfl ?_
                                                  refine c_skip ?_
                                                  refine e_norm_block ?_
                                                  refine e_next ?_
                                                  refine c_region ?_
                                                  refine r_val .none rfl (p_add rfl rfl (by omega)) ?_
                                                  refine r_val .none rfl (p_move rfl) ?_
                                                  refine r_nil ?_
                                                  refine e_round (k + 1) ⟨⟨by omega, by rw [← hphi.2, map_drop (i := k) (d := d0) (by omega), hasL_no hE]⟩, by omega⟩ rfl ⟨rfl, rfl, rfl, rfl, trivial⟩ (.drop (.keep (fun _ _ h => h) (.nil)))
                                                  )
                                            )
                                      · skip
                                        first
                                          | (exfalso; omega)
                                          | (
                                            refine c_cond_f rfl ?_
                                            refine c_exit ?_
                                            refine e_exit_then ?_
                                            refine e_exit_then ?_
                                            refine e_exit_block ?_
                                            refine e_next ?_
                                            refine c_seq ?_
                                            refine c_region ?_
                                            refine r_val .none rfl (p_assign rfl) ?_
                                            refine r_nil ?_
                                            refine e_next ?_
                                            refine c_ret ?_
                                            refine e_ret1 Try.results31 (.tmp rfl .nil) (fun w hm => ⟨?_, hm.since⟩)
                                            rw [has_eq c v]
                                            first
                                            | (rw [own_yes (by omega)]; rfl)
                                            | (rw [own_no (by omega), Bool.false_or, ← hphi.2, map_drop (i := k) (d := d0) (by omega), hasL_yes hE]; done)
                                            | (rw [own_no (by omega), Bool.false_or, ← hphi.2, List.drop_eq_nil_of_le (by simp; omega)]; rfl)
                                            )
                                      )
                                )
                          · skip
                            first
                              | (exfalso; omega)
                              | (
                                refine r_skip rfl (.no rfl rfl) ?_
                                refine r_skip rfl (.no rfl rfl) ?_
                                refine r_skip rfl (.no rfl rfl) ?_
                                refine r_skip rfl (.no rfl rfl) ?_
                                refine r_skip rfl (.no rfl rfl) ?_
                                refine r_skip rfl (.no rfl rfl) ?_
                                refine r_val .none rfl (p_pick_f rfl rfl) ?_
                                refine r_val .none rfl (p_move rfl) ?_
                                refine r_skip rfl (.no rfl rfl) ?_
                                refine r_skip rfl (.no rfl rfl) ?_
                                refine r_skip rfl (.no rfl rfl) ?_
                                refine r_skip rfl (.no rfl rfl) ?_
                                refine r_skip rfl (.no rfl rfl) ?_
                                refine r_skip rfl (.no rfl rfl) ?_
                                refine r_skip rfl (.no rfl rfl) ?_
                                refine r_val .none rfl (p_pick_f rfl rfl) ?_
                                refine r_nil ?_
                                refine e_next ?_
                                refine c_cond_f rfl ?_
                                refine c_skip ?_
                                refine e_norm_block ?_
                                refine e_next ?_
                                refine c_region ?_
                                refine r_val .none rfl (p_move rfl) ?_
                                refine r_val .none rfl (p_add rfl rfl (by omega)) ?_
                                refine r_val .none rfl (p_assign rfl) ?_
                                refine r_nil ?_
                                refine e_again ?_
                                refine l_round (n := 0) ?_
                                refine c_seq ?_
                                refine c_seq ?_
                                refine c_region ?_
                                refine r_val .none rfl (p_move rfl) ?_
                                refine r_val .none rfl (p_lt rfl rfl) ?_
                                refine r_say (d := 9) (v := Value.bool false) rfl ?_
                                refine r_nil ?_
                                refine e_next ?_
                                refine c_cond_f rfl ?_
                                refine c_exit ?_
                                refine e_exit_then ?_
                                refine e_exit_then ?_
                                refine e_exit_block ?_
                                refine e_next ?_
                                refine c_seq ?_
                                refine c_seq ?_
                                refine c_region ?_
                                refine r_val .none rfl (p_field Try.underlying38 rfl sz36 rfl) ?_
                                refine r_val .none rfl (p_ld (k := 0) Try.underlying36 rfl rfl rfl (by first | exact of_decide_eq_true rfl | omega) rfl) ?_
                                refine r_val .none rfl (p_leng Try.underlying36 rfl hr) ?_
                                have bd_38 := (hr).bound
                                refine r_val .none rfl (p_move rfl) ?_
                                refine r_nil ?_
                                refine e_next ?_
                                refine c_block ?_
                                refine c_name (d := 1) rfl (fun u_39 hu_39 => ?_)
                                refine c_name (d := 33) rfl (fun u_40 hu_40 => ?_)
                                refine c_name (d := 34) rfl (fun u_41 hu_41 => ?_)
                                refine c_nameL (k := 0) rfl (fun A_42 hA_42 => ?_)
                                refine c_loop (σ := Nat) (fun k => [(35, Value.int .i64 (k : Nat)), (1, u_39), (33, u_40), (34, u_41)]) (fun k => [A_42]) (fun _ => _) (fun k => k ≤ rs.length ∧ hasL ((rs.map Prod.fst).drop k) v = hasL c.subs v) (fun k => rs.length - k) (0) ⟨Nat.zero_le _, by rw [hl]; rfl⟩ rfl ⟨rfl, rfl, rfl, rfl, trivial⟩ (.keep (fun _ _ h => h) (.nil)) (fun k hphi => ?_)
                                subst hu_39
                                subst hu_40
                                subst hu_41
                                subst hA_42
                                refine c_seq ?_
                                refine c_region ?_
                                refine r_val .none rfl (p_lt rfl rfl) ?_
                                refine r_nil ?_
                                refine e_next ?_
                                refine c_seq ?_
                                refine c_splitd (d := 36) rfl (fun h_43 => ?_) (fun h_43 => ?_)
                                · skip
                                  first
                                    | (exfalso; omega)
                                    | (
                                      refine c_cond_t rfl ?_
                                      refine c_skip ?_
                                      refine e_next ?_
                                      refine c_seq ?_
                                      refine c_block ?_
                                      refine c_seq ?_
                                      refine c_region ?_
                                      refine r_iaddr_g .none rfl Try.underlying36 sz38 rfl hr rfl (by first | exact of_decide_eq_true rfl | omega) (fun p_45 o_46 R_44 => ?_)
                                      have hc_47 := hp _ (getD_mem (i := k) (d := d0) (by omega))
                                      refine r_val .none rfl (p_ldga0 Try.underlying38 rfl sz38 rfl R_44 (by first | exact of_decide_eq_true rfl | omega) (rfl : _ = Value.agg #[_, _, _, _, _, _, _, _])) ?_
                                      refine r_alloc .none rfl zr38 (IsRow.lit _) (fun b_4 => ?_)
                                      refine r_stw (k := 0) .none sz38 rfl rfl (IsRow.lit _) (one_lit rfl (all_cons rfl (all_cons rfl (all_cons rfl (all_cons rfl (all_cons rfl (all_cons rfl (all_cons rfl (all_cons (hc_47).one rfl))))))))) rfl ?_
                                      refine r_nil ?_
                                      refine e_next ?_
                                      refine c_seq ?_
                                      refine c_region ?_
                                      refine r_val .none rfl (p_ldw (k := 0) Try.underlying38 rfl sz38 rfl rfl (rfl : _ = Value.agg #[_, _, _, _, _, _, _, _])) ?_
                                      refine r_val .none rfl (p_move rfl) ?_
                                      refine r_call (vs := [_, _]) .none rfl cl31 rfl (fun w hw => ih (rs.getD k d0).1 _ _ _ w (size_at hl (by omega) hz) hc_47 hw) ?_
                                      refine r_nil ?_
                                      refine e_next ?_
                                      refine c_split (d := 41) rfl (fun h_48 => ?_) (fun h_48 => ?_)
                                      · skip
                                        have hE := h_48
                                        first
                                          | (exfalso; omega)
                                          | (
                                            refine c_cond_t rfl ?_
                                            refine c_seq ?_
                                            refine c_region ?_
                                            refine r_val .none rfl (p_assign rfl) ?_
                                            refine r_nil ?_
                                            refine e_next ?_
                                            refine c_ret ?_
                                            refine e_ret_block ?_
                                            refine e_ret_then ?_
                                            refine e_ret_then ?_
                                            refine e_ret_block ?_
                                            refine e_ret_then ?_
                                            refine e_ret1 Try.results31 (.tmp rfl .nil) (fun w hm => ⟨?_, hm.since⟩)
                                            rw [has_eq c v]
                                            first
                                            | (rw [own_yes (by omega)]; rfl)
                                            | (rw [own_no (by omega), Bool.false_or, ← hphi.2, map_drop (i := k) (d := d0) (by omega), hasL_yes hE]; done)
                                            | (rw [own_no (by omega), Bool.false_or, ← hphi.2, List.drop_eq_nil_of_le (by simp; omega)]; rfl)
                                            )
                                      · skip
                                        have hE := h_48
                                        first
                                          | (exfalso; omega)
                                          | (
                                            refine c_cond_f rfl ?_
                                            refine c_skip ?_
                                            refine e_norm_block ?_
                                            refine e_next ?_
                                            refine c_region ?_
                                            refine r_val .none rfl (p_add rfl rfl (by omega)) ?_
                                            refine r_val .none rfl (p_move rfl) ?_
                                            refine r_nil ?_
                                            refine e_round (k + 1) ⟨⟨by omega, by rw [← hphi.2, map_drop (i := k) (d := d0) (by omega), hasL_no hE]⟩, by omega⟩ rfl ⟨rfl, rfl, rfl, rfl, trivial⟩ (.drop (.keep (fun _ _ h => h) (.nil)))
                                            )
                                      )
                                · skip
                                  first
                                    | (exfalso; omega)
                                    | (
                                      refine c_cond_f rfl ?_
                                      refine c_exit ?_
                                      refine e_exit_then ?_
                                      refine e_exit_then ?_
                                      refine e_exit_block ?_
                                      refine e_next ?_
                                      refine c_seq ?_
                                      refine c_region ?_
                                      refine r_val .none rfl (p_assign rfl) ?_
                                      refine r_nil ?_
                                      refine e_next ?_
                                      refine c_ret ?_
                                      refine e_ret1 Try.results31 (.tmp rfl .nil) (fun w hm => ⟨?_, hm.since⟩)
                                      rw [has_eq c v]
                                      first
                                      | (rw [own_yes (by omega)]; rfl)
                                      | (rw [own_no (by omega), Bool.false_or, ← hphi.2, map_drop (i := k) (d := d0) (by omega), hasL_yes hE]; done)
                                      | (rw [own_no (by omega), Bool.false_or, ← hphi.2, List.drop_eq_nil_of_le (by simp; omega)]; rfl)
                                      )
                                )
                          )
                    )
              · skip
                first
                  | (exfalso; omega)
                  | (
                    refine r_skip rfl (.no rfl rfl) ?_
                    refine r_skip rfl (.no rfl rfl) ?_
                    refine r_skip rfl (.no rfl rfl) ?_
                    refine r_skip rfl (.no rfl rfl) ?_
                    refine r_skip rfl (.no rfl rfl) ?_
                    refine r_skip rfl (.no rfl rfl) ?_
                    refine r_skip rfl (.no rfl rfl) ?_
                    refine r_val .none rfl (p_pick_f rfl rfl) ?_
                    refine r_nil ?_
                    refine e_next ?_
                    refine c_cond_f rfl ?_
                    refine c_skip ?_
                    refine e_norm_block ?_
                    refine e_next ?_
                    refine c_region ?_
                    refine r_val .none rfl (p_move rfl) ?_
                    refine r_val .none rfl (p_add rfl rfl (by omega)) ?_
                    refine r_val .none rfl (p_assign rfl) ?_
                    refine r_nil ?_
                    refine e_again ?_
                    refine l_round (n := 1) ?_
                    refine c_seq ?_
                    refine c_seq ?_
                    refine c_region ?_
                    refine r_val .none rfl (p_move rfl) ?_
                    refine r_val .none rfl (p_lt rfl rfl) ?_
                    refine r_say (d := 9) (v := Value.bool true) rfl ?_
                    refine r_nil ?_
                    refine e_next ?_
                    refine c_cond_t rfl ?_
                    refine c_skip ?_
                    refine e_next ?_
                    refine c_seq ?_
                    refine c_block ?_
                    refine c_seq ?_
                    refine c_region ?_
                    refine r_val .none rfl (p_field Try.underlying38 rfl sz3 rfl) ?_
                    refine r_val .none rfl (p_ld (k := 0) Try.underlying3 rfl rfl rfl (by first | exact of_decide_eq_true rfl | omega) (rfl : _ = Value.int _ _)) ?_
                    refine r_val .none rfl (p_lt rfl rfl) ?_
                    refine r_val .none rfl (p_move rfl) ?_
                    refine r_splitd (d := 15) rfl (fun h_49 => ?_) (fun h_49 => ?_)
                    · skip
                      first
                        | (exfalso; omega)
                        | (
                          refine r_val (.some rfl rfl) rfl (p_move rfl) ?_
                          refine r_val (.some rfl rfl) rfl (p_field Try.underlying38 rfl sz35 rfl) ?_
                          refine r_val (.some rfl rfl) rfl (p_iaddr (k := 2) Try.underlying35 sz34 rfl rfl (by first | exact of_decide_eq_true rfl | omega)) ?_
                          refine r_val (.some rfl rfl) rfl (p_field Try.underlying34 rfl sz3 rfl) ?_
                          refine r_val (.some rfl rfl) rfl (p_ld (k := 0) Try.underlying3 rfl rfl rfl (by first | exact of_decide_eq_true rfl | omega) (rfl : _ = Value.int _ _)) ?_
                          refine r_val (.some rfl rfl) rfl (p_eq rfl rfl) ?_
                          refine r_val .none rfl (p_pick_t rfl rfl) ?_
                          refine r_val .none rfl (p_move rfl) ?_
                          refine r_splitd (d := 23) rfl (fun h_50 => ?_) (fun h_50 => ?_)
                          · skip
                            first
                              | (exfalso; omega)
                              | (
                                refine r_val (.some rfl rfl) rfl (p_move rfl) ?_
                                refine r_val (.some rfl rfl) rfl (p_field Try.underlying38 rfl sz35 rfl) ?_
                                refine r_val (.some rfl rfl) rfl (p_iaddr (k := 2) Try.underlying35 sz34 rfl rfl (by first | exact of_decide_eq_true rfl | omega)) ?_
                                refine r_val (.some rfl rfl) rfl (p_field Try.underlying34 rfl sz3 rfl) ?_
                                refine r_val (.some rfl rfl) rfl (p_ld (k := 0) Try.underlying3 rfl rfl rfl (by first | exact of_decide_eq_true rfl | omega) (rfl : _ = Value.int _ _)) ?_
                                refine r_val (.some rfl rfl) rfl (p_move rfl) ?_
                                refine r_val (.some rfl rfl) rfl (p_eq rfl rfl) ?_
                                refine r_val .none rfl (p_pick_t rfl rfl) ?_
                                refine r_nil ?_
                                refine e_next ?_
                                refine c_splitd (d := 31) rfl (fun h_51 => ?_) (fun h_51 => ?_)
                                · skip
                                  first
                                    | (exfalso; omega)
                                    | (
                                      refine c_cond_t rfl ?_
                                      refine c_seq ?_
                                      refine c_region ?_
                                      refine r_val .none rfl (p_assign rfl) ?_
                                      refine r_nil ?_
                                      refine e_next ?_
                                      refine c_ret ?_
                                      refine e_ret_block ?_
                                      refine e_ret_then ?_
                                      refine e_ret_then ?_
                                      refine e_ret_block ?_
                                      refine e_ret_then ?_
                                      refine e_ret1 Try.results31 (.tmp rfl .nil) (fun w hm => ⟨?_, hm.since⟩)
                                      rw [has_eq c v]
                                      first
                                      | (rw [own_yes (by omega)]; rfl)
                                      | (rw [own_no (by omega), Bool.false_or, ← hphi.2, map_drop (i := k) (d := d0) (by omega), hasL_yes hE]; done)
                                      | (rw [own_no (by omega), Bool.false_or, ← hphi.2, List.drop_eq_nil_of_le (by simp; omega)]; rfl)
                                      )
                                · skip
                                  first
                                    | (exfalso; omega)
                                    | (
                                      refine c_cond_f rfl ?_
                                      refine c_skip ?_
                                      refine e_norm_block ?_
                                      refine e_next ?_
                                      refine c_region ?_
                                      refine r_val .none rfl (p_move rfl) ?_
                                      refine r_val .none rfl (p_add rfl rfl (by omega)) ?_
                                      refine r_val .none rfl (p_assign rfl) ?_
                                      refine r_nil ?_
                                      refine e_again ?_
                                      refine l_round (n := 0) ?_
                                      refine c_seq ?_
                                      refine c_seq ?_
                                      refine c_region ?_
                                      refine r_val .none rfl (p_move rfl) ?_
                                      refine r_val .none rfl (p_lt rfl rfl) ?_
                                      refine r_say (d := 9) (v := Value.bool false) rfl ?_
                                      refine r_nil ?_
                                      refine e_next ?_
                                      refine c_cond_f rfl ?_
                                      refine c_exit ?_
                                      refine e_exit_then ?_
                                      refine e_exit_then ?_
                                      refine e_exit_block ?_
                                      refine e_next ?_
                                      refine c_seq ?_
                                      refine c_seq ?_
                                      refine c_region ?_
                                      refine r_val .none rfl (p_field Try.underlying38 rfl sz36 rfl) ?_
                                      refine r_val .none rfl (p_ld (k := 0) Try.underlying36 rfl rfl rfl (by first | exact of_decide_eq_true rfl | omega) rfl) ?_
                                      refine r_val .none rfl (p_leng Try.underlying36 rfl hr) ?_
                                      have bd_52 := (hr).bound
                                      refine r_val .none rfl (p_move rfl) ?_
                                      refine r_nil ?_
                                      refine e_next ?_
                                      refine c_block ?_
                                      refine c_name (d := 1) rfl (fun u_53 hu_53 => ?_)
                                      refine c_name (d := 33) rfl (fun u_54 hu_54 => ?_)
                                      refine c_name (d := 34) rfl (fun u_55 hu_55 => ?_)
                                      refine c_nameL (k := 0) rfl (fun A_56 hA_56 => ?_)
                                      refine c_loop (σ := Nat) (fun k => [(35, Value.int .i64 (k : Nat)), (1, u_53), (33, u_54), (34, u_55)]) (fun k => [A_56]) (fun _ => _) (fun k => k ≤ rs.length ∧ hasL ((rs.map Prod.fst).drop k) v = hasL c.subs v) (fun k => rs.length - k) (0) ⟨Nat.zero_le _, by rw [hl]; rfl⟩ rfl ⟨rfl, rfl, rfl, rfl, trivial⟩ (.keep (fun _ _ h => h) (.nil)) (fun k hphi => ?_)
                                      subst hu_53
                                      subst hu_54
                                      subst hu_55
                                      subst hA_56
                                      refine c_seq ?_
                                      refine c_region ?_
                                      refine r_val .none rfl (p_lt rfl rfl) ?_
                                      refine r_nil ?_
                                      refine e_next ?_
                                      refine c_seq ?_
                                      refine c_splitd (d := 36) rfl (fun h_57 => ?_) (fun h_57 => ?_)
                                      · skip
                                        first
                                          | (exfalso; omega)
                                          | (
                                            refine c_cond_t rfl ?_
                                            refine c_skip ?_
                                            refine e_next ?_
                                            refine c_seq ?_
                                            refine c_block ?_
                                            refine c_seq ?_
                                            refine c_region ?_
                                            refine r_iaddr_g .none rfl Try.underlying36 sz38 rfl hr rfl (by first | exact of_decide_eq_true rfl | omega) (fun p_59 o_60 R_58 => ?_)
                                            have hc_61 := hp _ (getD_mem (i := k) (d := d0) (by omega))
                                            refine r_val .none rfl (p_ldga0 Try.underlying38 rfl sz38 rfl R_58 (by first | exact of_decide_eq_true rfl | omega) (rfl : _ = Value.agg #[_, _, _, _, _, _, _, _])) ?_
                                            refine r_alloc .none rfl zr38 (IsRow.lit _) (fun b_5 => ?_)
                                            refine r_stw (k := 0) .none sz38 rfl rfl (IsRow.lit _) (one_lit rfl (all_cons rfl (all_cons rfl (all_cons rfl (all_cons rfl (all_cons rfl (all_cons rfl (all_cons rfl (all_cons (hc_61).one rfl))))))))) rfl ?_
                                            refine r_nil ?_
                                            refine e_next ?_
                                            refine c_seq ?_
                                            refine c_region ?_
                                            refine r_val .none rfl (p_ldw (k := 0) Try.underlying38 rfl sz38 rfl rfl (rfl : _ = Value.agg #[_, _, _, _, _, _, _, _])) ?_
                                            refine r_val .none rfl (p_move rfl) ?_
                                            refine r_call (vs := [_, _]) .none rfl cl31 rfl (fun w hw => ih (rs.getD k d0).1 _ _ _ w (size_at hl (by omega) hz) hc_61 hw) ?_
                                            refine r_nil ?_
                                            refine e_next ?_
                                            refine c_split (d := 41) rfl (fun h_62 => ?_) (fun h_62 => ?_)
                                            · skip
                                              have hE := h_62
                                              first
                                                | (exfalso; omega)
                                                | (
                                                  refine c_cond_t rfl ?_
                                                  refine c_seq ?_
                                                  refine c_region ?_
                                                  refine r_val .none rfl (p_assign rfl) ?_
                                                  refine r_nil ?_
                                                  refine e_next ?_
                                                  refine c_ret ?_
                                                  refine e_ret_block ?_
                                                  refine e_ret_then ?_
                                                  refine e_ret_then ?_
                                                  refine e_ret_block ?_
                                                  refine e_ret_then ?_
                                                  refine e_ret1 Try.results31 (.tmp rfl .nil) (fun w hm => ⟨?_, hm.since⟩)
                                                  rw [has_eq c v]
                                                  first
                                                  | (rw [own_yes (by omega)]; rfl)
                                                  | (rw [own_no (by omega), Bool.false_or, ← hphi.2, map_drop (i := k) (d := d0) (by omega), hasL_yes hE]; done)
                                                  | (rw [own_no (by omega), Bool.false_or, ← hphi.2, List.drop_eq_nil_of_le (by simp; omega)]; rfl)
                                                  )
                                            · skip
                                              have hE := h_62
                                              first
                                                | (exfalso; omega)
                                                | (
                                                  refine c_cond_f rfl ?_
                                                  refine c_skip ?_
                                                  refine e_norm_block ?_
                                                  refine e_next ?_
                                                  refine c_region ?_
                                                  refine r_val .none rfl (p_add rfl rfl (by omega)) ?_
                                                  refine r_val .none rfl (p_move rfl) ?_
                                                  refine r_nil ?_
                                                  refine e_round (k + 1) ⟨⟨by omega, by rw [← hphi.2, map_drop (i := k) (d := d0) (by omega), hasL_no hE]⟩, by omega⟩ rfl ⟨rfl, rfl, rfl, rfl, trivial⟩ (.drop (.keep (fun _ _ h => h) (.nil)))
                                                  )
                                            )
                                      · skip
                                        first
                                          | (exfalso; omega)
                                          | (
                                            refine c_cond_f rfl ?_
                                            refine c_exit ?_
                                            refine e_exit_then ?_
                                            refine e_exit_then ?_
                                            refine e_exit_block ?_
                                            refine e_next ?_
                                            refine c_seq ?_
                                            refine c_region ?_
                                            refine r_val .none rfl (p_assign rfl) ?_
                                            refine r_nil ?_
                                            refine e_next ?_
                                            refine c_ret ?_
                                            refine e_ret1 Try.results31 (.tmp rfl .nil) (fun w hm => ⟨?_, hm.since⟩)
                                            rw [has_eq c v]
                                            first
                                            | (rw [own_yes (by omega)]; rfl)
                                            | (rw [own_no (by omega), Bool.false_or, ← hphi.2, map_drop (i := k) (d := d0) (by omega), hasL_yes hE]; done)
                                            | (rw [own_no (by omega), Bool.false_or, ← hphi.2, List.drop_eq_nil_of_le (by simp; omega)]; rfl)
                                            )
                                      )
                                )
                          · skip
                            first
                              | (exfalso; omega)
                              | (
                                refine r_skip rfl (.no rfl rfl) ?_
                                refine r_skip rfl (.no rfl rfl) ?_
                                refine r_skip rfl (.no rfl rfl) ?_
                                refine r_skip rfl (.no rfl rfl) ?_
                                refine r_skip rfl (.no rfl rfl) ?_
                                refine r_skip rfl (.no rfl rfl) ?_
                                refine r_skip rfl (.no rfl rfl) ?_
                                refine r_val .none rfl (p_pick_f rfl rfl) ?_
                                refine r_nil ?_
                                refine e_next ?_
                                refine c_cond_f rfl ?_
                                refine c_skip ?_
                                refine e_norm_block ?_
                                refine e_next ?_
                                refine c_region ?_
                                refine r_val .none rfl (p_move rfl) ?_
                                refine r_val .none rfl (p_add rfl rfl (by omega)) ?_
                                refine r_val .none rfl (p_assign rfl) ?_
                                refine r_nil ?_
                                refine e_again ?_
                                refine l_round (n := 0) ?_
                                refine c_seq ?_
                                refine c_seq ?_
                                refine c_region ?_
                                refine r_val .none rfl (p_move rfl) ?_
                                refine r_val .none rfl (p_lt rfl rfl) ?_
                                refine r_say (d := 9) (v := Value.bool false) rfl ?_
                                refine r_nil ?_
                                refine e_next ?_
                                refine c_cond_f rfl ?_
                                refine c_exit ?_
                                refine e_exit_then ?_
                                refine e_exit_then ?_
                                refine e_exit_block ?_
                                refine e_next ?_
                                refine c_seq ?_
                                refine c_seq ?_
                                refine c_region ?_
                                refine r_val .none rfl (p_field Try.underlying38 rfl sz36 rfl) ?_
                                refine r_val .none rfl (p_ld (k := 0) Try.underlying36 rfl rfl rfl (by first | exact of_decide_eq_true rfl | omega) rfl) ?_
                                refine r_val .none rfl (p_leng Try.underlying36 rfl hr) ?_
                                have bd_63 := (hr).bound
                                refine r_val .none rfl (p_move rfl) ?_
                                refine r_nil ?_
                                refine e_next ?_
                                refine c_block ?_
                                refine c_name (d := 1) rfl (fun u_64 hu_64 => ?_)
                                refine c_name (d := 33) rfl (fun u_65 hu_65 => ?_)
                                refine c_name (d := 34) rfl (fun u_66 hu_66 => ?_)
                                refine c_nameL (k := 0) rfl (fun A_67 hA_67 => ?_)
                                refine c_loop (σ := Nat) (fun k => [(35, Value.int .i64 (k : Nat)), (1, u_64), (33, u_65), (34, u_66)]) (fun k => [A_67]) (fun _ => _) (fun k => k ≤ rs.length ∧ hasL ((rs.map Prod.fst).drop k) v = hasL c.subs v) (fun k => rs.length - k) (0) ⟨Nat.zero_le _, by rw [hl]; rfl⟩ rfl ⟨rfl, rfl, rfl, rfl, trivial⟩ (.keep (fun _ _ h => h) (.nil)) (fun k hphi => ?_)
                                subst hu_64
                                subst hu_65
                                subst hu_66
                                subst hA_67
                                refine c_seq ?_
                                refine c_region ?_
                                refine r_val .none rfl (p_lt rfl rfl) ?_
                                refine r_nil ?_
                                refine e_next ?_
                                refine c_seq ?_
                                refine c_splitd (d := 36) rfl (fun h_68 => ?_) (fun h_68 => ?_)
                                · skip
                                  first
                                    | (exfalso; omega)
                                    | (
                                      refine c_cond_t rfl ?_
                                      refine c_skip ?_
                                      refine e_next ?_
                                      refine c_seq ?_
                                      refine c_block ?_
                                      refine c_seq ?_
                                      refine c_region ?_
                                      refine r_iaddr_g .none rfl Try.underlying36 sz38 rfl hr rfl (by first | exact of_decide_eq_true rfl | omega) (fun p_70 o_71 R_69 => ?_)
                                      have hc_72 := hp _ (getD_mem (i := k) (d := d0) (by omega))
                                      refine r_val .none rfl (p_ldga0 Try.underlying38 rfl sz38 rfl R_69 (by first | exact of_decide_eq_true rfl | omega) (rfl : _ = Value.agg #[_, _, _, _, _, _, _, _])) ?_
                                      refine r_alloc .none rfl zr38 (IsRow.lit _) (fun b_6 => ?_)
                                      refine r_stw (k := 0) .none sz38 rfl rfl (IsRow.lit _) (one_lit rfl (all_cons rfl (all_cons rfl (all_cons rfl (all_cons rfl (all_cons rfl (all_cons rfl (all_cons rfl (all_cons (hc_72).one rfl))))))))) rfl ?_
                                      refine r_nil ?_
                                      refine e_next ?_
                                      refine c_seq ?_
                                      refine c_region ?_
                                      refine r_val .none rfl (p_ldw (k := 0) Try.underlying38 rfl sz38 rfl rfl (rfl : _ = Value.agg #[_, _, _, _, _, _, _, _])) ?_
                                      refine r_val .none rfl (p_move rfl) ?_
                                      refine r_call (vs := [_, _]) .none rfl cl31 rfl (fun w hw => ih (rs.getD k d0).1 _ _ _ w (size_at hl (by omega) hz) hc_72 hw) ?_
                                      refine r_nil ?_
                                      refine e_next ?_
                                      refine c_split (d := 41) rfl (fun h_73 => ?_) (fun h_73 => ?_)
                                      · skip
                                        have hE := h_73
                                        first
                                          | (exfalso; omega)
                                          | (
                                            refine c_cond_t rfl ?_
                                            refine c_seq ?_
                                            refine c_region ?_
                                            refine r_val .none rfl (p_assign rfl) ?_
                                            refine r_nil ?_
                                            refine e_next ?_
                                            refine c_ret ?_
                                            refine e_ret_block ?_
                                            refine e_ret_then ?_
                                            refine e_ret_then ?_
                                            refine e_ret_block ?_
                                            refine e_ret_then ?_
                                            refine e_ret1 Try.results31 (.tmp rfl .nil) (fun w hm => ⟨?_, hm.since⟩)
                                            rw [has_eq c v]
                                            first
                                            | (rw [own_yes (by omega)]; rfl)
                                            | (rw [own_no (by omega), Bool.false_or, ← hphi.2, map_drop (i := k) (d := d0) (by omega), hasL_yes hE]; done)
                                            | (rw [own_no (by omega), Bool.false_or, ← hphi.2, List.drop_eq_nil_of_le (by simp; omega)]; rfl)
                                            )
                                      · skip
                                        have hE := h_73
                                        first
                                          | (exfalso; omega)
                                          | (
                                            refine c_cond_f rfl ?_
                                            refine c_skip ?_
                                            refine e_norm_block ?_
                                            refine e_next ?_
                                            refine c_region ?_
                                            refine r_val .none rfl (p_add rfl rfl (by omega)) ?_
                                            refine r_val .none rfl (p_move rfl) ?_
                                            refine r_nil ?_
                                            refine e_round (k + 1) ⟨⟨by omega, by rw [← hphi.2, map_drop (i := k) (d := d0) (by omega), hasL_no hE]⟩, by omega⟩ rfl ⟨rfl, rfl, rfl, rfl, trivial⟩ (.drop (.keep (fun _ _ h => h) (.nil)))
                                            )
                                      )
                                · skip
                                  first
                                    | (exfalso; omega)
                                    | (
                                      refine c_cond_f rfl ?_
                                      refine c_exit ?_
                                      refine e_exit_then ?_
                                      refine e_exit_then ?_
                                      refine e_exit_block ?_
                                      refine e_next ?_
                                      refine c_seq ?_
                                      refine c_region ?_
                                      refine r_val .none rfl (p_assign rfl) ?_
                                      refine r_nil ?_
                                      refine e_next ?_
                                      refine c_ret ?_
                                      refine e_ret1 Try.results31 (.tmp rfl .nil) (fun w hm => ⟨?_, hm.since⟩)
                                      rw [has_eq c v]
                                      first
                                      | (rw [own_yes (by omega)]; rfl)
                                      | (rw [own_no (by omega), Bool.false_or, ← hphi.2, map_drop (i := k) (d := d0) (by omega), hasL_yes hE]; done)
                                      | (rw [own_no (by omega), Bool.false_or, ← hphi.2, List.drop_eq_nil_of_le (by simp; omega)]; rfl)
                                      )
                                )
                          )
                    · skip
                      first
                        | (exfalso; omega)
                        | (
                          refine r_skip rfl (.no rfl rfl) ?_
                          refine r_skip rfl (.no rfl rfl) ?_
                          refine r_skip rfl (.no rfl rfl) ?_
                          refine r_skip rfl (.no rfl rfl) ?_
                          refine r_skip rfl (.no rfl rfl) ?_
                          refine r_skip rfl (.no rfl rfl) ?_
                          refine r_val .none rfl (p_pick_f rfl rfl) ?_
                          refine r_val .none rfl (p_move rfl) ?_
                          refine r_skip rfl (.no rfl rfl) ?_
                          refine r_skip rfl (.no rfl rfl) ?_
                          refine r_skip rfl (.no rfl rfl) ?_
                          refine r_skip rfl (.no rfl rfl) ?_
                          refine r_skip rfl (.no rfl rfl) ?_
                          refine r_skip rfl (.no rfl rfl) ?_
                          refine r_skip rfl (.no rfl rfl) ?_
                          refine r_val .none rfl (p_pick_f rfl rfl) ?_
                          refine r_nil ?_
                          refine e_next ?_
                          refine c_cond_f rfl ?_
                          refine c_skip ?_
                          refine e_norm_block ?_
                          refine e_next ?_
                          refine c_region ?_
                          refine r_val .none rfl (p_move rfl) ?_
                          refine r_val .none rfl (p_add rfl rfl (by omega)) ?_
                          refine r_val .none rfl (p_assign rfl) ?_
                          refine r_nil ?_
                          refine e_again ?_
                          refine l_round (n := 0) ?_
                          refine c_seq ?_
                          refine c_seq ?_
                          refine c_region ?_
                          refine r_val .none rfl (p_move rfl) ?_
                          refine r_val .none rfl (p_lt rfl rfl) ?_
                          refine r_say (d := 9) (v := Value.bool false) rfl ?_
                          refine r_nil ?_
                          refine e_next ?_
                          refine c_cond_f rfl ?_
                          refine c_exit ?_
                          refine e_exit_then ?_
                          refine e_exit_then ?_
                          refine e_exit_block ?_
                          refine e_next ?_
                          refine c_seq ?_
                          refine c_seq ?_
                          refine c_region ?_
                          refine r_val .none rfl (p_field Try.underlying38 rfl sz36 rfl) ?_
                          refine r_val .none rfl (p_ld (k := 0) Try.underlying36 rfl rfl rfl (by first | exact of_decide_eq_true rfl | omega) rfl) ?_
                          refine r_val .none rfl (p_leng Try.underlying36 rfl hr) ?_
                          have bd_74 := (hr).bound
                          refine r_val .none rfl (p_move rfl) ?_
                          refine r_nil ?_
                          refine e_next ?_
                          refine c_block ?_
                          refine c_name (d := 1) rfl (fun u_75 hu_75 => ?_)
                          refine c_name (d := 33) rfl (fun u_76 hu_76 => ?_)
                          refine c_name (d := 34) rfl (fun u_77 hu_77 => ?_)
                          refine c_nameL (k := 0) rfl (fun A_78 hA_78 => ?_)
                          refine c_loop (σ := Nat) (fun k => [(35, Value.int .i64 (k : Nat)), (1, u_75), (33, u_76), (34, u_77)]) (fun k => [A_78]) (fun _ => _) (fun k => k ≤ rs.length ∧ hasL ((rs.map Prod.fst).drop k) v = hasL c.subs v) (fun k => rs.length - k) (0) ⟨Nat.zero_le _, by rw [hl]; rfl⟩ rfl ⟨rfl, rfl, rfl, rfl, trivial⟩ (.keep (fun _ _ h => h) (.nil)) (fun k hphi => ?_)
                          subst hu_75
                          subst hu_76
                          subst hu_77
                          subst hA_78
                          refine c_seq ?_
                          refine c_region ?_
                          refine r_val .none rfl (p_lt rfl rfl) ?_
                          refine r_nil ?_
                          refine e_next ?_
                          refine c_seq ?_
                          refine c_splitd (d := 36) rfl (fun h_79 => ?_) (fun h_79 => ?_)
                          · skip
                            first
                              | (exfalso; omega)
                              | (
                                refine c_cond_t rfl ?_
                                refine c_skip ?_
                                refine e_next ?_
                                refine c_seq ?_
                                refine c_block ?_
                                refine c_seq ?_
                                refine c_region ?_
                                refine r_iaddr_g .none rfl Try.underlying36 sz38 rfl hr rfl (by first | exact of_decide_eq_true rfl | omega) (fun p_81 o_82 R_80 => ?_)
                                have hc_83 := hp _ (getD_mem (i := k) (d := d0) (by omega))
                                refine r_val .none rfl (p_ldga0 Try.underlying38 rfl sz38 rfl R_80 (by first | exact of_decide_eq_true rfl | omega) (rfl : _ = Value.agg #[_, _, _, _, _, _, _, _])) ?_
                                refine r_alloc .none rfl zr38 (IsRow.lit _) (fun b_7 => ?_)
                                refine r_stw (k := 0) .none sz38 rfl rfl (IsRow.lit _) (one_lit rfl (all_cons rfl (all_cons rfl (all_cons rfl (all_cons rfl (all_cons rfl (all_cons rfl (all_cons rfl (all_cons (hc_83).one rfl))))))))) rfl ?_
                                refine r_nil ?_
                                refine e_next ?_
                                refine c_seq ?_
                                refine c_region ?_
                                refine r_val .none rfl (p_ldw (k := 0) Try.underlying38 rfl sz38 rfl rfl (rfl : _ = Value.agg #[_, _, _, _, _, _, _, _])) ?_
                                refine r_val .none rfl (p_move rfl) ?_
                                refine r_call (vs := [_, _]) .none rfl cl31 rfl (fun w hw => ih (rs.getD k d0).1 _ _ _ w (size_at hl (by omega) hz) hc_83 hw) ?_
                                refine r_nil ?_
                                refine e_next ?_
                                refine c_split (d := 41) rfl (fun h_84 => ?_) (fun h_84 => ?_)
                                · skip
                                  have hE := h_84
                                  first
                                    | (exfalso; omega)
                                    | (
                                      refine c_cond_t rfl ?_
                                      refine c_seq ?_
                                      refine c_region ?_
                                      refine r_val .none rfl (p_assign rfl) ?_
                                      refine r_nil ?_
                                      refine e_next ?_
                                      refine c_ret ?_
                                      refine e_ret_block ?_
                                      refine e_ret_then ?_
                                      refine e_ret_then ?_
                                      refine e_ret_block ?_
                                      refine e_ret_then ?_
                                      refine e_ret1 Try.results31 (.tmp rfl .nil) (fun w hm => ⟨?_, hm.since⟩)
                                      rw [has_eq c v]
                                      first
                                      | (rw [own_yes (by omega)]; rfl)
                                      | (rw [own_no (by omega), Bool.false_or, ← hphi.2, map_drop (i := k) (d := d0) (by omega), hasL_yes hE]; done)
                                      | (rw [own_no (by omega), Bool.false_or, ← hphi.2, List.drop_eq_nil_of_le (by simp; omega)]; rfl)
                                      )
                                · skip
                                  have hE := h_84
                                  first
                                    | (exfalso; omega)
                                    | (
                                      refine c_cond_f rfl ?_
                                      refine c_skip ?_
                                      refine e_norm_block ?_
                                      refine e_next ?_
                                      refine c_region ?_
                                      refine r_val .none rfl (p_add rfl rfl (by omega)) ?_
                                      refine r_val .none rfl (p_move rfl) ?_
                                      refine r_nil ?_
                                      refine e_round (k + 1) ⟨⟨by omega, by rw [← hphi.2, map_drop (i := k) (d := d0) (by omega), hasL_no hE]⟩, by omega⟩ rfl ⟨rfl, rfl, rfl, rfl, trivial⟩ (.drop (.keep (fun _ _ h => h) (.nil)))
                                      )
                                )
                          · skip
                            first
                              | (exfalso; omega)
                              | (
                                refine c_cond_f rfl ?_
                                refine c_exit ?_
                                refine e_exit_then ?_
                                refine e_exit_then ?_
                                refine e_exit_block ?_
                                refine e_next ?_
                                refine c_seq ?_
                                refine c_region ?_
                                refine r_val .none rfl (p_assign rfl) ?_
                                refine r_nil ?_
                                refine e_next ?_
                                refine c_ret ?_
                                refine e_ret1 Try.results31 (.tmp rfl .nil) (fun w hm => ⟨?_, hm.since⟩)
                                rw [has_eq c v]
                                first
                                | (rw [own_yes (by omega)]; rfl)
                                | (rw [own_no (by omega), Bool.false_or, ← hphi.2, map_drop (i := k) (d := d0) (by omega), hasL_yes hE]; done)
                                | (rw [own_no (by omega), Bool.false_or, ← hphi.2, List.drop_eq_nil_of_le (by simp; omega)]; rfl)
                                )
                          )
                    )
              )
        · skip
          first
            | (exfalso; omega)
            | (
              refine r_skip rfl (.no rfl rfl) ?_
              refine r_skip rfl (.no rfl rfl) ?_
              refine r_skip rfl (.no rfl rfl) ?_
              refine r_skip rfl (.no rfl rfl) ?_
              refine r_skip rfl (.no rfl rfl) ?_
              refine r_skip rfl (.no rfl rfl) ?_
              refine r_val .none rfl (p_pick_f rfl rfl) ?_
              refine r_val .none rfl (p_move rfl) ?_
              refine r_skip rfl (.no rfl rfl) ?_
              refine r_skip rfl (.no rfl rfl) ?_
              refine r_skip rfl (.no rfl rfl) ?_
              refine r_skip rfl (.no rfl rfl) ?_
              refine r_skip rfl (.no rfl rfl) ?_
              refine r_skip rfl (.no rfl rfl) ?_
              refine r_skip rfl (.no rfl rfl) ?_
              refine r_val .none rfl (p_pick_f rfl rfl) ?_
              refine r_nil ?_
              refine e_next ?_
              refine c_cond_f rfl ?_
              refine c_skip ?_
              refine e_norm_block ?_
              refine e_next ?_
              refine c_region ?_
              refine r_val .none rfl (p_move rfl) ?_
              refine r_val .none rfl (p_add rfl rfl (by omega)) ?_
              refine r_val .none rfl (p_assign rfl) ?_
              refine r_nil ?_
              refine e_again ?_
              refine l_round (n := 1) ?_
              refine c_seq ?_
              refine c_seq ?_
              refine c_region ?_
              refine r_val .none rfl (p_move rfl) ?_
              refine r_val .none rfl (p_lt rfl rfl) ?_
              refine r_say (d := 9) (v := Value.bool true) rfl ?_
              refine r_nil ?_
              refine e_next ?_
              refine c_cond_t rfl ?_
              refine c_skip ?_
              refine e_next ?_
              refine c_seq ?_
              refine c_block ?_
              refine c_seq ?_
              refine c_region ?_
              refine r_val .none rfl (p_field Try.underlying38 rfl sz3 rfl) ?_
              refine r_val .none rfl (p_ld (k := 0) Try.underlying3 rfl rfl rfl (by first | exact of_decide_eq_true rfl | omega) (rfl : _ = Value.int _ _)) ?_
              refine r_val .none rfl (p_lt rfl rfl) ?_
              refine r_val .none rfl (p_move rfl) ?_
              refine r_splitd (d := 15) rfl (fun h_85 => ?_) (fun h_85 => ?_)
              · skip
                first
                  | (exfalso; omega)
                  | (
                    refine r_val (.some rfl rfl) rfl (p_move rfl) ?_
                    refine r_val (.some rfl rfl) rfl (p_field Try.underlying38 rfl sz35 rfl) ?_
                    refine r_val (.some rfl rfl) rfl (p_iaddr (k := 2) Try.underlying35 sz34 rfl rfl (by first | exact of_decide_eq_true rfl | omega)) ?_
                    refine r_val (.some rfl rfl) rfl (p_field Try.underlying34 rfl sz3 rfl) ?_
                    refine r_val (.some rfl rfl) rfl (p_ld (k := 0) Try.underlying3 rfl rfl rfl (by first | exact of_decide_eq_true rfl | omega) (rfl : _ = Value.int _ _)) ?_
                    refine r_val (.some rfl rfl) rfl (p_eq rfl rfl) ?_
                    refine r_val .none rfl (p_pick_t rfl rfl) ?_
                    refine r_val .none rfl (p_move rfl) ?_
                    refine r_splitd (d := 23) rfl (fun h_86 => ?_) (fun h_86 => ?_)
                    · skip
                      first
                        | (exfalso; omega)
                        | (
                          refine r_val (.some rfl rfl) rfl (p_move rfl) ?_
                          refine r_val (.some rfl rfl) rfl (p_field Try.underlying38 rfl sz35 rfl) ?_
                          refine r_val (.some rfl rfl) rfl (p_iaddr (k := 2) Try.underlying35 sz34 rfl rfl (by first | exact of_decide_eq_true rfl | omega)) ?_
                          refine r_val (.some rfl rfl) rfl (p_field Try.underlying34 rfl sz3 rfl) ?_
                          refine r_val (.some rfl rfl) rfl (p_ld (k := 0) Try.underlying3 rfl rfl rfl (by first | exact of_decide_eq_true rfl | omega) (rfl : _ = Value.int _ _)) ?_
                          refine r_val (.some rfl rfl) rfl (p_move rfl) ?_
                          refine r_val (.some rfl rfl) rfl (p_eq rfl rfl) ?_
                          refine r_val .none rfl (p_pick_t rfl rfl) ?_
                          refine r_nil ?_
                          refine e_next ?_
                          refine c_splitd (d := 31) rfl (fun h_87 => ?_) (fun h_87 => ?_)
                          · skip
                            first
                              | (exfalso; omega)
                              | (
                                refine c_cond_t rfl ?_
                                refine c_seq ?_
                                refine c_region ?_
                                refine r_val .none rfl (p_assign rfl) ?_
                                refine r_nil ?_
                                refine e_next ?_
                                refine c_ret ?_
                                refine e_ret_block ?_
                                refine e_ret_then ?_
                                refine e_ret_then ?_
                                refine e_ret_block ?_
                                refine e_ret_then ?_
                                refine e_ret1 Try.results31 (.tmp rfl .nil) (fun w hm => ⟨?_, hm.since⟩)
                                rw [has_eq c v]
                                first
                                | (rw [own_yes (by omega)]; rfl)
                                | (rw [own_no (by omega), Bool.false_or, ← hphi.2, map_drop (i := k) (d := d0) (by omega), hasL_yes hE]; done)
                                | (rw [own_no (by omega), Bool.false_or, ← hphi.2, List.drop_eq_nil_of_le (by simp; omega)]; rfl)
                                )
                          · skip
                            first
                              | (exfalso; omega)
                              | (
                                refine c_cond_f rfl ?_
                                refine c_skip ?_
                                refine e_norm_block ?_
                                refine e_next ?_
                                refine c_region ?_
                                refine r_val .none rfl (p_move rfl) ?_
                                refine r_val .none rfl (p_add rfl rfl (by omega)) ?_
                                refine r_val .none rfl (p_assign rfl) ?_
                                refine r_nil ?_
                                refine e_again ?_
                                refine l_round (n := 0) ?_
                                refine c_seq ?_
                                refine c_seq ?_
                                refine c_region ?_
                                refine r_val .none rfl (p_move rfl) ?_
                                refine r_val .none rfl (p_lt rfl rfl) ?_
                                refine r_say (d := 9) (v := Value.bool false) rfl ?_
                                refine r_nil ?_
                                refine e_next ?_
                                refine c_cond_f rfl ?_
                                refine c_exit ?_
                                refine e_exit_then ?_
                                refine e_exit_then ?_
                                refine e_exit_block ?_
                                refine e_next ?_
                                refine c_seq ?_
                                refine c_seq ?_
                                refine c_region ?_
                                refine r_val .none rfl (p_field Try.underlying38 rfl sz36 rfl) ?_
                                refine r_val .none rfl (p_ld (k := 0) Try.underlying36 rfl rfl rfl (by first | exact of_decide_eq_true rfl | omega) rfl) ?_
                                refine r_val .none rfl (p_leng Try.underlying36 rfl hr) ?_
                                have bd_88 := (hr).bound
                                refine r_val .none rfl (p_move rfl) ?_
                                refine r_nil ?_
                                refine e_next ?_
                                refine c_block ?_
                                refine c_name (d := 1) rfl (fun u_89 hu_89 => ?_)
                                refine c_name (d := 33) rfl (fun u_90 hu_90 => ?_)
                                refine c_name (d := 34) rfl (fun u_91 hu_91 => ?_)
                                refine c_nameL (k := 0) rfl (fun A_92 hA_92 => ?_)
                                refine c_loop (σ := Nat) (fun k => [(35, Value.int .i64 (k : Nat)), (1, u_89), (33, u_90), (34, u_91)]) (fun k => [A_92]) (fun _ => _) (fun k => k ≤ rs.length ∧ hasL ((rs.map Prod.fst).drop k) v = hasL c.subs v) (fun k => rs.length - k) (0) ⟨Nat.zero_le _, by rw [hl]; rfl⟩ rfl ⟨rfl, rfl, rfl, rfl, trivial⟩ (.keep (fun _ _ h => h) (.nil)) (fun k hphi => ?_)
                                subst hu_89
                                subst hu_90
                                subst hu_91
                                subst hA_92
                                refine c_seq ?_
                                refine c_region ?_
                                refine r_val .none rfl (p_lt rfl rfl) ?_
                                refine r_nil ?_
                                refine e_next ?_
                                refine c_seq ?_
                                refine c_splitd (d := 36) rfl (fun h_93 => ?_) (fun h_93 => ?_)
                                · skip
                                  first
                                    | (exfalso; omega)
                                    | (
                                      refine c_cond_t rfl ?_
                                      refine c_skip ?_
                                      refine e_next ?_
                                      refine c_seq ?_
                                      refine c_block ?_
                                      refine c_seq ?_
                                      refine c_region ?_
                                      refine r_iaddr_g .none rfl Try.underlying36 sz38 rfl hr rfl (by first | exact of_decide_eq_true rfl | omega) (fun p_95 o_96 R_94 => ?_)
                                      have hc_97 := hp _ (getD_mem (i := k) (d := d0) (by omega))
                                      refine r_val .none rfl (p_ldga0 Try.underlying38 rfl sz38 rfl R_94 (by first | exact of_decide_eq_true rfl | omega) (rfl : _ = Value.agg #[_, _, _, _, _, _, _, _])) ?_
                                      refine r_alloc .none rfl zr38 (IsRow.lit _) (fun b_8 => ?_)
                                      refine r_stw (k := 0) .none sz38 rfl rfl (IsRow.lit _) (one_lit rfl (all_cons rfl (all_cons rfl (all_cons rfl (all_cons rfl (all_cons rfl (all_cons rfl (all_cons rfl (all_cons (hc_97).one rfl))))))))) rfl ?_
                                      refine r_nil ?_
                                      refine e_next ?_
                                      refine c_seq ?_
                                      refine c_region ?_
                                      refine r_val .none rfl (p_ldw (k := 0) Try.underlying38 rfl sz38 rfl rfl (rfl : _ = Value.agg #[_, _, _, _, _, _, _, _])) ?_
                                      refine r_val .none rfl (p_move rfl) ?_
                                      refine r_call (vs := [_, _]) .none rfl cl31 rfl (fun w hw => ih (rs.getD k d0).1 _ _ _ w (size_at hl (by omega) hz) hc_97 hw) ?_
                                      refine r_nil ?_
                                      refine e_next ?_
                                      refine c_split (d := 41) rfl (fun h_98 => ?_) (fun h_98 => ?_)
                                      · skip
                                        have hE := h_98
                                        first
                                          | (exfalso; omega)
                                          | (
                                            refine c_cond_t rfl ?_
                                            refine c_seq ?_
                                            refine c_region ?_
                                            refine r_val .none rfl (p_assign rfl) ?_
                                            refine r_nil ?_
                                            refine e_next ?_
                                            refine c_ret ?_
                                            refine e_ret_block ?_
                                            refine e_ret_then ?_
                                            refine e_ret_then ?_
                                            refine e_ret_block ?_
                                            refine e_ret_then ?_
                                            refine e_ret1 Try.results31 (.tmp rfl .nil) (fun w hm => ⟨?_, hm.since⟩)
                                            rw [has_eq c v]
                                            first
                                            | (rw [own_yes (by omega)]; rfl)
                                            | (rw [own_no (by omega), Bool.false_or, ← hphi.2, map_drop (i := k) (d := d0) (by omega), hasL_yes hE]; done)
                                            | (rw [own_no (by omega), Bool.false_or, ← hphi.2, List.drop_eq_nil_of_le (by simp; omega)]; rfl)
                                            )
                                      · skip
                                        have hE := h_98
                                        first
                                          | (exfalso; omega)
                                          | (
                                            refine c_cond_f rfl ?_
                                            refine c_skip ?_
                                            refine e_norm_block ?_
                                            refine e_next ?_
                                            refine c_region ?_
                                            refine r_val .none rfl (p_add rfl rfl (by omega)) ?_
                                            refine r_val .none rfl (p_move rfl) ?_
                                            refine r_nil ?_
                                            refine e_round (k + 1) ⟨⟨by omega, by rw [← hphi.2, map_drop (i := k) (d := d0) (by omega), hasL_no hE]⟩, by omega⟩ rfl ⟨rfl, rfl, rfl, rfl, trivial⟩ (.drop (.keep (fun _ _ h => h) (.nil)))
                                            )
                                      )
                                · skip
                                  first
                                    | (exfalso; omega)
                                    | (
                                      refine c_cond_f rfl ?_
                                      refine c_exit ?_
                                      refine e_exit_then ?_
                                      refine e_exit_then ?_
                                      refine e_exit_block ?_
                                      refine e_next ?_
                                      refine c_seq ?_
                                      refine c_region ?_
                                      refine r_val .none rfl (p_assign rfl) ?_
                                      refine r_nil ?_
                                      refine e_next ?_
                                      refine c_ret ?_
                                      refine e_ret1 Try.results31 (.tmp rfl .nil) (fun w hm => ⟨?_, hm.since⟩)
                                      rw [has_eq c v]
                                      first
                                      | (rw [own_yes (by omega)]; rfl)
                                      | (rw [own_no (by omega), Bool.false_or, ← hphi.2, map_drop (i := k) (d := d0) (by omega), hasL_yes hE]; done)
                                      | (rw [own_no (by omega), Bool.false_or, ← hphi.2, List.drop_eq_nil_of_le (by simp; omega)]; rfl)
                                      )
                                )
                          )
                    · skip
                      first
                        | (exfalso; omega)
                        | (
                          refine r_skip rfl (.no rfl rfl) ?_
                          refine r_skip rfl (.no rfl rfl) ?_
                          refine r_skip rfl (.no rfl rfl) ?_
                          refine r_skip rfl (.no rfl rfl) ?_
                          refine r_skip rfl (.no rfl rfl) ?_
                          refine r_skip rfl (.no rfl rfl) ?_
                          refine r_skip rfl (.no rfl rfl) ?_
                          refine r_val .none rfl (p_pick_f rfl rfl) ?_
                          refine r_nil ?_
                          refine e_next ?_
                          refine c_cond_f rfl ?_
                          refine c_skip ?_
                          refine e_norm_block ?_
                          refine e_next ?_
                          refine c_region ?_
                          refine r_val .none rfl (p_move rfl) ?_
                          refine r_val .none rfl (p_add rfl rfl (by omega)) ?_
                          refine r_val .none rfl (p_assign rfl) ?_
                          refine r_nil ?_
                          refine e_again ?_
                          refine l_round (n := 0) ?_
                          refine c_seq ?_
                          refine c_seq ?_
                          refine c_region ?_
                          refine r_val .none rfl (p_move rfl) ?_
                          refine r_val .none rfl (p_lt rfl rfl) ?_
                          refine r_say (d := 9) (v := Value.bool false) rfl ?_
                          refine r_nil ?_
                          refine e_next ?_
                          refine c_cond_f rfl ?_
                          refine c_exit ?_
                          refine e_exit_then ?_
                          refine e_exit_then ?_
                          refine e_exit_block ?_
                          refine e_next ?_
                          refine c_seq ?_
                          refine c_seq ?_
                          refine c_region ?_
                          refine r_val .none rfl (p_field Try.underlying38 rfl sz36 rfl) ?_
                          refine r_val .none rfl (p_ld (k := 0) Try.underlying36 rfl rfl rfl (by first | exact of_decide_eq_true rfl | omega) rfl) ?_
                          refine r_val .none rfl (p_leng Try.underlying36 rfl hr) ?_
                          have bd_99 := (hr).bound
                          refine r_val .none rfl (p_move rfl) ?_
                          refine r_nil ?_
                          refine e_next ?_
                          refine c_block ?_
                          refine c_name (d := 1) rfl (fun u_100 hu_100 => ?_)
                          refine c_name (d := 33) rfl (fun u_101 hu_101 => ?_)
                          refine c_name (d := 34) rfl (fun u_102 hu_102 => ?_)
                          refine c_nameL (k := 0) rfl (fun A_103 hA_103 => ?_)
                          refine c_loop (σ := Nat) (fun k => [(35, Value.int .i64 (k : Nat)), (1, u_100), (33, u_101), (34, u_102)]) (fun k => [A_103]) (fun _ => _) (fun k => k ≤ rs.length ∧ hasL ((rs.map Prod.fst).drop k) v = hasL c.subs v) (fun k => rs.length - k) (0) ⟨Nat.zero_le _, by rw [hl]; rfl⟩ rfl ⟨rfl, rfl, rfl, rfl, trivial⟩ (.keep (fun _ _ h => h) (.nil)) (fun k hphi => ?_)
                          subst hu_100
                          subst hu_101
                          subst hu_102
                          subst hA_103
                          refine c_seq ?_
                          refine c_region ?_
                          refine r_val .none rfl (p_lt rfl rfl) ?_
                          refine r_nil ?_
                          refine e_next ?_
                          refine c_seq ?_
                          refine c_splitd (d := 36) rfl (fun h_104 => ?_) (fun h_104 => ?_)
                          · skip
                            first
                              | (exfalso; omega)
                              | (
                                refine c_cond_t rfl ?_
                                refine c_skip ?_
                                refine e_next ?_
                                refine c_seq ?_
                                refine c_block ?_
                                refine c_seq ?_
                                refine c_region ?_
                                refine r_iaddr_g .none rfl Try.underlying36 sz38 rfl hr rfl (by first | exact of_decide_eq_true rfl | omega) (fun p_106 o_107 R_105 => ?_)
                                have hc_108 := hp _ (getD_mem (i := k) (d := d0) (by omega))
                                refine r_val .none rfl (p_ldga0 Try.underlying38 rfl sz38 rfl R_105 (by first | exact of_decide_eq_true rfl | omega) (rfl : _ = Value.agg #[_, _, _, _, _, _, _, _])) ?_
                                refine r_alloc .none rfl zr38 (IsRow.lit _) (fun b_9 => ?_)
                                refine r_stw (k := 0) .none sz38 rfl rfl (IsRow.lit _) (one_lit rfl (all_cons rfl (all_cons rfl (all_cons rfl (all_cons rfl (all_cons rfl (all_cons rfl (all_cons rfl (all_cons (hc_108).one rfl))))))))) rfl ?_
                                refine r_nil ?_
                                refine e_next ?_
                                refine c_seq ?_
                                refine c_region ?_
                                refine r_val .none rfl (p_ldw (k := 0) Try.underlying38 rfl sz38 rfl rfl (rfl : _ = Value.agg #[_, _, _, _, _, _, _, _])) ?_
                                refine r_val .none rfl (p_move rfl) ?_
                                refine r_call (vs := [_, _]) .none rfl cl31 rfl (fun w hw => ih (rs.getD k d0).1 _ _ _ w (size_at hl (by omega) hz) hc_108 hw) ?_
                                refine r_nil ?_
                                refine e_next ?_
                                refine c_split (d := 41) rfl (fun h_109 => ?_) (fun h_109 => ?_)
                                · skip
                                  have hE := h_109
                                  first
                                    | (exfalso; omega)
                                    | (
                                      refine c_cond_t rfl ?_
                                      refine c_seq ?_
                                      refine c_region ?_
                                      refine r_val .none rfl (p_assign rfl) ?_
                                      refine r_nil ?_
                                      refine e_next ?_
                                      refine c_ret ?_
                                      refine e_ret_block ?_
                                      refine e_ret_then ?_
                                      refine e_ret_then ?_
                                      refine e_ret_block ?_
                                      refine e_ret_then ?_
                                      refine e_ret1 Try.results31 (.tmp rfl .nil) (fun w hm => ⟨?_, hm.since⟩)
                                      rw [has_eq c v]
                                      first
                                      | (rw [own_yes (by omega)]; rfl)
                                      | (rw [own_no (by omega), Bool.false_or, ← hphi.2, map_drop (i := k) (d := d0) (by omega), hasL_yes hE]; done)
                                      | (rw [own_no (by omega), Bool.false_or, ← hphi.2, List.drop_eq_nil_of_le (by simp; omega)]; rfl)
                                      )
                                · skip
                                  have hE := h_109
                                  first
                                    | (exfalso; omega)
                                    | (
                                      refine c_cond_f rfl ?_
                                      refine c_skip ?_
                                      refine e_norm_block ?_
                                      refine e_next ?_
                                      refine c_region ?_
                                      refine r_val .none rfl (p_add rfl rfl (by omega)) ?_
                                      refine r_val .none rfl (p_move rfl) ?_
                                      refine r_nil ?_
                                      refine e_round (k + 1) ⟨⟨by omega, by rw [← hphi.2, map_drop (i := k) (d := d0) (by omega), hasL_no hE]⟩, by omega⟩ rfl ⟨rfl, rfl, rfl, rfl, trivial⟩ (.drop (.keep (fun _ _ h => h) (.nil)))
                                      )
                                )
                          · skip
                            first
                              | (exfalso; omega)
                              | (
                                refine c_cond_f rfl ?_
                                refine c_exit ?_
                                refine e_exit_then ?_
                                refine e_exit_then ?_
                                refine e_exit_block ?_
                                refine e_next ?_
                                refine c_seq ?_
                                refine c_region ?_
                                refine r_val .none rfl (p_assign rfl) ?_
                                refine r_nil ?_
                                refine e_next ?_
                                refine c_ret ?_
                                refine e_ret1 Try.results31 (.tmp rfl .nil) (fun w hm => ⟨?_, hm.since⟩)
                                rw [has_eq c v]
                                first
                                | (rw [own_yes (by omega)]; rfl)
                                | (rw [own_no (by omega), Bool.false_or, ← hphi.2, map_drop (i := k) (d := d0) (by omega), hasL_yes hE]; done)
                                | (rw [own_no (by omega), Bool.false_or, ← hphi.2, List.drop_eq_nil_of_le (by simp; omega)]; rfl)
                                )
                          )
                    )
              · skip
                first
                  | (exfalso; omega)
                  | (
                    refine r_skip rfl (.no rfl rfl) ?_
                    refine r_skip rfl (.no rfl rfl) ?_
                    refine r_skip rfl (.no rfl rfl) ?_
                    refine r_skip rfl (.no rfl rfl) ?_
                    refine r_skip rfl (.no rfl rfl) ?_
                    refine r_skip rfl (.no rfl rfl) ?_
                    refine r_val .none rfl (p_pick_f rfl rfl) ?_
                    refine r_val .none rfl (p_move rfl) ?_
                    refine r_skip rfl (.no rfl rfl) ?_
                    refine r_skip rfl (.no rfl rfl) ?_
                    refine r_skip rfl (.no rfl rfl) ?_
                    refine r_skip rfl (.no rfl rfl) ?_
                    refine r_skip rfl (.no rfl rfl) ?_
                    refine r_skip rfl (.no rfl rfl) ?_
                    refine r_skip rfl (.no rfl rfl) ?_
                    refine r_val .none rfl (p_pick_f rfl rfl) ?_
                    refine r_nil ?_
                    refine e_next ?_
                    refine c_cond_f rfl ?_
                    refine c_skip ?_
                    refine e_norm_block ?_
                    refine e_next ?_
                    refine c_region ?_
                    refine r_val .none rfl (p_move rfl) ?_
                    refine r_val .none rfl (p_add rfl rfl (by omega)) ?_
                    refine r_val .none rfl (p_assign rfl) ?_
                    refine r_nil ?_
                    refine e_again ?_
                    refine l_round (n := 0) ?_
                    refine c_seq ?_
                    refine c_seq ?_
                    refine c_region ?_
                    refine r_val .none rfl (p_move rfl) ?_
                    refine r_val .none rfl (p_lt rfl rfl) ?_
                    refine r_say (d := 9) (v := Value.bool false) rfl ?_
                    refine r_nil ?_
                    refine e_next ?_
                    refine c_cond_f rfl ?_
                    refine c_exit ?_
                    refine e_exit_then ?_
                    refine e_exit_then ?_
                    refine e_exit_block ?_
                    refine e_next ?_
                    refine c_seq ?_
                    refine c_seq ?_
                    refine c_region ?_
                    refine r_val .none rfl (p_field Try.underlying38 rfl sz36 rfl) ?_
                    refine r_val .none rfl (p_ld (k := 0) Try.underlying36 rfl rfl rfl (by first | exact of_decide_eq_true rfl | omega) rfl) ?_
                    refine r_val .none rfl (p_leng Try.underlying36 rfl hr) ?_
                    have bd_110 := (hr).bound
                    refine r_val .none rfl (p_move rfl) ?_
                    refine r_nil ?_
                    refine e_next ?_
                    refine c_block ?_
                    refine c_name (d := 1) rfl (fun u_111 hu_111 => ?_)
                    refine c_name (d := 33) rfl (fun u_112 hu_112 => ?_)
                    refine c_name (d := 34) rfl (fun u_113 hu_113 => ?_)
                    refine c_nameL (k := 0) rfl (fun A_114 hA_114 => ?_)
                    refine c_loop (σ := Nat) (fun k => [(35, Value.int .i64 (k : Nat)), (1, u_111), (33, u_112), (34, u_113)]) (fun k => [A_114]) (fun _ => _) (fun k => k ≤ rs.length ∧ hasL ((rs.map Prod.fst).drop k) v = hasL c.subs v) (fun k => rs.length - k) (0) ⟨Nat.zero_le _, by rw [hl]; rfl⟩ rfl ⟨rfl, rfl, rfl, rfl, trivial⟩ (.keep (fun _ _ h => h) (.nil)) (fun k hphi => ?_)
                    subst hu_111
                    subst hu_112
                    subst hu_113
                    subst hA_114
                    refine c_seq ?_
                    refine c_region ?_
                    refine r_val .none rfl (p_lt rfl rfl) ?_
                    refine r_nil ?_
                    refine e_next ?_
                    refine c_seq ?_
                    refine c_splitd (d := 36) rfl (fun h_115 => ?_) (fun h_115 => ?_)
                    · skip
                      first
                        | (exfalso; omega)
                        | (
                          refine c_cond_t rfl ?_
                          refine c_skip ?_
                          refine e_next ?_
                          refine c_seq ?_
                          refine c_block ?_
                          refine c_seq ?_
                          refine c_region ?_
                          refine r_iaddr_g .none rfl Try.underlying36 sz38 rfl hr rfl (by first | exact of_decide_eq_true rfl | omega) (fun p_117 o_118 R_116 => ?_)
                          have hc_119 := hp _ (getD_mem (i := k) (d := d0) (by omega))
                          refine r_val .none rfl (p_ldga0 Try.underlying38 rfl sz38 rfl R_116 (by first | exact of_decide_eq_true rfl | omega) (rfl : _ = Value.agg #[_, _, _, _, _, _, _, _])) ?_
                          refine r_alloc .none rfl zr38 (IsRow.lit _) (fun b_10 => ?_)
                          refine r_stw (k := 0) .none sz38 rfl rfl (IsRow.lit _) (one_lit rfl (all_cons rfl (all_cons rfl (all_cons rfl (all_cons rfl (all_cons rfl (all_cons rfl (all_cons rfl (all_cons (hc_119).one rfl))))))))) rfl ?_
                          refine r_nil ?_
                          refine e_next ?_
                          refine c_seq ?_
                          refine c_region ?_
                          refine r_val .none rfl (p_ldw (k := 0) Try.underlying38 rfl sz38 rfl rfl (rfl : _ = Value.agg #[_, _, _, _, _, _, _, _])) ?_
                          refine r_val .none rfl (p_move rfl) ?_
                          refine r_call (vs := [_, _]) .none rfl cl31 rfl (fun w hw => ih (rs.getD k d0).1 _ _ _ w (size_at hl (by omega) hz) hc_119 hw) ?_
                          refine r_nil ?_
                          refine e_next ?_
                          refine c_split (d := 41) rfl (fun h_120 => ?_) (fun h_120 => ?_)
                          · skip
                            have hE := h_120
                            first
                              | (exfalso; omega)
                              | (
                                refine c_cond_t rfl ?_
                                refine c_seq ?_
                                refine c_region ?_
                                refine r_val .none rfl (p_assign rfl) ?_
                                refine r_nil ?_
                                refine e_next ?_
                                refine c_ret ?_
                                refine e_ret_block ?_
                                refine e_ret_then ?_
                                refine e_ret_then ?_
                                refine e_ret_block ?_
                                refine e_ret_then ?_
                                refine e_ret1 Try.results31 (.tmp rfl .nil) (fun w hm => ⟨?_, hm.since⟩)
                                rw [has_eq c v]
                                first
                                | (rw [own_yes (by omega)]; rfl)
                                | (rw [own_no (by omega), Bool.false_or, ← hphi.2, map_drop (i := k) (d := d0) (by omega), hasL_yes hE]; done)
                                | (rw [own_no (by omega), Bool.false_or, ← hphi.2, List.drop_eq_nil_of_le (by simp; omega)]; rfl)
                                )
                          · skip
                            have hE := h_120
                            first
                              | (exfalso; omega)
                              | (
                                refine c_cond_f rfl ?_
                                refine c_skip ?_
                                refine e_norm_block ?_
                                refine e_next ?_
                                refine c_region ?_
                                refine r_val .none rfl (p_add rfl rfl (by omega)) ?_
                                refine r_val .none rfl (p_move rfl) ?_
                                refine r_nil ?_
                                refine e_round (k + 1) ⟨⟨by omega, by rw [← hphi.2, map_drop (i := k) (d := d0) (by omega), hasL_no hE]⟩, by omega⟩ rfl ⟨rfl, rfl, rfl, rfl, trivial⟩ (.drop (.keep (fun _ _ h => h) (.nil)))
                                )
                          )
                    · skip
                      first
                        | (exfalso; omega)
                        | (
                          refine c_cond_f rfl ?_
                          refine c_exit ?_
                          refine e_exit_then ?_
                          refine e_exit_then ?_
                          refine e_exit_block ?_
                          refine e_next ?_
                          refine c_seq ?_
                          refine c_region ?_
                          refine r_val .none rfl (p_assign rfl) ?_
                          refine r_nil ?_
                          refine e_next ?_
                          refine c_ret ?_
                          refine e_ret1 Try.results31 (.tmp rfl .nil) (fun w hm => ⟨?_, hm.since⟩)
                          rw [has_eq c v]
                          first
                          | (rw [own_yes (by omega)]; rfl)
                          | (rw [own_no (by omega), Bool.false_or, ← hphi.2, map_drop (i := k) (d := d0) (by omega), hasL_yes hE]; done)
                          | (rw [own_no (by omega), Bool.false_or, ← hphi.2, List.drop_eq_nil_of_le (by simp; omega)]; rfl)
                          )
                    )
              )
        )
theorem c_rhas_n : ∀ n, RhasIs n
  | 0 => fun c sv v G w hz hs hG => absurd hz (by have := size_subs c; omega)
  | n + 1 => fun c sv v G w hz hs hG => c_rhas_s n (c_rhas_n n) c sv v hz hs w hG
theorem c_rhas (c : CT) (sv : Value) (v : Nat) {G : Ghost} (hs : Rs G sv c.subs) (w : World) (hG : Has G w) : Calls Try.prog 31 #[Value.agg #[Value.int .i64 c.h.k, Value.int .i64 (vi c.h.v0), Value.int .i64 c.h.n0, Value.int .i64 (vi c.h.v1), Value.int .i64 c.h.n1, Value.int .i64 (vi c.h.v2), Value.int .i64 c.h.n2, sv], Value.int .i64 (v : Nat)] w (Ret fun r w' => r = Value.bool (has c v) ∧ Since nX w w') := c_rhas_n _ c sv v G w (Nat.le_refl _) hs hG
theorem c_rsize_s (n : Nat) (ih : RsizeIs n) (c : CT) (sv : Value)  {G : Ghost} (hz : SizeOf.sizeOf c ≤ n + 1) (hsz : size c ≤ 1000) (hs : Rs G sv c.subs) (w : World) (hG : Has G w) :
    Calls Try.prog 33 #[Value.agg #[Value.int .i64 c.h.k, Value.int .i64 (vi c.h.v0), Value.int .i64 c.h.n0, Value.int .i64 (vi c.h.v1), Value.int .i64 c.h.n1, Value.int .i64 (vi c.h.v2), Value.int .i64 c.h.n2, sv]] w (Ret fun r w' => r = Value.int .i64 (size c : Nat) ∧ Since nX w w') := by
  refine enter (args := [_]) (X := nX) (G := G) (l := [(0, Value.agg #[Value.int .i64 c.h.k, Value.int .i64 (vi c.h.v0), Value.int .i64 c.h.n0, Value.int .i64 (vi c.h.v1), Value.int .i64 c.h.n1, Value.int .i64 (vi c.h.v2), Value.int .i64 c.h.n2, sv])]) Try.func33 rfl Try.ntmps33 hG ⟨rfl, trivial⟩ (Nat.le_of_ble_eq_true rfl) ?_
  obtain ⟨rs, hr, hp, hl⟩ := hs.inv
  have hlen : c.subs.length = rs.length := by rw [hl]; simp
  have hbd := hr.bound
  refine c_seq ?_
  refine c_region ?_
  refine r_box .none rfl rfl (IsRow.lit _) (fun b_1 => ?_)
  refine r_val .none rfl (p_assign rfl) ?_
  refine r_nil ?_
  refine e_next ?_
  refine c_seq ?_
  refine c_region ?_
  refine r_val .none rfl (p_assign rfl) ?_
  refine r_nil ?_
  refine e_next ?_
  refine c_seq ?_
  refine c_seq ?_
  refine c_region ?_
  refine r_val .none rfl (p_field Try.underlying38 rfl sz36 rfl) ?_
  refine r_val .none rfl (p_ld (k := 0) Try.underlying36 rfl rfl rfl (by first | exact of_decide_eq_true rfl | omega) rfl) ?_
  refine r_val .none rfl (p_leng Try.underlying36 rfl hr) ?_
  have bd_1 := (hr).bound
  refine r_val .none rfl (p_move rfl) ?_
  refine r_nil ?_
  refine e_next ?_
  refine c_block ?_
  refine c_name (d := 2) rfl (fun u_2 hu_2 => ?_)
  refine c_name (d := 7) rfl (fun u_3 hu_3 => ?_)
  refine c_name (d := 8) rfl (fun u_4 hu_4 => ?_)
  refine c_nameL (k := 0) rfl (fun A_5 hA_5 => ?_)
  refine c_loop (σ := Nat) (fun k => [(9, Value.int .i64 (k : Nat)), (3, Value.int .i64 (1 + sizeL ((rs.map Prod.fst).take k) : Nat)), (2, u_2), (7, u_3), (8, u_4)]) (fun k => [A_5]) (fun _ => _) (fun k => k ≤ rs.length) (fun k => rs.length - k) (0) (by omega) rfl ⟨rfl, rfl, rfl, rfl, rfl, trivial⟩ (.keep (fun _ _ h => h) (.nil)) (fun k hphi => ?_)
  subst hu_2
  subst hu_3
  subst hu_4
  subst hA_5
  refine c_seq ?_
  refine c_region ?_
  refine r_val .none rfl (p_lt rfl rfl) ?_
  refine r_nil ?_
  refine e_next ?_
  refine c_seq ?_
  refine c_splitd (d := 10) rfl (fun h_6 => ?_) (fun h_6 => ?_)
  · skip
    first
      | (exfalso; omega)
      | (
        refine c_cond_t rfl ?_
        refine c_skip ?_
        refine e_next ?_
        refine c_seq ?_
        refine c_block ?_
        refine c_seq ?_
        refine c_region ?_
        refine r_iaddr_g .none rfl Try.underlying36 sz38 rfl hr rfl (by first | exact of_decide_eq_true rfl | omega) (fun p_8 o_9 R_7 => ?_)
        have hc_10 := hp _ (getD_mem (i := k) (d := d0) (by omega))
        have hz3 := size_child (i := k) hl (by omega) hsz
        refine r_val .none rfl (p_ldga0 Try.underlying38 rfl sz38 rfl R_7 (by first | exact of_decide_eq_true rfl | omega) (rfl : _ = Value.agg #[_, _, _, _, _, _, _, _])) ?_
        refine r_alloc .none rfl zr38 (IsRow.lit _) (fun b_2 => ?_)
        refine r_stw (k := 0) .none sz38 rfl rfl (IsRow.lit _) (one_lit rfl (all_cons rfl (all_cons rfl (all_cons rfl (all_cons rfl (all_cons rfl (all_cons rfl (all_cons rfl (all_cons (hc_10).one rfl))))))))) rfl ?_
        refine r_nil ?_
        refine e_next ?_
        refine c_region ?_
        refine r_val .none rfl (p_move rfl) ?_
        refine r_val .none rfl (p_ldw (k := 0) Try.underlying38 rfl sz38 rfl rfl (rfl : _ = Value.agg #[_, _, _, _, _, _, _, _])) ?_
        refine r_call (vs := [_]) .none rfl cl33 rfl (fun w hw => ih (rs.getD k d0).1 _ _ w (size_at hl (by omega) hz) hz3 hc_10 hw) ?_
        refine r_val .none rfl (p_add rfl rfl (by have h1 := sizeL_take_le (rs.map Prod.fst) k; have h2 := size_eq c; rw [hl] at h2; omega)) ?_
        refine r_val .none rfl (p_assign rfl) ?_
        refine r_nil ?_
        refine e_norm_block ?_
        refine e_next ?_
        refine c_region ?_
        refine r_val .none rfl (p_add rfl rfl (by omega)) ?_
        refine r_val .none rfl (p_move rfl) ?_
        refine r_nil ?_
        refine e_round (k + 1) ⟨by omega, by omega⟩ rfl ⟨rfl, (congrArg (fun z => some (Value.int .i64 z)) (by rw [sizeL_take (by omega)]; omega)), rfl, rfl, rfl, trivial⟩ (.drop (.keep (fun _ _ h => h) (.nil)))
        )
  · skip
    first
      | (exfalso; omega)
      | (
        refine c_cond_f rfl ?_
        refine c_exit ?_
        refine e_exit_then ?_
        refine e_exit_then ?_
        refine e_exit_block ?_
        refine e_next ?_
        refine c_seq ?_
        refine c_region ?_
        refine r_val .none rfl (p_move rfl) ?_
        refine r_val .none rfl (p_assign rfl) ?_
        refine r_nil ?_
        refine e_next ?_
        refine c_ret ?_
        refine e_ret1 Try.results33 (.tmp rfl .nil) (fun w hm => ⟨?_, hm.since⟩)
        have hk : k = rs.length := by omega
        subst hk
        rw [size_eq, hl, List.take_of_length_le (by simp)]
        )
theorem c_rsize_n : ∀ n, RsizeIs n
  | 0 => fun c sv G w hz hsz hs hG => absurd hz (by have := size_subs c; omega)
  | n + 1 => fun c sv G w hz hsz hs hG => c_rsize_s n (c_rsize_n n) c sv hz hsz hs w hG
theorem c_rsize (c : CT) (sv : Value) {G : Ghost} (hsz : size c ≤ 1000) (hs : Rs G sv c.subs) (w : World) (hG : Has G w) : Calls Try.prog 33 #[Value.agg #[Value.int .i64 c.h.k, Value.int .i64 (vi c.h.v0), Value.int .i64 c.h.n0, Value.int .i64 (vi c.h.v1), Value.int .i64 c.h.n1, Value.int .i64 (vi c.h.v2), Value.int .i64 c.h.n2, sv]] w (Ret fun r w' => r = Value.int .i64 (size c : Nat) ∧ Since nX w w') := c_rsize_n _ c sv G w (Nat.le_refl _) hsz hs hG
end Go.Proofs.Ytpcpbfajadgmpaa
