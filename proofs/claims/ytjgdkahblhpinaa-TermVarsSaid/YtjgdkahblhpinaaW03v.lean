/- Walks: what Go functions of this chapter come to, each as a function on plain data; no condition but those that each theorem names. Printed by a program of this work (gen.py). -/
import Derived.Test.YtjgdkahblhpinaaPl03v
import Derived.Test.YtjgdkahblhpinaaW03
import Derived.Test.YtjgdkahblhpinaaShelf1
import Derived.Test.YtjgdkahblhpinaaRows
namespace Go.Proofs.Ytjgdkahblhpinaa
open Go.Gx Go.Gx.T3
theorem cl38 : Callable Try.prog 38 := callable Try.func38 (by kernel_rfl) rfl
theorem cl40 : Callable Try.prog 40 := callable Try.func40 (by kernel_rfl) rfl
theorem cl41 : Callable Try.prog 41 := callable Try.func41 (by kernel_rfl) rfl
theorem bs3_10i2 (a0 : IntKind) (a1 : Int) : Instr.fill (fun i => some (i * 1, 1)) ((Array.range (1 * 1)).map ((Value.int .i64 0).cells[· % (Value.int .i64 0).cells.size]!)) [(0, Value.int a0 a1)] = some #[Value.int a0 a1] := by
  kernel_rfl
theorem el3 : ElemIs Try.prog 3 1 8 (Value.int .i64 0) := by
  unfold ElemIs
  kernel_rfl
theorem sortC : SortC Try.prog 40 := fun b o c zs w h1 h2 h3 => Try.slices_Sort_int b o c zs w h1 h2 h3
theorem sortN : SortN Try.prog 40 := fun p c w => Try.slices_Sort_int_none p c w
theorem compC : CompC Try.prog 41 := fun b o c zs w h1 h2 h3 => Try.slices_Compact_int b o c zs w h1 h2 h3
theorem compN : CompN Try.prog 41 := fun a c w => Try.slices_Compact_int_empty a c w
theorem c_vars (v0 : Bool) (n0 : Int) (v1 : Bool) (n1 : Int) (v2 : Bool) (n2 : Int) {G : Ghost}  (w : World) (hG : Has G w) :
    Calls Try.prog 38 #[Value.agg #[Value.bool v0, Value.int .i64 n0, Value.bool v1, Value.int .i64 n1, Value.bool v2, Value.int .i64 n2]] w (Ret fun r w' => ∃ G', GNew w nX G G' ∧ Has G' w' ∧ SlL G' r 1 cI 0 (vars v0 n0 v1 n1 v2 n2) ∧ Since nX w w') := by
  refine enter (args := [_]) (X := nX) (G := G) (l := [(0, Value.agg #[Value.bool v0, Value.int .i64 n0, Value.bool v1, Value.int .i64 n1, Value.bool v2, Value.int .i64 n2])]) Try.func38 rfl Try.ntmps38 hG ⟨rfl, trivial⟩ (Nat.le_of_ble_eq_true rfl) ?_
  refine c_seq ?_
  refine c_region ?_
  refine r_box .none rfl rfl (IsRow.lit _) (fun b_1 => ?_)
  refine r_val .none rfl (p_assign rfl) ?_
  refine r_nil ?_
  refine e_next ?_
  refine c_seq ?_
  refine c_region ?_
  refine r_val .none rfl (p_assign rfl) ?_
  refine r_nil ?_
  refine e_next ?_
  refine c_seq ?_
  refine c_seq ?_
  refine c_region ?_
  refine r_val .none rfl (p_ldw (k := 0) Try.underlying24 rfl sz24 rfl rfl (rfl : _ = Value.agg #[_, _, _, _, _, _])) ?_
  refine r_val .none rfl (p_move rfl) ?_
  refine r_nil ?_
  refine e_next ?_
  refine c_block ?_
  refine c_nilrow 3 1 ?_
  refine c_name (d := 2) rfl (fun u_1 hu_1 => ?_)
  refine c_name (d := 6) rfl (fun u_2 hu_2 => ?_)
  refine c_nameL (k := 1) rfl (fun A_3 hA_3 => ?_)
  refine c_loop (σ := Nat × Value) (fun s => [(7, Value.int .i64 (s.1 : Nat)), (3, s.2), (2, u_1), (6, u_2)]) (fun s => [rowA (s.2) 3 1 (vsTo v0 n0 v1 n1 v2 n2 s.1).length ((vsTo v0 n0 v1 n1 v2 n2 s.1).flatMap cI), A_3]) (fun _ => _) (fun s => s.1 ≤ 3) (fun s => 3 - s.1) ((0, _)) (by omega) rfl ⟨rfl, rfl, rfl, rfl, trivial⟩ (.keep (fun _ _ h => rowA_nil rfl _ _ h) (.keep (fun _ _ h => h) (.nil))) (fun s hphi => ?_)
  subst hu_1
  subst hu_2
  subst hA_3
  obtain ⟨k, v⟩ := s
  dsimp only at hphi ⊢
  obtain rfl | rfl | rfl | rfl : k = 0 ∨ k = 1 ∨ k = 2 ∨ k = 3 := by omega
  · skip
    refine c_seq ?_
    refine c_region ?_
    refine r_val .none rfl (p_lt rfl rfl) ?_
    refine r_say (d := 8) (v := Value.bool true) rfl ?_
    refine r_nil ?_
    refine e_next ?_
    refine c_seq ?_
    refine c_cond_t rfl ?_
    refine c_skip ?_
    refine e_next ?_
    refine c_seq ?_
    refine c_block ?_
    refine c_seq ?_
    refine c_region ?_
    refine r_val .none rfl (p_indexa (k := 0) Try.underlying24 Try.underlying23 rfl sz23 rfl (IsRow.lit _) rfl rfl (by first | exact of_decide_eq_true rfl | omega) (rfl : _ = Value.agg #[_, _])) ?_
    refine r_alloc .none rfl zr23 (IsRow.lit _) (fun b_2 => ?_)
    refine r_stw (k := 0) .none sz23 rfl rfl (IsRow.lit _) (one_lit rfl rfl) rfl ?_
    refine r_nil ?_
    refine e_next ?_
    refine c_seq ?_
    refine c_region ?_
    refine r_val .none rfl (p_field Try.underlying23 rfl sz4 rfl) ?_
    refine r_val .none rfl (p_ld (k := 0) Try.underlying4 rfl rfl rfl (by first | exact of_decide_eq_true rfl | omega) (rfl : _ = Value.bool _)) ?_
    refine r_nil ?_
    refine e_next ?_
    refine c_split (d := 11) rfl (fun h_4 => ?_) (fun h_4 => ?_)
    · skip
      first
        | (exfalso; omega)
        | (
          refine c_cond_t rfl ?_
          refine c_region ?_
          refine r_val .none rfl (p_move rfl) ?_
          refine r_val .none rfl (p_field Try.underlying23 rfl sz3 rfl) ?_
          refine r_val .none rfl (p_ld (k := 0) Try.underlying3 rfl rfl rfl (by first | exact of_decide_eq_true rfl | omega) (rfl : _ = Value.int _ _)) ?_
          refine r_bslice (vs := [(0, Value.int _ _)]) (c := #[_]) .none rfl Try.underlying72 el3 rfl rfl rfl (bs3_10i2 _ _) (IsRow.lit _) (fun b_3 => ?_)
          refine r_append (k := 2) (k2 := 0) .none rfl Try.underlying72 el3 rfl (by decide) rfl rfl rfl rfl rfl (one_lit rfl rfl) (by have := @vs_len v0 n0 v1 n1 v2 n2; simp only [maxLen]; have h1 := this 0; have h2 := this 1; have h3 := this 2; omega) (by have := @vs_len v0 n0 v1 n1 v2 n2; have h1 := this 0; have h2 := this 1; have h3 := this 2; omega) (fun v_5 => ?_)
          refine r_row1 (k := 2) rfl (fun o_6 => ?_)
          refine r_val .none rfl (p_assign rfl) ?_
          refine r_nil ?_
          refine e_norm_block ?_
          refine e_next ?_
          refine c_region ?_
          refine r_val .none rfl (p_add rfl rfl (by omega)) ?_
          refine r_val .none rfl (p_move rfl) ?_
          refine r_nil ?_
          refine e_round ((1, _)) ⟨Nat.le_of_ble_eq_true rfl, Nat.le_of_ble_eq_true rfl⟩ rfl ⟨rfl, rfl, rfl, rfl, trivial⟩ (.drop (.drop (.keep (fun _ _ h => rowA_snoc (vs_yes (k := 0) (show selB v0 v1 v2 0 = true from ‹v0 = true›)) rfl rfl rfl _ _ h) (.keep (fun _ _ h => h) (.nil)))))
          )
    · skip
      first
        | (exfalso; omega)
        | (
          refine c_cond_f rfl ?_
          refine c_skip ?_
          refine e_norm_block ?_
          refine e_next ?_
          refine c_region ?_
          refine r_val .none rfl (p_add rfl rfl (by omega)) ?_
          refine r_val .none rfl (p_move rfl) ?_
          refine r_nil ?_
          refine e_round ((1, _)) ⟨Nat.le_of_ble_eq_true rfl, Nat.le_of_ble_eq_true rfl⟩ rfl ⟨rfl, rfl, rfl, rfl, trivial⟩ (.drop (.keep (fun _ _ h => rowA_same (vs_no (k := 0) (show selB v0 v1 v2 0 = false from ‹v0 = false›)) _ _ h) (.keep (fun _ _ h => h) (.nil))))
          )
  · skip
    refine c_seq ?_
    refine c_region ?_
    refine r_val .none rfl (p_lt rfl rfl) ?_
    refine r_say (d := 8) (v := Value.bool true) rfl ?_
    refine r_nil ?_
    refine e_next ?_
    refine c_seq ?_
    refine c_cond_t rfl ?_
    refine c_skip ?_
    refine e_next ?_
    refine c_seq ?_
    refine c_block ?_
    refine c_seq ?_
    refine c_region ?_
    refine r_val .none rfl (p_indexa (k := 1) Try.underlying24 Try.underlying23 rfl sz23 rfl (IsRow.lit _) rfl rfl (by first | exact of_decide_eq_true rfl | omega) (rfl : _ = Value.agg #[_, _])) ?_
    refine r_alloc .none rfl zr23 (IsRow.lit _) (fun b_4 => ?_)
    refine r_stw (k := 0) .none sz23 rfl rfl (IsRow.lit _) (one_lit rfl rfl) rfl ?_
    refine r_nil ?_
    refine e_next ?_
    refine c_seq ?_
    refine c_region ?_
    refine r_val .none rfl (p_field Try.underlying23 rfl sz4 rfl) ?_
    refine r_val .none rfl (p_ld (k := 0) Try.underlying4 rfl rfl rfl (by first | exact of_decide_eq_true rfl | omega) (rfl : _ = Value.bool _)) ?_
    refine r_nil ?_
    refine e_next ?_
    refine c_split (d := 11) rfl (fun h_7 => ?_) (fun h_7 => ?_)
    · skip
      first
        | (exfalso; omega)
        | (
          refine c_cond_t rfl ?_
          refine c_region ?_
          refine r_val .none rfl (p_move rfl) ?_
          refine r_val .none rfl (p_field Try.underlying23 rfl sz3 rfl) ?_
          refine r_val .none rfl (p_ld (k := 0) Try.underlying3 rfl rfl rfl (by first | exact of_decide_eq_true rfl | omega) (rfl : _ = Value.int _ _)) ?_
          refine r_bslice (vs := [(0, Value.int _ _)]) (c := #[_]) .none rfl Try.underlying72 el3 rfl rfl rfl (bs3_10i2 _ _) (IsRow.lit _) (fun b_5 => ?_)
          refine r_append (k := 2) (k2 := 0) .none rfl Try.underlying72 el3 rfl (by decide) rfl rfl rfl rfl rfl (one_lit rfl rfl) (by have := @vs_len v0 n0 v1 n1 v2 n2; simp only [maxLen]; have h1 := this 0; have h2 := this 1; have h3 := this 2; omega) (by have := @vs_len v0 n0 v1 n1 v2 n2; have h1 := this 0; have h2 := this 1; have h3 := this 2; omega) (fun v_8 => ?_)
          refine r_row1 (k := 2) rfl (fun o_9 => ?_)
          refine r_val .none rfl (p_assign rfl) ?_
          refine r_nil ?_
          refine e_norm_block ?_
          refine e_next ?_
          refine c_region ?_
          refine r_val .none rfl (p_add rfl rfl (by omega)) ?_
          refine r_val .none rfl (p_move rfl) ?_
          refine r_nil ?_
          refine e_round ((2, _)) ⟨Nat.le_of_ble_eq_true rfl, Nat.le_of_ble_eq_true rfl⟩ rfl ⟨rfl, rfl, rfl, rfl, trivial⟩ (.drop (.drop (.keep (fun _ _ h => rowA_snoc (vs_yes (k := 1) (show selB v0 v1 v2 1 = true from ‹v1 = true›)) rfl rfl rfl _ _ h) (.keep (fun _ _ h => h) (.nil)))))
          )
    · skip
      first
        | (exfalso; omega)
        | (
          refine c_cond_f rfl ?_
          refine c_skip ?_
          refine e_norm_block ?_
          refine e_next ?_
          refine c_region ?_
          refine r_val .none rfl (p_add rfl rfl (by omega)) ?_
          refine r_val .none rfl (p_move rfl) ?_
          refine r_nil ?_
          refine e_round ((2, _)) ⟨Nat.le_of_ble_eq_true rfl, Nat.le_of_ble_eq_true rfl⟩ rfl ⟨rfl, rfl, rfl, rfl, trivial⟩ (.drop (.keep (fun _ _ h => rowA_same (vs_no (k := 1) (show selB v0 v1 v2 1 = false from ‹v1 = false›)) _ _ h) (.keep (fun _ _ h => h) (.nil))))
          )
  · skip
    refine c_seq ?_
    refine c_region ?_
    refine r_val .none rfl (p_lt rfl rfl) ?_
    refine r_say (d := 8) (v := Value.bool true) rfl ?_
    refine r_nil ?_
    refine e_next ?_
    refine c_seq ?_
    refine c_cond_t rfl ?_
    refine c_skip ?_
    refine e_next ?_
    refine c_seq ?_
    refine c_block ?_
    refine c_seq ?_
    refine c_region ?_
    refine r_val .none rfl (p_indexa (k := 2) Try.underlying24 Try.underlying23 rfl sz23 rfl (IsRow.lit _) rfl rfl (by first | exact of_decide_eq_true rfl | omega) (rfl : _ = Value.agg #[_, _])) ?_
    refine r_alloc .none rfl zr23 (IsRow.lit _) (fun b_6 => ?_)
    refine r_stw (k := 0) .none sz23 rfl rfl (IsRow.lit _) (one_lit rfl rfl) rfl ?_
    refine r_nil ?_
    refine e_next ?_
    refine c_seq ?_
    refine c_region ?_
    refine r_val .none rfl (p_field Try.underlying23 rfl sz4 rfl) ?_
    refine r_val .none rfl (p_ld (k := 0) Try.underlying4 rfl rfl rfl (by first | exact of_decide_eq_true rfl | omega) (rfl : _ = Value.bool _)) ?_
    refine r_nil ?_
    refine e_next ?_
    refine c_split (d := 11) rfl (fun h_10 => ?_) (fun h_10 => ?_)
    · skip
      first
        | (exfalso; omega)
        | (
          refine c_cond_t rfl ?_
          refine c_region ?_
          refine r_val .none rfl (p_move rfl) ?_
          refine r_val .none rfl (p_field Try.underlying23 rfl sz3 rfl) ?_
          refine r_val .none rfl (p_ld (k := 0) Try.underlying3 rfl rfl rfl (by first | exact of_decide_eq_true rfl | omega) (rfl : _ = Value.int _ _)) ?_
          refine r_bslice (vs := [(0, Value.int _ _)]) (c := #[_]) .none rfl Try.underlying72 el3 rfl rfl rfl (bs3_10i2 _ _) (IsRow.lit _) (fun b_7 => ?_)
          refine r_append (k := 2) (k2 := 0) .none rfl Try.underlying72 el3 rfl (by decide) rfl rfl rfl rfl rfl (one_lit rfl rfl) (by have := @vs_len v0 n0 v1 n1 v2 n2; simp only [maxLen]; have h1 := this 0; have h2 := this 1; have h3 := this 2; omega) (by have := @vs_len v0 n0 v1 n1 v2 n2; have h1 := this 0; have h2 := this 1; have h3 := this 2; omega) (fun v_11 => ?_)
          refine r_row1 (k := 2) rfl (fun o_12 => ?_)
          refine r_val .none rfl (p_assign rfl) ?_
          refine r_nil ?_
          refine e_norm_block ?_
          refine e_next ?_
          refine c_region ?_
          refine r_val .none rfl (p_add rfl rfl (by omega)) ?_
          refine r_val .none rfl (p_move rfl) ?_
          refine r_nil ?_
          refine e_round ((3, _)) ⟨Nat.le_of_ble_eq_true rfl, Nat.le_of_ble_eq_true rfl⟩ rfl ⟨rfl, rfl, rfl, rfl, trivial⟩ (.drop (.drop (.keep (fun _ _ h => rowA_snoc (vs_yes (k := 2) (show selB v0 v1 v2 2 = true from ‹v2 = true›)) rfl rfl rfl _ _ h) (.keep (fun _ _ h => h) (.nil)))))
          )
    · skip
      first
        | (exfalso; omega)
        | (
          refine c_cond_f rfl ?_
          refine c_skip ?_
          refine e_norm_block ?_
          refine e_next ?_
          refine c_region ?_
          refine r_val .none rfl (p_add rfl rfl (by omega)) ?_
          refine r_val .none rfl (p_move rfl) ?_
          refine r_nil ?_
          refine e_round ((3, _)) ⟨Nat.le_of_ble_eq_true rfl, Nat.le_of_ble_eq_true rfl⟩ rfl ⟨rfl, rfl, rfl, rfl, trivial⟩ (.drop (.keep (fun _ _ h => rowA_same (vs_no (k := 2) (show selB v0 v1 v2 2 = false from ‹v2 = false›)) _ _ h) (.keep (fun _ _ h => h) (.nil))))
          )
  · skip
    refine c_seq ?_
    refine c_region ?_
    refine r_val .none rfl (p_lt rfl rfl) ?_
    refine r_say (d := 8) (v := Value.bool false) rfl ?_
    refine r_nil ?_
    refine e_next ?_
    refine c_seq ?_
    refine c_cond_f rfl ?_
    refine c_exit ?_
    refine e_exit_then ?_
    refine e_exit_then ?_
    refine e_exit_block ?_
    refine e_next ?_
    refine c_seq ?_
    refine c_region ?_
    refine r_val .none rfl (p_move rfl) ?_
    refine r_sort (k := 0) (zs := _) .none rfl cl40 rfl rfl sortC sortN (by have := @vs_len v0 n0 v1 n1 v2 n2 3; omega) ?_
    refine r_nil ?_
    refine e_next ?_
    refine c_seq ?_
    refine c_region ?_
    refine r_val .none rfl (p_move rfl) ?_
    refine r_compact (k := 0) .none rfl cl41 rfl rfl compC compN (compact_le _) (fun v_13 => ?_)
    refine r_val .none rfl (p_assign rfl) ?_
    refine r_nil ?_
    refine e_next ?_
    refine c_ret ?_
    refine e_freeze (k := 0) rfl (fun G_14 hn_15 hs_16 => ?_)
    refine e_ret1 Try.results38 (.tmp rfl .nil) (fun w hm => ⟨_, hn_15, hm.has, ?_, hm.since⟩)
    exact SlL.of (0 : Int) (fun _ => rfl) rfl hs_16
theorem c_TermVars (v0 : Bool) (n0 : Int) (v1 : Bool) (n1 : Int) (v2 : Bool) (n2 : Int)  (w : World)  :
    Calls Try.prog 12 #[Value.agg #[Value.bool v0, Value.int .i64 n0, Value.bool v1, Value.int .i64 n1, Value.bool v2, Value.int .i64 n2]] w (Ret fun r w' => r = Value.bool true ∧ Since nX w w') := by
  refine enter (args := [_]) (X := nX) (G := (fun _ => none)) (l := [(0, Value.agg #[Value.bool v0, Value.int .i64 n0, Value.bool v1, Value.int .i64 n1, Value.bool v2, Value.int .i64 n2])]) Try.func12 rfl Try.ntmps12 (fun _ _ h => by cases h) ⟨rfl, trivial⟩ (Nat.le_of_ble_eq_true rfl) ?_
  refine c_seq ?_
  refine c_region ?_
  refine r_box .none rfl rfl (IsRow.lit _) (fun b_1 => ?_)
  refine r_val .none rfl (p_assign rfl) ?_
  refine r_nil ?_
  refine e_next ?_
  refine c_seq ?_
  refine c_seq ?_
  refine c_region ?_
  refine r_val .none rfl (p_ldw (k := 0) Try.underlying24 rfl sz24 rfl rfl (rfl : _ = Value.agg #[_, _, _, _, _, _])) ?_
  refine r_call (vs := [_]) .none rfl cl13 rfl (fun w hw => c_fine _ _ _ _ _ _ w) ?_
  refine r_val .none rfl (p_not rfl) ?_
  refine r_nil ?_
  refine e_next ?_
  refine c_splitn (d := 11) rfl (fun h_1 => ?_) (fun h_1 => ?_)
  · skip
    first
      | (exfalso; omega)
      | (
        refine c_cond_t rfl ?_
        refine c_seq ?_
        refine c_region ?_
        refine r_call (vs := []) .none rfl cl15 rfl (fun w hw => c_awake3  w) ?_
        refine r_val .none rfl (p_assign rfl) ?_
        refine r_nil ?_
        refine e_next ?_
        refine c_ret ?_
        refine e_ret_then ?_
        refine e_ret1 Try.results12 (.tmp rfl .nil) (fun w hm => ⟨?_, hm.since⟩)
        first
        | rfl
        | (exfalso; obtain ⟨ha, hb⟩ := vars_at (by assumption); rcases hC with h | h; omega; exact h hb; done)
        | (rw [vars_end (by assumption) (by omega)]; simp; done)
        )
  · skip
    first
      | (exfalso; omega)
      | (
        refine c_cond_f rfl ?_
        refine c_skip ?_
        refine e_next ?_
        refine c_seq ?_
        refine c_region ?_
        refine r_val .none rfl (p_ldw (k := 0) Try.underlying24 rfl sz24 rfl rfl (rfl : _ = Value.agg #[_, _, _, _, _, _])) ?_
        refine r_callm (vs := [_]) .none rfl cl38 rfl (fun w hw => c_vars _ _ _ _ _ _ w hw) (fun G_2 v_5 hn_3 hr_4 => ?_)
        have u_6 := hr_4
        refine r_val .none rfl (p_assign rfl) ?_
        refine r_nil ?_
        refine e_next ?_
        refine c_seq ?_
        refine c_region ?_
        refine r_val .none rfl (p_assign rfl) ?_
        refine r_nil ?_
        refine e_next ?_
        refine c_seq ?_
        refine c_seq ?_
        refine c_region ?_
        refine r_val .none rfl (p_assign rfl) ?_
        refine r_nil ?_
        refine e_next ?_
        refine c_block ?_
        refine c_name (d := 1) rfl (fun u_7 hu_7 => ?_)
        refine c_name (d := 3) rfl (fun u_8 hu_8 => ?_)
        refine c_nameL (k := 0) rfl (fun A_9 hA_9 => ?_)
        refine c_loop (σ := Nat) (fun s => [(5, Value.int .i64 (s : Nat)), (4, Value.int .i64 (Set.below (vars v0 n0 v1 n1 v2 n2) (s : Nat) : Nat)), (1, u_7), (3, u_8)]) (fun s => [A_9]) (fun _ => _) (fun s => 1 ≤ s ∧ s ≤ 33) (fun s => 33 - s) (1) ⟨Nat.le_refl _, by omega⟩ rfl ⟨rfl, (congrArg (fun z => some (Value.int .i64 z)) (vars_start (by assumption)).symm), rfl, rfl, trivial⟩ (.keep (fun _ _ h => h) (.nil)) (fun s hphi => ?_)
        subst hu_7
        subst hu_8
        subst hA_9
        refine c_seq ?_
        refine c_seq ?_
        refine c_region ?_
        refine r_val .none rfl (p_move rfl) ?_
        refine r_val .none rfl (p_le rfl rfl) ?_
        refine r_nil ?_
        refine e_next ?_
        refine c_splitd (d := 16) rfl (fun h_10 => ?_) (fun h_10 => ?_)
        · skip
          first
            | (exfalso; omega)
            | (
              refine c_cond_t rfl ?_
              refine c_skip ?_
              refine e_next ?_
              refine c_seq ?_
              refine c_block ?_
              refine c_seq ?_
              refine c_region ?_
              refine r_val .none rfl (p_assign rfl) ?_
              refine r_nil ?_
              refine e_next ?_
              refine c_seq ?_
              refine c_seq ?_
              refine c_region ?_
              refine r_val .none rfl (p_ldw (k := 0) Try.underlying24 rfl sz24 rfl rfl (rfl : _ = Value.agg #[_, _, _, _, _, _])) ?_
              refine r_val .none rfl (p_move rfl) ?_
              refine r_nil ?_
              refine e_next ?_
              refine c_block ?_
              refine c_name (d := 1) rfl (fun u_11 hu_11 => ?_)
              refine c_name (d := 3) rfl (fun u_12 hu_12 => ?_)
              refine c_name (d := 4) rfl (fun u_13 hu_13 => ?_)
              refine c_name (d := 5) rfl (fun u_14 hu_14 => ?_)
              refine c_name (d := 15) rfl (fun u_15 hu_15 => ?_)
              refine c_name (d := 16) rfl (fun u_16 hu_16 => ?_)
              refine c_name (d := 19) rfl (fun u_17 hu_17 => ?_)
              refine c_nameL (k := 0) rfl (fun A_18 hA_18 => ?_)
              refine c_loop (σ := Nat) (fun j => [(20, Value.int .i64 (j : Int)), (6, Value.bool (ownTo v0 n0 v1 n1 v2 n2 s j)), (1, u_11), (3, u_12), (4, u_13), (5, u_14), (15, u_15), (16, u_16), (19, u_17)]) (fun j => [A_18]) (fun _ => _) (fun j => j ≤ 3) (fun j => 3 - j) (0) (by omega) rfl ⟨rfl, rfl, rfl, rfl, rfl, rfl, rfl, rfl, rfl, trivial⟩ (.keep (fun _ _ h => h) (.nil)) (fun j hphi => ?_)
              subst hu_11
              subst hu_12
              subst hu_13
              subst hu_14
              subst hu_15
              subst hu_16
              subst hu_17
              subst hA_18
              obtain rfl | rfl | rfl | rfl : j = 0 ∨ j = 1 ∨ j = 2 ∨ j = 3 := by omega
              · skip
                refine c_seq ?_
                refine c_region ?_
                refine r_val .none rfl (p_lt rfl rfl) ?_
                refine r_say (d := 21) (v := Value.bool true) rfl ?_
                refine r_nil ?_
                refine e_next ?_
                refine c_seq ?_
                refine c_cond_t rfl ?_
                refine c_skip ?_
                refine e_next ?_
                refine c_seq ?_
                refine c_block ?_
                refine c_seq ?_
                refine c_region ?_
                refine r_val .none rfl (p_indexa (k := 0) Try.underlying24 Try.underlying23 rfl sz23 rfl (IsRow.lit _) rfl rfl (by first | exact of_decide_eq_true rfl | omega) (rfl : _ = Value.agg #[_, _])) ?_
                refine r_alloc .none rfl zr23 (IsRow.lit _) (fun b_2 => ?_)
                refine r_stw (k := 0) .none sz23 rfl rfl (IsRow.lit _) (one_lit rfl rfl) rfl ?_
                refine r_nil ?_
                refine e_next ?_
                refine c_region ?_
                refine r_val .none rfl (p_move rfl) ?_
                refine r_val .none rfl (p_move rfl) ?_
                refine' r_or (c := 24) (d := 33) [_, _, _, _, _, _, _, _, _] rfl (fun h_19 Q_20 hQ_21 => ?_) (fun h_19 Q_20 hQ_21 => ?_) ?_
                rotate_left 1
                · skip
                  refine r_val (.some rfl rfl) rfl (p_field Try.underlying23 rfl sz4 rfl) ?_
                  refine r_val (.some rfl rfl) rfl (p_ld (k := 0) Try.underlying4 rfl rfl rfl (by first | exact of_decide_eq_true rfl | omega) (rfl : _ = Value.bool _)) ?_
                  refine r_val (.some rfl rfl) rfl (p_move rfl) ?_
                  refine' r_and (c := 27) (d := 32) [_, _, _, _, _] rfl (fun h_23 Q_24 hQ_25 => ?_) (fun h_23 Q_24 hQ_25 => ?_) ?_
                  rotate_left 1
                  · skip
                    refine r_val (.some rfl rfl) rfl (p_field Try.underlying23 rfl sz3 rfl) ?_
                    refine r_val (.some rfl rfl) rfl (p_ld (k := 0) Try.underlying3 rfl rfl rfl (by first | exact of_decide_eq_true rfl | omega) (rfl : _ = Value.int _ _)) ?_
                    refine r_val (.some rfl rfl) rfl (p_move rfl) ?_
                    refine r_val (.some rfl rfl) rfl (p_eq rfl rfl) ?_
                    refine r_val (.some rfl rfl) rfl (p_pick_t rfl rfl) ?_
                    refine r_nil (e_fin (d := 32) hQ_25 rfl (by repeat (first | exact .refl | refine .put rfl ?_ | refine .say rfl ?_ | refine .say2 rfl (by first | assumption | simp_all) ?_)))
                  · skip
                    repeat (first | refine r_skip rfl (.no rfl rfl) ?_ | refine r_skip rfl (.un rfl rfl) ?_)
                    refine r_val (by first | exact .none | exact .some rfl rfl) rfl (p_pick_f rfl rfl) ?_
                    refine r_nil (e_fin (d := 32) hQ_25 rfl (by repeat (first | exact .refl | refine .put rfl ?_ | refine .say rfl ?_ | refine .say2 rfl (by first | assumption | simp_all) ?_)))
                  refine r_val .none rfl (p_pick_f rfl rfl) ?_
                  refine r_nil (e_fin (d := 33) hQ_21 rfl (by repeat (first | exact .refl | refine .put rfl ?_ | refine .say rfl ?_ | refine .say2 rfl (by first | assumption | simp_all) ?_)))
                · skip
                  repeat (first | refine r_skip rfl (.no rfl rfl) ?_ | refine r_skip rfl (.un rfl rfl) ?_)
                  refine r_val (by first | exact .none | exact .some rfl rfl) rfl (p_pick_t rfl rfl) ?_
                  refine r_nil (e_fin (d := 33) hQ_21 rfl (by repeat (first | exact .refl | refine .put rfl ?_ | refine .say rfl ?_ | refine .say2 rfl (by first | assumption | simp_all) ?_)))
                refine r_val .none rfl (p_assign rfl) ?_
                refine r_nil ?_
                refine e_norm_block ?_
                refine e_next ?_
                refine c_region ?_
                refine r_val .none rfl (p_add rfl rfl (by omega)) ?_
                refine r_val .none rfl (p_move rfl) ?_
                refine r_nil ?_
                refine e_round (1) ⟨Nat.le_of_ble_eq_true rfl, Nat.le_of_ble_eq_true rfl⟩ rfl ⟨rfl, (congrArg (fun b => some (Value.bool b)) (by rw [ownTo_1]; simp_all [owns])), rfl, rfl, rfl, rfl, rfl, rfl, rfl, trivial⟩ (.drop (.keep (fun _ _ h => h) (.nil)))
              · skip
                refine c_seq ?_
                refine c_region ?_
                refine r_val .none rfl (p_lt rfl rfl) ?_
                refine r_say (d := 21) (v := Value.bool true) rfl ?_
                refine r_nil ?_
                refine e_next ?_
                refine c_seq ?_
                refine c_cond_t rfl ?_
                refine c_skip ?_
                refine e_next ?_
                refine c_seq ?_
                refine c_block ?_
                refine c_seq ?_
                refine c_region ?_
                refine r_val .none rfl (p_indexa (k := 1) Try.underlying24 Try.underlying23 rfl sz23 rfl (IsRow.lit _) rfl rfl (by first | exact of_decide_eq_true rfl | omega) (rfl : _ = Value.agg #[_, _])) ?_
                refine r_alloc .none rfl zr23 (IsRow.lit _) (fun b_3 => ?_)
                refine r_stw (k := 0) .none sz23 rfl rfl (IsRow.lit _) (one_lit rfl rfl) rfl ?_
                refine r_nil ?_
                refine e_next ?_
                refine c_region ?_
                refine r_val .none rfl (p_move rfl) ?_
                refine r_val .none rfl (p_move rfl) ?_
                refine' r_or (c := 24) (d := 33) [_, _, _, _, _, _, _, _, _] rfl (fun h_27 Q_28 hQ_29 => ?_) (fun h_27 Q_28 hQ_29 => ?_) ?_
                rotate_left 1
                · skip
                  refine r_val (.some rfl rfl) rfl (p_field Try.underlying23 rfl sz4 rfl) ?_
                  refine r_val (.some rfl rfl) rfl (p_ld (k := 0) Try.underlying4 rfl rfl rfl (by first | exact of_decide_eq_true rfl | omega) (rfl : _ = Value.bool _)) ?_
                  refine r_val (.some rfl rfl) rfl (p_move rfl) ?_
                  refine' r_and (c := 27) (d := 32) [_, _, _, _, _] rfl (fun h_31 Q_32 hQ_33 => ?_) (fun h_31 Q_32 hQ_33 => ?_) ?_
                  rotate_left 1
                  · skip
                    refine r_val (.some rfl rfl) rfl (p_field Try.underlying23 rfl sz3 rfl) ?_
                    refine r_val (.some rfl rfl) rfl (p_ld (k := 0) Try.underlying3 rfl rfl rfl (by first | exact of_decide_eq_true rfl | omega) (rfl : _ = Value.int _ _)) ?_
                    refine r_val (.some rfl rfl) rfl (p_move rfl) ?_
                    refine r_val (.some rfl rfl) rfl (p_eq rfl rfl) ?_
                    refine r_val (.some rfl rfl) rfl (p_pick_t rfl rfl) ?_
                    refine r_nil (e_fin (d := 32) hQ_33 rfl (by repeat (first | exact .refl | refine .put rfl ?_ | refine .say rfl ?_ | refine .say2 rfl (by first | assumption | simp_all) ?_)))
                  · skip
                    repeat (first | refine r_skip rfl (.no rfl rfl) ?_ | refine r_skip rfl (.un rfl rfl) ?_)
                    refine r_val (by first | exact .none | exact .some rfl rfl) rfl (p_pick_f rfl rfl) ?_
                    refine r_nil (e_fin (d := 32) hQ_33 rfl (by repeat (first | exact .refl | refine .put rfl ?_ | refine .say rfl ?_ | refine .say2 rfl (by first | assumption | simp_all) ?_)))
                  refine r_val .none rfl (p_pick_f rfl rfl) ?_
                  refine r_nil (e_fin (d := 33) hQ_29 rfl (by repeat (first | exact .refl | refine .put rfl ?_ | refine .say rfl ?_ | refine .say2 rfl (by first | assumption | simp_all) ?_)))
                · skip
                  repeat (first | refine r_skip rfl (.no rfl rfl) ?_ | refine r_skip rfl (.un rfl rfl) ?_)
                  refine r_val (by first | exact .none | exact .some rfl rfl) rfl (p_pick_t rfl rfl) ?_
                  refine r_nil (e_fin (d := 33) hQ_29 rfl (by repeat (first | exact .refl | refine .put rfl ?_ | refine .say rfl ?_ | refine .say2 rfl (by first | assumption | simp_all) ?_)))
                refine r_val .none rfl (p_assign rfl) ?_
                refine r_nil ?_
                refine e_norm_block ?_
                refine e_next ?_
                refine c_region ?_
                refine r_val .none rfl (p_add rfl rfl (by omega)) ?_
                refine r_val .none rfl (p_move rfl) ?_
                refine r_nil ?_
                refine e_round (2) ⟨Nat.le_of_ble_eq_true rfl, Nat.le_of_ble_eq_true rfl⟩ rfl ⟨rfl, (congrArg (fun b => some (Value.bool b)) (by rw [ownTo_2]; simp_all [owns])), rfl, rfl, rfl, rfl, rfl, rfl, rfl, trivial⟩ (.drop (.keep (fun _ _ h => h) (.nil)))
              · skip
                refine c_seq ?_
                refine c_region ?_
                refine r_val .none rfl (p_lt rfl rfl) ?_
                refine r_say (d := 21) (v := Value.bool true) rfl ?_
                refine r_nil ?_
                refine e_next ?_
                refine c_seq ?_
                refine c_cond_t rfl ?_
                refine c_skip ?_
                refine e_next ?_
                refine c_seq ?_
                refine c_block ?_
                refine c_seq ?_
                refine c_region ?_
                refine r_val .none rfl (p_indexa (k := 2) Try.underlying24 Try.underlying23 rfl sz23 rfl (IsRow.lit _) rfl rfl (by first | exact of_decide_eq_true rfl | omega) (rfl : _ = Value.agg #[_, _])) ?_
                refine r_alloc .none rfl zr23 (IsRow.lit _) (fun b_4 => ?_)
                refine r_stw (k := 0) .none sz23 rfl rfl (IsRow.lit _) (one_lit rfl rfl) rfl ?_
                refine r_nil ?_
                refine e_next ?_
                refine c_region ?_
                refine r_val .none rfl (p_move rfl) ?_
                refine r_val .none rfl (p_move rfl) ?_
                refine' r_or (c := 24) (d := 33) [_, _, _, _, _, _, _, _, _] rfl (fun h_35 Q_36 hQ_37 => ?_) (fun h_35 Q_36 hQ_37 => ?_) ?_
                rotate_left 1
                · skip
                  refine r_val (.some rfl rfl) rfl (p_field Try.underlying23 rfl sz4 rfl) ?_
                  refine r_val (.some rfl rfl) rfl (p_ld (k := 0) Try.underlying4 rfl rfl rfl (by first | exact of_decide_eq_true rfl | omega) (rfl : _ = Value.bool _)) ?_
                  refine r_val (.some rfl rfl) rfl (p_move rfl) ?_
                  refine' r_and (c := 27) (d := 32) [_, _, _, _, _] rfl (fun h_39 Q_40 hQ_41 => ?_) (fun h_39 Q_40 hQ_41 => ?_) ?_
                  rotate_left 1
                  · skip
                    refine r_val (.some rfl rfl) rfl (p_field Try.underlying23 rfl sz3 rfl) ?_
                    refine r_val (.some rfl rfl) rfl (p_ld (k := 0) Try.underlying3 rfl rfl rfl (by first | exact of_decide_eq_true rfl | omega) (rfl : _ = Value.int _ _)) ?_
                    refine r_val (.some rfl rfl) rfl (p_move rfl) ?_
                    refine r_val (.some rfl rfl) rfl (p_eq rfl rfl) ?_
                    refine r_val (.some rfl rfl) rfl (p_pick_t rfl rfl) ?_
                    refine r_nil (e_fin (d := 32) hQ_41 rfl (by repeat (first | exact .refl | refine .put rfl ?_ | refine .say rfl ?_ | refine .say2 rfl (by first | assumption | simp_all) ?_)))
                  · skip
                    repeat (first | refine r_skip rfl (.no rfl rfl) ?_ | refine r_skip rfl (.un rfl rfl) ?_)
                    refine r_val (by first | exact .none | exact .some rfl rfl) rfl (p_pick_f rfl rfl) ?_
                    refine r_nil (e_fin (d := 32) hQ_41 rfl (by repeat (first | exact .refl | refine .put rfl ?_ | refine .say rfl ?_ | refine .say2 rfl (by first | assumption | simp_all) ?_)))
                  refine r_val .none rfl (p_pick_f rfl rfl) ?_
                  refine r_nil (e_fin (d := 33) hQ_37 rfl (by repeat (first | exact .refl | refine .put rfl ?_ | refine .say rfl ?_ | refine .say2 rfl (by first | assumption | simp_all) ?_)))
                · skip
                  repeat (first | refine r_skip rfl (.no rfl rfl) ?_ | refine r_skip rfl (.un rfl rfl) ?_)
                  refine r_val (by first | exact .none | exact .some rfl rfl) rfl (p_pick_t rfl rfl) ?_
                  refine r_nil (e_fin (d := 33) hQ_37 rfl (by repeat (first | exact .refl | refine .put rfl ?_ | refine .say rfl ?_ | refine .say2 rfl (by first | assumption | simp_all) ?_)))
                refine r_val .none rfl (p_assign rfl) ?_
                refine r_nil ?_
                refine e_norm_block ?_
                refine e_next ?_
                refine c_region ?_
                refine r_val .none rfl (p_add rfl rfl (by omega)) ?_
                refine r_val .none rfl (p_move rfl) ?_
                refine r_nil ?_
                refine e_round (3) ⟨Nat.le_of_ble_eq_true rfl, Nat.le_of_ble_eq_true rfl⟩ rfl ⟨rfl, (congrArg (fun b => some (Value.bool b)) (by rw [ownTo_3]; simp_all [owns])), rfl, rfl, rfl, rfl, rfl, rfl, rfl, trivial⟩ (.drop (.keep (fun _ _ h => h) (.nil)))
              · skip
                refine c_seq ?_
                refine c_region ?_
                refine r_val .none rfl (p_lt rfl rfl) ?_
                refine r_say (d := 21) (v := Value.bool false) rfl ?_
                refine r_nil ?_
                refine e_next ?_
                refine c_seq ?_
                refine c_cond_f rfl ?_
                refine c_exit ?_
                refine e_exit_then ?_
                refine e_exit_then ?_
                refine e_exit_block ?_
                refine e_next ?_
                refine c_seq ?_
                refine c_seq ?_
                refine c_region ?_
                refine r_val .none rfl (p_move rfl) ?_
                refine r_val .none rfl (p_not rfl) ?_
                refine r_nil ?_
                refine e_next ?_
                refine c_splitn (d := 36) rfl (fun h_43 => ?_) (fun h_43 => ?_)
                · skip
                  first
                    | (exfalso; omega)
                    | (
                      refine c_cond_t rfl ?_
                      refine c_exit ?_
                      refine e_exit_then ?_
                      refine e_exit_block ?_
                      refine e_next ?_
                      refine c_region ?_
                      refine r_val .none rfl (p_move rfl) ?_
                      refine r_val .none rfl (p_add rfl rfl (by omega)) ?_
                      refine r_val .none rfl (p_assign rfl) ?_
                      refine r_nil ?_
                      refine e_round (s + 1) ⟨⟨by omega, by omega⟩, by omega⟩ rfl ⟨rfl, (congrArg (fun z => some (Value.int .i64 z)) (by first | exact vars_yes (by assumption) | exact vars_no (by assumption))), rfl, rfl, trivial⟩ (.keep (fun _ _ h => h) (.nil))
                      )
                · skip
                  first
                    | (exfalso; omega)
                    | (
                      refine c_cond_f rfl ?_
                      refine c_skip ?_
                      refine e_next ?_
                      refine c_seq ?_
                      refine c_seq ?_
                      refine c_region ?_
                      refine r_val .none rfl (p_move rfl) ?_
                      refine r_val .none rfl (p_move rfl) ?_
                      refine r_val .none rfl (p_leng Try.underlying72 rfl u_6) ?_
                      have bd_44 := (u_6).bound
                      refine r_val .none rfl (p_ge rfl rfl) ?_
                      refine r_val .none rfl (p_move rfl) ?_
                      refine' r_or (c := 41) (d := 48) [_, _, _, _, _, _, _] rfl (fun h_45 Q_46 hQ_47 => ?_) (fun h_45 Q_46 hQ_47 => ?_) ?_
                      rotate_left 1
                      · skip
                        replace h_45 := of_decide_eq_false h_45
                        refine r_val (.some rfl rfl) rfl (p_move rfl) ?_
                        refine r_val (.some rfl rfl) rfl (p_move rfl) ?_
                        refine r_iaddr_g (.some rfl rfl) rfl Try.underlying72 sz3 rfl u_6 rfl (by first | exact of_decide_eq_true rfl | omega) (fun p_50 o_51 R_49 => ?_)
                        refine r_val (.some rfl rfl) rfl (p_ldg0 Try.underlying3 rfl rfl R_49 (by first | exact of_decide_eq_true rfl | omega) (rfl : _ = Value.int _ _)) ?_
                        refine r_val (.some rfl rfl) rfl (p_move rfl) ?_
                        refine r_val (.some rfl rfl) rfl (p_ne rfl rfl) ?_
                        refine r_val .none rfl (p_pick_f rfl rfl) ?_
                        refine r_nil (e_fin (d := 48) hQ_47 rfl (by repeat (first | exact .refl | refine .put rfl ?_ | refine .say rfl ?_ | refine .say2 rfl (by first | assumption | simp_all) ?_)))
                      · skip
                        repeat (first | refine r_skip rfl (.no rfl rfl) ?_ | refine r_skip rfl (.un rfl rfl) ?_)
                        refine r_val (by first | exact .none | exact .some rfl rfl) rfl (p_pick_t rfl rfl) ?_
                        refine r_nil (e_fin (d := 48) hQ_47 rfl (by repeat (first | exact .refl | refine .put rfl ?_ | refine .say rfl ?_ | refine .say2 rfl (by first | assumption | simp_all) ?_)))
                      refine r_nil ?_
                      refine e_next ?_
                      refine c_split (d := 48) rfl (fun h_52 => ?_) (fun h_52 => ?_)
                      · skip
                        try simp only [norms] at h_52
                        have hC := h_52
                        first
                          | (exfalso; omega)
                          | (
                            refine c_cond_t rfl ?_
                            refine c_seq ?_
                            refine c_region ?_
                            refine r_val .none rfl (p_assign rfl) ?_
                            refine r_nil ?_
                            refine e_next ?_
                            refine c_ret ?_
                            refine e_ret_then ?_
                            refine e_ret_block ?_
                            refine e_ret_then ?_
                            refine e_ret_then ?_
                            refine e_ret_block ?_
                            refine e_ret_then ?_
                            refine e_ret1 Try.results12 (.tmp rfl .nil) (fun w hm => ⟨?_, hm.since⟩)
                            first
                            | rfl
                            | (exfalso; obtain ⟨ha, hb⟩ := vars_at (by assumption); rcases hC with h | h; omega; exact h hb; done)
                            | (rw [vars_end (by assumption) (by omega)]; simp; done)
                            )
                      · skip
                        try simp only [norms] at h_52
                        first
                          | (exfalso; omega)
                          | (
                            refine c_cond_f rfl ?_
                            refine c_skip ?_
                            refine e_next ?_
                            refine c_region ?_
                            refine r_val .none rfl (p_move rfl) ?_
                            refine r_val .none rfl (p_add rfl rfl (by omega)) ?_
                            refine r_val .none rfl (p_assign rfl) ?_
                            refine r_nil ?_
                            refine e_norm_block ?_
                            refine e_next ?_
                            refine c_region ?_
                            refine r_val .none rfl (p_move rfl) ?_
                            refine r_val .none rfl (p_add rfl rfl (by omega)) ?_
                            refine r_val .none rfl (p_assign rfl) ?_
                            refine r_nil ?_
                            refine e_round (s + 1) ⟨⟨by omega, by omega⟩, by omega⟩ rfl ⟨rfl, (congrArg (fun z => some (Value.int .i64 z)) (by first | exact vars_yes (by assumption) | exact vars_no (by assumption))), rfl, rfl, trivial⟩ (.keep (fun _ _ h => h) (.nil))
                            )
                      )
              )
        · skip
          first
            | (exfalso; omega)
            | (
              refine c_cond_f rfl ?_
              refine c_exit ?_
              refine e_exit_then ?_
              refine e_exit_then ?_
              refine e_exit_block ?_
              refine e_next ?_
              refine c_seq ?_
              refine c_region ?_
              refine r_val .none rfl (p_move rfl) ?_
              refine r_val .none rfl (p_move rfl) ?_
              refine r_val .none rfl (p_leng Try.underlying72 rfl u_6) ?_
              have bd_53 := (u_6).bound
              refine r_val .none rfl (p_eq rfl rfl) ?_
              refine r_val .none rfl (p_move rfl) ?_
              refine' r_and (c := 55) (d := 57) [_, _] rfl (fun h_54 Q_55 hQ_56 => ?_) (fun h_54 Q_55 hQ_56 => ?_) ?_
              rotate_left 1
              · skip
                replace h_54 := of_decide_eq_true h_54
                refine r_call (vs := []) (.some rfl rfl) rfl cl15 rfl (fun w hw => c_awake3  w) ?_
                refine r_val .none rfl (p_pick_t rfl rfl) ?_
                refine r_nil (e_fin (d := 57) hQ_56 rfl (by repeat (first | exact .refl | refine .put rfl ?_ | refine .say rfl ?_ | refine .say2 rfl (by first | assumption | simp_all) ?_)))
              · skip
                repeat (first | refine r_skip rfl (.no rfl rfl) ?_ | refine r_skip rfl (.un rfl rfl) ?_)
                refine r_val (by first | exact .none | exact .some rfl rfl) rfl (p_pick_f rfl rfl) ?_
                refine r_nil (e_fin (d := 57) hQ_56 rfl (by repeat (first | exact .refl | refine .put rfl ?_ | refine .say rfl ?_ | refine .say2 rfl (by first | assumption | simp_all) ?_)))
              refine r_val .none rfl (p_assign rfl) ?_
              refine r_nil ?_
              refine e_next ?_
              refine c_ret ?_
              refine e_ret1 Try.results12 (.tmp rfl .nil) (fun w hm => ⟨?_, hm.since⟩)
              first
              | rfl
              | (exfalso; obtain ⟨ha, hb⟩ := vars_at (by assumption); rcases hC with h | h; omega; exact h hb; done)
              | (rw [vars_end (by assumption) (by omega)]; simp; done)
              )
        )
end Go.Proofs.Ytjgdkahblhpinaa
