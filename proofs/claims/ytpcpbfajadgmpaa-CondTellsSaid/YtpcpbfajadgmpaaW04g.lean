/- Walks: what Go functions of this chapter come to, each as a function on plain data; no condition but those that each theorem names. Printed by a program of this work (gen.py). -/
import Derived.Test.YtpcpbfajadgmpaaW04f
import Derived.Test.YtpcpbfajadgmpaaPl04b
import Derived.Test.YtpcpbfajadgmpaaShelf3
import Derived.Test.YtpcpbfajadgmpaaRows
namespace Go.Proofs.Ytpcpbfajadgmpaa
open Go.Gx Go.Gx.T3 Go.Gx.T4 Go.Gx.T3
theorem cl30 : Callable Try.prog 30 := callable Try.func30 (by kernel_rfl) rfl
theorem cl31 : Callable Try.prog 31 := callable Try.func31 (by kernel_rfl) rfl
theorem cl33 : Callable Try.prog 33 := callable Try.func33 (by kernel_rfl) rfl
theorem cl48 : Callable Try.prog 48 := callable Try.func48 (by kernel_rfl) rfl
theorem cl49 : Callable Try.prog 49 := callable Try.func49 (by kernel_rfl) rfl
theorem cl50 : Callable Try.prog 50 := callable Try.func50 (by kernel_rfl) rfl
theorem bs3_10i2 (a0 : IntKind) (a1 : Int) : Instr.fill (fun i => some (i * 1, 1)) ((Array.range (1 * 1)).map ((Value.int .i64 0).cells[· % (Value.int .i64 0).cells.size]!)) [(0, Value.int a0 a1)] = some #[Value.int a0 a1] := by
  kernel_rfl
theorem el3 : ElemIs Try.prog 3 1 8 (Value.int .i64 0) := by
  unfold ElemIs
  kernel_rfl
def VarsIs (n : Nat) : Prop := ∀ (c : CT) (sv : Value) (G : Ghost) (w : World), SizeOf.sizeOf c ≤ n → size c ≤ 1000 → Cs G sv c.subs → Has G w → Calls Try.prog 30 #[Value.agg #[Value.int .i64 c.h.k, Value.bool c.h.v0, Value.int .i64 c.h.n0, Value.bool c.h.v1, Value.int .i64 c.h.n1, Value.bool c.h.v2, Value.int .i64 c.h.n2, sv]] w (Ret fun r w' => Since nX w w' ∧ ∃ F', (rowA r 3 1 (cvars c).length ((cvars c).flatMap cI)).holds w' F' ∧ ∀ b, F' b → w.heap.size ≤ b)
def RhasIs (n : Nat) : Prop := ∀ (c : CT) (sv : Value) (v : Nat) (G : Ghost) (w : World), SizeOf.sizeOf c ≤ n → Rs G sv c.subs → Has G w → Calls Try.prog 31 #[Value.agg #[Value.int .i64 c.h.k, Value.int .i64 (vi c.h.v0), Value.int .i64 c.h.n0, Value.int .i64 (vi c.h.v1), Value.int .i64 c.h.n1, Value.int .i64 (vi c.h.v2), Value.int .i64 c.h.n2, sv], Value.int .i64 (v : Nat)] w (Ret fun r w' => r = Value.bool (has c v) ∧ Since nX w w')
def RsizeIs (n : Nat) : Prop := ∀ (c : CT) (sv : Value) (G : Ghost) (w : World), SizeOf.sizeOf c ≤ n → size c ≤ 1000 → Rs G sv c.subs → Has G w → Calls Try.prog 33 #[Value.agg #[Value.int .i64 c.h.k, Value.int .i64 (vi c.h.v0), Value.int .i64 c.h.n0, Value.int .i64 (vi c.h.v1), Value.int .i64 c.h.n1, Value.int .i64 (vi c.h.v2), Value.int .i64 c.h.n2, sv]] w (Ret fun r w' => r = Value.int .i64 (size c : Nat) ∧ Since nX w w')
theorem sortC : SortC Try.prog 49 := fun b o c zs w h1 h2 h3 => Try.slices_Sort_int b o c zs w h1 h2 h3
theorem sortN : SortN Try.prog 49 := fun p c w => Try.slices_Sort_int_none p c w
theorem compC : CompC Try.prog 50 := fun b o c zs w h1 h2 h3 => Try.slices_Compact_int b o c zs w h1 h2 h3
theorem compN : CompN Try.prog 50 := fun a c w => Try.slices_Compact_int_empty a c w
theorem c_varsO (v0 : Bool) (n0 : Int) (v1 : Bool) (n1 : Int) (v2 : Bool) (n2 : Int) {G : Ghost}  (w : World) (hG : Has G w) :
    Calls Try.prog 48 #[Value.agg #[Value.bool v0, Value.int .i64 n0, Value.bool v1, Value.int .i64 n1, Value.bool v2, Value.int .i64 n2]] w (Ret fun r w' => Since nX w w' ∧ ∃ F', (rowA r 3 1 (vars v0 n0 v1 n1 v2 n2).length ((vars v0 n0 v1 n1 v2 n2).flatMap cI)).holds w' F' ∧ ∀ b, F' b → w.heap.size ≤ b) := by
  refine enter (args := [_]) (X := nX) (G := G) (l := [(0, Value.agg #[Value.bool v0, Value.int .i64 n0, Value.bool v1, Value.int .i64 n1, Value.bool v2, Value.int .i64 n2])]) Try.func48 rfl Try.ntmps48 hG ⟨rfl, trivial⟩ (Nat.le_of_ble_eq_true rfl) ?_
  refine c_seq ?_
  refine c_region ?_
  refine r_box .none rfl rfl (IsRow.lit _) (fun b_1 => ?_)
  refine r_val .none rfl (p_assign rfl) ?_
  refine r_nil ?_
  refine e_next ?_
  refine c_seq ?_
  refine c_region ?_
  refine r_val .none rfl (p_assign rfl) ?_
  refine r_nil ?_
  refine e_next ?_
  refine c_seq ?_
  refine c_seq ?_
  refine c_region ?_
  refine r_val .none rfl (p_ldw (k := 0) Try.underlying24 rfl sz24 rfl rfl (rfl : _ = Value.agg #[_, _, _, _, _, _])) ?_
  refine r_val .none rfl (p_move rfl) ?_
  refine r_nil ?_
  refine e_next ?_
  refine c_block ?_
  refine c_nilrow 3 1 ?_
  refine c_name (d := 2) rfl (fun u_1 hu_1 => ?_)
  refine c_name (d := 6) rfl (fun u_2 hu_2 => ?_)
  refine c_nameL (k := 1) rfl (fun A_3 hA_3 => ?_)
  refine c_loop (σ := Nat × Value) (fun s => [(7, Value.int .i64 (s.1 : Nat)), (3, s.2), (2, u_1), (6, u_2)]) (fun s => [rowA (s.2) 3 1 (vsTo v0 n0 v1 n1 v2 n2 s.1).length ((vsTo v0 n0 v1 n1 v2 n2 s.1).flatMap cI), A_3]) (fun _ => _) (fun s => s.1 ≤ 3) (fun s => 3 - s.1) ((0, _)) (by omega) rfl ⟨rfl, rfl, rfl, rfl, trivial⟩ (.keep (fun _ _ h => rowA_nil rfl _ _ h) (.keep (fun _ _ h => h) (.nil))) (fun s hphi => ?_)
  subst hu_1
  subst hu_2
  subst hA_3
  obtain ⟨k, v⟩ := s
  dsimp only at hphi ⊢
  obtain rfl | rfl | rfl | rfl : k = 0 ∨ k = 1 ∨ k = 2 ∨ k = 3 := by omega
  · skip
    refine c_seq ?_
    refine c_region ?_
    refine r_val .none rfl (p_lt rfl rfl) ?_
    refine r_say (d := 8) (v := Value.bool true) rfl ?_
    refine r_nil ?_
    refine e_next ?_
    refine c_seq ?_
    refine c_cond_t rfl ?_
    refine c_skip ?_
    refine e_next ?_
    refine c_seq ?_
    refine c_block ?_
    refine c_seq ?_
    refine c_region ?_
    refine r_val .none rfl (p_indexa (k := 0) Try.underlying24 Try.underlying23 rfl sz23 rfl (IsRow.lit _) rfl rfl (by first | exact of_decide_eq_true rfl | omega) (rfl : _ = Value.agg #[_, _])) ?_
    refine r_alloc .none rfl zr23 (IsRow.lit _) (fun b_2 => ?_)
    refine r_stw (k := 0) .none sz23 rfl rfl (IsRow.lit _) (one_lit rfl rfl) rfl ?_
    refine r_nil ?_
    refine e_next ?_
    refine c_seq ?_
    refine c_region ?_
    refine r_val .none rfl (p_field Try.underlying23 rfl sz4 rfl) ?_
    refine r_val .none rfl (p_ld (k := 0) Try.underlying4 rfl rfl rfl (by first | exact of_decide_eq_true rfl | omega) (rfl : _ = Value.bool _)) ?_
    refine r_nil ?_
    refine e_next ?_
    refine c_split (d := 11) rfl (fun h_4 => ?_) (fun h_4 => ?_)
    · skip
      first
        | (exfalso; omega)
        | (
          refine c_cond_t rfl ?_
          refine c_region ?_
          refine r_val .none rfl (p_move rfl) ?_
          refine r_val .none rfl (p_field Try.underlying23 rfl sz3 rfl) ?_
          refine r_val .none rfl (p_ld (k := 0) Try.underlying3 rfl rfl rfl (by first | exact of_decide_eq_true rfl | omega) (rfl : _ = Value.int _ _)) ?_
          refine r_bslice (vs := [(0, Value.int _ _)]) (c := #[_]) .none rfl Try.underlying57 el3 rfl rfl rfl (bs3_10i2 _ _) (IsRow.lit _) (fun b_3 => ?_)
          refine r_append (k := 2) (k2 := 0) .none rfl Try.underlying57 el3 rfl (by decide) rfl rfl rfl rfl rfl (one_lit rfl rfl) (by have := @vs_len v0 n0 v1 n1 v2 n2; simp only [maxLen]; have h1 := this 0; have h2 := this 1; have h3 := this 2; omega) (by have := @vs_len v0 n0 v1 n1 v2 n2; have h1 := this 0; have h2 := this 1; have h3 := this 2; omega) (fun v_5 => ?_)
          refine r_row1 (k := 2) rfl (fun o_6 => ?_)
          refine r_val .none rfl (p_assign rfl) ?_
          refine r_nil ?_
          refine e_norm_block ?_
          refine e_next ?_
          refine c_region ?_
          refine r_val .none rfl (p_add rfl rfl (by omega)) ?_
          refine r_val .none rfl (p_move rfl) ?_
          refine r_nil ?_
          refine e_round ((1, _)) ⟨Nat.le_of_ble_eq_true rfl, Nat.le_of_ble_eq_true rfl⟩ rfl ⟨rfl, rfl, rfl, rfl, trivial⟩ (.drop (.drop (.keep (fun _ _ h => rowA_snoc (vs_yes (k := 0) (show selB v0 v1 v2 0 = true from ‹v0 = true›)) rfl rfl rfl _ _ h) (.keep (fun _ _ h => h) (.nil)))))
          )
    · skip
      first
        | (exfalso; omega)
        | (
          refine c_cond_f rfl ?_
          refine c_skip ?_
          refine e_norm_block ?_
          refine e_next ?_
          refine c_region ?_
          refine r_val .none rfl (p_add rfl rfl (by omega)) ?_
          refine r_val .none rfl (p_move rfl) ?_
          refine r_nil ?_
          refine e_round ((1, _)) ⟨Nat.le_of_ble_eq_true rfl, Nat.le_of_ble_eq_true rfl⟩ rfl ⟨rfl, rfl, rfl, rfl, trivial⟩ (.drop (.keep (fun _ _ h => rowA_same (vs_no (k := 0) (show selB v0 v1 v2 0 = false from ‹v0 = false›)) _ _ h) (.keep (fun _ _ h => h) (.nil))))
          )
  · skip
    refine c_seq ?_
    refine c_region ?_
    refine r_val .none rfl (p_lt rfl rfl) ?_
    refine r_say (d := 8) (v := Value.bool true) rfl ?_
    refine r_nil ?_
    refine e_next ?_
    refine c_seq ?_
    refine c_cond_t rfl ?_
    refine c_skip ?_
    refine e_next ?_
    refine c_seq ?_
    refine c_block ?_
    refine c_seq ?_
    refine c_region ?_
    refine r_val .none rfl (p_indexa (k := 1) Try.underlying24 Try.underlying23 rfl sz23 rfl (IsRow.lit _) rfl rfl (by first | exact of_decide_eq_true rfl | omega) (rfl : _ = Value.agg #[_, _])) ?_
    refine r_alloc .none rfl zr23 (IsRow.lit _) (fun b_4 => ?_)
    refine r_stw (k := 0) .none sz23 rfl rfl (IsRow.lit _) (one_lit rfl rfl) rfl ?_
    refine r_nil ?_
    refine e_next ?_
    refine c_seq ?_
    refine c_region ?_
    refine r_val .none rfl (p_field Try.underlying23 rfl sz4 rfl) ?_
    refine r_val .none rfl (p_ld (k := 0) Try.underlying4 rfl rfl rfl (by first | exact of_decide_eq_true rfl | omega) (rfl : _ = Value.bool _)) ?_
    refine r_nil ?_
    refine e_next ?_
    refine c_split (d := 11) rfl (fun h_7 => ?_) (fun h_7 => ?_)
    · skip
      first
        | (exfalso; omega)
        | (
          refine c_cond_t rfl ?_
          refine c_region ?_
          refine r_val .none rfl (p_move rfl) ?_
          refine r_val .none rfl (p_field Try.underlying23 rfl sz3 rfl) ?_
          refine r_val .none rfl (p_ld (k := 0) Try.underlying3 rfl rfl rfl (by first | exact of_decide_eq_true rfl | omega) (rfl : _ = Value.int _ _)) ?_
          refine r_bslice (vs := [(0, Value.int _ _)]) (c := #[_]) .none rfl Try.underlying57 el3 rfl rfl rfl (bs3_10i2 _ _) (IsRow.lit _) (fun b_5 => ?_)
          refine r_append (k := 2) (k2 := 0) .none rfl Try.underlying57 el3 rfl (by decide) rfl rfl rfl rfl rfl (one_lit rfl rfl) (by have := @vs_len v0 n0 v1 n1 v2 n2; simp only [maxLen]; have h1 := this 0; have h2 := this 1; have h3 := this 2; omega) (by have := @vs_len v0 n0 v1 n1 v2 n2; have h1 := this 0; have h2 := this 1; have h3 := this 2; omega) (fun v_8 => ?_)
          refine r_row1 (k := 2) rfl (fun o_9 => ?_)
          refine r_val .none rfl (p_assign rfl) ?_
          refine r_nil ?_
          refine e_norm_block ?_
          refine e_next ?_
          refine c_region ?_
          refine r_val .none rfl (p_add rfl rfl (by omega)) ?_
          refine r_val .none rfl (p_move rfl) ?_
          refine r_nil ?_
          refine e_round ((2, _)) ⟨Nat.le_of_ble_eq_true rfl, Nat.le_of_ble_eq_true rfl⟩ rfl ⟨rfl, rfl, rfl, rfl, trivial⟩ (.drop (.drop (.keep (fun _ _ h => rowA_snoc (vs_yes (k := 1) (show selB v0 v1 v2 1 = true from ‹v1 = true›)) rfl rfl rfl _ _ h) (.keep (fun _ _ h => h) (.nil)))))
          )
    · skip
      first
        | (exfalso; omega)
        | (
          refine c_cond_f rfl ?_
          refine c_skip ?_
          refine e_norm_block ?_
          refine e_next ?_
          refine c_region ?_
          refine r_val .none rfl (p_add rfl rfl (by omega)) ?_
          refine r_val .none rfl (p_move rfl) ?_
          refine r_nil ?_
          refine e_round ((2, _)) ⟨Nat.le_of_ble_eq_true rfl, Nat.le_of_ble_eq_true rfl⟩ rfl ⟨rfl, rfl, rfl, rfl, trivial⟩ (.drop (.keep (fun _ _ h => rowA_same (vs_no (k := 1) (show selB v0 v1 v2 1 = false from ‹v1 = false›)) _ _ h) (.keep (fun _ _ h => h) (.nil))))
          )
  · skip
    refine c_seq ?_
    refine c_region ?_
    refine r_val .none rfl (p_lt rfl rfl) ?_
    refine r_say (d := 8) (v := Value.bool true) rfl ?_
    refine r_nil ?_
    refine e_next ?_
    refine c_seq ?_
    refine c_cond_t rfl ?_
    refine c_skip ?_
    refine e_next ?_
    refine c_seq ?_
    refine c_block ?_
    refine c_seq ?_
    refine c_region ?_
    refine r_val .none rfl (p_indexa (k := 2) Try.underlying24 Try.underlying23 rfl sz23 rfl (IsRow.lit _) rfl rfl (by first | exact of_decide_eq_true rfl | omega) (rfl : _ = Value.agg #[_, _])) ?_
    refine r_alloc .none rfl zr23 (IsRow.lit _) (fun b_6 => ?_)
    refine r_stw (k := 0) .none sz23 rfl rfl (IsRow.lit _) (one_lit rfl rfl) rfl ?_
    refine r_nil ?_
    refine e_next ?_
    refine c_seq ?_
    refine c_region ?_
    refine r_val .none rfl (p_field Try.underlying23 rfl sz4 rfl) ?_
    refine r_val .none rfl (p_ld (k := 0) Try.underlying4 rfl rfl rfl (by first | exact of_decide_eq_true rfl | omega) (rfl : _ = Value.bool _)) ?_
    refine r_nil ?_
    refine e_next ?_
    refine c_split (d := 11) rfl (fun h_10 => ?_) (fun h_10 => ?_)
    · skip
      first
        | (exfalso; omega)
        | (
          refine c_cond_t rfl ?_
          refine c_region ?_
          refine r_val .none rfl (p_move rfl) ?_
          refine r_val .none rfl (p_field Try.underlying23 rfl sz3 rfl) ?_
          refine r_val .none rfl (p_ld (k := 0) Try.underlying3 rfl rfl rfl (by first | exact of_decide_eq_true rfl | omega) (rfl : _ = Value.int _ _)) ?_
          refine r_bslice (vs := [(0, Value.int _ _)]) (c := #[_]) .none rfl Try.underlying57 el3 rfl rfl rfl (bs3_10i2 _ _) (IsRow.lit _) (fun b_7 => ?_)
          refine r_append (k := 2) (k2 := 0) .none rfl Try.underlying57 el3 rfl (by decide) rfl rfl rfl rfl rfl (one_lit rfl rfl) (by have := @vs_len v0 n0 v1 n1 v2 n2; simp only [maxLen]; have h1 := this 0; have h2 := this 1; have h3 := this 2; omega) (by have := @vs_len v0 n0 v1 n1 v2 n2; have h1 := this 0; have h2 := this 1; have h3 := this 2; omega) (fun v_11 => ?_)
          refine r_row1 (k := 2) rfl (fun o_12 => ?_)
          refine r_val .none rfl (p_assign rfl) ?_
          refine r_nil ?_
          refine e_norm_block ?_
          refine e_next ?_
          refine c_region ?_
          refine r_val .none rfl (p_add rfl rfl (by omega)) ?_
          refine r_val .none rfl (p_move rfl) ?_
          refine r_nil ?_
          refine e_round ((3, _)) ⟨Nat.le_of_ble_eq_true rfl, Nat.le_of_ble_eq_true rfl⟩ rfl ⟨rfl, rfl, rfl, rfl, trivial⟩ (.drop (.drop (.keep (fun _ _ h => rowA_snoc (vs_yes (k := 2) (show selB v0 v1 v2 2 = true from ‹v2 = true›)) rfl rfl rfl _ _ h) (.keep (fun _ _ h => h) (.nil)))))
          )
    · skip
      first
        | (exfalso; omega)
        | (
          refine c_cond_f rfl ?_
          refine c_skip ?_
          refine e_norm_block ?_
          refine e_next ?_
          refine c_region ?_
          refine r_val .none rfl (p_add rfl rfl (by omega)) ?_
          refine r_val .none rfl (p_move rfl) ?_
          refine r_nil ?_
          refine e_round ((3, _)) ⟨Nat.le_of_ble_eq_true rfl, Nat.le_of_ble_eq_true rfl⟩ rfl ⟨rfl, rfl, rfl, rfl, trivial⟩ (.drop (.keep (fun _ _ h => rowA_same (vs_no (k := 2) (show selB v0 v1 v2 2 = false from ‹v2 = false›)) _ _ h) (.keep (fun _ _ h => h) (.nil))))
          )
  · skip
    refine c_seq ?_
    refine c_region ?_
    refine r_val .none rfl (p_lt rfl rfl) ?_
    refine r_say (d := 8) (v := Value.bool false) rfl ?_
    refine r_nil ?_
    refine e_next ?_
    refine c_seq ?_
    refine c_cond_f rfl ?_
    refine c_exit ?_
    refine e_exit_then ?_
    refine e_exit_then ?_
    refine e_exit_block ?_
    refine e_next ?_
    refine c_seq ?_
    refine c_region ?_
    refine r_val .none rfl (p_move rfl) ?_
    refine r_sort (k := 0) (zs := _) .none rfl cl49 rfl rfl sortC sortN (by have := @vs_len v0 n0 v1 n1 v2 n2 3; omega) ?_
    refine r_nil ?_
    refine e_next ?_
    refine c_seq ?_
    refine c_region ?_
    refine r_val .none rfl (p_move rfl) ?_
    refine r_compact (k := 0) .none rfl cl50 rfl rfl compC compN (compact_le _) (fun v_13 => ?_)
    refine r_val .none rfl (p_assign rfl) ?_
    refine r_nil ?_
    refine e_next ?_
    refine c_ret ?_
    refine e_ret1 Try.results48 (.tmp rfl .nil) (fun w hm => hm.made [rowA v_13 3 1 (vars v0 n0 v1 n1 v2 n2).length ((vars v0 n0 v1 n1 v2 n2).flatMap cI)] (.keep (fun _ _ h => h) (.drop (.nil))) _ (fun F' h => starL_one h))
theorem c_cvars_s (n : Nat) (ih : VarsIs n) (c : CT) (sv : Value)  {G : Ghost} (hz : SizeOf.sizeOf c ≤ n + 1) (hsz : size c ≤ 1000) (hs : Cs G sv c.subs) (w : World) (hG : Has G w) :
    Calls Try.prog 30 #[Value.agg #[Value.int .i64 c.h.k, Value.bool c.h.v0, Value.int .i64 c.h.n0, Value.bool c.h.v1, Value.int .i64 c.h.n1, Value.bool c.h.v2, Value.int .i64 c.h.n2, sv]] w (Ret fun r w' => Since nX w w' ∧ ∃ F', (rowA r 3 1 (cvars c).length ((cvars c).flatMap cI)).holds w' F' ∧ ∀ b, F' b → w.heap.size ≤ b) := by
  refine enter (args := [_]) (X := nX) (G := G) (l := [(0, Value.agg #[Value.int .i64 c.h.k, Value.bool c.h.v0, Value.int .i64 c.h.n0, Value.bool c.h.v1, Value.int .i64 c.h.n1, Value.bool c.h.v2, Value.int .i64 c.h.n2, sv])]) Try.func30 rfl Try.ntmps30 hG ⟨rfl, trivial⟩ (Nat.le_of_ble_eq_true rfl) ?_
  obtain ⟨rs, hr, hp, hl⟩ := hs.inv
  have hlen : c.subs.length = rs.length := by rw [hl]; simp
  have hbd := hr.bound
  refine c_seq ?_
  refine c_region ?_
  refine r_box .none rfl rfl (IsRow.lit _) (fun b_1 => ?_)
  refine r_val .none rfl (p_assign rfl) ?_
  refine r_nil ?_
  refine e_next ?_
  refine c_seq ?_
  refine c_region ?_
  refine r_val .none rfl (p_assign rfl) ?_
  refine r_nil ?_
  refine e_next ?_
  refine c_seq ?_
  refine c_seq ?_
  refine c_region ?_
  refine r_val .none rfl (p_field Try.underlying27 rfl sz3 rfl) ?_
  refine r_val .none rfl (p_ld (k := 0) Try.underlying3 rfl rfl rfl (by first | exact of_decide_eq_true rfl | omega) (rfl : _ = Value.int _ _)) ?_
  refine r_val .none rfl (p_ne rfl rfl) ?_
  refine r_nil ?_
  refine e_next ?_
  refine c_splitd (d := 8) rfl (fun h_1 => ?_) (fun h_1 => ?_)
  · skip
    first
      | (exfalso; omega)
      | (
        refine c_cond_t rfl ?_
        refine c_region ?_
        refine r_val .none rfl (p_field Try.underlying27 rfl sz24 rfl) ?_
        refine r_val .none rfl (p_lda (k := 0) Try.underlying24 rfl sz24 rfl rfl (by first | exact of_decide_eq_true rfl | omega) (rfl : _ = Value.agg #[_, _, _, _, _, _])) ?_
        refine r_callrow (vs := [_]) .none rfl cl48 rfl (fun w hw => c_varsO _ _ _ _ _ _ w hw) (fun v_2 => ?_)
        refine r_val .none rfl (p_assign rfl) ?_
        refine r_nil ?_
        refine e_next ?_
        refine c_seq ?_
        refine c_seq ?_
        refine c_region ?_
        refine r_val .none rfl (p_field Try.underlying27 rfl sz25 rfl) ?_
        refine r_val .none rfl (p_ld (k := 1) Try.underlying25 rfl rfl rfl (by first | exact of_decide_eq_true rfl | omega) rfl) ?_
        refine r_val .none rfl (p_leng Try.underlying25 rfl hr) ?_
        have bd_3 := (hr).bound
        refine r_val .none rfl (p_move rfl) ?_
        refine r_nil ?_
        refine e_next ?_
        refine c_block ?_
        refine c_name (d := 2) rfl (fun u_4 hu_4 => ?_)
        refine c_name (d := 13) rfl (fun u_5 hu_5 => ?_)
        refine c_name (d := 14) rfl (fun u_6 hu_6 => ?_)
        refine c_nameL (k := 1) rfl (fun A_7 hA_7 => ?_)
        refine c_loop (σ := Nat × Value × Ghost) (fun s => [(15, Value.int .i64 (s.1 : Nat)), (3, s.2.1), (2, u_4), (13, u_5), (14, u_6)]) (fun s => [rowA (s.2.1) 3 1 ((own c.h ++ cvarsL ((rs.map Prod.fst).take s.1))).length (((own c.h ++ cvarsL ((rs.map Prod.fst).take s.1))).flatMap cI), A_7]) (fun s => s.2.2) (fun s => s.1 ≤ rs.length ∧ GNew w nX G s.2.2) (fun s => rs.length - s.1) ((0, _, _)) ⟨Nat.zero_le _, GNew.refl _ _ _⟩ rfl ⟨rfl, rfl, rfl, rfl, rfl, trivial⟩ (.keep (fun _ _ h => rowA_congr (by first | (rw [own, if_pos (by omega)]; rfl) | (rw [own, if_neg (by omega)]; simp [cvarsL])) (by first | (rw [own, if_pos (by omega)]; rfl) | (rw [own, if_neg (by omega)]; simp [cvarsL])) _ _ h) (.keep (fun _ _ h => h) (.nil))) (fun s hphi => ?_)
        subst hu_4
        subst hu_5
        subst hu_6
        subst hA_7
        obtain ⟨k, v, H⟩ := s
        obtain ⟨hk, hgn⟩ := hphi
        dsimp only at hk hgn ⊢
        replace hp := fun p hm0 => (hp p hm0).mono hgn.le
        replace hr := hr.mono hgn.le
        refine c_seq ?_
        refine c_region ?_
        refine r_val .none rfl (p_lt rfl rfl) ?_
        refine r_nil ?_
        refine e_next ?_
        refine c_seq ?_
        refine c_splitd (d := 16) rfl (fun h_8 => ?_) (fun h_8 => ?_)
        · skip
          first
            | (exfalso; omega)
            | (
              refine c_cond_t rfl ?_
              refine c_skip ?_
              refine e_next ?_
              refine c_seq ?_
              refine c_block ?_
              refine c_seq ?_
              refine c_region ?_
              refine r_iaddr_g .none rfl Try.underlying25 sz27 rfl hr rfl (by first | exact of_decide_eq_true rfl | omega) (fun p_10 o_11 R_9 => ?_)
              have hc_12 := hp _ (getD_mem (i := k) (d := d0) (by omega))
              have hz3 := size_child (i := k) hl (by omega) hsz
              refine r_val .none rfl (p_ldga0 Try.underlying27 rfl sz27 rfl R_9 (by first | exact of_decide_eq_true rfl | omega) (rfl : _ = Value.agg #[_, _, _, _, _, _, _, _])) ?_
              refine r_alloc .none rfl zr27 (IsRow.lit _) (fun b_2 => ?_)
              refine r_stw (k := 0) .none sz27 rfl rfl (IsRow.lit _) (one_lit rfl (all_cons rfl (all_cons rfl (all_cons rfl (all_cons rfl (all_cons rfl (all_cons rfl (all_cons rfl (all_cons (hc_12).one rfl))))))))) rfl ?_
              refine r_nil ?_
              refine e_next ?_
              refine c_region ?_
              refine r_val .none rfl (p_move rfl) ?_
              refine r_val .none rfl (p_ldw (k := 0) Try.underlying27 rfl sz27 rfl rfl (rfl : _ = Value.agg #[_, _, _, _, _, _, _, _])) ?_
              refine r_callrow (vs := [_]) .none rfl cl30 rfl (fun w hw => ih (rs.getD k d0).1 _ _ w (size_at hl (by omega) hz) hz3 hc_12 hw) (fun v_13 => ?_)
              refine r_freeze (k := 0) rfl (fun G_15 hn_16 hs_17 => ?_)
              replace hp := fun p hm0 => (hp p hm0).mono hn_16.le
              replace hr := hr.mono hn_16.le
              replace R_9 := R_9.mono hn_16.le
              replace hc_12 := hc_12.mono hn_16.le
              have hs_18 := SlL.of (cells := cI) (0 : Int) (fun _ => rfl) rfl hs_17
              refine r_append_g (k := 1) .none rfl Try.underlying57 el3 rfl (by decide) rfl rfl rfl hs_18 (fun _ _ _ hj => one_lit rfl rfl _ hj) (by have q1 := own_len c.h; have q2 := cvarsL_some (rs := rs) k; have q3 := size_eq c; rw [hl] at q3; have q4 := cvars_len (rs.getD k d0).1; rw [List.length_append]; simp only [maxLen]; omega) (by have q1 := own_len c.h; have q2 := cvarsL_some (rs := rs) k; have q3 := size_eq c; rw [hl] at q3; have q4 := cvars_len (rs.getD k d0).1; rw [List.length_append]; omega) (fun v_14 => ?_)
              refine r_row1 (k := 1) rfl (fun o_19 => ?_)
              refine r_val .none rfl (p_assign rfl) ?_
              refine r_nil ?_
              refine e_norm_block ?_
              refine e_next ?_
              refine c_region ?_
              refine r_val .none rfl (p_add rfl rfl (by omega)) ?_
              refine r_val .none rfl (p_move rfl) ?_
              refine r_nil ?_
              refine e_round ((k + 1, _, _)) ⟨⟨by dsimp only; omega, (hgn.trans hn_16)⟩, by dsimp only; omega⟩ rfl ⟨rfl, rfl, rfl, rfl, rfl, trivial⟩ (.drop (.keep (fun _ _ h => rowA_congr (by rw [cvarsL_take (by omega)]; simp only [List.length_append]; omega) (by rw [flat_all (cells := cI) (fun _ => rfl), ← List.flatMap_append, cvarsL_take (by omega), List.append_assoc]) _ _ h) (.keep (fun _ _ h => h) (.nil))))
              )
        · skip
          first
            | (exfalso; omega)
            | (
              refine c_cond_f rfl ?_
              refine c_exit ?_
              refine e_exit_then ?_
              refine e_exit_then ?_
              refine e_exit_block ?_
              refine e_next ?_
              refine c_seq ?_
              refine c_region ?_
              refine r_val .none rfl (p_move rfl) ?_
              refine r_sort (k := 0) (zs := _) .none rfl cl49 rfl rfl sortC sortN (by have q1 := own_len c.h; have q2 := cvarsL_some (rs := rs) k; have q3 := size_eq c; rw [hl] at q3; rw [List.length_append]; omega) ?_
              refine r_nil ?_
              refine e_next ?_
              refine c_seq ?_
              refine c_region ?_
              refine r_val .none rfl (p_move rfl) ?_
              refine r_compact (k := 0) .none rfl cl50 rfl rfl compC compN (compact_le _) (fun v_20 => ?_)
              refine r_val .none rfl (p_assign rfl) ?_
              refine r_nil ?_
              refine e_next ?_
              refine c_ret ?_
              have hk2 : k = rs.length := by omega
              have he : cvars c = Lib.compact (sortI (own c.h ++ cvarsL ((rs.map Prod.fst).take k))) := by rw [cvars_eq, hl, List.take_of_length_le (by simp; omega)]; rfl
              refine e_ret1 Try.results30 (.tmp rfl .nil) (fun w hm => hm.made [rowA v_20 3 1 (cvars c).length ((cvars c).flatMap cI)] (.keep (fun _ _ h => rowA_congr (by rw [he]) (by rw [he]) _ _ h) (.drop (.nil))) _ (fun F' h => starL_one h))
              )
        )
  · skip
    first
      | (exfalso; omega)
      | (
        refine c_cond_f rfl ?_
        refine c_skip ?_
        refine e_next ?_
        refine c_seq ?_
        refine c_seq ?_
        refine c_region ?_
        refine r_val .none rfl (p_field Try.underlying27 rfl sz25 rfl) ?_
        refine r_val .none rfl (p_ld (k := 0) Try.underlying25 rfl rfl rfl (by first | exact of_decide_eq_true rfl | omega) rfl) ?_
        refine r_val .none rfl (p_leng Try.underlying25 rfl hr) ?_
        have bd_21 := (hr).bound
        refine r_val .none rfl (p_move rfl) ?_
        refine r_nil ?_
        refine e_next ?_
        refine c_block ?_
        refine c_nilrow 3 1 ?_
        refine c_name (d := 2) rfl (fun u_22 hu_22 => ?_)
        refine c_name (d := 13) rfl (fun u_23 hu_23 => ?_)
        refine c_name (d := 14) rfl (fun u_24 hu_24 => ?_)
        refine c_nameL (k := 1) rfl (fun A_25 hA_25 => ?_)
        refine c_loop (σ := Nat × Value × Ghost) (fun s => [(15, Value.int .i64 (s.1 : Nat)), (3, s.2.1), (2, u_22), (13, u_23), (14, u_24)]) (fun s => [rowA (s.2.1) 3 1 ((own c.h ++ cvarsL ((rs.map Prod.fst).take s.1))).length (((own c.h ++ cvarsL ((rs.map Prod.fst).take s.1))).flatMap cI), A_25]) (fun s => s.2.2) (fun s => s.1 ≤ rs.length ∧ GNew w nX G s.2.2) (fun s => rs.length - s.1) ((0, _, _)) ⟨Nat.zero_le _, GNew.refl _ _ _⟩ rfl ⟨rfl, rfl, rfl, rfl, rfl, trivial⟩ (.keep (fun _ _ h => rowA_congr (by first | (rw [own, if_pos (by omega)]; rfl) | (rw [own, if_neg (by omega)]; simp [cvarsL])) (by first | (rw [own, if_pos (by omega)]; rfl) | (rw [own, if_neg (by omega)]; simp [cvarsL])) _ _ h) (.keep (fun _ _ h => h) (.nil))) (fun s hphi => ?_)
        subst hu_22
        subst hu_23
        subst hu_24
        subst hA_25
        obtain ⟨k, v, H⟩ := s
        obtain ⟨hk, hgn⟩ := hphi
        dsimp only at hk hgn ⊢
        replace hp := fun p hm0 => (hp p hm0).mono hgn.le
        replace hr := hr.mono hgn.le
        refine c_seq ?_
        refine c_region ?_
        refine r_val .none rfl (p_lt rfl rfl) ?_
        refine r_nil ?_
        refine e_next ?_
        refine c_seq ?_
        refine c_splitd (d := 16) rfl (fun h_26 => ?_) (fun h_26 => ?_)
        · skip
          first
            | (exfalso; omega)
            | (
              refine c_cond_t rfl ?_
              refine c_skip ?_
              refine e_next ?_
              refine c_seq ?_
              refine c_block ?_
              refine c_seq ?_
              refine c_region ?_
              refine r_iaddr_g .none rfl Try.underlying25 sz27 rfl hr rfl (by first | exact of_decide_eq_true rfl | omega) (fun p_28 o_29 R_27 => ?_)
              have hc_30 := hp _ (getD_mem (i := k) (d := d0) (by omega))
              have hz3 := size_child (i := k) hl (by omega) hsz
              refine r_val .none rfl (p_ldga0 Try.underlying27 rfl sz27 rfl R_27 (by first | exact of_decide_eq_true rfl | omega) (rfl : _ = Value.agg #[_, _, _, _, _, _, _, _])) ?_
              refine r_alloc .none rfl zr27 (IsRow.lit _) (fun b_3 => ?_)
              refine r_stw (k := 0) .none sz27 rfl rfl (IsRow.lit _) (one_lit rfl (all_cons rfl (all_cons rfl (all_cons rfl (all_cons rfl (all_cons rfl (all_cons rfl (all_cons rfl (all_cons (hc_30).one rfl))))))))) rfl ?_
              refine r_nil ?_
              refine e_next ?_
              refine c_region ?_
              refine r_val .none rfl (p_move rfl) ?_
              refine r_val .none rfl (p_ldw (k := 0) Try.underlying27 rfl sz27 rfl rfl (rfl : _ = Value.agg #[_, _, _, _, _, _, _, _])) ?_
              refine r_callrow (vs := [_]) .none rfl cl30 rfl (fun w hw => ih (rs.getD k d0).1 _ _ w (size_at hl (by omega) hz) hz3 hc_30 hw) (fun v_31 => ?_)
              refine r_freeze (k := 0) rfl (fun G_33 hn_34 hs_35 => ?_)
              replace hp := fun p hm0 => (hp p hm0).mono hn_34.le
              replace hr := hr.mono hn_34.le
              replace R_27 := R_27.mono hn_34.le
              replace hc_30 := hc_30.mono hn_34.le
              have hs_36 := SlL.of (cells := cI) (0 : Int) (fun _ => rfl) rfl hs_35
              refine r_append_g (k := 1) .none rfl Try.underlying57 el3 rfl (by decide) rfl rfl rfl hs_36 (fun _ _ _ hj => one_lit rfl rfl _ hj) (by have q1 := own_len c.h; have q2 := cvarsL_some (rs := rs) k; have q3 := size_eq c; rw [hl] at q3; have q4 := cvars_len (rs.getD k d0).1; rw [List.length_append]; simp only [maxLen]; omega) (by have q1 := own_len c.h; have q2 := cvarsL_some (rs := rs) k; have q3 := size_eq c; rw [hl] at q3; have q4 := cvars_len (rs.getD k d0).1; rw [List.length_append]; omega) (fun v_32 => ?_)
              refine r_row1 (k := 1) rfl (fun o_37 => ?_)
              refine r_val .none rfl (p_assign rfl) ?_
              refine r_nil ?_
              refine e_norm_block ?_
              refine e_next ?_
              refine c_region ?_
              refine r_val .none rfl (p_add rfl rfl (by omega)) ?_
              refine r_val .none rfl (p_move rfl) ?_
              refine r_nil ?_
              refine e_round ((k + 1, _, _)) ⟨⟨by dsimp only; omega, (hgn.trans hn_34)⟩, by dsimp only; omega⟩ rfl ⟨rfl, rfl, rfl, rfl, rfl, trivial⟩ (.drop (.keep (fun _ _ h => rowA_congr (by rw [cvarsL_take (by omega)]; simp only [List.length_append]; omega) (by rw [flat_all (cells := cI) (fun _ => rfl), ← List.flatMap_append, cvarsL_take (by omega), List.append_assoc]) _ _ h) (.keep (fun _ _ h => h) (.nil))))
              )
        · skip
          first
            | (exfalso; omega)
            | (
              refine c_cond_f rfl ?_
              refine c_exit ?_
              refine e_exit_then ?_
              refine e_exit_then ?_
              refine e_exit_block ?_
              refine e_next ?_
              refine c_seq ?_
              refine c_region ?_
              refine r_val .none rfl (p_move rfl) ?_
              refine r_sort (k := 0) (zs := _) .none rfl cl49 rfl rfl sortC sortN (by have q1 := own_len c.h; have q2 := cvarsL_some (rs := rs) k; have q3 := size_eq c; rw [hl] at q3; rw [List.length_append]; omega) ?_
              refine r_nil ?_
              refine e_next ?_
              refine c_seq ?_
              refine c_region ?_
              refine r_val .none rfl (p_move rfl) ?_
              refine r_compact (k := 0) .none rfl cl50 rfl rfl compC compN (compact_le _) (fun v_38 => ?_)
              refine r_val .none rfl (p_assign rfl) ?_
              refine r_nil ?_
              refine e_next ?_
              refine c_ret ?_
              have hk2 : k = rs.length := by omega
              have he : cvars c = Lib.compact (sortI (own c.h ++ cvarsL ((rs.map Prod.fst).take k))) := by rw [cvars_eq, hl, List.take_of_length_le (by simp; omega)]; rfl
              refine e_ret1 Try.results30 (.tmp rfl .nil) (fun w hm => hm.made [rowA v_38 3 1 (cvars c).length ((cvars c).flatMap cI)] (.keep (fun _ _ h => rowA_congr (by rw [he]) (by rw [he]) _ _ h) (.drop (.nil))) _ (fun F' h => starL_one h))
              )
        )
theorem c_cvars_n : ∀ n, VarsIs n
  | 0 => fun c sv G w hz hsz hs hG => absurd hz (by have := size_subs c; omega)
  | n + 1 => fun c sv G w hz hsz hs hG => c_cvars_s n (c_cvars_n n) c sv hz hsz hs w hG
theorem c_cvars (c : CT) (sv : Value) {G : Ghost} (hsz : size c ≤ 1000) (hs : Cs G sv c.subs) (w : World) (hG : Has G w) : Calls Try.prog 30 #[Value.agg #[Value.int .i64 c.h.k, Value.bool c.h.v0, Value.int .i64 c.h.n0, Value.bool c.h.v1, Value.int .i64 c.h.n1, Value.bool c.h.v2, Value.int .i64 c.h.n2, sv]] w (Ret fun r w' => Since nX w w' ∧ ∃ F', (rowA r 3 1 (cvars c).length ((cvars c).flatMap cI)).holds w' F' ∧ ∀ b, F' b → w.heap.size ≤ b) := c_cvars_n _ c sv G w (Nat.le_refl _) hsz hs hG
theorem c_rhas_s (n : Nat) (ih : RhasIs n) (c : CT) (sv : Value) (v : Nat) {G : Ghost} (hz : SizeOf.sizeOf c ≤ n + 1) (hs : Rs G sv c.subs) (w : World) (hG : Has G w) :
    Calls Try.prog 31 #[Value.agg #[Value.int .i64 c.h.k, Value.int .i64 (vi c.h.v0), Value.int .i64 c.h.n0, Value.int .i64 (vi c.h.v1), Value.int .i64 c.h.n1, Value.int .i64 (vi c.h.v2), Value.int .i64 c.h.n2, sv], Value.int .i64 (v : Nat)] w (Ret fun r w' => r = Value.bool (has c v) ∧ Since nX w w') := by
  refine enter (args := [_, _]) (X := nX) (G := G) (l := [(0, Value.agg #[Value.int .i64 c.h.k, Value.int .i64 (vi c.h.v0), Value.int .i64 c.h.n0, Value.int .i64 (vi c.h.v1), Value.int .i64 c.h.n1, Value.int .i64 (vi c.h.v2), Value.int .i64 c.h.n2, sv]), (1, Value.int .i64 (v : Nat))]) Try.func31 rfl Try.ntmps31 hG ⟨rfl, rfl, trivial⟩ (Nat.le_of_ble_eq_true rfl) ?_
  obtain ⟨rs, hr, hp, hl⟩ := hs.inv
  have hlen : c.subs.length = rs.length := by rw [hl]; simp
  have hbd := hr.bound
  refine c_seq ?_
  refine c_region ?_
  refine r_box .none rfl rfl (IsRow.lit _) (fun b_1 => ?_)
  refine r_val .none rfl (p_assign rfl) ?_
  refine r_nil ?_
  refine e_next ?_
  refine c_seq ?_
  refine c_seq ?_
  refine c_region ?_
  refine r_val .none rfl (p_assign rfl) ?_
  refine r_nil ?_
  refine e_next ?_
  refine c_block ?_
  refine c_unroll 4 ?_
  refine l_round (n := 3) ?_
  refine c_seq ?_
  refine c_seq ?_
  refine c_region ?_
  refine r_val .none rfl (p_move rfl) ?_
  refine r_val .none rfl (p_lt rfl rfl) ?_
  refine r_say (d := 9) (v := Value.bool true) rfl ?_
  refine r_nil ?_
  refine e_next ?_
  refine c_cond_t rfl ?_
  refine c_skip ?_
  refine e_next ?_
  refine c_seq ?_
  refine c_block ?_
  refine c_seq ?_
  refine c_region ?_
  refine r_val .none rfl (p_field Try.underlying38 rfl sz3 rfl) ?_
  refine r_val .none rfl (p_ld (k := 0) Try.underlying3 rfl rfl rfl (by first | exact of_decide_eq_true rfl | omega) (rfl : _ = Value.int _ _)) ?_
  refine r_val .none rfl (p_lt rfl rfl) ?_
  refine r_val .none rfl (p_move rfl) ?_
  refine' r_and (c := 15) (d := 22) [_, _, _, _, _, _, _] rfl (fun h_1 Q_2 hQ_3 => ?_) (fun h_1 Q_2 hQ_3 => ?_) ?_
  rotate_left 1
  · skip
    replace h_1 := of_decide_eq_true h_1
    refine r_val (.some rfl rfl) rfl (p_move rfl) ?_
    refine r_val (.some rfl rfl) rfl (p_field Try.underlying38 rfl sz35 rfl) ?_
    refine r_val (.some rfl rfl) rfl (p_iaddr (k := 0) Try.underlying35 sz34 rfl rfl (by first | exact of_decide_eq_true rfl | omega)) ?_
    refine r_val (.some rfl rfl) rfl (p_field Try.underlying34 rfl sz3 rfl) ?_
    refine r_val (.some rfl rfl) rfl (p_ld (k := 0) Try.underlying3 rfl rfl rfl (by first | exact of_decide_eq_true rfl | omega) (rfl : _ = Value.int _ _)) ?_
    refine r_val (.some rfl rfl) rfl (p_eq rfl rfl) ?_
    refine r_val .none rfl (p_pick_t rfl rfl) ?_
    refine r_nil (e_fin (d := 22) hQ_3 rfl (by repeat (first | exact .refl | refine .put rfl ?_ | refine .say rfl ?_ | refine .say2 rfl (by first | assumption | simp_all) ?_)))
  · skip
    repeat (first | refine r_skip rfl (.no rfl rfl) ?_ | refine r_skip rfl (.un rfl rfl) ?_)
    refine r_val (by first | exact .none | exact .some rfl rfl) rfl (p_pick_f rfl rfl) ?_
    refine r_nil (e_fin (d := 22) hQ_3 rfl (by repeat (first | exact .refl | refine .put rfl ?_ | refine .say rfl ?_ | refine .say2 rfl (by first | assumption | simp_all) ?_)))
  refine r_val .none rfl (p_move rfl) ?_
  refine' r_and (c := 23) (d := 31) [_, _, _, _, _, _, _, _] rfl (fun h_5 Q_6 hQ_7 => ?_) (fun h_5 Q_6 hQ_7 => ?_) ?_
  rotate_left 1
  · skip
    try simp only [norms] at h_5
    refine r_val (.some rfl rfl) rfl (p_move rfl) ?_
    refine r_val (.some rfl rfl) rfl (p_field Try.underlying38 rfl sz35 rfl) ?_
    refine r_val (.some rfl rfl) rfl (p_iaddr (k := 0) Try.underlying35 sz34 rfl rfl (by first | exact of_decide_eq_true rfl | omega)) ?_
    refine r_val (.some rfl rfl) rfl (p_field Try.underlying34 rfl sz3 rfl) ?_
    refine r_val (.some rfl rfl) rfl (p_ld (k := 0) Try.underlying3 rfl rfl rfl (by first | exact of_decide_eq_true rfl | omega) (rfl : _ = Value.int _ _)) ?_
    refine r_val (.some rfl rfl) rfl (p_move rfl) ?_
    refine r_val (.some rfl rfl) rfl (p_eq rfl rfl) ?_
    refine r_val .none rfl (p_pick_t rfl rfl) ?_
    refine r_nil (e_fin (d := 31) hQ_7 rfl (by repeat (first | exact .refl | refine .put rfl ?_ | refine .say rfl ?_ | refine .say2 rfl (by first | assumption | simp_all) ?_)))
  · skip
    repeat (first | refine r_skip rfl (.no rfl rfl) ?_ | refine r_skip rfl (.un rfl rfl) ?_)
    refine r_val (by first | exact .none | exact .some rfl rfl) rfl (p_pick_f rfl rfl) ?_
    refine r_nil (e_fin (d := 31) hQ_7 rfl (by repeat (first | exact .refl | refine .put rfl ?_ | refine .say rfl ?_ | refine .say2 rfl (by first | assumption | simp_all) ?_)))
  refine r_nil ?_
  refine e_next ?_
  refine c_split (d := 31) rfl (fun h_9 => ?_) (fun h_9 => ?_)
  · skip
    try simp only [norms] at h_9
    first
      | (exfalso; omega)
      | (
        refine c_cond_t rfl ?_
        refine c_seq ?_
        refine c_region ?_
        refine r_val .none rfl (p_assign rfl) ?_
        refine r_nil ?_
        refine e_next ?_
        refine c_ret ?_
        refine e_ret_block ?_
        refine e_ret_then ?_
        refine e_ret_then ?_
        refine e_ret_block ?_
        refine e_ret_then ?_
        refine e_ret1 Try.results31 (.tmp rfl .nil) (fun w hm => ⟨?_, hm.since⟩)
        rw [has_eq c v]
        first
        | (rw [own_yes (by omega)]; rfl)
        | (rw [own_no (by omega), Bool.false_or, ← hphi.2, map_drop (i := k) (d := d0) (by omega), hasL_yes hE]; done)
        | (rw [own_no (by omega), Bool.false_or, ← hphi.2, List.drop_eq_nil_of_le (by simp; omega)]; rfl)
        )
  · skip
    try simp only [norms] at h_9
    first
      | (exfalso; omega)
      | (
        refine c_cond_f rfl ?_
        refine c_skip ?_
        refine e_norm_block ?_
        refine e_next ?_
        refine c_region ?_
        refine r_val .none rfl (p_move rfl) ?_
        refine r_val .none rfl (p_add rfl rfl (by omega)) ?_
        refine r_val .none rfl (p_assign rfl) ?_
        refine r_nil ?_
        refine e_again ?_
        refine l_round (n := 2) ?_
        refine c_seq ?_
        refine c_seq ?_
        refine c_region ?_
        refine r_val .none rfl (p_move rfl) ?_
        refine r_val .none rfl (p_lt rfl rfl) ?_
        refine r_say (d := 9) (v := Value.bool true) rfl ?_
        refine r_nil ?_
        refine e_next ?_
        refine c_cond_t rfl ?_
        refine c_skip ?_
        refine e_next ?_
        refine c_seq ?_
        refine c_block ?_
        refine c_seq ?_
        refine c_region ?_
        refine r_val .none rfl (p_field Try.underlying38 rfl sz3 rfl) ?_
        refine r_val .none rfl (p_ld (k := 0) Try.underlying3 rfl rfl rfl (by first | exact of_decide_eq_true rfl | omega) (rfl : _ = Value.int _ _)) ?_
        refine r_val .none rfl (p_lt rfl rfl) ?_
        refine r_val .none rfl (p_move rfl) ?_
        refine r_splitd (d := 15) rfl (fun h_10 => ?_) (fun h_10 => ?_)
        · skip
          first
            | (exfalso; omega)
            | (
              refine r_val (.some rfl rfl) rfl (p_move rfl) ?_
              refine r_val (.some rfl rfl) rfl (p_field Try.underlying38 rfl sz35 rfl) ?_
              refine r_val (.some rfl rfl) rfl (p_iaddr (k := 1) Try.underlying35 sz34 rfl rfl (by first | exact of_decide_eq_true rfl | omega)) ?_
              refine r_val (.some rfl rfl) rfl (p_field Try.underlying34 rfl sz3 rfl) ?_
              refine r_val (.some rfl rfl) rfl (p_ld (k := 0) Try.underlying3 rfl rfl rfl (by first | exact of_decide_eq_true rfl | omega) (rfl : _ = Value.int _ _)) ?_
              refine r_val (.some rfl rfl) rfl (p_eq rfl rfl) ?_
              refine r_val .none rfl (p_pick_t rfl rfl) ?_
              refine r_val .none rfl (p_move rfl) ?_
              refine r_splitd (d := 23) rfl (fun h_11 => ?_) (fun h_11 => ?_)
              · skip
                first
                  | (exfalso; omega)
                  | (
                    refine r_val (.some rfl rfl) rfl (p_move rfl) ?_
                    refine r_val (.some rfl rfl) rfl (p_field Try.underlying38 rfl sz35 rfl) ?_
                    refine r_val (.some rfl rfl) rfl (p_iaddr (k := 1) Try.underlying35 sz34 rfl rfl (by first | exact of_decide_eq_true rfl | omega)) ?_
                    refine r_val (.some rfl rfl) rfl (p_field Try.underlying34 rfl sz3 rfl) ?_
                    refine r_val (.some rfl rfl) rfl (p_ld (k := 0) Try.underlying3 rfl rfl rfl (by first | exact of_decide_eq_true rfl | omega) (rfl : _ = Value.int _ _)) ?_
                    refine r_val (.some rfl rfl) rfl (p_move rfl) ?_
                    refine r_val (.some rfl rfl) rfl (p_eq rfl rfl) ?_
                    refine r_val .none rfl (p_pick_t rfl rfl) ?_
                    refine r_nil ?_
                    refine e_next ?_
                    refine c_splitd (d := 31) rfl (fun h_12 => ?_) (fun h_12 => ?_)
                    · skip
                      first
                        | (exfalso; omega)
                        | (
                          refine c_cond_t rfl ?_
                          refine c_seq ?_
                          refine c_region ?_
                          refine r_val .none rfl (p_assign rfl) ?_
                          refine r_nil ?_
                          refine e_next ?_
                          refine c_ret ?_
                          refine e_ret_block ?_
                          refine e_ret_then ?_
                          refine e_ret_then ?_
                          refine e_ret_block ?_
                          refine e_ret_then ?_
                          refine e_ret1 Try.results31 (.tmp rfl .nil) (fun w hm => ⟨?_, hm.since⟩)
                          rw [has_eq c v]
                          first
                          | (rw [own_yes (by omega)]; rfl)
                          | (rw [own_no (by omega), Bool.false_or, ← hphi.2, map_drop (i := k) (d := d0) (by omega), hasL_yes hE]; done)
                          | (rw [own_no (by omega), Bool.false_or, ← hphi.2, List.drop_eq_nil_of_le (by simp; omega)]; rfl)
                          )
                    · skip
                      first
                        | (exfalso; omega)
                        | (
                          refine c_cond_f rfl ?_
                          refine c_skip ?_
                          refine e_norm_block ?_
                          refine e_next ?_
                          refine c_region ?_
                          refine r_val .none rfl (p_move rfl) ?_
                          refine r_val .none rfl (p_add rfl rfl (by omega)) ?_
                          refine r_val .none rfl (p_assign rfl) ?_
                          refine r_nil ?_
                          refine e_again ?_
                          refine l_round (n := 1) ?_
                          refine c_seq ?_
                          refine c_seq ?_
                          refine c_region ?_
                          refine r_val .none rfl (p_move rfl) ?_
                          refine r_val .none rfl (p_lt rfl rfl) ?_
                          refine r_say (d := 9) (v := Value.bool true) rfl ?_
                          refine r_nil ?_
                          refine e_next ?_
                          refine c_cond_t rfl ?_
                          refine c_skip ?_
                          refine e_next ?_
                          refine c_seq ?_
                          refine c_block ?_
                          refine c_seq ?_
                          refine c_region ?_
                          refine r_val .none rfl (p_field Try.underlying38 rfl sz3 rfl) ?_
                          refine r_val .none rfl (p_ld (k := 0) Try.underlying3 rfl rfl rfl (by first | exact of_decide_eq_true rfl | omega) (rfl : _ = Value.int _ _)) ?_
                          refine r_val .none rfl (p_lt rfl rfl) ?_
                          refine r_val .none rfl (p_move rfl) ?_
                          refine r_splitd (d := 15) rfl (fun h_13 => ?_) (fun h_13 => ?_)
                          · skip
                            first
                              | (exfalso; omega)
                              | (
                                refine r_val (.some rfl rfl) rfl (p_move rfl) ?_
                                refine r_val (.some rfl rfl) rfl (p_field Try.underlying38 rfl sz35 rfl) ?_
                                refine r_val (.some rfl rfl) rfl (p_iaddr (k := 2) Try.underlying35 sz34 rfl rfl (by first | exact of_decide_eq_true rfl | omega)) ?_
                                refine r_val (.some rfl rfl) rfl (p_field Try.underlying34 rfl sz3 rfl) ?_
                                refine r_val (.some rfl rfl) rfl (p_ld (k := 0) Try.underlying3 rfl rfl rfl (by first | exact of_decide_eq_true rfl | omega) (rfl : _ = Value.int _ _)) ?_
                                refine r_val (.some rfl rfl) rfl (p_eq rfl rfl) ?_
                                refine r_val .none rfl (p_pick_t rfl rfl) ?_
                                refine r_val .none rfl (p_move rfl) ?_
                                refine r_splitd (d := 23) rfl (fun h_14 => ?_) (fun h_14 => ?_)
                                · skip
                                  first
                                    | (exfalso; omega)
                                    | (
                                      refine r_val (.some rfl rfl) rfl (p_move rfl) ?_
                                      refine r_val (.some rfl rfl) rfl (p_field Try.underlying38 rfl sz35 rfl) ?_
                                      refine r_val (.some rfl rfl) rfl (p_iaddr (k := 2) Try.underlying35 sz34 rfl rfl (by first | exact of_decide_eq_true rfl | omega)) ?_
                                      refine r_val (.some rfl rfl) rfl (p_field Try.underlying34 rfl sz3 rfl) ?_
                                      refine r_val (.some rfl rfl) rfl (p_ld (k := 0) Try.underlying3 rfl rfl rfl (by first | exact of_decide_eq_true rfl | omega) (rfl : _ = Value.int _ _)) ?_
                                      refine r_val (.some rfl rfl) rfl (p_move rfl) ?_
                                      refine r_val (.some rfl rfl) rfl (p_eq rfl rfl) ?_
                                      refine r_val .none rfl (p_pick_t rfl rfl) ?_
                                      refine r_nil ?_
                                      refine e_next ?_
                                      refine c_splitd (d := 31) rfl (fun h_15 => ?_) (fun h_15 => ?_)
                                      · skip
                                        first
                                          | (exfalso; omega)
                                          | (
                                            refine c_cond_t rfl ?_
                                            refine c_seq ?_
                                            refine c_region ?_
                                            refine r_val .none rfl (p_assign rfl) ?_
                                            refine r_nil ?_
                                            refine e_next ?_
                                            refine c_ret ?_
                                            refine e_ret_block ?_
                                            refine e_ret_then ?_
                                            refine e_ret_then ?_
                                            refine e_ret_block ?_
                                            refine e_ret_then ?_
                                            refine e_ret1 Try.results31 (.tmp rfl .nil) (fun w hm => ⟨?_, hm.since⟩)
                                            rw [has_eq c v]
                                            first
                                            | (rw [own_yes (by omega)]; rfl)
                                            | (rw [own_no (by omega), Bool.false_or, ← hphi.2, map_drop (i := k) (d := d0) (by omega), hasL_yes hE]; done)
                                            | (rw [own_no (by omega), Bool.false_or, ← hphi.2, List.drop_eq_nil_of_le (by simp; omega)]; rfl)
                                            )
                                      · skip
                                        first
                                          | (exfalso; omega)
                                          | (
                                            refine c_cond_f rfl ?_
                                            refine c_skip ?_
                                            refine e_norm_block ?_
                                            refine e_next ?_
                                            refine c_region ?_
                                            refine r_val .none rfl (p_move rfl) ?_
                                            refine r_val .none rfl (p_add rfl rfl (by omega)) ?_
                                            refine r_val .none rfl (p_assign rfl) ?_
                                            refine r_nil ?_
                                            refine e_again ?_
                                            refine l_round (n := 0) ?_
                                            refine c_seq ?_
                                            refine c_seq ?_
                                            refine c_region ?_
                                            refine r_val .none rfl (p_move rfl) ?_
                                            refine r_val .none rfl (p_lt rfl rfl) ?_
                                            refine r_say (d := 9) (v := Value.bool false) rfl ?_
                                            refine r_nil ?_
                                            refine e_next ?_
                                            refine c_cond_f rfl ?_
                                            refine c_exit ?_
                                            refine e_exit_then ?_
                                            refine e_exit_then ?_
                                            refine e_exit_block ?_
                                            refine e_next ?_
                                            refine c_seq ?_
                                            refine c_seq ?_
                                            refine c_region ?_
                                            refine r_val .none rfl (p_field Try.underlying38 rfl sz36 rfl) ?_
                                            refine r_val .none rfl (p_ld (k := 0) Try.underlying36 rfl rfl rfl (by first | exact of_decide_eq_true rfl | omega) rfl) ?_
                                            refine r_val .none rfl (p_leng Try.underlying36 rfl hr) ?_
                                            have bd_16 := (hr).bound
                                            refine r_val .none rfl (p_move rfl) ?_
                                            refine r_nil ?_
                                            refine e_next ?_
                                            refine c_block ?_
                                            refine c_name (d := 1) rfl (fun u_17 hu_17 => ?_)
                                            refine c_name (d := 33) rfl (fun u_18 hu_18 => ?_)
                                            refine c_name (d := 34) rfl (fun u_19 hu_19 => ?_)
                                            refine c_nameL (k := 0) rfl (fun A_20 hA_20 => ?_)
                                            refine c_loop (σ := Nat) (fun k => [(35, Value.int .i64 (k : Nat)), (1, u_17), (33, u_18), (34, u_19)]) (fun k => [A_20]) (fun _ => _) (fun k => k ≤ rs.length ∧ hasL ((rs.map Prod.fst).drop k) v = hasL c.subs v) (fun k => rs.length - k) (0) ⟨Nat.zero_le _, by rw [hl]; rfl⟩ rfl ⟨rfl, rfl, rfl, rfl, trivial⟩ (.keep (fun _ _ h => h) (.nil)) (fun k hphi => ?_)
                                            subst hu_17
                                            subst hu_18
                                            subst hu_19
                                            subst hA_20
                                            refine c_seq ?_
                                            refine c_region ?_
                                            refine r_val .none rfl (p_lt rfl rfl) ?_
                                            refine r_nil ?_
                                            refine e_next ?_
                                            refine c_seq ?_
                                            refine c_splitd (d := 36) rfl (fun h_21 => ?_) (fun h_21 => ?_)
                                            · skip
                                              first
                                                | (exfalso; omega)
                                                | (
                                                  refine c_cond_t rfl ?_
                                                  refine c_skip ?_
                                                  refine e_next ?_
                                                  refine c_seq ?_
                                                  refine c_block ?_
                                                  refine c_seq ?_
                                                  refine c_region ?_
                                                  refine r_iaddr_g .none rfl Try.underlying36 sz38 rfl hr rfl (by first | exact of_decide_eq_true rfl | omega) (fun p_23 o_24 R_22 => ?_)
                                                  have hc_25 := hp _ (getD_mem (i := k) (d := d0) (by omega))
                                                  refine r_val .none rfl (p_ldga0 Try.underlying38 rfl sz38 rfl R_22 (by first | exact of_decide_eq_true rfl | omega) (rfl : _ = Value.agg #[_, _, _, _, _, _, _, _])) ?_
                                                  refine r_alloc .none rfl zr38 (IsRow.lit _) (fun b_2 => ?_)
                                                  refine r_stw (k := 0) .none sz38 rfl rfl (IsRow.lit _) (one_lit rfl (all_cons rfl (all_cons rfl (all_cons rfl (all_cons rfl (all_cons rfl (all_cons rfl (all_cons rfl (all_cons (hc_25).one rfl))))))))) rfl ?_
                                                  refine r_nil ?_
                                                  refine e_next ?_
                                                  refine c_seq ?_
                                                  refine c_region ?_
                                                  refine r_val .none rfl (p_ldw (k := 0) Try.underlying38 rfl sz38 rfl rfl (rfl : _ = Value.agg #[_, _, _, _, _, _, _, _])) ?_
                                                  refine r_val .none rfl (p_move rfl) ?_
                                                  refine r_call (vs := [_, _]) .none rfl cl31 rfl (fun w hw => ih (rs.getD k d0).1 _ _ _ w (size_at hl (by omega) hz) hc_25 hw) ?_
                                                  refine r_nil ?_
                                                  refine e_next ?_
                                                  refine c_split (d := 41) rfl (fun h_26 => ?_) (fun h_26 => ?_)
                                                  · skip
                                                    have hE := h_26
                                                    first
                                                      | (exfalso; omega)
                                                      | (
                                                        refine c_cond_t rfl ?_
                                                        refine c_seq ?_
                                                        refine c_region ?_
                                                        refine r_val .none rfl (p_assign rfl) ?_
                                                        refine r_nil ?_
                                                        refine e_next ?_
                                                        refine c_ret ?_
                                                        refine e_ret_block ?_
                                                        refine e_ret_then ?_
                                                        refine e_ret_then ?_
                                                        refine e_ret_block ?_
                                                        refine e_ret_then ?_
                                                        refine e_ret1 Try.results31 (.tmp rfl .nil) (fun w hm => ⟨?_, hm.since⟩)
                                                        rw [has_eq c v]
                                                        first
                                                        | (rw [own_yes (by omega)]; rfl)
                                                        | (rw [own_no (by omega), Bool.false_or, ← hphi.2, map_drop (i := k) (d := d0) (by omega), hasL_yes hE]; done)
                                                        | (rw [own_no (by omega), Bool.false_or, ← hphi.2, List.drop_eq_nil_of_le (by simp; omega)]; rfl)
                                                        )
                                                  · skip
                                                    have hE := h_26
                                                    first
                                                      | (exfalso; omega)
                                                      | (
                                                        refine c_cond_f rfl ?_
                                                        refine c_skip ?_
                                                        refine e_norm_block ?_
                                                        refine e_next ?_
                                                        refine c_region ?_
                                                        refine r_val .none rfl (p_add rfl rfl (by omega)) ?_
                                                        refine r_val .none rfl (p_move rfl) ?_
                                                        refine r_nil ?_
                                                        refine e_round (k + 1) ⟨⟨by omega, by rw [← hphi.2, map_drop (i := k) (d := d0) (by omega), hasL_no hE]⟩, by omega⟩ rfl ⟨rfl, rfl, rfl, rfl, trivial⟩ (.drop (.keep (fun _ _ h => h) (.nil)))
                                                        )
                                                  )
                                            · skip
                                              first
                                                | (exfalso; omega)
                                                | (
                                                  refine c_cond_f rfl ?_
                                                  refine c_exit ?_
                                                  refine e_exit_then ?_
                                                  refine e_exit_then ?_
                                                  refine e_exit_block ?_
                                                  refine e_next ?_
                                                  refine c_seq ?_
                                                  refine c_region ?_
                                                  refine r_val .none rfl (p_assign rfl) ?_
                                                  refine r_nil ?_
                                                  refine e_next ?_
                                                  refine c_ret ?_
                                                  refine e_ret1 Try.results31 (.tmp rfl .nil) (fun w hm => ⟨?_, hm.since⟩)
                                                  rw [has_eq c v]
                                                  first
                                                  | (rw [own_yes (by omega)]; rfl)
                                                  | (rw [own_no (by omega), Bool.false_or, ← hphi.2, map_drop (i := k) (d := d0) (by omega), hasL_yes hE]; done)
                                                  | (rw [own_no (by omega), Bool.false_or, ← hphi.2, List.drop_eq_nil_of_le (by simp; omega)]; rfl)
                                                  )
                                            )
                                      )
                                · skip
                                  first
                                    | (exfalso; omega)
                                    | (
                                      refine r_skip rfl (.no rfl rfl) ?_
                                      refine r_skip rfl (.no rfl rfl) ?_
                                      refine r_skip rfl (.no rfl rfl) ?_
                                      refine r_skip rfl (.no rfl rfl) ?_
                                      refine r_skip rfl (.no rfl rfl) ?_
                                      refine r_skip rfl (.no rfl rfl) ?_
                                      refine r_skip rfl (.no rfl rfl) ?_
                                      refine r_val .none rfl (p_pick_f rfl rfl) ?_
                                      refine r_nil ?_
                                      refine e_next ?_
                                      refine c_cond_f rfl ?_
                                      refine c_skip ?_
                                      refine e_norm_block ?_
                                      refine e_next ?_
                                      refine c_region ?_
                                      refine r_val .none rfl (p_move rfl) ?_
                                      refine r_val .none rfl (p_add rfl rfl (by omega)) ?_
                                      refine r_val .none rfl (p_assign rfl) ?_
                                      refine r_nil ?_
                                      refine e_again ?_
                                      refine l_round (n := 0) ?_
                                      refine c_seq ?_
                                      refine c_seq ?_
                                      refine c_region ?_
                                      refine r_val .none rfl (p_move rfl) ?_
                                      refine r_val .none rfl (p_lt rfl rfl) ?_
                                      refine r_say (d := 9) (v := Value.bool false) rfl ?_
                                      refine r_nil ?_
                                      refine e_next ?_
                                      refine c_cond_f rfl ?_
                                      refine c_exit ?_
                                      refine e_exit_then ?_
                                      refine e_exit_then ?_
                                      refine e_exit_block ?_
                                      refine e_next ?_
                                      refine c_seq ?_
                                      refine c_seq ?_
                                      refine c_region ?_
                                      refine r_val .none rfl (p_field Try.underlying38 rfl sz36 rfl) ?_
                                      refine r_val .none rfl (p_ld (k := 0) Try.underlying36 rfl rfl rfl (by first | exact of_decide_eq_true rfl | omega) rfl) ?_
                                      refine r_val .none rfl (p_leng Try.underlying36 rfl hr) ?_
                                      have bd_27 := (hr).bound
                                      refine r_val .none rfl (p_move rfl) ?_
                                      refine r_nil ?_
                                      refine e_next ?_
                                      refine c_block ?_
                                      refine c_name (d := 1) rfl (fun u_28 hu_28 => ?_)
                                      refine c_name (d := 33) rfl (fun u_29 hu_29 => ?_)
                                      refine c_name (d := 34) rfl (fun u_30 hu_30 => ?_)
                                      refine c_nameL (k := 0) rfl (fun A_31 hA_31 => ?_)
                                      refine c_loop (σ := Nat) (fun k => [(35, Value.int .i64 (k : Nat)), (1, u_28), (33, u_29), (34, u_30)]) (fun k => [A_31]) (fun _ => _) (fun k => k ≤ rs.length ∧ hasL ((rs.map Prod.fst).drop k) v = hasL c.subs v) (fun k => rs.length - k) (0) ⟨Nat.zero_le _, by rw [hl]; rfl⟩ rfl ⟨rfl, rfl, rfl, rfl, trivial⟩ (.keep (fun _ _ h => h) (.nil)) (fun k hphi => ?_)
                                      subst hu_28
                                      subst hu_29
                                      subst hu_30
                                      subst hA_31
                                      refine c_seq ?_
                                      refine c_region ?_
                                      refine r_val .none rfl (p_lt rfl rfl) ?_
                                      refine r_nil ?_
                                      refine e_next ?_
                                      refine c_seq ?_
                                      refine c_splitd (d := 36) rfl (fun h_32 => ?_) (fun h_32 => ?_)
                                      · skip
                                        first
                                          | (exfalso; omega)
                                          | (
                                            refine c_cond_t rfl ?_
                                            refine c_skip ?_
                                            refine e_next ?_
                                            refine c_seq ?_
                                            refine c_block ?_
                                            refine c_seq ?_
                                            refine c_region ?_
                                            refine r_iaddr_g .none rfl Try.underlying36 sz38 rfl hr rfl (by first | exact of_decide_eq_true rfl | omega) (fun p_34 o_35 R_33 => ?_)
                                            have hc_36 := hp _ (getD_mem (i := k) (d := d0) (by omega))
                                            refine r_val .none rfl (p_ldga0 Try.underlying38 rfl sz38 rfl R_33 (by first | exact of_decide_eq_true rfl | omega) (rfl : _ = Value.agg #[_, _, _, _, _, _, _, _])) ?_
                                            refine r_alloc .none rfl zr38 (IsRow.lit _) (fun b_3 => ?_)
                                            refine r_stw (k := 0) .none sz38 rfl rfl (IsRow.lit _) (one_lit rfl (all_cons rfl (all_cons rfl (all_cons rfl (all_cons rfl (all_cons rfl (all_cons rfl (all_cons rfl (all_cons (hc_36).one rfl))))))))) rfl ?_
                                            refine r_nil ?_
                                            refine e_next ?_
                                            refine c_seq ?_
                                            refine c_region ?_
                                            refine r_val .none rfl (p_ldw (k := 0) Try.underlying38 rfl sz38 rfl rfl (rfl : _ = Value.agg #[_, _, _, _, _, _, _, _])) ?_
                                            refine r_val .none rfl (p_move rfl) ?_
                                            refine r_call (vs := [_, _]) .none rfl cl31 rfl (fun w hw => ih (rs.getD k d0).1 _ _ _ w (size_at hl (by omega) hz) hc_36 hw) ?_
                                            refine r_nil ?_
                                            refine e_next ?_
                                            refine c_split (d := 41) rfl (fun h_37 => ?_) (fun h_37 => ?_)
                                            · skip
                                              have hE := h_37
                                              first
                                                | (exfalso; omega)
                                                | (
                                                  refine c_cond_t rfl ?_
                                                  refine c_seq ?_
                                                  refine c_region ?_
                                                  refine r_val .none rfl (p_assign rfl) ?_
                                                  refine r_nil ?_
                                                  refine e_next ?_
                                                  refine c_ret ?_
                                                  refine e_ret_block ?_
                                                  refine e_ret_then ?_
                                                  refine e_ret_then ?_
                                                  refine e_ret_block ?_
                                                  refine e_ret_then ?_
                                                  refine e_ret1 Try.results31 (.tmp rfl .nil) (fun w hm => ⟨?_, hm.since⟩)
                                                  rw [has_eq c v]
                                                  first
                                                  | (rw [own_yes (by omega)]; rfl)
                                                  | (rw [own_no (by omega), Bool.false_or, ← hphi.2, map_drop (i := k) (d := d0) (by omega), hasL_yes hE]; done)
                                                  | (rw [own_no (by omega), Bool.false_or, ← hphi.2, List.drop_eq_nil_of_le (by simp; omega)]; rfl)
                                                  )
                                            · skip
                                              have hE := h_37
                                              first
                                                | (exfalso; omega)
                                                | (
                                                  refine c_cond_f rfl ?_
                                                  refine c_skip ?_
                                                  refine e_norm_block ?_
                                                  refine e_next ?_
                                                  refine c_region ?_
                                                  refine r_val .none rfl (p_add rfl rfl (by omega)) ?_
                                                  refine r_val .none rfl (p_move rfl) ?_
                                                  refine r_nil ?_
                                                  refine e_round (k + 1) ⟨⟨by omega, by rw [← hphi.2, map_drop (i := k) (d := d0) (by omega), hasL_no hE]⟩, by omega⟩ rfl ⟨rfl, rfl, rfl, rfl, trivial⟩ (.drop (.keep (fun _ _ h => h) (.nil)))
                                                  )
                                            )
                                      · skip
                                        first
                                          | (exfalso; omega)
                                          | (
                                            refine c_cond_f rfl ?_
                                            refine c_exit ?_
                                            refine e_exit_then ?_
                                            refine e_exit_then ?_
                                            refine e_exit_block ?_
                                            refine e_next ?_
                                            refine c_seq ?_
                                            refine c_region ?_
                                            refine r_val .none rfl (p_assign rfl) ?_
                                            refine r_nil ?_
                                            refine e_next ?_
                                            refine c_ret ?_
                                            refine e_ret1 Try.results31 (.tmp rfl .nil) (fun w hm => ⟨?_, hm.since⟩)
                                            rw [has_eq c v]
                                            first
                                            | (rw [own_yes (by omega)]; rfl)
                                            | (rw [own_no (by omega), Bool.false_or, ← hphi.2, map_drop (i := k) (d := d0) (by omega), hasL_yes hE]; done)
                                            | (rw [own_no (by omega), Bool.false_or, ← hphi.2, List.drop_eq_nil_of_le (by simp; omega)]; rfl)
                                            )
                                      )
                                )
                          · skip
                            first
                              | (exfalso; omega)
                              | (
                                refine r_skip rfl (.no rfl rfl) ?_
                                refine r_skip rfl (.no rfl rfl) ?_
                                refine r_skip rfl (.no rfl rfl) ?_
                                refine r_skip rfl (.no rfl rfl) ?_
                                refine r_skip rfl (.no rfl rfl) ?_
                                refine r_skip rfl (.no rfl rfl) ?_
                                refine r_val .none rfl (p_pick_f rfl rfl) ?_
                                refine r_val .none rfl (p_move rfl) ?_
                                refine r_skip rfl (.no rfl rfl) ?_
                                refine r_skip rfl (.no rfl rfl) ?_
                                refine r_skip rfl (.no rfl rfl) ?_
                                refine r_skip rfl (.no rfl rfl) ?_
                                refine r_skip rfl (.no rfl rfl) ?_
                                refine r_skip rfl (.no rfl rfl) ?_
                                refine r_skip rfl (.no rfl rfl) ?_
                                refine r_val .none rfl (p_pick_f rfl rfl) ?_
                                refine r_nil ?_
                                refine e_next ?_
                                refine c_cond_f rfl ?_
                                refine c_skip ?_
                                refine e_norm_block ?_
                                refine e_next ?_
                                refine c_region ?_
                                refine r_val .none rfl (p_move rfl) ?_
                                refine r_val .none rfl (p_add rfl rfl (by omega)) ?_
                                refine r_val .none rfl (p_assign rfl) ?_
                                refine r_nil ?_
                                refine e_again ?_
                                refine l_round (n := 0) ?_
                                refine c_seq ?_
                                refine c_seq ?_
                                refine c_region ?_
                                refine r_val .none rfl (p_move rfl) ?_
                                refine r_val .none rfl (p_lt rfl rfl) ?_
                                refine r_say (d := 9) (v := Value.bool false) rfl ?_
                                refine r_nil ?_
                                refine e_next ?_
                                refine c_cond_f rfl ?_
                                refine c_exit ?_
                                refine e_exit_then ?_
                                refine e_exit_then ?_
                                refine e_exit_block ?_
                                refine e_next ?_
                                refine c_seq ?_
                                refine c_seq ?_
                                refine c_region ?_
                                refine r_val .none rfl (p_field Try.underlying38 rfl sz36 rfl) ?_
                                refine r_val .none rfl (p_ld (k := 0) Try.underlying36 rfl rfl rfl (by first | exact of_decide_eq_true rfl | omega) rfl) ?_
                                refine r_val .none rfl (p_leng Try.underlying36 rfl hr) ?_
                                have bd_38 := (hr).bound
                                refine r_val .none rfl (p_move rfl) ?_
                                refine r_nil ?_
                                refine e_next ?_
                                refine c_block ?_
                                refine c_name (d := 1) rfl (fun u_39 hu_39 => ?_)
                                refine c_name (d := 33) rfl (fun u_40 hu_40 => ?_)
                                refine c_name (d := 34) rfl (fun u_41 hu_41 => ?_)
                                refine c_nameL (k := 0) rfl (fun A_42 hA_42 => ?_)
                                refine c_loop (σ := Nat) (fun k => [(35, Value.int .i64 (k : Nat)), (1, u_39), (33, u_40), (34, u_41)]) (fun k => [A_42]) (fun _ => _) (fun k => k ≤ rs.length ∧ hasL ((rs.map Prod.fst).drop k) v = hasL c.subs v) (fun k => rs.length - k) (0) ⟨Nat.zero_le _, by rw [hl]; rfl⟩ rfl ⟨rfl, rfl, rfl, rfl, trivial⟩ (.keep (fun _ _ h => h) (.nil)) (fun k hphi => ?_)
                                subst hu_39
                                subst hu_40
                                subst hu_41
                                subst hA_42
                                refine c_seq ?_
                                refine c_region ?_
                                refine r_val .none rfl (p_lt rfl rfl) ?_
                                refine r_nil ?_
                                refine e_next ?_
                                refine c_seq ?_
                                refine c_splitd (d := 36) rfl (fun h_43 => ?_) (fun h_43 => ?_)
                                · skip
                                  first
                                    | (exfalso; omega)
                                    | (
                                      refine c_cond_t rfl ?_
                                      refine c_skip ?_
                                      refine e_next ?_
                                      refine c_seq ?_
                                      refine c_block ?_
                                      refine c_seq ?_
                                      refine c_region ?_
                                      refine r_iaddr_g .none rfl Try.underlying36 sz38 rfl hr rfl (by first | exact of_decide_eq_true rfl | omega) (fun p_45 o_46 R_44 => ?_)
                                      have hc_47 := hp _ (getD_mem (i := k) (d := d0) (by omega))
                                      refine r_val .none rfl (p_ldga0 Try.underlying38 rfl sz38 rfl R_44 (by first | exact of_decide_eq_true rfl | omega) (rfl : _ = Value.agg #[_, _, _, _, _, _, _, _])) ?_
                                      refine r_alloc .none rfl zr38 (IsRow.lit _) (fun b_4 => ?_)
                                      refine r_stw (k := 0) .none sz38 rfl rfl (IsRow.lit _) (one_lit rfl (all_cons rfl (all_cons rfl (all_cons rfl (all_cons rfl (all_cons rfl (all_cons rfl (all_cons rfl (all_cons (hc_47).one rfl))))))))) rfl ?_
                                      refine r_nil ?_
                                      refine e_next ?_
                                      refine c_seq ?_
                                      refine c_region ?_
                                      refine r_val .none rfl (p_ldw (k := 0) Try.underlying38 rfl sz38 rfl rfl (rfl : _ = Value.agg #[_, _, _, _, _, _, _, _])) ?_
                                      refine r_val .none rfl (p_move rfl) ?_
                                      refine r_call (vs := [_, _]) .none rfl cl31 rfl (fun w hw => ih (rs.getD k d0).1 _ _ _ w (size_at hl (by omega) hz) hc_47 hw) ?_
                                      refine r_nil ?_
                                      refine e_next ?_
                                      refine c_split (d := 41) rfl (fun h_48 => ?_) (fun h_48 => ?_)
                                      · skip
                                        have hE := h_48
                                        first
                                          | (exfalso; omega)
                                          | (
                                            refine c_cond_t rfl ?_
                                            refine c_seq ?_
                                            refine c_region ?_
                                            refine r_val .none rfl (p_assign rfl) ?_
                                            refine r_nil ?_
                                            refine e_next ?_
                                            refine c_ret ?_
                                            refine e_ret_block ?_
                                            refine e_ret_then ?_
                                            refine e_ret_then ?_
                                            refine e_ret_block ?_
                                            refine e_ret_then ?_
                                            refine e_ret1 Try.results31 (.tmp rfl .nil) (fun w hm => ⟨?_, hm.since⟩)
                                            rw [has_eq c v]
                                            first
                                            | (rw [own_yes (by omega)]; rfl)
                                            | (rw [own_no (by omega), Bool.false_or, ← hphi.2, map_drop (i := k) (d := d0) (by omega), hasL_yes hE]; done)
                                            | (rw [own_no (by omega), Bool.false_or, ← hphi.2, List.drop_eq_nil_of_le (by simp; omega)]; rfl)
                                            )
                                      · skip
                                        have hE := h_48
                                        first
                                          | (exfalso; omega)
                                          | (
                                            refine c_cond_f rfl ?_
                                            refine c_skip ?_
                                            refine e_norm_block ?_
                                            refine e_next ?_
                                            refine c_region ?_
                                            refine r_val .none rfl (p_add rfl rfl (by omega)) ?_
                                            refine r_val .none rfl (p_move rfl) ?_
                                            refine r_nil ?_
                                            refine e_round (k + 1) ⟨⟨by omega, by rw [← hphi.2, map_drop (i := k) (d := d0) (by omega), hasL_no hE]⟩, by omega⟩ rfl ⟨rfl, rfl, rfl, rfl, trivial⟩ (.drop (.keep (fun _ _ h => h) (.nil)))
                                            )
                                      )
                                · skip
                                  first
                                    | (exfalso; omega)
                                    | (
                                      refine c_cond_f rfl ?_
                                      refine c_exit ?_
                                      refine e_exit_then ?_
                                      refine e_exit_then ?_
                                      refine e_exit_block ?_
                                      refine e_next ?_
                                      refine c_seq ?_
                                      refine c_region ?_
                                      refine r_val .none rfl (p_assign rfl) ?_
                                      refine r_nil ?_
                                      refine e_next ?_
                                      refine c_ret ?_
                                      refine e_ret1 Try.results31 (.tmp rfl .nil) (fun w hm => ⟨?_, hm.since⟩)
                                      rw [has_eq c v]
                                      first
                                      | (rw [own_yes (by omega)]; rfl)
                                      | (rw [own_no (by omega), Bool.false_or, ← hphi.2, map_drop (i := k) (d := d0) (by omega), hasL_yes hE]; done)
                                      | (rw [own_no (by omega), Bool.false_or, ← hphi.2, List.drop_eq_nil_of_le (by simp; omega)]; rfl)
                                      )
                                )
                          )
                    )
              · skip
                first
                  | (exfalso; omega)
                  | (
                    refine r_skip rfl (.no rfl rfl) ?_
                    refine r_skip rfl (.no rfl rfl) ?_
                    refine r_skip rfl (.no rfl rfl) ?_
                    refine r_skip rfl (.no rfl rfl) ?_
                    refine r_skip rfl (.no rfl rfl) ?_
                    refine r_skip rfl (.no rfl rfl) ?_
                    refine r_skip rfl (.no rfl rfl) ?_
                    refine r_val .none rfl (p_pick_f rfl rfl) ?_
                    refine r_nil ?_
                    refine e_next ?_
                    refine c_cond_f rfl ?_
                    refine c_skip ?_
                    refine e_norm_block ?_
                    refine e_next ?_
                    refine c_region ?_
                    refine r_val .none rfl (p_move rfl) ?_
                    refine r_val .none rfl (p_add rfl rfl (by omega)) ?_
                    refine r_val .none rfl (p_assign rfl) ?_
                    refine r_nil ?_
                    refine e_again ?_
                    refine l_round (n := 1) ?_
                    refine c_seq ?_
                    refine c_seq ?_
                    refine c_region ?_
                    refine r_val .none rfl (p_move rfl) ?_
                    refine r_val .none rfl (p_lt rfl rfl) ?_
                    refine r_say (d := 9) (v := Value.bool true) rfl ?_
                    refine r_nil ?_
                    refine e_next ?_
                    refine c_cond_t rfl ?_
                    refine c_skip ?_
                    refine e_next ?_
                    refine c_seq ?_
                    refine c_block ?_
                    refine c_seq ?_
                    refine c_region ?_
                    refine r_val .none rfl (p_field Try.underlying38 rfl sz3 rfl) ?_
                    refine r_val .none rfl (p_ld (k := 0) Try.underlying3 rfl rfl rfl (by first | exact of_decide_eq_true rfl | omega) (rfl : _ = Value.int _ _)) ?_
                    refine r_val .none rfl (p_lt rfl rfl) ?_
                    refine r_val .none rfl (p_move rfl) ?_
                    refine r_splitd (d := 15) rfl (fun h_49 => ?_) (fun h_49 => ?_)
                    · skip
                      first
                        | (exfalso; omega)
                        | (
                          refine r_val (.some rfl rfl) rfl (p_move rfl) ?_
                          refine r_val (.some rfl rfl) rfl (p_field Try.underlying38 rfl sz35 rfl) ?_
                          refine r_val (.some rfl rfl) rfl (p_iaddr (k := 2) Try.underlying35 sz34 rfl rfl (by first | exact of_decide_eq_true rfl | omega)) ?_
                          refine r_val (.some rfl rfl) rfl (p_field Try.underlying34 rfl sz3 rfl) ?_
                          refine r_val (.some rfl rfl) rfl (p_ld (k := 0) Try.underlying3 rfl rfl rfl (by first | exact of_decide_eq_true rfl | omega) (rfl : _ = Value.int _ _)) ?_
                          refine r_val (.some rfl rfl) rfl (p_eq rfl rfl) ?_
                          refine r_val .none rfl (p_pick_t rfl rfl) ?_
                          refine r_val .none rfl (p_move rfl) ?_
                          refine r_splitd (d := 23) rfl (fun h_50 => ?_) (fun h_50 => ?_)
                          · skip
                            first
                              | (exfalso; omega)
                              | (
                                refine r_val (.some rfl rfl) rfl (p_move rfl) ?_
                                refine r_val (.some rfl rfl) rfl (p_field Try.underlying38 rfl sz35 rfl) ?_
                                refine r_val (.some rfl rfl) rfl (p_iaddr (k := 2) Try.underlying35 sz34 rfl rfl (by first | exact of_decide_eq_true rfl | omega)) ?_
                                refine r_val (.some rfl rfl) rfl (p_field Try.underlying34 rfl sz3 rfl) ?_
                                refine r_val (.some rfl rfl) rfl (p_ld (k := 0) Try.underlying3 rfl rfl rfl (by first | exact of_decide_eq_true rfl | omega) (rfl : _ = Value.int _ _)) ?_
                                refine r_val (.some rfl rfl) rfl (p_move rfl) ?_
                                refine r_val (.some rfl rfl) rfl (p_eq rfl rfl) ?_
                                refine r_val .none rfl (p_pick_t rfl rfl) ?_
                                refine r_nil ?_
                                refine e_next ?_
                                refine c_splitd (d := 31) rfl (fun h_51 => ?_) (fun h_51 => ?_)
                                · skip
                                  first
                                    | (exfalso; omega)
                                    | (
                                      refine c_cond_t rfl ?_
                                      refine c_seq ?_
                                      refine c_region ?_
                                      refine r_val .none rfl (p_assign rfl) ?_
                                      refine r_nil ?_
                                      refine e_next ?_
                                      refine c_ret ?_
                                      refine e_ret_block ?_
                                      refine e_ret_then ?_
                                      refine e_ret_then ?_
                                      refine e_ret_block ?_
                                      refine e_ret_then ?_
                                      refine e_ret1 Try.results31 (.tmp rfl .nil) (fun w hm => ⟨?_, hm.since⟩)
                                      rw [has_eq c v]
                                      first
                                      | (rw [own_yes (by omega)]; rfl)
                                      | (rw [own_no (by omega), Bool.false_or, ← hphi.2, map_drop (i := k) (d := d0) (by omega), hasL_yes hE]; done)
                                      | (rw [own_no (by omega), Bool.false_or, ← hphi.2, List.drop_eq_nil_of_le (by simp; omega)]; rfl)
                                      )
                                · skip
                                  first
                                    | (exfalso; omega)
                                    | (
                                      refine c_cond_f rfl ?_
                                      refine c_skip ?_
                                      refine e_norm_block ?_
                                      refine e_next ?_
                                      refine c_region ?_
                                      refine r_val .none rfl (p_move rfl) ?_
                                      refine r_val .none rfl (p_add rfl rfl (by omega)) ?_
                                      refine r_val .none rfl (p_assign rfl) ?_
                                      refine r_nil ?_
                                      refine e_again ?_
                                      refine l_round (n := 0) ?_
                                      refine c_seq ?_
                                      refine c_seq ?_
                                      refine c_region ?_
                                      refine r_val .none rfl (p_move rfl) ?_
                                      refine r_val .none rfl (p_lt rfl rfl) ?_
                                      refine r_say (d := 9) (v := Value.bool false) rfl ?_
                                      refine r_nil ?_
                                      refine e_next ?_
                                      refine c_cond_f rfl ?_
                                      refine c_exit ?_
                                      refine e_exit_then ?_
                                      refine e_exit_then ?_
                                      refine e_exit_block ?_
                                      refine e_next ?_
                                      refine c_seq ?_
                                      refine c_seq ?_
                                      refine c_region ?_
                                      refine r_val .none rfl (p_field Try.underlying38 rfl sz36 rfl) ?_
                                      refine r_val .none rfl (p_ld (k := 0) Try.underlying36 rfl rfl rfl (by first | exact of_decide_eq_true rfl | omega) rfl) ?_
                                      refine r_val .none rfl (p_leng Try.underlying36 rfl hr) ?_
                                      have bd_52 := (hr).bound
                                      refine r_val .none rfl (p_move rfl) ?_
                                      refine r_nil ?_
                                      refine e_next ?_
                                      refine c_block ?_
                                      refine c_name (d := 1) rfl (fun u_53 hu_53 => ?_)
                                      refine c_name (d := 33) rfl (fun u_54 hu_54 => ?_)
                                      refine c_name (d := 34) rfl (fun u_55 hu_55 => ?_)
                                      refine c_nameL (k := 0) rfl (fun A_56 hA_56 => ?_)
                                      refine c_loop (σ := Nat) (fun k => [(35, Value.int .i64 (k : Nat)), (1, u_53), (33, u_54), (34, u_55)]) (fun k => [A_56]) (fun _ => _) (fun k => k ≤ rs.length ∧ hasL ((rs.map Prod.fst).drop k) v = hasL c.subs v) (fun k => rs.length - k) (0) ⟨Nat.zero_le _, by rw [hl]; rfl⟩ rfl ⟨rfl, rfl, rfl, rfl, trivial⟩ (.keep (fun _ _ h => h) (.nil)) (fun k hphi => ?_)
                                      subst hu_53
                                      subst hu_54
                                      subst hu_55
                                      subst hA_56
                                      refine c_seq ?_
                                      refine c_region ?_
                                      refine r_val .none rfl (p_lt rfl rfl) ?_
                                      refine r_nil ?_
                                      refine e_next ?_
                                      refine c_seq ?_
                                      refine c_splitd (d := 36) rfl (fun h_57 => ?_) (fun h_57 => ?_)
                                      · skip
                                        first
                                          | (exfalso; omega)
                                          | (
                                            refine c_cond_t rfl ?_
                                            refine c_skip ?_
                                            refine e_next ?_
                                            refine c_seq ?_
                                            refine c_block ?_
                                            refine c_seq ?_
                                            refine c_region ?_
                                            refine r_iaddr_g .none rfl Try.underlying36 sz38 rfl hr rfl (by first | exact of_decide_eq_true rfl | omega) (fun p_59 o_60 R_58 => ?_)
                                            have hc_61 := hp _ (getD_mem (i := k) (d := d0) (by omega))
                                            refine r_val .none rfl (p_ldga0 Try.underlying38 rfl sz38 rfl R_58 (by first | exact of_decide_eq_true rfl | omega) (rfl : _ = Value.agg #[_, _, _, _, _, _, _, _])) ?_
                                            refine r_alloc .none rfl zr38 (IsRow.lit _) (fun b_5 => ?_)
                                            refine r_stw (k := 0) .none sz38 rfl rfl (IsRow.lit _) (one_lit rfl (all_cons rfl (all_cons rfl (all_cons rfl (all_cons rfl (all_cons rfl (all_cons rfl (all_cons rfl (all_cons (hc_61).one rfl))))))))) rfl ?_
                                            refine r_nil ?_
                                            refine e_next ?_
                                            refine c_seq ?_
                                            refine c_region ?_
                                            refine r_val .none rfl (p_ldw (k := 0) Try.underlying38 rfl sz38 rfl rfl (rfl : _ = Value.agg #[_, _, _, _, _, _, _, _])) ?_
                                            refine r_val .none rfl (p_move rfl) ?_
                                            refine r_call (vs := [_, _]) .none rfl cl31 rfl (fun w hw => ih (rs.getD k d0).1 _ _ _ w (size_at hl (by omega) hz) hc_61 hw) ?_
                                            refine r_nil ?_
                                            refine e_next ?_
                                            refine c_split (d := 41) rfl (fun h_62 => ?_) (fun h_62 => ?_)
                                            · skip
                                              have hE := h_62
                                              first
                                                | (exfalso; omega)
                                                | (
                                                  refine c_cond_t rfl ?_
                                                  refine c_seq ?_
                                                  refine c_region ?_
                                                  refine r_val .none rfl (p_assign rfl) ?_
                                                  refine r_nil ?_
                                                  refine e_next ?_
                                                  refine c_ret ?_
                                                  refine e_ret_block ?_
                                                  refine e_ret_then ?_
                                                  refine e_ret_then ?_
                                                  refine e_ret_block ?_
                                                  refine e_ret_then ?_
                                                  refine e_ret1 Try.results31 (.tmp rfl .nil) (fun w hm => ⟨?_, hm.since⟩)
                                                  rw [has_eq c v]
                                                  first
                                                  | (rw [own_yes (by omega)]; rfl)
                                                  | (rw [own_no (by omega), Bool.false_or, ← hphi.2, map_drop (i := k) (d := d0) (by omega), hasL_yes hE]; done)
                                                  | (rw [own_no (by omega), Bool.false_or, ← hphi.2, List.drop_eq_nil_of_le (by simp; omega)]; rfl)
                                                  )
                                            · skip
                                              have hE := h_62
                                              first
                                                | (exfalso; omega)
                                                | (
                                                  refine c_cond_f rfl ?_
                                                  refine c_skip ?_
                                                  refine e_norm_block ?_
                                                  refine e_next ?_
                                                  refine c_region ?_
                                                  refine r_val .none rfl (p_add rfl rfl (by omega)) ?_
                                                  refine r_val .none rfl (p_move rfl) ?_
                                                  refine r_nil ?_
                                                  refine e_round (k + 1) ⟨⟨by omega, by rw [← hphi.2, map_drop (i := k) (d := d0) (by omega), hasL_no hE]⟩, by omega⟩ rfl ⟨rfl, rfl, rfl, rfl, trivial⟩ (.drop (.keep (fun _ _ h => h) (.nil)))
                                                  )
                                            )
                                      · skip
                                        first
                                          | (exfalso; omega)
                                          | (
                                            refine c_cond_f rfl ?_
                                            refine c_exit ?_
                                            refine e_exit_then ?_
                                            refine e_exit_then ?_
                                            refine e_exit_block ?_
                                            refine e_next ?_
                                            refine c_seq ?_
                                            refine c_region ?_
                                            refine r_val .none rfl (p_assign rfl) ?_
                                            refine r_nil ?_
                                            refine e_next ?_
                                            refine c_ret ?_
                                            refine e_ret1 Try.results31 (.tmp rfl .nil) (fun w hm => ⟨?_, hm.since⟩)
                                            rw [has_eq c v]
                                            first
                                            | (rw [own_yes (by omega)]; rfl)
                                            | (rw [own_no (by omega), Bool.false_or, ← hphi.2, map_drop (i := k) (d := d0) (by omega), hasL_yes hE]; done)
                                            | (rw [own_no (by omega), Bool.false_or, ← hphi.2, List.drop_eq_nil_of_le (by simp; omega)]; rfl)
                                            )
                                      )
                                )
                          · skip
                            first
                              | (exfalso; omega)
                              | (
                                refine r_skip rfl (.no rfl rfl) ?_
                                refine r_skip rfl (.no rfl rfl) ?_
                                refine r_skip rfl (.no rfl rfl) ?_
                                refine r_skip rfl (.no rfl rfl) ?_
                                refine r_skip rfl (.no rfl rfl) ?_
                                refine r_skip rfl (.no rfl rfl) ?_
                                refine r_skip rfl (.no rfl rfl) ?_
                                refine r_val .none rfl (p_pick_f rfl rfl) ?_
                                refine r_nil ?_
                                refine e_next ?_
                                refine c_cond_f rfl ?_
                                refine c_skip ?_
                                refine e_norm_block ?_
                                refine e_next ?_
                                refine c_region ?_
                                refine r_val .none rfl (p_move rfl) ?_
                                refine r_val .none rfl (p_add rfl rfl (by omega)) ?_
                                refine r_val .none rfl (p_assign rfl) ?_
                                refine r_nil ?_
                                refine e_again ?_
                                refine l_round (n := 0) ?_
                                refine c_seq ?_
                                refine c_seq ?_
                                refine c_region ?_
                                refine r_val .none rfl (p_move rfl) ?_
                                refine r_val .none rfl (p_lt rfl rfl) ?_
                                refine r_say (d := 9) (v := Value.bool false) rfl ?_
                                refine r_nil ?_
                                refine e_next ?_
                                refine c_cond_f rfl ?_
                                refine c_exit ?_
                                refine e_exit_then ?_
                                refine e_exit_then ?_
                                refine e_exit_block ?_
                                refine e_next ?_
                                refine c_seq ?_
                                refine c_seq ?_
                                refine c_region ?_
                                refine r_val .none rfl (p_field Try.underlying38 rfl sz36 rfl) ?_
                                refine r_val .none rfl (p_ld (k := 0) Try.underlying36 rfl rfl rfl (by first | exact of_decide_eq_true rfl | omega) rfl) ?_
                                refine r_val .none rfl (p_leng Try.underlying36 rfl hr) ?_
                                have bd_63 := (hr).bound
                                refine r_val .none rfl (p_move rfl) ?_
                                refine r_nil ?_
                                refine e_next ?_
                                refine c_block ?_
                                refine c_name (d := 1) rfl (fun u_64 hu_64 => ?_)
                                refine c_name (d := 33) rfl (fun u_65 hu_65 => ?_)
                                refine c_name (d := 34) rfl (fun u_66 hu_66 => ?_)
                                refine c_nameL (k := 0) rfl (fun A_67 hA_67 => ?_)
                                refine c_loop (σ := Nat) (fun k => [(35, Value.int .i64 (k : Nat)), (1, u_64), (33, u_65), (34, u_66)]) (fun k => [A_67]) (fun _ => _) (fun k => k ≤ rs.length ∧ hasL ((rs.map Prod.fst).drop k) v = hasL c.subs v) (fun k => rs.length - k) (0) ⟨Nat.zero_le _, by rw [hl]; rfl⟩ rfl ⟨rfl, rfl, rfl, rfl, trivial⟩ (.keep (fun _ _ h => h) (.nil)) (fun k hphi => ?_)
                                subst hu_64
                                subst hu_65
                                subst hu_66
                                subst hA_67
                                refine c_seq ?_
                                refine c_region ?_
                                refine r_val .none rfl (p_lt rfl rfl) ?_
                                refine r_nil ?_
                                refine e_next ?_
                                refine c_seq ?_
                                refine c_splitd (d := 36) rfl (fun h_68 => ?_) (fun h_68 => ?_)
                                · skip
                                  first
                                    | (exfalso; omega)
                                    | (
                                      refine c_cond_t rfl ?_
                                      refine c_skip ?_
                                      refine e_next ?_
                                      refine c_seq ?_
                                      refine c_block ?_
                                      refine c_seq ?_
                                      refine c_region ?_
                                      refine r_iaddr_g .none rfl Try.underlying36 sz38 rfl hr rfl (by first | exact of_decide_eq_true rfl | omega) (fun p_70 o_71 R_69 => ?_)
                                      have hc_72 := hp _ (getD_mem (i := k) (d := d0) (by omega))
                                      refine r_val .none rfl (p_ldga0 Try.underlying38 rfl sz38 rfl R_69 (by first | exact of_decide_eq_true rfl | omega) (rfl : _ = Value.agg #[_, _, _, _, _, _, _, _])) ?_
                                      refine r_alloc .none rfl zr38 (IsRow.lit _) (fun b_6 => ?_)
                                      refine r_stw (k := 0) .none sz38 rfl rfl (IsRow.lit _) (one_lit rfl (all_cons rfl (all_cons rfl (all_cons rfl (all_cons rfl (all_cons rfl (all_cons rfl (all_cons rfl (all_cons (hc_72).one rfl))))))))) rfl ?_
                                      refine r_nil ?_
                                      refine e_next ?_
                                      refine c_seq ?_
                                      refine c_region ?_
                                      refine r_val .none rfl (p_ldw (k := 0) Try.underlying38 rfl sz38 rfl rfl (rfl : _ = Value.agg #[_, _, _, _, _, _, _, _])) ?_
                                      refine r_val .none rfl (p_move rfl) ?_
                                      refine r_call (vs := [_, _]) .none rfl cl31 rfl (fun w hw => ih (rs.getD k d0).1 _ _ _ w (size_at hl (by omega) hz) hc_72 hw) ?_
                                      refine r_nil ?_
                                      refine e_next ?_
                                      refine c_split (d := 41) rfl (fun h_73 => ?_) (fun h_73 => ?_)
                                      · skip
                                        have hE := h_73
                                        first
                                          | (exfalso; omega)
                                          | (
                                            refine c_cond_t rfl ?_
                                            refine c_seq ?_
                                            refine c_region ?_
                                            refine r_val .none rfl (p_assign rfl) ?_
                                            refine r_nil ?_
                                            refine e_next ?_
                                            refine c_ret ?_
                                            refine e_ret_block ?_
                                            refine e_ret_then ?_
                                            refine e_ret_then ?_
                                            refine e_ret_block ?_
                                            refine e_ret_then ?_
                                            refine e_ret1 Try.results31 (.tmp rfl .nil) (fun w hm => ⟨?_, hm.since⟩)
                                            rw [has_eq c v]
                                            first
                                            | (rw [own_yes (by omega)]; rfl)
                                            | (rw [own_no (by omega), Bool.false_or, ← hphi.2, map_drop (i := k) (d := d0) (by omega), hasL_yes hE]; done)
                                            | (rw [own_no (by omega), Bool.false_or, ← hphi.2, List.drop_eq_nil_of_le (by simp; omega)]; rfl)
                                            )
                                      · skip
                                        have hE := h_73
                                        first
                                          | (exfalso; omega)
                                          | (
                                            refine c_cond_f rfl ?_
                                            refine c_skip ?_
                                            refine e_norm_block ?_
                                            refine e_next ?_
                                            refine c_region ?_
                                            refine r_val .none rfl (p_add rfl rfl (by omega)) ?_
                                            refine r_val .none rfl (p_move rfl) ?_
                                            refine r_nil ?_
                                            refine e_round (k + 1) ⟨⟨by omega, by rw [← hphi.2, map_drop (i := k) (d := d0) (by omega), hasL_no hE]⟩, by omega⟩ rfl ⟨rfl, rfl, rfl, rfl, trivial⟩ (.drop (.keep (fun _ _ h => h) (.nil)))
                                            )
                                      )
                                · skip
                                  first
                                    | (exfalso; omega)
                                    | (
                                      refine c_cond_f rfl ?_
                                      refine c_exit ?_
                                      refine e_exit_then ?_
                                      refine e_exit_then ?_
                                      refine e_exit_block ?_
                                      refine e_next ?_
                                      refine c_seq ?_
                                      refine c_region ?_
                                      refine r_val .none rfl (p_assign rfl) ?_
                                      refine r_nil ?_
                                      refine e_next ?_
                                      refine c_ret ?_
                                      refine e_ret1 Try.results31 (.tmp rfl .nil) (fun w hm => ⟨?_, hm.since⟩)
                                      rw [has_eq c v]
                                      first
                                      | (rw [own_yes (by omega)]; rfl)
                                      | (rw [own_no (by omega), Bool.false_or, ← hphi.2, map_drop (i := k) (d := d0) (by omega), hasL_yes hE]; done)
                                      | (rw [own_no (by omega), Bool.false_or, ← hphi.2, List.drop_eq_nil_of_le (by simp; omega)]; rfl)
                                      )
                                )
                          )
                    · skip
                      first
                        | (exfalso; omega)
                        | (
                          refine r_skip rfl (.no rfl rfl) ?_
                          refine r_skip rfl (.no rfl rfl) ?_
                          refine r_skip rfl (.no rfl rfl) ?_
                          refine r_skip rfl (.no rfl rfl) ?_
                          refine r_skip rfl (.no rfl rfl) ?_
                          refine r_skip rfl (.no rfl rfl) ?_
                          refine r_val .none rfl (p_pick_f rfl rfl) ?_
                          refine r_val .none rfl (p_move rfl) ?_
                          refine r_skip rfl (.no rfl rfl) ?_
                          refine r_skip rfl (.no rfl rfl) ?_
                          refine r_skip rfl (.no rfl rfl) ?_
                          refine r_skip rfl (.no rfl rfl) ?_
                          refine r_skip rfl (.no rfl rfl) ?_
                          refine r_skip rfl (.no rfl rfl) ?_
                          refine r_skip rfl (.no rfl rfl) ?_
                          refine r_val .none rfl (p_pick_f rfl rfl) ?_
                          refine r_nil ?_
                          refine e_next ?_
                          refine c_cond_f rfl ?_
                          refine c_skip ?_
                          refine e_norm_block ?_
                          refine e_next ?_
                          refine c_region ?_
                          refine r_val .none rfl (p_move rfl) ?_
                          refine r_val .none rfl (p_add rfl rfl (by omega)) ?_
                          refine r_val .none rfl (p_assign rfl) ?_
                          refine r_nil ?_
                          refine e_again ?_
                          refine l_round (n := 0) ?_
                          refine c_seq ?_
                          refine c_seq ?_
                          refine c_region ?_
                          refine r_val .none rfl (p_move rfl) ?_
                          refine r_val .none rfl (p_lt rfl rfl) ?_
                          refine r_say (d := 9) (v := Value.bool false) rfl ?_
                          refine r_nil ?_
                          refine e_next ?_
                          refine c_cond_f rfl ?_
                          refine c_exit ?_
                          refine e_exit_then ?_
                          refine e_exit_then ?_
                          refine e_exit_block ?_
                          refine e_next ?_
                          refine c_seq ?_
                          refine c_seq ?_
                          refine c_region ?_
                          refine r_val .none rfl (p_field Try.underlying38 rfl sz36 rfl) ?_
                          refine r_val .none rfl (p_ld (k := 0) Try.underlying36 rfl rfl rfl (by first | exact of_decide_eq_true rfl | omega) rfl) ?_
                          refine r_val .none rfl (p_leng Try.underlying36 rfl hr) ?_
                          have bd_74 := (hr).bound
                          refine r_val .none rfl (p_move rfl) ?_
                          refine r_nil ?_
                          refine e_next ?_
                          refine c_block ?_
                          refine c_name (d := 1) rfl (fun u_75 hu_75 => ?_)
                          refine c_name (d := 33) rfl (fun u_76 hu_76 => ?_)
                          refine c_name (d := 34) rfl (fun u_77 hu_77 => ?_)
                          refine c_nameL (k := 0) rfl (fun A_78 hA_78 => ?_)
                          refine c_loop (σ := Nat) (fun k => [(35, Value.int .i64 (k : Nat)), (1, u_75), (33, u_76), (34, u_77)]) (fun k => [A_78]) (fun _ => _) (fun k => k ≤ rs.length ∧ hasL ((rs.map Prod.fst).drop k) v = hasL c.subs v) (fun k => rs.length - k) (0) ⟨Nat.zero_le _, by rw [hl]; rfl⟩ rfl ⟨rfl, rfl, rfl, rfl, trivial⟩ (.keep (fun _ _ h => h) (.nil)) (fun k hphi => ?_)
                          subst hu_75
                          subst hu_76
                          subst hu_77
                          subst hA_78
                          refine c_seq ?_
                          refine c_region ?_
                          refine r_val .none rfl (p_lt rfl rfl) ?_
                          refine r_nil ?_
                          refine e_next ?_
                          refine c_seq ?_
                          refine c_splitd (d := 36) rfl (fun h_79 => ?_) (fun h_79 => ?_)
                          · skip
                            first
                              | (exfalso; omega)
                              | (
                                refine c_cond_t rfl ?_
                                refine c_skip ?_
                                refine e_next ?_
                                refine c_seq ?_
                                refine c_block ?_
                                refine c_seq ?_
                                refine c_region ?_
                                refine r_iaddr_g .none rfl Try.underlying36 sz38 rfl hr rfl (by first | exact of_decide_eq_true rfl | omega) (fun p_81 o_82 R_80 => ?_)
                                have hc_83 := hp _ (getD_mem (i := k) (d := d0) (by omega))
                                refine r_val .none rfl (p_ldga0 Try.underlying38 rfl sz38 rfl R_80 (by first | exact of_decide_eq_true rfl | omega) (rfl : _ = Value.agg #[_, _, _, _, _, _, _, _])) ?_
                                refine r_alloc .none rfl zr38 (IsRow.lit _) (fun b_7 => ?_)
                                refine r_stw (k := 0) .none sz38 rfl rfl (IsRow.lit _) (one_lit rfl (all_cons rfl (all_cons rfl (all_cons rfl (all_cons rfl (all_cons rfl (all_cons rfl (all_cons rfl (all_cons (hc_83).one rfl))))))))) rfl ?_
                                refine r_nil ?_
                                refine e_next ?_
                                refine c_seq ?_
                                refine c_region ?_
                                refine r_val .none rfl (p_ldw (k := 0) Try.underlying38 rfl sz38 rfl rfl (rfl : _ = Value.agg #[_, _, _, _, _, _, _, _])) ?_
                                refine r_val .none rfl (p_move rfl) ?_
                                refine r_call (vs := [_, _]) .none rfl cl31 rfl (fun w hw => ih (rs.getD k d0).1 _ _ _ w (size_at hl (by omega) hz) hc_83 hw) ?_
                                refine r_nil ?_
                                refine e_next ?_
                                refine c_split (d := 41) rfl (fun h_84 => ?_) (fun h_84 => ?_)
                                · skip
                                  have hE := h_84
                                  first
                                    | (exfalso; omega)
                                    | (
                                      refine c_cond_t rfl ?_
                                      refine c_seq ?_
                                      refine c_region ?_
                                      refine r_val .none rfl (p_assign rfl) ?_
                                      refine r_nil ?_
                                      refine e_next ?_
                                      refine c_ret ?_
                                      refine e_ret_block ?_
                                      refine e_ret_then ?_
                                      refine e_ret_then ?_
                                      refine e_ret_block ?_
                                      refine e_ret_then ?_
                                      refine e_ret1 Try.results31 (.tmp rfl .nil) (fun w hm => ⟨?_, hm.since⟩)
                                      rw [has_eq c v]
                                      first
                                      | (rw [own_yes (by omega)]; rfl)
                                      | (rw [own_no (by omega), Bool.false_or, ← hphi.2, map_drop (i := k) (d := d0) (by omega), hasL_yes hE]; done)
                                      | (rw [own_no (by omega), Bool.false_or, ← hphi.2, List.drop_eq_nil_of_le (by simp; omega)]; rfl)
                                      )
                                · skip
                                  have hE := h_84
                                  first
                                    | (exfalso; omega)
                                    | (
                                      refine c_cond_f rfl ?_
                                      refine c_skip ?_
                                      refine e_norm_block ?_
                                      refine e_next ?_
                                      refine c_region ?_
                                      refine r_val .none rfl (p_add rfl rfl (by omega)) ?_
                                      refine r_val .none rfl (p_move rfl) ?_
                                      refine r_nil ?_
                                      refine e_round (k + 1) ⟨⟨by omega, by rw [← hphi.2, map_drop (i := k) (d := d0) (by omega), hasL_no hE]⟩, by omega⟩ rfl ⟨rfl, rfl, rfl, rfl, trivial⟩ (.drop (.keep (fun _ _ h => h) (.nil)))
                                      )
                                )
                          · skip
                            first
                              | (exfalso; omega)
                              | (
                                refine c_cond_f rfl ?_
                                refine c_exit ?_
                                refine e_exit_then ?_
                                refine e_exit_then ?_
                                refine e_exit_block ?_
                                refine e_next ?_
                                refine c_seq ?_
                                refine c_region ?_
                                refine r_val .none rfl (p_assign rfl) ?_
                                refine r_nil ?_
                                refine e_next ?_
                                refine c_ret ?_
                                refine e_ret1 Try.results31 (.tmp rfl .nil) (fun w hm => ⟨?_, hm.since⟩)
                                rw [has_eq c v]
                                first
                                | (rw [own_yes (by omega)]; rfl)
                                | (rw [own_no (by omega), Bool.false_or, ← hphi.2, map_drop (i := k) (d := d0) (by omega), hasL_yes hE]; done)
                                | (rw [own_no (by omega), Bool.false_or, ← hphi.2, List.drop_eq_nil_of_le (by simp; omega)]; rfl)
                                )
                          )
                    )
              )
        · skip
          first
            | (exfalso; omega)
            | (
              refine r_skip rfl (.no rfl rfl) ?_
              refine r_skip rfl (.no rfl rfl) ?_
              refine r_skip rfl (.no rfl rfl) ?_
              refine r_skip rfl (.no rfl rfl) ?_
              refine r_skip rfl (.no rfl rfl) ?_
              refine r_skip rfl (.no rfl rfl) ?_
              refine r_val .none rfl (p_pick_f rfl rfl) ?_
              refine r_val .none rfl (p_move rfl) ?_
              refine r_skip rfl (.no rfl rfl) ?_
              refine r_skip rfl (.no rfl rfl) ?_
              refine r_skip rfl (.no rfl rfl) ?_
              refine r_skip rfl (.no rfl rfl) ?_
              refine r_skip rfl (.no rfl rfl) ?_
              refine r_skip rfl (.no rfl rfl) ?_
              refine r_skip rfl (.no rfl rfl) ?_
              refine r_val .none rfl (p_pick_f rfl rfl) ?_
              refine r_nil ?_
              refine e_next ?_
              refine c_cond_f rfl ?_
              refine c_skip ?_
              refine e_norm_block ?_
              refine e_next ?_
              refine c_region ?_
              refine r_val .none rfl (p_move rfl) ?_
              refine r_val .none rfl (p_add rfl rfl (by omega)) ?_
              refine r_val .none rfl (p_assign rfl) ?_
              refine r_nil ?_
              refine e_again ?_
              refine l_round (n := 1) ?_
              refine c_seq ?_
              refine c_seq ?_
              refine c_region ?_
              refine r_val .none rfl (p_move rfl) ?_
              refine r_val .none rfl (p_lt rfl rfl) ?_
              refine r_say (d := 9) (v := Value.bool true) rfl ?_
              refine r_nil ?_
              refine e_next ?_
              refine c_cond_t rfl ?_
              refine c_skip ?_
              refine e_next ?_
              refine c_seq ?_
              refine c_block ?_
              refine c_seq ?_
              refine c_region ?_
              refine r_val .none rfl (p_field Try.underlying38 rfl sz3 rfl) ?_
              refine r_val .none rfl (p_ld (k := 0) Try.underlying3 rfl rfl rfl (by first | exact of_decide_eq_true rfl | omega) (rfl : _ = Value.int _ _)) ?_
              refine r_val .none rfl (p_lt rfl rfl) ?_
              refine r_val .none rfl (p_move rfl) ?_
              refine r_splitd (d := 15) rfl (fun h_85 => ?_) (fun h_85 => ?_)
              · skip
                first
                  | (exfalso; omega)
                  | (
                    refine r_val (.some rfl rfl) rfl (p_move rfl) ?_
                    refine r_val (.some rfl rfl) rfl (p_field Try.underlying38 rfl sz35 rfl) ?_
                    refine r_val (.some rfl rfl) rfl (p_iaddr (k := 2) Try.underlying35 sz34 rfl rfl (by first | exact of_decide_eq_true rfl | omega)) ?_
                    refine r_val (.some rfl rfl) rfl (p_field Try.underlying34 rfl sz3 rfl) ?_
                    refine r_val (.some rfl rfl) rfl (p_ld (k := 0) Try.underlying3 rfl rfl rfl (by first | exact of_decide_eq_true rfl | omega) (rfl : _ = Value.int _ _)) ?_
                    refine r_val (.some rfl rfl) rfl (p_eq rfl rfl) ?_
                    refine r_val .none rfl (p_pick_t rfl rfl) ?_
                    refine r_val .none rfl (p_move rfl) ?_
                    refine r_splitd (d := 23) rfl (fun h_86 => ?_) (fun h_86 => ?_)
                    · skip
                      first
                        | (exfalso; omega)
                        | (
                          refine r_val (.some rfl rfl) rfl (p_move rfl) ?_
                          refine r_val (.some rfl rfl) rfl (p_field Try.underlying38 rfl sz35 rfl) ?_
                          refine r_val (.some rfl rfl) rfl (p_iaddr (k := 2) Try.underlying35 sz34 rfl rfl (by first | exact of_decide_eq_true rfl | omega)) ?_
                          refine r_val (.some rfl rfl) rfl (p_field Try.underlying34 rfl sz3 rfl) ?_
                          refine r_val (.some rfl rfl) rfl (p_ld (k := 0) Try.underlying3 rfl rfl rfl (by first | exact of_decide_eq_true rfl | omega) (rfl : _ = Value.int _ _)) ?_
                          refine r_val (.some rfl rfl) rfl (p_move rfl) ?_
                          refine r_val (.some rfl rfl) rfl (p_eq rfl rfl) ?_
                          refine r_val .none rfl (p_pick_t rfl rfl) ?_
                          refine r_nil ?_
                          refine e_next ?_
                          refine c_splitd (d := 31) rfl (fun h_87 => ?_) (fun h_87 => ?_)
                          · skip
                            first
                              | (exfalso; omega)
                              | (
                                refine c_cond_t rfl ?_
                                refine c_seq ?_
                                refine c_region ?_
                                refine r_val .none rfl (p_assign rfl) ?_
                                refine r_nil ?_
                                refine e_next ?_
                                refine c_ret ?_
                                refine e_ret_block ?_
                                refine e_ret_then ?_
                                refine e_ret_then ?_
                                refine e_ret_block ?_
                                refine e_ret_then ?_
                                refine e_ret1 Try.results31 (.tmp rfl .nil) (fun w hm => ⟨?_, hm.since⟩)
                                rw [has_eq c v]
                                first
                                | (rw [own_yes (by omega)]; rfl)
                                | (rw [own_no (by omega), Bool.false_or, ← hphi.2, map_drop (i := k) (d := d0) (by omega), hasL_yes hE]; done)
                                | (rw [own_no (by omega), Bool.false_or, ← hphi.2, List.drop_eq_nil_of_le (by simp; omega)]; rfl)
                                )
                          · skip
                            first
                              | (exfalso; omega)
                              | (
                                refine c_cond_f rfl ?_
                                refine c_skip ?_
                                refine e_norm_block ?_
                                refine e_next ?_
                                refine c_region ?_
                                refine r_val .none rfl (p_move rfl) ?_
                                refine r_val .none rfl (p_add rfl rfl (by omega)) ?_
                                refine r_val .none rfl (p_assign rfl) ?_
                                refine r_nil ?_
                                refine e_again ?_
                                refine l_round (n := 0) ?_
                                refine c_seq ?_
                                refine c_seq ?_
                                refine c_region ?_
                                refine r_val .none rfl (p_move rfl) ?_
                                refine r_val .none rfl (p_lt rfl rfl) ?_
                                refine r_say (d := 9) (v := Value.bool false) rfl ?_
                                refine r_nil ?_
                                refine e_next ?_
                                refine c_cond_f rfl ?_
                                refine c_exit ?_
                                refine e_exit_then ?_
                                refine e_exit_then ?_
                                refine e_exit_block ?_
                                refine e_next ?_
                                refine c_seq ?_
                                refine c_seq ?_
                                refine c_region ?_
                                refine r_val .none rfl (p_field Try.underlying38 rfl sz36 rfl) ?_
                                refine r_val .none rfl (p_ld (k := 0) Try.underlying36 rfl rfl rfl (by first | exact of_decide_eq_true rfl | omega) rfl) ?_
                                refine r_val .none rfl (p_leng Try.underlying36 rfl hr) ?_
                                have bd_88 := (hr).bound
                                refine r_val .none rfl (p_move rfl) ?_
                                refine r_nil ?_
                                refine e_next ?_
                                refine c_block ?_
                                refine c_name (d := 1) rfl (fun u_89 hu_89 => ?_)
                                refine c_name (d := 33) rfl (fun u_90 hu_90 => ?_)
                                refine c_name (d := 34) rfl (fun u_91 hu_91 => ?_)
                                refine c_nameL (k := 0) rfl (fun A_92 hA_92 => ?_)
                                refine c_loop (σ := Nat) (fun k => [(35, Value.int .i64 (k : Nat)), (1, u_89), (33, u_90), (34, u_91)]) (fun k => [A_92]) (fun _ => _) (fun k => k ≤ rs.length ∧ hasL ((rs.map Prod.fst).drop k) v = hasL c.subs v) (fun k => rs.length - k) (0) ⟨Nat.zero_le _, by rw [hl]; rfl⟩ rfl ⟨rfl, rfl, rfl, rfl, trivial⟩ (.keep (fun _ _ h => h) (.nil)) (fun k hphi => ?_)
                                subst hu_89
                                subst hu_90
                                subst hu_91
                                subst hA_92
                                refine c_seq ?_
                                refine c_region ?_
                                refine r_val .none rfl (p_lt rfl rfl) ?_
                                refine r_nil ?_
                                refine e_next ?_
                                refine c_seq ?_
                                refine c_splitd (d := 36) rfl (fun h_93 => ?_) (fun h_93 => ?_)
                                · skip
                                  first
                                    | (exfalso; omega)
                                    | (
                                      refine c_cond_t rfl ?_
                                      refine c_skip ?_
                                      refine e_next ?_
                                      refine c_seq ?_
                                      refine c_block ?_
                                      refine c_seq ?_
                                      refine c_region ?_
                                      refine r_iaddr_g .none rfl Try.underlying36 sz38 rfl hr rfl (by first | exact of_decide_eq_true rfl | omega) (fun p_95 o_96 R_94 => ?_)
                                      have hc_97 := hp _ (getD_mem (i := k) (d := d0) (by omega))
                                      refine r_val .none rfl (p_ldga0 Try.underlying38 rfl sz38 rfl R_94 (by first | exact of_decide_eq_true rfl | omega) (rfl : _ = Value.agg #[_, _, _, _, _, _, _, _])) ?_
                                      refine r_alloc .none rfl zr38 (IsRow.lit _) (fun b_8 => ?_)
                                      refine r_stw (k := 0) .none sz38 rfl rfl (IsRow.lit _) (one_lit rfl (all_cons rfl (all_cons rfl (all_cons rfl (all_cons rfl (all_cons rfl (all_cons rfl (all_cons rfl (all_cons (hc_97).one rfl))))))))) rfl ?_
                                      refine r_nil ?_
                                      refine e_next ?_
                                      refine c_seq ?_
                                      refine c_region ?_
                                      refine r_val .none rfl (p_ldw (k := 0) Try.underlying38 rfl sz38 rfl rfl (rfl : _ = Value.agg #[_, _, _, _, _, _, _, _])) ?_
                                      refine r_val .none rfl (p_move rfl) ?_
                                      refine r_call (vs := [_, _]) .none rfl cl31 rfl (fun w hw => ih (rs.getD k d0).1 _ _ _ w (size_at hl (by omega) hz) hc_97 hw) ?_
                                      refine r_nil ?_
                                      refine e_next ?_
                                      refine c_split (d := 41) rfl (fun h_98 => ?_) (fun h_98 => ?_)
                                      · skip
                                        have hE := h_98
                                        first
                                          | (exfalso; omega)
                                          | (
                                            refine c_cond_t rfl ?_
                                            refine c_seq ?_
                                            refine c_region ?_
                                            refine r_val .none rfl (p_assign rfl) ?_
                                            refine r_nil ?_
                                            refine e_next ?_
                                            refine c_ret ?_
                                            refine e_ret_block ?_
                                            refine e_ret_then ?_
                                            refine e_ret_then ?_
                                            refine e_ret_block ?_
                                            refine e_ret_then ?_
                                            refine e_ret1 Try.results31 (.tmp rfl .nil) (fun w hm => ⟨?_, hm.since⟩)
                                            rw [has_eq c v]
                                            first
                                            | (rw [own_yes (by omega)]; rfl)
                                            | (rw [own_no (by omega), Bool.false_or, ← hphi.2, map_drop (i := k) (d := d0) (by omega), hasL_yes hE]; done)
                                            | (rw [own_no (by omega), Bool.false_or, ← hphi.2, List.drop_eq_nil_of_le (by simp; omega)]; rfl)
                                            )
                                      · skip
                                        have hE := h_98
                                        first
                                          | (exfalso; omega)
                                          | (
                                            refine c_cond_f rfl ?_
                                            refine c_skip ?_
                                            refine e_norm_block ?_
                                            refine e_next ?_
                                            refine c_region ?_
                                            refine r_val .none rfl (p_add rfl rfl (by omega)) ?_
                                            refine r_val .none rfl (p_move rfl) ?_
                                            refine r_nil ?_
                                            refine e_round (k + 1) ⟨⟨by omega, by rw [← hphi.2, map_drop (i := k) (d := d0) (by omega), hasL_no hE]⟩, by omega⟩ rfl ⟨rfl, rfl, rfl, rfl, trivial⟩ (.drop (.keep (fun _ _ h => h) (.nil)))
                                            )
                                      )
                                · skip
                                  first
                                    | (exfalso; omega)
                                    | (
                                      refine c_cond_f rfl ?_
                                      refine c_exit ?_
                                      refine e_exit_then ?_
                                      refine e_exit_then ?_
                                      refine e_exit_block ?_
                                      refine e_next ?_
                                      refine c_seq ?_
                                      refine c_region ?_
                                      refine r_val .none rfl (p_assign rfl) ?_
                                      refine r_nil ?_
                                      refine e_next ?_
                                      refine c_ret ?_
                                      refine e_ret1 Try.results31 (.tmp rfl .nil) (fun w hm => ⟨?_, hm.since⟩)
                                      rw [has_eq c v]
                                      first
                                      | (rw [own_yes (by omega)]; rfl)
                                      | (rw [own_no (by omega), Bool.false_or, ← hphi.2, map_drop (i := k) (d := d0) (by omega), hasL_yes hE]; done)
                                      | (rw [own_no (by omega), Bool.false_or, ← hphi.2, List.drop_eq_nil_of_le (by simp; omega)]; rfl)
                                      )
                                )
                          )
                    · skip
                      first
                        | (exfalso; omega)
                        | (
                          refine r_skip rfl (.no rfl rfl) ?_
                          refine r_skip rfl (.no rfl rfl) ?_
                          refine r_skip rfl (.no rfl rfl) ?_
                          refine r_skip rfl (.no rfl rfl) ?_
                          refine r_skip rfl (.no rfl rfl) ?_
                          refine r_skip rfl (.no rfl rfl) ?_
                          refine r_skip rfl (.no rfl rfl) ?_
                          refine r_val .none rfl (p_pick_f rfl rfl) ?_
                          refine r_nil ?_
                          refine e_next ?_
                          refine c_cond_f rfl ?_
                          refine c_skip ?_
                          refine e_norm_block ?_
                          refine e_next ?_
                          refine c_region ?_
                          refine r_val .none rfl (p_move rfl) ?_
                          refine r_val .none rfl (p_add rfl rfl (by omega)) ?_
                          refine r_val .none rfl (p_assign rfl) ?_
                          refine r_nil ?_
                          refine e_again ?_
                          refine l_round (n := 0) ?_
                          refine c_seq ?_
                          refine c_seq ?_
                          refine c_region ?_
                          refine r_val .none rfl (p_move rfl) ?_
                          refine r_val .none rfl (p_lt rfl rfl) ?_
                          refine r_say (d := 9) (v := Value.bool false) rfl ?_
                          refine r_nil ?_
                          refine e_next ?_
                          refine c_cond_f rfl ?_
                          refine c_exit ?_
                          refine e_exit_then ?_
                          refine e_exit_then ?_
                          refine e_exit_block ?_
                          refine e_next ?_
                          refine c_seq ?_
                          refine c_seq ?_
                          refine c_region ?_
                          refine r_val .none rfl (p_field Try.underlying38 rfl sz36 rfl) ?_
                          refine r_val .none rfl (p_ld (k := 0) Try.underlying36 rfl rfl rfl (by first | exact of_decide_eq_true rfl | omega) rfl) ?_
                          refine r_val .none rfl (p_leng Try.underlying36 rfl hr) ?_
                          have bd_99 := (hr).bound
                          refine r_val .none rfl (p_move rfl) ?_
                          refine r_nil ?_
                          refine e_next ?_
                          refine c_block ?_
                          refine c_name (d := 1) rfl (fun u_100 hu_100 => ?_)
                          refine c_name (d := 33) rfl (fun u_101 hu_101 => ?_)
                          refine c_name (d := 34) rfl (fun u_102 hu_102 => ?_)
                          refine c_nameL (k := 0) rfl (fun A_103 hA_103 => ?_)
                          refine c_loop (σ := Nat) (fun k => [(35, Value.int .i64 (k : Nat)), (1, u_100), (33, u_101), (34, u_102)]) (fun k => [A_103]) (fun _ => _) (fun k => k ≤ rs.length ∧ hasL ((rs.map Prod.fst).drop k) v = hasL c.subs v) (fun k => rs.length - k) (0) ⟨Nat.zero_le _, by rw [hl]; rfl⟩ rfl ⟨rfl, rfl, rfl, rfl, trivial⟩ (.keep (fun _ _ h => h) (.nil)) (fun k hphi => ?_)
                          subst hu_100
                          subst hu_101
                          subst hu_102
                          subst hA_103
                          refine c_seq ?_
                          refine c_region ?_
                          refine r_val .none rfl (p_lt rfl rfl) ?_
                          refine r_nil ?_
                          refine e_next ?_
                          refine c_seq ?_
                          refine c_splitd (d := 36) rfl (fun h_104 => ?_) (fun h_104 => ?_)
                          · skip
                            first
                              | (exfalso; omega)
                              | (
                                refine c_cond_t rfl ?_
                                refine c_skip ?_
                                refine e_next ?_
                                refine c_seq ?_
                                refine c_block ?_
                                refine c_seq ?_
                                refine c_region ?_
                                refine r_iaddr_g .none rfl Try.underlying36 sz38 rfl hr rfl (by first | exact of_decide_eq_true rfl | omega) (fun p_106 o_107 R_105 => ?_)
                                have hc_108 := hp _ (getD_mem (i := k) (d := d0) (by omega))
                                refine r_val .none rfl (p_ldga0 Try.underlying38 rfl sz38 rfl R_105 (by first | exact of_decide_eq_true rfl | omega) (rfl : _ = Value.agg #[_, _, _, _, _, _, _, _])) ?_
                                refine r_alloc .none rfl zr38 (IsRow.lit _) (fun b_9 => ?_)
                                refine r_stw (k := 0) .none sz38 rfl rfl (IsRow.lit _) (one_lit rfl (all_cons rfl (all_cons rfl (all_cons rfl (all_cons rfl (all_cons rfl (all_cons rfl (all_cons rfl (all_cons (hc_108).one rfl))))))))) rfl ?_
                                refine r_nil ?_
                                refine e_next ?_
                                refine c_seq ?_
                                refine c_region ?_
                                refine r_val .none rfl (p_ldw (k := 0) Try.underlying38 rfl sz38 rfl rfl (rfl : _ = Value.agg #[_, _, _, _, _, _, _, _])) ?_
                                refine r_val .none rfl (p_move rfl) ?_
                                refine r_call (vs := [_, _]) .none rfl cl31 rfl (fun w hw => ih (rs.getD k d0).1 _ _ _ w (size_at hl (by omega) hz) hc_108 hw) ?_
                                refine r_nil ?_
                                refine e_next ?_
                                refine c_split (d := 41) rfl (fun h_109 => ?_) (fun h_109 => ?_)
                                · skip
                                  have hE := h_109
                                  first
                                    | (exfalso; omega)
                                    | (
                                      refine c_cond_t rfl ?_
                                      refine c_seq ?_
                                      refine c_region ?_
                                      refine r_val .none rfl (p_assign rfl) ?_
                                      refine r_nil ?_
                                      refine e_next ?_
                                      refine c_ret ?_
                                      refine e_ret_block ?_
                                      refine e_ret_then ?_
                                      refine e_ret_then ?_
                                      refine e_ret_block ?_
                                      refine e_ret_then ?_
                                      refine e_ret1 Try.results31 (.tmp rfl .nil) (fun w hm => ⟨?_, hm.since⟩)
                                      rw [has_eq c v]
                                      first
                                      | (rw [own_yes (by omega)]; rfl)
                                      | (rw [own_no (by omega), Bool.false_or, ← hphi.2, map_drop (i := k) (d := d0) (by omega), hasL_yes hE]; done)
                                      | (rw [own_no (by omega), Bool.false_or, ← hphi.2, List.drop_eq_nil_of_le (by simp; omega)]; rfl)
                                      )
                                · skip
                                  have hE := h_109
                                  first
                                    | (exfalso; omega)
                                    | (
                                      refine c_cond_f rfl ?_
                                      refine c_skip ?_
                                      refine e_norm_block ?_
                                      refine e_next ?_
                                      refine c_region ?_
                                      refine r_val .none rfl (p_add rfl rfl (by omega)) ?_
                                      refine r_val .none rfl (p_move rfl) ?_
                                      refine r_nil ?_
                                      refine e_round (k + 1) ⟨⟨by omega, by rw [← hphi.2, map_drop (i := k) (d := d0) (by omega), hasL_no hE]⟩, by omega⟩ rfl ⟨rfl, rfl, rfl, rfl, trivial⟩ (.drop (.keep (fun _ _ h => h) (.nil)))
                                      )
                                )
                          · skip
                            first
                              | (exfalso; omega)
                              | (
                                refine c_cond_f rfl ?_
                                refine c_exit ?_
                                refine e_exit_then ?_
                                refine e_exit_then ?_
                                refine e_exit_block ?_
                                refine e_next ?_
                                refine c_seq ?_
                                refine c_region ?_
                                refine r_val .none rfl (p_assign rfl) ?_
                                refine r_nil ?_
                                refine e_next ?_
                                refine c_ret ?_
                                refine e_ret1 Try.results31 (.tmp rfl .nil) (fun w hm => ⟨?_, hm.since⟩)
                                rw [has_eq c v]
                                first
                                | (rw [own_yes (by omega)]; rfl)
                                | (rw [own_no (by omega), Bool.false_or, ← hphi.2, map_drop (i := k) (d := d0) (by omega), hasL_yes hE]; done)
                                | (rw [own_no (by omega), Bool.false_or, ← hphi.2, List.drop_eq_nil_of_le (by simp; omega)]; rfl)
                                )
                          )
                    )
              · skip
                first
                  | (exfalso; omega)
                  | (
                    refine r_skip rfl (.no rfl rfl) ?_
                    refine r_skip rfl (.no rfl rfl) ?_
                    refine r_skip rfl (.no rfl rfl) ?_
                    refine r_skip rfl (.no rfl rfl) ?_
                    refine r_skip rfl (.no rfl rfl) ?_
                    refine r_skip rfl (.no rfl rfl) ?_
                    refine r_val .none rfl (p_pick_f rfl rfl) ?_
                    refine r_val .none rfl (p_move rfl) ?_
                    refine r_skip rfl (.no rfl rfl) ?_
                    refine r_skip rfl (.no rfl rfl) ?_
                    refine r_skip rfl (.no rfl rfl) ?_
                    refine r_skip rfl (.no rfl rfl) ?_
                    refine r_skip rfl (.no rfl rfl) ?_
                    refine r_skip rfl (.no rfl rfl) ?_
                    refine r_skip rfl (.no rfl rfl) ?_
                    refine r_val .none rfl (p_pick_f rfl rfl) ?_
                    refine r_nil ?_
                    refine e_next ?_
                    refine c_cond_f rfl ?_
                    refine c_skip ?_
                    refine e_norm_block ?_
                    refine e_next ?_
                    refine c_region ?_
                    refine r_val .none rfl (p_move rfl) ?_
                    refine r_val .none rfl (p_add rfl rfl (by omega)) ?_
                    refine r_val .none rfl (p_assign rfl) ?_
                    refine r_nil ?_
                    refine e_again ?_
                    refine l_round (n := 0) ?_
                    refine c_seq ?_
                    refine c_seq ?_
                    refine c_region ?_
                    refine r_val .none rfl (p_move rfl) ?_
                    refine r_val .none rfl (p_lt rfl rfl) ?_
                    refine r_say (d := 9) (v := Value.bool false) rfl ?_
                    refine r_nil ?_
                    refine e_next ?_
                    refine c_cond_f rfl ?_
                    refine c_exit ?_
                    refine e_exit_then ?_
                    refine e_exit_then ?_
                    refine e_exit_block ?_
                    refine e_next ?_
                    refine c_seq ?_
                    refine c_seq ?_
                    refine c_region ?_
                    refine r_val .none rfl (p_field Try.underlying38 rfl sz36 rfl) ?_
                    refine r_val .none rfl (p_ld (k := 0) Try.underlying36 rfl rfl rfl (by first | exact of_decide_eq_true rfl | omega) rfl) ?_
                    refine r_val .none rfl (p_leng Try.underlying36 rfl hr) ?_
                    have bd_110 := (hr).bound
                    refine r_val .none rfl (p_move rfl) ?_
                    refine r_nil ?_
                    refine e_next ?_
                    refine c_block ?_
                    refine c_name (d := 1) rfl (fun u_111 hu_111 => ?_)
                    refine c_name (d := 33) rfl (fun u_112 hu_112 => ?_)
                    refine c_name (d := 34) rfl (fun u_113 hu_113 => ?_)
                    refine c_nameL (k := 0) rfl (fun A_114 hA_114 => ?_)
                    refine c_loop (σ := Nat) (fun k => [(35, Value.int .i64 (k : Nat)), (1, u_111), (33, u_112), (34, u_113)]) (fun k => [A_114]) (fun _ => _) (fun k => k ≤ rs.length ∧ hasL ((rs.map Prod.fst).drop k) v = hasL c.subs v) (fun k => rs.length - k) (0) ⟨Nat.zero_le _, by rw [hl]; rfl⟩ rfl ⟨rfl, rfl, rfl, rfl, trivial⟩ (.keep (fun _ _ h => h) (.nil)) (fun k hphi => ?_)
                    subst hu_111
                    subst hu_112
                    subst hu_113
                    subst hA_114
                    refine c_seq ?_
                    refine c_region ?_
                    refine r_val .none rfl (p_lt rfl rfl) ?_
                    refine r_nil ?_
                    refine e_next ?_
                    refine c_seq ?_
                    refine c_splitd (d := 36) rfl (fun h_115 => ?_) (fun h_115 => ?_)
                    · skip
                      first
                        | (exfalso; omega)
                        | (
                          refine c_cond_t rfl ?_
                          refine c_skip ?_
                          refine e_next ?_
                          refine c_seq ?_
                          refine c_block ?_
                          refine c_seq ?_
                          refine c_region ?_
                          refine r_iaddr_g .none rfl Try.underlying36 sz38 rfl hr rfl (by first | exact of_decide_eq_true rfl | omega) (fun p_117 o_118 R_116 => ?_)
                          have hc_119 := hp _ (getD_mem (i := k) (d := d0) (by omega))
                          refine r_val .none rfl (p_ldga0 Try.underlying38 rfl sz38 rfl R_116 (by first | exact of_decide_eq_true rfl | omega) (rfl : _ = Value.agg #[_, _, _, _, _, _, _, _])) ?_
                          refine r_alloc .none rfl zr38 (IsRow.lit _) (fun b_10 => ?_)
                          refine r_stw (k := 0) .none sz38 rfl rfl (IsRow.lit _) (one_lit rfl (all_cons rfl (all_cons rfl (all_cons rfl (all_cons rfl (all_cons rfl (all_cons rfl (all_cons rfl (all_cons (hc_119).one rfl))))))))) rfl ?_
                          refine r_nil ?_
                          refine e_next ?_
                          refine c_seq ?_
                          refine c_region ?_
                          refine r_val .none rfl (p_ldw (k := 0) Try.underlying38 rfl sz38 rfl rfl (rfl : _ = Value.agg #[_, _, _, _, _, _, _, _])) ?_
                          refine r_val .none rfl (p_move rfl) ?_
                          refine r_call (vs := [_, _]) .none rfl cl31 rfl (fun w hw => ih (rs.getD k d0).1 _ _ _ w (size_at hl (by omega) hz) hc_119 hw) ?_
                          refine r_nil ?_
                          refine e_next ?_
                          refine c_split (d := 41) rfl (fun h_120 => ?_) (fun h_120 => ?_)
                          · skip
                            have hE := h_120
                            first
                              | (exfalso; omega)
                              | (
                                refine c_cond_t rfl ?_
                                refine c_seq ?_
                                refine c_region ?_
                                refine r_val .none rfl (p_assign rfl) ?_
                                refine r_nil ?_
                                refine e_next ?_
                                refine c_ret ?_
                                refine e_ret_block ?_
                                refine e_ret_then ?_
                                refine e_ret_then ?_
                                refine e_ret_block ?_
                                refine e_ret_then ?_
                                refine e_ret1 Try.results31 (.tmp rfl .nil) (fun w hm => ⟨?_, hm.since⟩)
                                rw [has_eq c v]
                                first
                                | (rw [own_yes (by omega)]; rfl)
                                | (rw [own_no (by omega), Bool.false_or, ← hphi.2, map_drop (i := k) (d := d0) (by omega), hasL_yes hE]; done)
                                | (rw [own_no (by omega), Bool.false_or, ← hphi.2, List.drop_eq_nil_of_le (by simp; omega)]; rfl)
                                )
                          · skip
                            have hE := h_120
                            first
                              | (exfalso; omega)
                              | (
                                refine c_cond_f rfl ?_
                                refine c_skip ?_
                                refine e_norm_block ?_
                                refine e_next ?_
                                refine c_region ?_
                                refine r_val .none rfl (p_add rfl rfl (by omega)) ?_
                                refine r_val .none rfl (p_move rfl) ?_
                                refine r_nil ?_
                                refine e_round (k + 1) ⟨⟨by omega, by rw [← hphi.2, map_drop (i := k) (d := d0) (by omega), hasL_no hE]⟩, by omega⟩ rfl ⟨rfl, rfl, rfl, rfl, trivial⟩ (.drop (.keep (fun _ _ h => h) (.nil)))
                                )
                          )
                    · skip
                      first
                        | (exfalso; omega)
                        | (
                          refine c_cond_f rfl ?_
                          refine c_exit ?_
                          refine e_exit_then ?_
                          refine e_exit_then ?_
                          refine e_exit_block ?_
                          refine e_next ?_
                          refine c_seq ?_
                          refine c_region ?_
                          refine r_val .none rfl (p_assign rfl) ?_
                          refine r_nil ?_
                          refine e_next ?_
                          refine c_ret ?_
                          refine e_ret1 Try.results31 (.tmp rfl .nil) (fun w hm => ⟨?_, hm.since⟩)
                          rw [has_eq c v]
                          first
                          | (rw [own_yes (by omega)]; rfl)
                          | (rw [own_no (by omega), Bool.false_or, ← hphi.2, map_drop (i := k) (d := d0) (by omega), hasL_yes hE]; done)
                          | (rw [own_no (by omega), Bool.false_or, ← hphi.2, List.drop_eq_nil_of_le (by simp; omega)]; rfl)
                          )
                    )
              )
        )
theorem c_rhas_n : ∀ n, RhasIs n
  | 0 => fun c sv v G w hz hs hG => absurd hz (by have := size_subs c; omega)
  | n + 1 => fun c sv v G w hz hs hG => c_rhas_s n (c_rhas_n n) c sv v hz hs w hG
theorem c_rhas (c : CT) (sv : Value) (v : Nat) {G : Ghost} (hs : Rs G sv c.subs) (w : World) (hG : Has G w) : Calls Try.prog 31 #[Value.agg #[Value.int .i64 c.h.k, Value.int .i64 (vi c.h.v0), Value.int .i64 c.h.n0, Value.int .i64 (vi c.h.v1), Value.int .i64 c.h.n1, Value.int .i64 (vi c.h.v2), Value.int .i64 c.h.n2, sv], Value.int .i64 (v : Nat)] w (Ret fun r w' => r = Value.bool (has c v) ∧ Since nX w w') := c_rhas_n _ c sv v G w (Nat.le_refl _) hs hG
theorem c_rsize_s (n : Nat) (ih : RsizeIs n) (c : CT) (sv : Value)  {G : Ghost} (hz : SizeOf.sizeOf c ≤ n + 1) (hsz : size c ≤ 1000) (hs : Rs G sv c.subs) (w : World) (hG : Has G w) :
    Calls Try.prog 33 #[Value.agg #[Value.int .i64 c.h.k, Value.int .i64 (vi c.h.v0), Value.int .i64 c.h.n0, Value.int .i64 (vi c.h.v1), Value.int .i64 c.h.n1, Value.int .i64 (vi c.h.v2), Value.int .i64 c.h.n2, sv]] w (Ret fun r w' => r = Value.int .i64 (size c : Nat) ∧ Since nX w w') := by
  refine enter (args := [_]) (X := nX) (G := G) (l := [(0, Value.agg #[Value.int .i64 c.h.k, Value.int .i64 (vi c.h.v0), Value.int .i64 c.h.n0, Value.int .i64 (vi c.h.v1), Value.int .i64 c.h.n1, Value.int .i64 (vi c.h.v2), Value.int .i64 c.h.n2, sv])]) Try.func33 rfl Try.ntmps33 hG ⟨rfl, trivial⟩ (Nat.le_of_ble_eq_true rfl) ?_
  obtain ⟨rs, hr, hp, hl⟩ := hs.inv
  have hlen : c.subs.length = rs.length := by rw [hl]; simp
  have hbd := hr.bound
  refine c_seq ?_
  refine c_region ?_
  refine r_box .none rfl rfl (IsRow.lit _) (fun b_1 => ?_)
  refine r_val .none rfl (p_assign rfl) ?_
  refine r_nil ?_
  refine e_next ?_
  refine c_seq ?_
  refine c_region ?_
  refine r_val .none rfl (p_assign rfl) ?_
  refine r_nil ?_
  refine e_next ?_
  refine c_seq ?_
  refine c_seq ?_
  refine c_region ?_
  refine r_val .none rfl (p_field Try.underlying38 rfl sz36 rfl) ?_
  refine r_val .none rfl (p_ld (k := 0) Try.underlying36 rfl rfl rfl (by first | exact of_decide_eq_true rfl | omega) rfl) ?_
  refine r_val .none rfl (p_leng Try.underlying36 rfl hr) ?_
  have bd_1 := (hr).bound
  refine r_val .none rfl (p_move rfl) ?_
  refine r_nil ?_
  refine e_next ?_
  refine c_block ?_
  refine c_name (d := 2) rfl (fun u_2 hu_2 => ?_)
  refine c_name (d := 7) rfl (fun u_3 hu_3 => ?_)
  refine c_name (d := 8) rfl (fun u_4 hu_4 => ?_)
  refine c_nameL (k := 0) rfl (fun A_5 hA_5 => ?_)
  refine c_loop (σ := Nat) (fun k => [(9, Value.int .i64 (k : Nat)), (3, Value.int .i64 (1 + sizeL ((rs.map Prod.fst).take k) : Nat)), (2, u_2), (7, u_3), (8, u_4)]) (fun k => [A_5]) (fun _ => _) (fun k => k ≤ rs.length) (fun k => rs.length - k) (0) (by omega) rfl ⟨rfl, rfl, rfl, rfl, rfl, trivial⟩ (.keep (fun _ _ h => h) (.nil)) (fun k hphi => ?_)
  subst hu_2
  subst hu_3
  subst hu_4
  subst hA_5
  refine c_seq ?_
  refine c_region ?_
  refine r_val .none rfl (p_lt rfl rfl) ?_
  refine r_nil ?_
  refine e_next ?_
  refine c_seq ?_
  refine c_splitd (d := 10) rfl (fun h_6 => ?_) (fun h_6 => ?_)
  · skip
    first
      | (exfalso; omega)
      | (
        refine c_cond_t rfl ?_
        refine c_skip ?_
        refine e_next ?_
        refine c_seq ?_
        refine c_block ?_
        refine c_seq ?_
        refine c_region ?_
        refine r_iaddr_g .none rfl Try.underlying36 sz38 rfl hr rfl (by first | exact of_decide_eq_true rfl | omega) (fun p_8 o_9 R_7 => ?_)
        have hc_10 := hp _ (getD_mem (i := k) (d := d0) (by omega))
        have hz3 := size_child (i := k) hl (by omega) hsz
        refine r_val .none rfl (p_ldga0 Try.underlying38 rfl sz38 rfl R_7 (by first | exact of_decide_eq_true rfl | omega) (rfl : _ = Value.agg #[_, _, _, _, _, _, _, _])) ?_
        refine r_alloc .none rfl zr38 (IsRow.lit _) (fun b_2 => ?_)
        refine r_stw (k := 0) .none sz38 rfl rfl (IsRow.lit _) (one_lit rfl (all_cons rfl (all_cons rfl (all_cons rfl (all_cons rfl (all_cons rfl (all_cons rfl (all_cons rfl (all_cons (hc_10).one rfl))))))))) rfl ?_
        refine r_nil ?_
        refine e_next ?_
        refine c_region ?_
        refine r_val .none rfl (p_move rfl) ?_
        refine r_val .none rfl (p_ldw (k := 0) Try.underlying38 rfl sz38 rfl rfl (rfl : _ = Value.agg #[_, _, _, _, _, _, _, _])) ?_
        refine r_call (vs := [_]) .none rfl cl33 rfl (fun w hw => ih (rs.getD k d0).1 _ _ w (size_at hl (by omega) hz) hz3 hc_10 hw) ?_
        refine r_val .none rfl (p_add rfl rfl (by have h1 := sizeL_take_le (rs.map Prod.fst) k; have h2 := size_eq c; rw [hl] at h2; omega)) ?_
        refine r_val .none rfl (p_assign rfl) ?_
        refine r_nil ?_
        refine e_norm_block ?_
        refine e_next ?_
        refine c_region ?_
        refine r_val .none rfl (p_add rfl rfl (by omega)) ?_
        refine r_val .none rfl (p_move rfl) ?_
        refine r_nil ?_
        refine e_round (k + 1) ⟨by omega, by omega⟩ rfl ⟨rfl, (congrArg (fun z => some (Value.int .i64 z)) (by rw [sizeL_take (by omega)]; omega)), rfl, rfl, rfl, trivial⟩ (.drop (.keep (fun _ _ h => h) (.nil)))
        )
  · skip
    first
      | (exfalso; omega)
      | (
        refine c_cond_f rfl ?_
        refine c_exit ?_
        refine e_exit_then ?_
        refine e_exit_then ?_
        refine e_exit_block ?_
        refine e_next ?_
        refine c_seq ?_
        refine c_region ?_
        refine r_val .none rfl (p_move rfl) ?_
        refine r_val .none rfl (p_assign rfl) ?_
        refine r_nil ?_
        refine e_next ?_
        refine c_ret ?_
        refine e_ret1 Try.results33 (.tmp rfl .nil) (fun w hm => ⟨?_, hm.since⟩)
        have hk : k = rs.length := by omega
        subst hk
        rw [size_eq, hl, List.take_of_length_le (by simp)]
        )
theorem c_rsize_n : ∀ n, RsizeIs n
  | 0 => fun c sv G w hz hsz hs hG => absurd hz (by have := size_subs c; omega)
  | n + 1 => fun c sv G w hz hsz hs hG => c_rsize_s n (c_rsize_n n) c sv hz hsz hs w hG
theorem c_rsize (c : CT) (sv : Value) {G : Ghost} (hsz : size c ≤ 1000) (hs : Rs G sv c.subs) (w : World) (hG : Has G w) : Calls Try.prog 33 #[Value.agg #[Value.int .i64 c.h.k, Value.int .i64 (vi c.h.v0), Value.int .i64 c.h.n0, Value.int .i64 (vi c.h.v1), Value.int .i64 c.h.n1, Value.int .i64 (vi c.h.v2), Value.int .i64 c.h.n2, sv]] w (Ret fun r w' => r = Value.int .i64 (size c : Nat) ∧ Since nX w w') := c_rsize_n _ c sv G w (Nat.le_refl _) hsz hs hG
end Go.Proofs.Ytpcpbfajadgmpaa
