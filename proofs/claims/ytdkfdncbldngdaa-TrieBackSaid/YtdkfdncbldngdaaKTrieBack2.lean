/- Texts of this work, laid together: a logic of steps, plain laws, and walks of Go functions, each without a condition but those that its theorems name. -/
import Derived.Test.YtdkfdncbldngdaaKTrieBack1
import Derived.Test.YtdkfdncbldngdaaRows
import Derived.Maps.RangeRun
import Derived.Sort.Row
import Derived.Sort.Grow
import Derived.Shelf.Slices.CompactI
import Derived.Shelf.SlIterI.Nil
/- Walks: what Go functions of this chapter come to, each as a function on plain data; no condition but those that each theorem names. Printed by a program of this work (gen.py). -/
namespace Go.Proofs.Ytdkfdncbldngdaa
open Go.Gx Go.Gx.T3 Go.Gx.T4 Go.Gx.T3
theorem mixed : Try.prog.follows .mixedOrders = true := by
 kernel_rfl
theorem sz3 : SzIs Try.prog 3 1 := by
 unfold SzIs
 kernel_rfl
theorem sz4 : SzIs Try.prog 4 1 := by
 unfold SzIs
 kernel_rfl
theorem sz27 : SzIs Try.prog 27 1 := by
 unfold SzIs
 kernel_rfl
theorem sz31 : SzIs Try.prog 31 1 := by
 unfold SzIs
 kernel_rfl
theorem sz77 : SzIs Try.prog 77 2 := by
 unfold SzIs
 kernel_rfl
theorem sz78 : SzIs Try.prog 78 6 := by
 unfold SzIs
 kernel_rfl
theorem sz80 : SzIs Try.prog 80 8 := by
 unfold SzIs
 kernel_rfl
theorem sz82 : SzIs Try.prog 82 2 := by
 unfold SzIs
 kernel_rfl
theorem sz83 : SzIs Try.prog 83 6 := by
 unfold SzIs
 kernel_rfl
theorem sz85 : SzIs Try.prog 85 8 := by
 unfold SzIs
 kernel_rfl
theorem zr3 : ZeroIs Try.prog 3 (Value.int .i64 0) := by
 unfold ZeroIs
 kernel_rfl
theorem zr77 : ZeroIs Try.prog 77 (Value.agg #[Value.bool false, Value.int .i64 0]) := by
 unfold ZeroIs
 kernel_rfl
theorem zr80 : ZeroIs Try.prog 80 (Value.agg #[Value.int .i64 0, Value.bool false, Value.int .i64 0, Value.bool false, Value.int .i64 0, Value.bool false, Value.int .i64 0, Value.slice none 0 0]) := by
 unfold ZeroIs
 kernel_rfl
theorem zr83 : ZeroIs Try.prog 83 (Value.agg #[Value.int .i64 0, Value.int .i64 0, Value.int .i64 0, Value.int .i64 0, Value.int .i64 0, Value.int .i64 0]) := by
 unfold ZeroIs
 kernel_rfl
theorem zr85 : ZeroIs Try.prog 85 (Value.agg #[Value.int .i64 0, Value.int .i64 0, Value.int .i64 0, Value.int .i64 0, Value.int .i64 0, Value.int .i64 0, Value.int .i64 0, Value.slice none 0 0]) := by
 unfold ZeroIs
 kernel_rfl
theorem cl28 : Callable Try.prog 28 := callable Try.func28 (by kernel_rfl) rfl
theorem cl29 : Callable Try.prog 29 := callable Try.func29 (by kernel_rfl) rfl
theorem cl31 : Callable Try.prog 31 := callable Try.func31 (by kernel_rfl) rfl
theorem cl57 : Callable Try.prog 57 := callable Try.func57 (by kernel_rfl) rfl
theorem cl58 : Callable Try.prog 58 := callable Try.func58 (by kernel_rfl) rfl
theorem cl60 : Callable Try.prog 60 := callable Try.func60 (by kernel_rfl) rfl
theorem bl85_0i1_1a6 (x0 : Int) (x1 : Value) (x2 : Value) (x3 : Value) (x4 : Value) (x5 : Value) (x6 : Value) : Program.built Try.prog 85 [(0, Value.int .i64 x0), (1, Value.agg #[x1, x2, x3, x4, x5, x6])] = some #[Value.int .i64 x0, x1, x2, x3, x4, x5, x6, Value.slice none 0 0] := by
 kernel_rfl
theorem bs85_10a8 (a0 a1 a2 a3 a4 a5 a6 a7 : Value) : Instr.fill (fun i => some (i * 8, 8)) ((Array.range (1 * 8)).map ((Value.agg #[Value.int .i64 0, Value.int .i64 0, Value.int .i64 0, Value.int .i64 0, Value.int .i64 0, Value.int .i64 0, Value.int .i64 0, Value.slice none 0 0]).cells[· % (Value.agg #[Value.int .i64 0, Value.int .i64 0, Value.int .i64 0, Value.int .i64 0, Value.int .i64 0, Value.int .i64 0, Value.int .i64 0, Value.slice none 0 0]).cells.size]!)) [(0, Value.agg #[a0, a1, a2, a3, a4, a5, a6, a7])] = some #[a0, a1, a2, a3, a4, a5, a6, a7] := by
 kernel_rfl
theorem el85 : ElemIs Try.prog 85 8 80 (Value.agg #[Value.int .i64 0, Value.int .i64 0, Value.int .i64 0, Value.int .i64 0, Value.int .i64 0, Value.int .i64 0, Value.int .i64 0, Value.slice none 0 0]) := by
 unfold ElemIs
 kernel_rfl
def RcheckIs (n : Nat) : Prop := ∀ (c : CT) (sv : Value) (d : Int) (G : Ghost) (w : World), SizeOf.sizeOf c ≤ n → 1 ≤ d → Rs G sv c.subs → Has G w → Calls Try.prog 28 #[Value.agg #[Value.int .i64 c.h.k, Value.int .i64 (vi c.h.v0), Value.int .i64 c.h.n0, Value.int .i64 (vi c.h.v1), Value.int .i64 c.h.n1, Value.int .i64 (vi c.h.v2), Value.int .i64 c.h.n2, sv], Value.int .i64 d] w (Ret fun r w' => r = Value.int .i64 (check c d) ∧ Since nX w w')
def SmallIs (n : Nat) : Prop := ∀ (c : CT) (sv : Value) (deep m x : Int) (p : Nat) (G : Ghost) (F : Nat → Prop) (w : World), SizeOf.sizeOf c ≤ n → 0 ≤ x ∧ x ≤ m ∧ m ≤ 1000 ∧ deep ≤ 5 ∧ -1 ≤ deep → Cs G sv c.subs → Has G w → (cntA 3 p x).holds w F → (∀ b, F b → G b = none) → Calls Try.prog 57 #[Value.agg #[Value.int .i64 c.h.k, Value.bool c.h.v0, Value.int .i64 c.h.n0, Value.bool c.h.v1, Value.int .i64 c.h.n1, Value.bool c.h.v2, Value.int .i64 c.h.n2, sv], Value.int .i64 deep, Value.int .i64 m, Value.pointer (some ⟨p, 0, none⟩)] w (Ret fun r w' => r = Value.bool (small m c deep x).1 ∧ Kept (cntA 3 p (small m c deep x).2) F w w')
def RefIs (n : Nat) : Prop := ∀ (c : CT) (sv : Value) (G : Ghost) (w : World), SizeOf.sizeOf c ≤ n → size c ≤ 1000 → Cs G sv c.subs → Has G w → Calls Try.prog 31 #[Value.agg #[Value.int .i64 c.h.k, Value.bool c.h.v0, Value.int .i64 c.h.n0, Value.bool c.h.v1, Value.int .i64 c.h.n1, Value.bool c.h.v2, Value.int .i64 c.h.n2, sv]] w (Ret fun r w' => ∃ G', GNew w nX G G' ∧ Has G' w' ∧ (∃ u, r = Value.agg #[Value.int .i64 c.h.k, Value.int .i64 (vi c.h.v0), Value.int .i64 c.h.n0, Value.int .i64 (vi c.h.v1), Value.int .i64 c.h.n1, Value.int .i64 (vi c.h.v2), Value.int .i64 c.h.n2, u] ∧ Rs G' u c.subs) ∧ Since nX w w')
def RsizeIs (n : Nat) : Prop := ∀ (c : CT) (sv : Value) (G : Ghost) (w : World), SizeOf.sizeOf c ≤ n → size c ≤ 1000 → Rs G sv c.subs → Has G w → Calls Try.prog 29 #[Value.agg #[Value.int .i64 c.h.k, Value.int .i64 (vi c.h.v0), Value.int .i64 c.h.n0, Value.int .i64 (vi c.h.v1), Value.int .i64 c.h.n1, Value.int .i64 (vi c.h.v2), Value.int .i64 c.h.n2, sv]] w (Ret fun r w' => r = Value.int .i64 (size c : Nat) ∧ Since nX w w')
theorem c_rright (b : Bool) (n : Int)  (w : World)  :
    Calls Try.prog 58 #[Value.agg #[Value.int .i64 (vi b), Value.int .i64 n]] w (Ret fun r w' => r = Value.bool (termRight b n) ∧ Since nX w w') := by
 refine enter (args := [_]) (X := nX) (G := (fun _ => none)) (l := [(0, Value.agg #[Value.int .i64 (vi b), Value.int .i64 n])]) Try.func58 rfl Try.ntmps58 (fun _ _ h => by cases h) ⟨rfl, trivial⟩ (Nat.le_of_ble_eq_true rfl) ?_
 refine c_seq (c_region ?_)
 refine r_box .none rfl rfl (IsRow.lit _) (fun b_1 => ?_)
 refine r_val .none rfl (p_assign rfl) (r_nil (e_next (c_seq (c_seq ?_))))
 refine c_region ?_
 refine r_val .none rfl (p_field Try.underlying82 rfl sz3 rfl) ?_
 refine r_val .none rfl (p_ld (k := 0) Try.underlying3 rfl rfl rfl (by first | exact odt rfl | omega) (rfl : _ = Value.int _ _)) ?_
 refine r_val .none rfl (p_eq rfl rfl) ?_
 refine r_nil (e_next ?_)
 refine c_splitd (d := 5) rfl (fun h_1 => ?_) (fun h_1 => ?_)
 · (
 refine c_cond_t rfl (c_seq (c_region ?_))
 refine r_val .none rfl (p_field Try.underlying82 rfl sz3 rfl) ?_
 refine r_val .none rfl (p_ld (k := 0) Try.underlying3 rfl rfl rfl (by first | exact odt rfl | omega) (rfl : _ = Value.int _ _)) ?_
 refine r_val .none rfl (p_ge rfl rfl) ?_
 refine r_val .none rfl (p_move rfl) ?_
 refine' r_and (c := 9) (d := 13) [_, _, _, _] rfl (fun h_2 Q_3 hQ_4 => ?_) (fun h_2 Q_3 hQ_4 => ?_) ?_
 rotate_left 1
 · (
 replace h_2 := of_decide_eq_true h_2
 refine r_val (.some rfl rfl) rfl (p_field Try.underlying82 rfl sz3 rfl) ?_
 refine r_val (.some rfl rfl) rfl (p_ld (k := 0) Try.underlying3 rfl rfl rfl (by first | exact odt rfl | omega) (rfl : _ = Value.int _ _)) ?_
 refine r_val (.some rfl rfl) rfl (p_le rfl rfl) ?_
 refine r_val .none rfl (p_pick_t rfl rfl) ?_
 refine r_nil (e_fin (d := 13) hQ_4 rfl (by repeat (first | exact .refl | refine .put rfl ?_ | refine .say rfl ?_ | refine .say2 rfl (by first | assumption | simp_all) ?_))))
 · (
 repeat (first | refine r_skip rfl (.no rfl rfl) ?_ | refine r_skip rfl (.un rfl rfl) ?_)
 refine r_val (by first | exact .none | exact .some rfl rfl) rfl (p_pick_f rfl rfl) ?_
 refine r_nil (e_fin (d := 13) hQ_4 rfl (by repeat (first | exact .refl | refine .put rfl ?_ | refine .say rfl ?_ | refine .say2 rfl (by first | assumption | simp_all) ?_))))
 refine r_val .none rfl (p_assign rfl) (r_nil (e_next ?_))
 refine c_ret ?_
 refine e_ret_then ?_
 refine e_ret1 Try.results58 (.tmp rfl .nil) (fun w hm => ⟨?_, hm.since⟩)
 (cases b <;> simp_all [termRight, vi] <;> try omega))
 · (
 refine c_cond_f rfl (c_skip (e_next (c_seq (c_region ?_))))
 refine r_val .none rfl (p_field Try.underlying82 rfl sz3 rfl) ?_
 refine r_val .none rfl (p_ld (k := 0) Try.underlying3 rfl rfl rfl (by first | exact odt rfl | omega) (rfl : _ = Value.int _ _)) ?_
 refine r_val .none rfl (p_ge rfl rfl) ?_
 refine r_val .none rfl (p_move rfl) ?_
 refine' r_and (c := 17) (d := 21) [_, _, _, _] rfl (fun h_6 Q_7 hQ_8 => ?_) (fun h_6 Q_7 hQ_8 => ?_) ?_
 rotate_left 1
 · (
 replace h_6 := of_decide_eq_true h_6
 refine r_val (.some rfl rfl) rfl (p_field Try.underlying82 rfl sz3 rfl) ?_
 refine r_val (.some rfl rfl) rfl (p_ld (k := 0) Try.underlying3 rfl rfl rfl (by first | exact odt rfl | omega) (rfl : _ = Value.int _ _)) ?_
 refine r_val (.some rfl rfl) rfl (p_le rfl rfl) ?_
 refine r_val .none rfl (p_pick_t rfl rfl) ?_
 refine r_nil (e_fin (d := 21) hQ_8 rfl (by repeat (first | exact .refl | refine .put rfl ?_ | refine .say rfl ?_ | refine .say2 rfl (by first | assumption | simp_all) ?_))))
 · (
 repeat (first | refine r_skip rfl (.no rfl rfl) ?_ | refine r_skip rfl (.un rfl rfl) ?_)
 refine r_val (by first | exact .none | exact .some rfl rfl) rfl (p_pick_f rfl rfl) ?_
 refine r_nil (e_fin (d := 21) hQ_8 rfl (by repeat (first | exact .refl | refine .put rfl ?_ | refine .say rfl ?_ | refine .say2 rfl (by first | assumption | simp_all) ?_))))
 refine r_val .none rfl (p_assign rfl) (r_nil (e_next ?_))
 refine c_ret ?_
 refine e_ret1 Try.results58 (.tmp rfl .nil) (fun w hm => ⟨?_, hm.since⟩)
 (cases b <;> simp_all [termRight, vi] <;> try omega))
theorem c_ref (v0 : Bool) (n0 : Int) (v1 : Bool) (n1 : Int) (v2 : Bool) (n2 : Int)  (w : World)  :
    Calls Try.prog 60 #[Value.agg #[Value.bool v0, Value.int .i64 n0, Value.bool v1, Value.int .i64 n1, Value.bool v2, Value.int .i64 n2]] w (Ret fun r w' => r = Value.agg #[Value.int .i64 (vi v0), Value.int .i64 n0, Value.int .i64 (vi v1), Value.int .i64 n1, Value.int .i64 (vi v2), Value.int .i64 n2] ∧ Since nX w w') := by
 refine enter (args := [_]) (X := nX) (G := (fun _ => none)) (l := [(0, Value.agg #[Value.bool v0, Value.int .i64 n0, Value.bool v1, Value.int .i64 n1, Value.bool v2, Value.int .i64 n2])]) Try.func60 rfl Try.ntmps60 (fun _ _ h => by cases h) ⟨rfl, trivial⟩ (Nat.le_of_ble_eq_true rfl) ?_
 refine c_seq (c_region ?_)
 refine r_box .none rfl rfl (IsRow.lit _) (fun b_1 => ?_)
 refine r_alloc .none rfl zr83 (IsRow.lit _) (fun b_2 => ?_)
 refine r_nil (e_next (c_seq (c_region ?_)))
 refine r_alloc .none rfl zr83 (IsRow.lit _) (fun b_3 => ?_)
 refine r_nil (e_next (c_seq (c_seq (c_region ?_))))
 refine r_val .none rfl (p_ldw (k := 2) Try.underlying78 rfl sz78 rfl rfl (rfl : _ = Value.agg #[_, _, _, _, _, _])) ?_
 refine r_val .none rfl (p_move rfl) (r_nil (e_next (c_block ?_)))
 refine c_unroll 4 ?_
 refine l_round (n := 3) ?_
 refine c_seq (c_region ?_)
 refine r_val .none rfl (p_lt rfl rfl) ?_
 refine r_say (d := 8) (v := Value.bool true) rfl ?_
 refine r_nil (e_next (c_seq (c_cond_t rfl (c_skip ?_))))
 refine e_next (c_seq (c_block (c_seq (c_region ?_))))
 refine r_val .none rfl (p_move rfl) ?_
 refine r_val .none rfl (p_indexa (k := 0) Try.underlying78 Try.underlying77 rfl sz77 rfl (IsRow.lit _) rfl rfl (by first | exact odt rfl | omega) (rfl : _ = Value.agg #[_, _])) ?_
 refine r_alloc .none rfl zr77 (IsRow.lit _) (fun b_4 => ?_)
 refine r_val .none rfl (p_assign rfl) ?_
 refine r_stw (k := 0) .none sz77 rfl rfl (IsRow.lit _) (one_lit rfl rfl) rfl ?_
 refine r_nil (e_next (c_seq (c_region (r_val .none rfl (p_move rfl) ?_))))
 refine r_val .none rfl (p_field Try.underlying77 rfl sz3 rfl) ?_
 refine r_val .none rfl (p_ld (k := 0) Try.underlying3 rfl rfl rfl (by first | exact odt rfl | omega) (rfl : _ = Value.int _ _)) ?_
 refine r_val .none rfl (p_iaddr (k := 0) Try.underlying83 sz82 rfl rfl (by first | exact odt rfl | omega)) ?_
 refine r_val .none rfl (p_field Try.underlying82 rfl sz3 rfl) ?_
 refine r_st (k := 1) .none sz3 rfl rfl rfl rfl (by first | exact odt rfl | omega) ?_
 refine r_nil (e_next (c_seq (c_region ?_)))
 refine r_val .none rfl (p_field Try.underlying77 rfl sz4 rfl) ?_
 refine r_val .none rfl (p_ld (k := 0) Try.underlying4 rfl rfl rfl (by first | exact odt rfl | omega) (rfl : _ = Value.bool _)) ?_
 refine r_nil (e_next ?_)
 refine c_split (d := 17) rfl (fun h_1 => ?_) (fun h_1 => ?_)
 · (
 first
 | (exfalso; omega)
 | (
 refine c_cond_t rfl (c_region (r_val .none rfl (p_move rfl) ?_))
 refine r_val .none rfl (p_iaddr (k := 0) Try.underlying83 sz82 rfl rfl (by first | exact odt rfl | omega)) ?_
 refine r_val .none rfl (p_field Try.underlying82 rfl sz3 rfl) ?_
 refine r_st (k := 1) .none sz3 rfl rfl rfl rfl (by first | exact odt rfl | omega) ?_
 refine r_nil ?_
 refine e_norm_block ?_
 refine e_next (c_region ?_)
 refine r_val .none rfl (p_add rfl rfl (by omega)) ?_
 refine r_val .none rfl (p_move rfl) (r_nil ?_)
 refine e_again ?_
 refine l_round (n := 2) ?_
 refine c_seq (c_region ?_)
 refine r_val .none rfl (p_lt rfl rfl) ?_
 refine r_say (d := 8) (v := Value.bool true) rfl ?_
 refine r_nil (e_next (c_seq (c_cond_t rfl (c_skip ?_))))
 refine e_next (c_seq (c_block (c_seq (c_region ?_))))
 refine r_val .none rfl (p_move rfl) ?_
 refine r_val .none rfl (p_indexa (k := 1) Try.underlying78 Try.underlying77 rfl sz77 rfl (IsRow.lit _) rfl rfl (by first | exact odt rfl | omega) (rfl : _ = Value.agg #[_, _])) ?_
 refine r_alloc .none rfl zr77 (IsRow.lit _) (fun b_5 => ?_)
 refine r_val .none rfl (p_assign rfl) ?_
 refine r_stw (k := 0) .none sz77 rfl rfl (IsRow.lit _) (one_lit rfl rfl) rfl ?_
 refine r_nil (e_next (c_seq (c_region (r_val .none rfl (p_move rfl) ?_))))
 refine r_val .none rfl (p_field Try.underlying77 rfl sz3 rfl) ?_
 refine r_val .none rfl (p_ld (k := 0) Try.underlying3 rfl rfl rfl (by first | exact odt rfl | omega) (rfl : _ = Value.int _ _)) ?_
 refine r_val .none rfl (p_iaddr (k := 1) Try.underlying83 sz82 rfl rfl (by first | exact odt rfl | omega)) ?_
 refine r_val .none rfl (p_field Try.underlying82 rfl sz3 rfl) ?_
 refine r_st (k := 2) .none sz3 rfl rfl rfl rfl (by first | exact odt rfl | omega) ?_
 refine r_nil (e_next (c_seq (c_region ?_)))
 refine r_val .none rfl (p_field Try.underlying77 rfl sz4 rfl) ?_
 refine r_val .none rfl (p_ld (k := 0) Try.underlying4 rfl rfl rfl (by first | exact odt rfl | omega) (rfl : _ = Value.bool _)) ?_
 refine r_nil (e_next ?_)
 refine c_split (d := 17) rfl (fun h_2 => ?_) (fun h_2 => ?_)
 · (
 first
 | (exfalso; omega)
 | (
 refine c_cond_t rfl (c_region (r_val .none rfl (p_move rfl) ?_))
 refine r_val .none rfl (p_iaddr (k := 1) Try.underlying83 sz82 rfl rfl (by first | exact odt rfl | omega)) ?_
 refine r_val .none rfl (p_field Try.underlying82 rfl sz3 rfl) ?_
 refine r_st (k := 2) .none sz3 rfl rfl rfl rfl (by first | exact odt rfl | omega) ?_
 refine r_nil ?_
 refine e_norm_block ?_
 refine e_next (c_region ?_)
 refine r_val .none rfl (p_add rfl rfl (by omega)) ?_
 refine r_val .none rfl (p_move rfl) (r_nil ?_)
 refine e_again ?_
 refine l_round (n := 1) ?_
 refine c_seq (c_region ?_)
 refine r_val .none rfl (p_lt rfl rfl) ?_
 refine r_say (d := 8) (v := Value.bool true) rfl ?_
 refine r_nil (e_next (c_seq (c_cond_t rfl (c_skip ?_))))
 refine e_next (c_seq (c_block (c_seq (c_region ?_))))
 refine r_val .none rfl (p_move rfl) ?_
 refine r_val .none rfl (p_indexa (k := 2) Try.underlying78 Try.underlying77 rfl sz77 rfl (IsRow.lit _) rfl rfl (by first | exact odt rfl | omega) (rfl : _ = Value.agg #[_, _])) ?_
 refine r_alloc .none rfl zr77 (IsRow.lit _) (fun b_6 => ?_)
 refine r_val .none rfl (p_assign rfl) ?_
 refine r_stw (k := 0) .none sz77 rfl rfl (IsRow.lit _) (one_lit rfl rfl) rfl ?_
 refine r_nil (e_next (c_seq (c_region (r_val .none rfl (p_move rfl) ?_))))
 refine r_val .none rfl (p_field Try.underlying77 rfl sz3 rfl) ?_
 refine r_val .none rfl (p_ld (k := 0) Try.underlying3 rfl rfl rfl (by first | exact odt rfl | omega) (rfl : _ = Value.int _ _)) ?_
 refine r_val .none rfl (p_iaddr (k := 2) Try.underlying83 sz82 rfl rfl (by first | exact odt rfl | omega)) ?_
 refine r_val .none rfl (p_field Try.underlying82 rfl sz3 rfl) ?_
 refine r_st (k := 3) .none sz3 rfl rfl rfl rfl (by first | exact odt rfl | omega) ?_
 refine r_nil (e_next (c_seq (c_region ?_)))
 refine r_val .none rfl (p_field Try.underlying77 rfl sz4 rfl) ?_
 refine r_val .none rfl (p_ld (k := 0) Try.underlying4 rfl rfl rfl (by first | exact odt rfl | omega) (rfl : _ = Value.bool _)) ?_
 refine r_nil (e_next ?_)
 refine c_split (d := 17) rfl (fun h_3 => ?_) (fun h_3 => ?_)
 · (
 first
 | (exfalso; omega)
 | (
 refine c_cond_t rfl (c_region (r_val .none rfl (p_move rfl) ?_))
 refine r_val .none rfl (p_iaddr (k := 2) Try.underlying83 sz82 rfl rfl (by first | exact odt rfl | omega)) ?_
 refine r_val .none rfl (p_field Try.underlying82 rfl sz3 rfl) ?_
 refine r_st (k := 3) .none sz3 rfl rfl rfl rfl (by first | exact odt rfl | omega) ?_
 refine r_nil ?_
 refine e_norm_block ?_
 refine e_next (c_region ?_)
 refine r_val .none rfl (p_add rfl rfl (by omega)) ?_
 refine r_val .none rfl (p_move rfl) (r_nil ?_)
 refine e_again ?_
 refine l_round (n := 0) ?_
 refine c_seq (c_region ?_)
 refine r_val .none rfl (p_lt rfl rfl) ?_
 refine r_say (d := 8) (v := Value.bool false) rfl ?_
 refine r_nil (e_next (c_seq (c_cond_f rfl (c_exit ?_))))
 refine e_exit_then (e_exit_then ?_)
 refine e_exit_block ?_
 refine e_next (c_seq (c_region ?_))
 refine r_val .none rfl (p_ldw (k := 3) Try.underlying83 rfl sz83 rfl rfl (rfl : _ = Value.agg #[_, _, _, _, _, _])) ?_
 refine r_stw (k := 4) .none sz83 rfl rfl (IsRow.lit _) (one_lit rfl rfl) rfl ?_
 refine r_nil (e_next ?_)
 refine c_ret ?_
 refine e_ret1 Try.results60 (.cell (k := 4) rfl Try.underlying83 rfl sz83 rfl (rfl : _ = Value.agg #[_, _, _, _, _, _]) .nil) (fun w hm => ⟨?_, hm.since⟩)
 subst_vars; rfl))
 · (
 first
 | (exfalso; omega)
 | (
 refine c_cond_f rfl (c_skip ?_)
 refine e_norm_block ?_
 refine e_next (c_region ?_)
 refine r_val .none rfl (p_add rfl rfl (by omega)) ?_
 refine r_val .none rfl (p_move rfl) (r_nil ?_)
 refine e_again ?_
 refine l_round (n := 0) ?_
 refine c_seq (c_region ?_)
 refine r_val .none rfl (p_lt rfl rfl) ?_
 refine r_say (d := 8) (v := Value.bool false) rfl ?_
 refine r_nil (e_next (c_seq (c_cond_f rfl (c_exit ?_))))
 refine e_exit_then (e_exit_then ?_)
 refine e_exit_block ?_
 refine e_next (c_seq (c_region ?_))
 refine r_val .none rfl (p_ldw (k := 3) Try.underlying83 rfl sz83 rfl rfl (rfl : _ = Value.agg #[_, _, _, _, _, _])) ?_
 refine r_stw (k := 4) .none sz83 rfl rfl (IsRow.lit _) (one_lit rfl rfl) rfl ?_
 refine r_nil (e_next ?_)
 refine c_ret ?_
 refine e_ret1 Try.results60 (.cell (k := 4) rfl Try.underlying83 rfl sz83 rfl (rfl : _ = Value.agg #[_, _, _, _, _, _]) .nil) (fun w hm => ⟨?_, hm.since⟩)
 subst_vars; rfl))))
 · (
 first
 | (exfalso; omega)
 | (
 refine c_cond_f rfl (c_skip ?_)
 refine e_norm_block ?_
 refine e_next (c_region ?_)
 refine r_val .none rfl (p_add rfl rfl (by omega)) ?_
 refine r_val .none rfl (p_move rfl) (r_nil ?_)
 refine e_again ?_
 refine l_round (n := 1) ?_
 refine c_seq (c_region ?_)
 refine r_val .none rfl (p_lt rfl rfl) ?_
 refine r_say (d := 8) (v := Value.bool true) rfl ?_
 refine r_nil (e_next (c_seq (c_cond_t rfl (c_skip ?_))))
 refine e_next (c_seq (c_block (c_seq (c_region ?_))))
 refine r_val .none rfl (p_move rfl) ?_
 refine r_val .none rfl (p_indexa (k := 2) Try.underlying78 Try.underlying77 rfl sz77 rfl (IsRow.lit _) rfl rfl (by first | exact odt rfl | omega) (rfl : _ = Value.agg #[_, _])) ?_
 refine r_alloc .none rfl zr77 (IsRow.lit _) (fun b_7 => ?_)
 refine r_val .none rfl (p_assign rfl) ?_
 refine r_stw (k := 0) .none sz77 rfl rfl (IsRow.lit _) (one_lit rfl rfl) rfl ?_
 refine r_nil (e_next (c_seq (c_region (r_val .none rfl (p_move rfl) ?_))))
 refine r_val .none rfl (p_field Try.underlying77 rfl sz3 rfl) ?_
 refine r_val .none rfl (p_ld (k := 0) Try.underlying3 rfl rfl rfl (by first | exact odt rfl | omega) (rfl : _ = Value.int _ _)) ?_
 refine r_val .none rfl (p_iaddr (k := 2) Try.underlying83 sz82 rfl rfl (by first | exact odt rfl | omega)) ?_
 refine r_val .none rfl (p_field Try.underlying82 rfl sz3 rfl) ?_
 refine r_st (k := 3) .none sz3 rfl rfl rfl rfl (by first | exact odt rfl | omega) ?_
 refine r_nil (e_next (c_seq (c_region ?_)))
 refine r_val .none rfl (p_field Try.underlying77 rfl sz4 rfl) ?_
 refine r_val .none rfl (p_ld (k := 0) Try.underlying4 rfl rfl rfl (by first | exact odt rfl | omega) (rfl : _ = Value.bool _)) ?_
 refine r_nil (e_next ?_)
 refine c_split (d := 17) rfl (fun h_4 => ?_) (fun h_4 => ?_)
 · (
 first
 | (exfalso; omega)
 | (
 refine c_cond_t rfl (c_region (r_val .none rfl (p_move rfl) ?_))
 refine r_val .none rfl (p_iaddr (k := 2) Try.underlying83 sz82 rfl rfl (by first | exact odt rfl | omega)) ?_
 refine r_val .none rfl (p_field Try.underlying82 rfl sz3 rfl) ?_
 refine r_st (k := 3) .none sz3 rfl rfl rfl rfl (by first | exact odt rfl | omega) ?_
 refine r_nil ?_
 refine e_norm_block ?_
 refine e_next (c_region ?_)
 refine r_val .none rfl (p_add rfl rfl (by omega)) ?_
 refine r_val .none rfl (p_move rfl) (r_nil ?_)
 refine e_again ?_
 refine l_round (n := 0) ?_
 refine c_seq (c_region ?_)
 refine r_val .none rfl (p_lt rfl rfl) ?_
 refine r_say (d := 8) (v := Value.bool false) rfl ?_
 refine r_nil (e_next (c_seq (c_cond_f rfl (c_exit ?_))))
 refine e_exit_then (e_exit_then ?_)
 refine e_exit_block ?_
 refine e_next (c_seq (c_region ?_))
 refine r_val .none rfl (p_ldw (k := 3) Try.underlying83 rfl sz83 rfl rfl (rfl : _ = Value.agg #[_, _, _, _, _, _])) ?_
 refine r_stw (k := 4) .none sz83 rfl rfl (IsRow.lit _) (one_lit rfl rfl) rfl ?_
 refine r_nil (e_next ?_)
 refine c_ret ?_
 refine e_ret1 Try.results60 (.cell (k := 4) rfl Try.underlying83 rfl sz83 rfl (rfl : _ = Value.agg #[_, _, _, _, _, _]) .nil) (fun w hm => ⟨?_, hm.since⟩)
 subst_vars; rfl))
 · (
 first
 | (exfalso; omega)
 | (
 refine c_cond_f rfl (c_skip ?_)
 refine e_norm_block ?_
 refine e_next (c_region ?_)
 refine r_val .none rfl (p_add rfl rfl (by omega)) ?_
 refine r_val .none rfl (p_move rfl) (r_nil ?_)
 refine e_again ?_
 refine l_round (n := 0) ?_
 refine c_seq (c_region ?_)
 refine r_val .none rfl (p_lt rfl rfl) ?_
 refine r_say (d := 8) (v := Value.bool false) rfl ?_
 refine r_nil (e_next (c_seq (c_cond_f rfl (c_exit ?_))))
 refine e_exit_then (e_exit_then ?_)
 refine e_exit_block ?_
 refine e_next (c_seq (c_region ?_))
 refine r_val .none rfl (p_ldw (k := 3) Try.underlying83 rfl sz83 rfl rfl (rfl : _ = Value.agg #[_, _, _, _, _, _])) ?_
 refine r_stw (k := 4) .none sz83 rfl rfl (IsRow.lit _) (one_lit rfl rfl) rfl ?_
 refine r_nil (e_next ?_)
 refine c_ret ?_
 refine e_ret1 Try.results60 (.cell (k := 4) rfl Try.underlying83 rfl sz83 rfl (rfl : _ = Value.agg #[_, _, _, _, _, _]) .nil) (fun w hm => ⟨?_, hm.since⟩)
 subst_vars; rfl))))))
 · (
 first
 | (exfalso; omega)
 | (
 refine c_cond_f rfl (c_skip ?_)
 refine e_norm_block ?_
 refine e_next (c_region ?_)
 refine r_val .none rfl (p_add rfl rfl (by omega)) ?_
 refine r_val .none rfl (p_move rfl) (r_nil ?_)
 refine e_again ?_
 refine l_round (n := 2) ?_
 refine c_seq (c_region ?_)
 refine r_val .none rfl (p_lt rfl rfl) ?_
 refine r_say (d := 8) (v := Value.bool true) rfl ?_
 refine r_nil (e_next (c_seq (c_cond_t rfl (c_skip ?_))))
 refine e_next (c_seq (c_block (c_seq (c_region ?_))))
 refine r_val .none rfl (p_move rfl) ?_
 refine r_val .none rfl (p_indexa (k := 1) Try.underlying78 Try.underlying77 rfl sz77 rfl (IsRow.lit _) rfl rfl (by first | exact odt rfl | omega) (rfl : _ = Value.agg #[_, _])) ?_
 refine r_alloc .none rfl zr77 (IsRow.lit _) (fun b_8 => ?_)
 refine r_val .none rfl (p_assign rfl) ?_
 refine r_stw (k := 0) .none sz77 rfl rfl (IsRow.lit _) (one_lit rfl rfl) rfl ?_
 refine r_nil (e_next (c_seq (c_region (r_val .none rfl (p_move rfl) ?_))))
 refine r_val .none rfl (p_field Try.underlying77 rfl sz3 rfl) ?_
 refine r_val .none rfl (p_ld (k := 0) Try.underlying3 rfl rfl rfl (by first | exact odt rfl | omega) (rfl : _ = Value.int _ _)) ?_
 refine r_val .none rfl (p_iaddr (k := 1) Try.underlying83 sz82 rfl rfl (by first | exact odt rfl | omega)) ?_
 refine r_val .none rfl (p_field Try.underlying82 rfl sz3 rfl) ?_
 refine r_st (k := 2) .none sz3 rfl rfl rfl rfl (by first | exact odt rfl | omega) ?_
 refine r_nil (e_next (c_seq (c_region ?_)))
 refine r_val .none rfl (p_field Try.underlying77 rfl sz4 rfl) ?_
 refine r_val .none rfl (p_ld (k := 0) Try.underlying4 rfl rfl rfl (by first | exact odt rfl | omega) (rfl : _ = Value.bool _)) ?_
 refine r_nil (e_next ?_)
 refine c_split (d := 17) rfl (fun h_5 => ?_) (fun h_5 => ?_)
 · (
 first
 | (exfalso; omega)
 | (
 refine c_cond_t rfl (c_region (r_val .none rfl (p_move rfl) ?_))
 refine r_val .none rfl (p_iaddr (k := 1) Try.underlying83 sz82 rfl rfl (by first | exact odt rfl | omega)) ?_
 refine r_val .none rfl (p_field Try.underlying82 rfl sz3 rfl) ?_
 refine r_st (k := 2) .none sz3 rfl rfl rfl rfl (by first | exact odt rfl | omega) ?_
 refine r_nil ?_
 refine e_norm_block ?_
 refine e_next (c_region ?_)
 refine r_val .none rfl (p_add rfl rfl (by omega)) ?_
 refine r_val .none rfl (p_move rfl) (r_nil ?_)
 refine e_again ?_
 refine l_round (n := 1) ?_
 refine c_seq (c_region ?_)
 refine r_val .none rfl (p_lt rfl rfl) ?_
 refine r_say (d := 8) (v := Value.bool true) rfl ?_
 refine r_nil (e_next (c_seq (c_cond_t rfl (c_skip ?_))))
 refine e_next (c_seq (c_block (c_seq (c_region ?_))))
 refine r_val .none rfl (p_move rfl) ?_
 refine r_val .none rfl (p_indexa (k := 2) Try.underlying78 Try.underlying77 rfl sz77 rfl (IsRow.lit _) rfl rfl (by first | exact odt rfl | omega) (rfl : _ = Value.agg #[_, _])) ?_
 refine r_alloc .none rfl zr77 (IsRow.lit _) (fun b_9 => ?_)
 refine r_val .none rfl (p_assign rfl) ?_
 refine r_stw (k := 0) .none sz77 rfl rfl (IsRow.lit _) (one_lit rfl rfl) rfl ?_
 refine r_nil (e_next (c_seq (c_region (r_val .none rfl (p_move rfl) ?_))))
 refine r_val .none rfl (p_field Try.underlying77 rfl sz3 rfl) ?_
 refine r_val .none rfl (p_ld (k := 0) Try.underlying3 rfl rfl rfl (by first | exact odt rfl | omega) (rfl : _ = Value.int _ _)) ?_
 refine r_val .none rfl (p_iaddr (k := 2) Try.underlying83 sz82 rfl rfl (by first | exact odt rfl | omega)) ?_
 refine r_val .none rfl (p_field Try.underlying82 rfl sz3 rfl) ?_
 refine r_st (k := 3) .none sz3 rfl rfl rfl rfl (by first | exact odt rfl | omega) ?_
 refine r_nil (e_next (c_seq (c_region ?_)))
 refine r_val .none rfl (p_field Try.underlying77 rfl sz4 rfl) ?_
 refine r_val .none rfl (p_ld (k := 0) Try.underlying4 rfl rfl rfl (by first | exact odt rfl | omega) (rfl : _ = Value.bool _)) ?_
 refine r_nil (e_next ?_)
 refine c_split (d := 17) rfl (fun h_6 => ?_) (fun h_6 => ?_)
 · (
 first
 | (exfalso; omega)
 | (
 refine c_cond_t rfl (c_region (r_val .none rfl (p_move rfl) ?_))
 refine r_val .none rfl (p_iaddr (k := 2) Try.underlying83 sz82 rfl rfl (by first | exact odt rfl | omega)) ?_
 refine r_val .none rfl (p_field Try.underlying82 rfl sz3 rfl) ?_
 refine r_st (k := 3) .none sz3 rfl rfl rfl rfl (by first | exact odt rfl | omega) ?_
 refine r_nil ?_
 refine e_norm_block ?_
 refine e_next (c_region ?_)
 refine r_val .none rfl (p_add rfl rfl (by omega)) ?_
 refine r_val .none rfl (p_move rfl) (r_nil ?_)
 refine e_again ?_
 refine l_round (n := 0) ?_
 refine c_seq (c_region ?_)
 refine r_val .none rfl (p_lt rfl rfl) ?_
 refine r_say (d := 8) (v := Value.bool false) rfl ?_
 refine r_nil (e_next (c_seq (c_cond_f rfl (c_exit ?_))))
 refine e_exit_then (e_exit_then ?_)
 refine e_exit_block ?_
 refine e_next (c_seq (c_region ?_))
 refine r_val .none rfl (p_ldw (k := 3) Try.underlying83 rfl sz83 rfl rfl (rfl : _ = Value.agg #[_, _, _, _, _, _])) ?_
 refine r_stw (k := 4) .none sz83 rfl rfl (IsRow.lit _) (one_lit rfl rfl) rfl ?_
 refine r_nil (e_next ?_)
 refine c_ret ?_
 refine e_ret1 Try.results60 (.cell (k := 4) rfl Try.underlying83 rfl sz83 rfl (rfl : _ = Value.agg #[_, _, _, _, _, _]) .nil) (fun w hm => ⟨?_, hm.since⟩)
 subst_vars; rfl))
 · (
 first
 | (exfalso; omega)
 | (
 refine c_cond_f rfl (c_skip ?_)
 refine e_norm_block ?_
 refine e_next (c_region ?_)
 refine r_val .none rfl (p_add rfl rfl (by omega)) ?_
 refine r_val .none rfl (p_move rfl) (r_nil ?_)
 refine e_again ?_
 refine l_round (n := 0) ?_
 refine c_seq (c_region ?_)
 refine r_val .none rfl (p_lt rfl rfl) ?_
 refine r_say (d := 8) (v := Value.bool false) rfl ?_
 refine r_nil (e_next (c_seq (c_cond_f rfl (c_exit ?_))))
 refine e_exit_then (e_exit_then ?_)
 refine e_exit_block ?_
 refine e_next (c_seq (c_region ?_))
 refine r_val .none rfl (p_ldw (k := 3) Try.underlying83 rfl sz83 rfl rfl (rfl : _ = Value.agg #[_, _, _, _, _, _])) ?_
 refine r_stw (k := 4) .none sz83 rfl rfl (IsRow.lit _) (one_lit rfl rfl) rfl ?_
 refine r_nil (e_next ?_)
 refine c_ret ?_
 refine e_ret1 Try.results60 (.cell (k := 4) rfl Try.underlying83 rfl sz83 rfl (rfl : _ = Value.agg #[_, _, _, _, _, _]) .nil) (fun w hm => ⟨?_, hm.since⟩)
 subst_vars; rfl))))
 · (
 first
 | (exfalso; omega)
 | (
 refine c_cond_f rfl (c_skip ?_)
 refine e_norm_block ?_
 refine e_next (c_region ?_)
 refine r_val .none rfl (p_add rfl rfl (by omega)) ?_
 refine r_val .none rfl (p_move rfl) (r_nil ?_)
 refine e_again ?_
 refine l_round (n := 1) ?_
 refine c_seq (c_region ?_)
 refine r_val .none rfl (p_lt rfl rfl) ?_
 refine r_say (d := 8) (v := Value.bool true) rfl ?_
 refine r_nil (e_next (c_seq (c_cond_t rfl (c_skip ?_))))
 refine e_next (c_seq (c_block (c_seq (c_region ?_))))
 refine r_val .none rfl (p_move rfl) ?_
 refine r_val .none rfl (p_indexa (k := 2) Try.underlying78 Try.underlying77 rfl sz77 rfl (IsRow.lit _) rfl rfl (by first | exact odt rfl | omega) (rfl : _ = Value.agg #[_, _])) ?_
 refine r_alloc .none rfl zr77 (IsRow.lit _) (fun b_10 => ?_)
 refine r_val .none rfl (p_assign rfl) ?_
 refine r_stw (k := 0) .none sz77 rfl rfl (IsRow.lit _) (one_lit rfl rfl) rfl ?_
 refine r_nil (e_next (c_seq (c_region (r_val .none rfl (p_move rfl) ?_))))
 refine r_val .none rfl (p_field Try.underlying77 rfl sz3 rfl) ?_
 refine r_val .none rfl (p_ld (k := 0) Try.underlying3 rfl rfl rfl (by first | exact odt rfl | omega) (rfl : _ = Value.int _ _)) ?_
 refine r_val .none rfl (p_iaddr (k := 2) Try.underlying83 sz82 rfl rfl (by first | exact odt rfl | omega)) ?_
 refine r_val .none rfl (p_field Try.underlying82 rfl sz3 rfl) ?_
 refine r_st (k := 3) .none sz3 rfl rfl rfl rfl (by first | exact odt rfl | omega) ?_
 refine r_nil (e_next (c_seq (c_region ?_)))
 refine r_val .none rfl (p_field Try.underlying77 rfl sz4 rfl) ?_
 refine r_val .none rfl (p_ld (k := 0) Try.underlying4 rfl rfl rfl (by first | exact odt rfl | omega) (rfl : _ = Value.bool _)) ?_
 refine r_nil (e_next ?_)
 refine c_split (d := 17) rfl (fun h_7 => ?_) (fun h_7 => ?_)
 · (
 first
 | (exfalso; omega)
 | (
 refine c_cond_t rfl (c_region (r_val .none rfl (p_move rfl) ?_))
 refine r_val .none rfl (p_iaddr (k := 2) Try.underlying83 sz82 rfl rfl (by first | exact odt rfl | omega)) ?_
 refine r_val .none rfl (p_field Try.underlying82 rfl sz3 rfl) ?_
 refine r_st (k := 3) .none sz3 rfl rfl rfl rfl (by first | exact odt rfl | omega) ?_
 refine r_nil ?_
 refine e_norm_block ?_
 refine e_next (c_region ?_)
 refine r_val .none rfl (p_add rfl rfl (by omega)) ?_
 refine r_val .none rfl (p_move rfl) (r_nil ?_)
 refine e_again ?_
 refine l_round (n := 0) ?_
 refine c_seq (c_region ?_)
 refine r_val .none rfl (p_lt rfl rfl) ?_
 refine r_say (d := 8) (v := Value.bool false) rfl ?_
 refine r_nil (e_next (c_seq (c_cond_f rfl (c_exit ?_))))
 refine e_exit_then (e_exit_then ?_)
 refine e_exit_block ?_
 refine e_next (c_seq (c_region ?_))
 refine r_val .none rfl (p_ldw (k := 3) Try.underlying83 rfl sz83 rfl rfl (rfl : _ = Value.agg #[_, _, _, _, _, _])) ?_
 refine r_stw (k := 4) .none sz83 rfl rfl (IsRow.lit _) (one_lit rfl rfl) rfl ?_
 refine r_nil (e_next ?_)
 refine c_ret ?_
 refine e_ret1 Try.results60 (.cell (k := 4) rfl Try.underlying83 rfl sz83 rfl (rfl : _ = Value.agg #[_, _, _, _, _, _]) .nil) (fun w hm => ⟨?_, hm.since⟩)
 subst_vars; rfl))
 · (
 first
 | (exfalso; omega)
 | (
 refine c_cond_f rfl (c_skip ?_)
 refine e_norm_block ?_
 refine e_next (c_region ?_)
 refine r_val .none rfl (p_add rfl rfl (by omega)) ?_
 refine r_val .none rfl (p_move rfl) (r_nil ?_)
 refine e_again ?_
 refine l_round (n := 0) ?_
 refine c_seq (c_region ?_)
 refine r_val .none rfl (p_lt rfl rfl) ?_
 refine r_say (d := 8) (v := Value.bool false) rfl ?_
 refine r_nil (e_next (c_seq (c_cond_f rfl (c_exit ?_))))
 refine e_exit_then (e_exit_then ?_)
 refine e_exit_block ?_
 refine e_next (c_seq (c_region ?_))
 refine r_val .none rfl (p_ldw (k := 3) Try.underlying83 rfl sz83 rfl rfl (rfl : _ = Value.agg #[_, _, _, _, _, _])) ?_
 refine r_stw (k := 4) .none sz83 rfl rfl (IsRow.lit _) (one_lit rfl rfl) rfl ?_
 refine r_nil (e_next ?_)
 refine c_ret ?_
 refine e_ret1 Try.results60 (.cell (k := 4) rfl Try.underlying83 rfl sz83 rfl (rfl : _ = Value.agg #[_, _, _, _, _, _]) .nil) (fun w hm => ⟨?_, hm.since⟩)
 subst_vars; rfl))))))
theorem c_small_s (n : Nat) (ih : SmallIs n) (c : CT) (sv : Value) (deep m x : Int) (p : Nat) {F : Nat → Prop} {G : Ghost} (hz : SizeOf.sizeOf c ≤ n + 1) (hb : 0 ≤ x ∧ x ≤ m ∧ m ≤ 1000 ∧ deep ≤ 5 ∧ -1 ≤ deep) (hs : Cs G sv c.subs) (w : World) (hG : Has G w) (hA : (cntA 3 p x).holds w F) (hFG : ∀ b, F b → G b = none) :
    Calls Try.prog 57 #[Value.agg #[Value.int .i64 c.h.k, Value.bool c.h.v0, Value.int .i64 c.h.n0, Value.bool c.h.v1, Value.int .i64 c.h.n1, Value.bool c.h.v2, Value.int .i64 c.h.n2, sv], Value.int .i64 deep, Value.int .i64 m, Value.pointer (some ⟨p, 0, none⟩)] w (Ret fun r w' => r = Value.bool (small m c deep x).1 ∧ Kept (cntA 3 p (small m c deep x).2) F w w') := by
 refine enterO (args := [_, _, _, _]) (G := G) (A := cntA 3 p x) (l := [(0, Value.agg #[Value.int .i64 c.h.k, Value.bool c.h.v0, Value.int .i64 c.h.n0, Value.bool c.h.v1, Value.int .i64 c.h.n1, Value.bool c.h.v2, Value.int .i64 c.h.n2, sv]), (1, Value.int .i64 deep), (2, Value.int .i64 m), (3, Value.pointer (some ⟨p, 0, none⟩))]) Try.func57 rfl Try.ntmps57 hG hA hFG ⟨rfl, rfl, rfl, rfl, trivial⟩ (Nat.le_of_ble_eq_true rfl) ?_
 obtain ⟨rs, hr, hp, hl⟩ := hs.inv
 have hlen : c.subs.length = rs.length := by rw [hl]; simp
 have hbd := hr.bound
 refine c_seq (c_region ?_)
 refine r_box .none rfl rfl (IsRow.lit _) (fun b_1 => ?_)
 refine r_val .none rfl (p_assign rfl) (r_nil (e_next (c_seq (c_seq ?_))))
 refine c_region (r_val .none rfl (p_move rfl) ?_)
 refine r_val .none rfl (p_nilcheck rfl) ?_
 refine r_val .none rfl (p_ld (k := 1) Try.underlying3 rfl rfl rfl (by first | exact odt rfl | omega) (rfl : _ = Value.int _ _)) ?_
 refine r_val .none rfl (p_add rfl rfl (by omega)) ?_
 refine r_val .none rfl (p_nilcheck rfl) ?_
 refine r_st (k := 1) .none sz3 rfl rfl rfl rfl (by first | exact odt rfl | omega) ?_
 refine r_nil (e_next (c_seq (c_region (r_val .none rfl (p_move rfl) ?_))))
 refine r_val .none rfl (p_nilcheck rfl) ?_
 refine r_val .none rfl (p_ld (k := 1) Try.underlying3 rfl rfl rfl (by first | exact odt rfl | omega) (rfl : _ = Value.int _ _)) ?_
 refine r_val .none rfl (p_move rfl) ?_
 refine r_val .none rfl (p_gt rfl rfl) ?_
 refine r_val .none rfl (p_move rfl) ?_
 refine' r_or (c := 21) (d := 24) [_, _, _] rfl (fun h_1 Q_2 hQ_3 => ?_) (fun h_1 Q_2 hQ_3 => ?_) ?_
 rotate_left 1
 · (
 replace h_1 := of_decide_eq_false h_1
 refine r_val (.some rfl rfl) rfl (p_move rfl) ?_
 refine r_val (.some rfl rfl) rfl (p_lt rfl rfl) ?_
 refine r_val .none rfl (p_pick_f rfl rfl) ?_
 refine r_nil (e_fin (d := 24) hQ_3 rfl (by repeat (first | exact .refl | refine .put rfl ?_ | refine .say rfl ?_ | refine .say2 rfl (by first | assumption | simp_all) ?_))))
 · (
 repeat (first | refine r_skip rfl (.no rfl rfl) ?_ | refine r_skip rfl (.un rfl rfl) ?_)
 refine r_val (by first | exact .none | exact .some rfl rfl) rfl (p_pick_t rfl rfl) ?_
 refine r_nil (e_fin (d := 24) hQ_3 rfl (by repeat (first | exact .refl | refine .put rfl ?_ | refine .say rfl ?_ | refine .say2 rfl (by first | assumption | simp_all) ?_))))
 refine r_nil (e_next ?_)
 refine c_split (d := 24) rfl (fun h_5 => ?_) (fun h_5 => ?_)
 · (
 try simp only [norms] at h_5
 first
 | (exfalso; omega)
 | (
 refine c_cond_t rfl (c_seq (c_region (r_val .none rfl (p_assign rfl) (r_nil ?_))))
 refine e_next ?_
 refine c_ret ?_
 refine e_ret_then ?_
 refine e_ret1 Try.results57 (.tmp rfl .nil) (fun w hm => ?_)
 first
 | (have he : small m c deep x = (false, x + 1) := (by rw [small_eq, if_pos (by omega)]); have he2 := congrArg Prod.snd he; refine ⟨?_, hm.kept [cntA 3 p ((small m c deep x).2)] (.drop (.keep (fun _ _ h => by first | exact h | (have e : (small m c deep x).2 = _ := he2; rw [e]; exact box_congr (fun i hi => by match i, hi with | 0, _ => rfl) _ _ h)) (.nil))) (cntA 3 p ((small m c deep x).2)) (fun F' h => starL_one h)⟩; rw [he]; done)
 | (have he : small m c deep x = (false, (small m (rs.getD k d0).1 (deep - 1) t).2) := (by rw [small_eq, if_neg (by omega), ← hs3, map_drop (i := k) (d := d0) (by omega), smallL_no hE]); have he2 := congrArg Prod.snd he; refine ⟨?_, hm.kept [cntA 3 p ((small m c deep x).2)] (.drop (.keep (fun _ _ h => by first | exact h | (have e : (small m c deep x).2 = _ := he2; rw [e]; exact box_congr (fun i hi => by match i, hi with | 0, _ => rfl) _ _ h)) (.nil))) (cntA 3 p ((small m c deep x).2)) (fun F' h => starL_one h)⟩; rw [he]; done)
 | (have he : small m c deep x = (true, t) := (by rw [small_eq, if_neg (by omega), ← hs3, List.drop_eq_nil_of_le (by simp; omega), smallL]); have he2 := congrArg Prod.snd he; refine ⟨?_, hm.kept [cntA 3 p ((small m c deep x).2)] (.drop (.keep (fun _ _ h => by first | exact h | (have e : (small m c deep x).2 = _ := he2; rw [e]; exact box_congr (fun i hi => by match i, hi with | 0, _ => rfl) _ _ h)) (.nil))) (cntA 3 p ((small m c deep x).2)) (fun F' h => starL_one h)⟩; rw [he]; done)))
 · (
 try simp only [norms] at h_5
 first
 | (exfalso; omega)
 | (
 refine c_cond_f rfl (c_skip (e_next (c_seq (c_seq ?_))))
 refine c_region ?_
 refine r_val .none rfl (p_field Try.underlying80 rfl sz27 rfl) ?_
 refine r_val .none rfl (p_ld (k := 0) Try.underlying27 rfl rfl rfl (by first | exact odt rfl | omega) rfl) ?_
 refine r_val .none rfl (p_leng Try.underlying27 rfl hr) ?_
 have bd_6 := (hr).bound
 refine r_val .none rfl (p_move rfl) (r_nil (e_next (c_block ?_)))
 refine c_name (d := 1) rfl (fun u_7 hu_7 => ?_)
 refine c_name (d := 2) rfl (fun u_8 hu_8 => ?_)
 refine c_name (d := 3) rfl (fun u_9 hu_9 => ?_)
 refine c_name (d := 26) rfl (fun u_10 hu_10 => ?_)
 refine c_name (d := 27) rfl (fun u_11 hu_11 => ?_)
 refine c_nameL (k := 0) rfl (fun A_12 hA_12 => ?_)
 refine c_loop (σ := Nat × Int) (fun s => [(28, Value.int .i64 (s.1 : Nat)), (1, u_7), (2, u_8), (3, u_9), (26, u_10), (27, u_11)]) (fun s => [A_12, box p 1 3 (at_ [.int .i64 s.2])]) (fun _ => _) (fun s => s.1 ≤ rs.length ∧ (0 ≤ s.2 ∧ s.2 ≤ m) ∧ smallL m ((rs.map Prod.fst).drop s.1) (deep - 1) s.2 = smallL m c.subs (deep - 1) (x + 1)) (fun s => rs.length - s.1) ((0, x + 1)) ⟨Nat.zero_le _, by dsimp only; omega, by rw [hl]; rfl⟩ rfl ⟨rfl, rfl, rfl, rfl, rfl, rfl, trivial⟩ (.keep (fun _ _ h => h) (.keep (fun _ _ h => box_congr (fun i hi => by match i, hi with | 0, _ => rfl) _ _ h) (.nil))) (fun s hphi => ?_)
 subst hu_7
 subst hu_8
 subst hu_9
 subst hu_10
 subst hu_11
 subst hA_12
 obtain ⟨k, t⟩ := s
 obtain ⟨hk, ht, hs3⟩ := hphi
 dsimp only at hk ht hs3 ⊢
 refine c_seq (c_region ?_)
 refine r_val .none rfl (p_lt rfl rfl) ?_
 refine r_nil (e_next (c_seq ?_))
 refine c_splitd (d := 29) rfl (fun h_13 => ?_) (fun h_13 => ?_)
 · (
 first
 | (exfalso; omega)
 | (
 refine c_cond_t rfl (c_skip (e_next (c_seq (c_block ?_))))
 refine c_seq (c_region ?_)
 refine r_iaddr_g .none rfl Try.underlying27 sz80 rfl hr rfl (by first | exact odt rfl | omega) (fun p_15 o_16 R_14 => ?_)
 have hc_17 := hp _ (getD_mem (i := k) (d := d0) (by omega))
 refine r_val .none rfl (p_ldga0 Try.underlying80 rfl sz80 rfl R_14 (by first | exact odt rfl | omega) (rfl : _ = Value.agg #[_, _, _, _, _, _, _, _])) ?_
 refine r_alloc .none rfl zr80 (IsRow.lit _) (fun b_2 => ?_)
 refine r_stw (k := 0) .none sz80 rfl rfl (IsRow.lit _) (one_lit rfl (all_cons rfl (all_cons rfl (all_cons rfl (all_cons rfl (all_cons rfl (all_cons rfl (all_cons rfl (all_cons (hc_17).one rfl))))))))) rfl ?_
 refine r_nil (e_next (c_seq (c_region ?_)))
 refine r_val .none rfl (p_ldw (k := 0) Try.underlying80 rfl sz80 rfl rfl (rfl : _ = Value.agg #[_, _, _, _, _, _, _, _])) ?_
 refine r_val .none rfl (p_move rfl) ?_
 refine r_val .none rfl (p_sub rfl rfl (by omega)) ?_
 refine r_val .none rfl (p_move rfl) (r_val .none rfl (p_move rfl) ?_)
 refine r_callo (k := 2) (vs := [_, _, _, _]) .none rfl cl57 rfl rfl (fun w F hw hA hFG => ih (rs.getD k d0).1 _ _ _ _ _ _ _ w (size_at hl (by omega) hz) (by omega) hc_17 hw hA hFG) ?_
 refine r_val .none rfl (p_not rfl) ?_
 refine r_nil (e_next ?_)
 refine c_splitn (d := 38) rfl (fun h_18 => ?_) (fun h_18 => ?_)
 · (
 have hE := h_18
 first
 | (exfalso; omega)
 | (
 refine c_cond_t rfl (c_seq (c_region (r_val .none rfl (p_assign rfl) (r_nil ?_))))
 refine e_next ?_
 refine c_ret ?_
 refine e_ret_block ?_
 refine e_ret_then ?_
 refine e_ret_then ?_
 refine e_ret_block ?_
 refine e_ret_then ?_
 refine e_ret1 Try.results57 (.tmp rfl .nil) (fun w hm => ?_)
 first
 | (have he : small m c deep x = (false, x + 1) := (by rw [small_eq, if_pos (by omega)]); have he2 := congrArg Prod.snd he; refine ⟨?_, hm.kept [cntA 3 p ((small m c deep x).2)] (.drop (.drop (.keep (fun _ _ h => by first | exact h | (have e : (small m c deep x).2 = _ := he2; rw [e]; exact box_congr (fun i hi => by match i, hi with | 0, _ => rfl) _ _ h)) (.nil)))) (cntA 3 p ((small m c deep x).2)) (fun F' h => starL_one h)⟩; rw [he]; done)
 | (have he : small m c deep x = (false, (small m (rs.getD k d0).1 (deep - 1) t).2) := (by rw [small_eq, if_neg (by omega), ← hs3, map_drop (i := k) (d := d0) (by omega), smallL_no hE]); have he2 := congrArg Prod.snd he; refine ⟨?_, hm.kept [cntA 3 p ((small m c deep x).2)] (.drop (.drop (.keep (fun _ _ h => by first | exact h | (have e : (small m c deep x).2 = _ := he2; rw [e]; exact box_congr (fun i hi => by match i, hi with | 0, _ => rfl) _ _ h)) (.nil)))) (cntA 3 p ((small m c deep x).2)) (fun F' h => starL_one h)⟩; rw [he]; done)
 | (have he : small m c deep x = (true, t) := (by rw [small_eq, if_neg (by omega), ← hs3, List.drop_eq_nil_of_le (by simp; omega), smallL]); have he2 := congrArg Prod.snd he; refine ⟨?_, hm.kept [cntA 3 p ((small m c deep x).2)] (.drop (.drop (.keep (fun _ _ h => by first | exact h | (have e : (small m c deep x).2 = _ := he2; rw [e]; exact box_congr (fun i hi => by match i, hi with | 0, _ => rfl) _ _ h)) (.nil)))) (cntA 3 p ((small m c deep x).2)) (fun F' h => starL_one h)⟩; rw [he]; done)))
 · (
 have hE := h_18
 first
 | (exfalso; omega)
 | (
 refine c_cond_f rfl (c_skip ?_)
 refine e_norm_block ?_
 refine e_next (c_region ?_)
 refine r_val .none rfl (p_add rfl rfl (by omega)) ?_
 refine r_val .none rfl (p_move rfl) (r_nil ?_)
 refine e_round ((k + 1, (small m (rs.getD k d0).1 (deep - 1) t).2)) ⟨⟨by dsimp only; omega, by have := small_lt m (rs.getD k d0).1 (deep - 1) t ht.1 ht.2; exact ⟨by dsimp only; omega, this.2.2 hE⟩, by rw [← hs3, map_drop (i := k) (d := d0) (by omega), smallL_yes hE]⟩, by dsimp only; omega⟩ rfl ⟨rfl, rfl, rfl, rfl, rfl, rfl, trivial⟩ (.drop (.keep (fun _ _ h => h) (.keep (fun _ _ h => h) (.nil))))))))
 · (
 first
 | (exfalso; omega)
 | (
 refine c_cond_f rfl (c_exit (e_exit_then (e_exit_then ?_)))
 refine e_exit_block ?_
 refine e_next (c_seq (c_region (r_val .none rfl (p_assign rfl) (r_nil ?_))))
 refine e_next ?_
 refine c_ret ?_
 refine e_ret1 Try.results57 (.tmp rfl .nil) (fun w hm => ?_)
 first
 | (have he : small m c deep x = (false, x + 1) := (by rw [small_eq, if_pos (by omega)]); have he2 := congrArg Prod.snd he; refine ⟨?_, hm.kept [cntA 3 p ((small m c deep x).2)] (.drop (.keep (fun _ _ h => by first | exact h | (have e : (small m c deep x).2 = _ := he2; rw [e]; exact box_congr (fun i hi => by match i, hi with | 0, _ => rfl) _ _ h)) (.nil))) (cntA 3 p ((small m c deep x).2)) (fun F' h => starL_one h)⟩; rw [he]; done)
 | (have he : small m c deep x = (false, (small m (rs.getD k d0).1 (deep - 1) t).2) := (by rw [small_eq, if_neg (by omega), ← hs3, map_drop (i := k) (d := d0) (by omega), smallL_no hE]); have he2 := congrArg Prod.snd he; refine ⟨?_, hm.kept [cntA 3 p ((small m c deep x).2)] (.drop (.keep (fun _ _ h => by first | exact h | (have e : (small m c deep x).2 = _ := he2; rw [e]; exact box_congr (fun i hi => by match i, hi with | 0, _ => rfl) _ _ h)) (.nil))) (cntA 3 p ((small m c deep x).2)) (fun F' h => starL_one h)⟩; rw [he]; done)
 | (have he : small m c deep x = (true, t) := (by rw [small_eq, if_neg (by omega), ← hs3, List.drop_eq_nil_of_le (by simp; omega), smallL]); have he2 := congrArg Prod.snd he; refine ⟨?_, hm.kept [cntA 3 p ((small m c deep x).2)] (.drop (.keep (fun _ _ h => by first | exact h | (have e : (small m c deep x).2 = _ := he2; rw [e]; exact box_congr (fun i hi => by match i, hi with | 0, _ => rfl) _ _ h)) (.nil))) (cntA 3 p ((small m c deep x).2)) (fun F' h => starL_one h)⟩; rw [he]; done)))))
theorem c_small_n : ∀ n, SmallIs n
 | 0 => fun c sv deep m x p G F w hz hb hs hG hA hFG => absurd hz (by have := size_subs c; omega)
 | n + 1 => fun c sv deep m x p G F w hz hb hs hG hA hFG => c_small_s n (c_small_n n) c sv deep m x p hz hb hs w hG hA hFG
theorem c_small (c : CT) (sv : Value) (deep m x : Int) (p : Nat) {G : Ghost} {F : Nat → Prop} (hb : 0 ≤ x ∧ x ≤ m ∧ m ≤ 1000 ∧ deep ≤ 5 ∧ -1 ≤ deep) (hs : Cs G sv c.subs) (w : World) (hG : Has G w) (hA : (cntA 3 p x).holds w F) (hFG : ∀ b, F b → G b = none) : Calls Try.prog 57 #[Value.agg #[Value.int .i64 c.h.k, Value.bool c.h.v0, Value.int .i64 c.h.n0, Value.bool c.h.v1, Value.int .i64 c.h.n1, Value.bool c.h.v2, Value.int .i64 c.h.n2, sv], Value.int .i64 deep, Value.int .i64 m, Value.pointer (some ⟨p, 0, none⟩)] w (Ret fun r w' => r = Value.bool (small m c deep x).1 ∧ Kept (cntA 3 p (small m c deep x).2) F w w') := c_small_n _ c sv deep m x p G F w (Nat.le_refl _) hb hs hG hA hFG
theorem c_Small (c : CT) (sv : Value) (m : Int) {G : Ghost} (hm : 0 ≤ m ∧ m ≤ 1000) (hs : Cs G sv c.subs) (w : World) (hG : Has G w) :
    Calls Try.prog 27 #[Value.agg #[Value.int .i64 c.h.k, Value.bool c.h.v0, Value.int .i64 c.h.n0, Value.bool c.h.v1, Value.int .i64 c.h.n1, Value.bool c.h.v2, Value.int .i64 c.h.n2, sv], Value.int .i64 m] w (Ret fun r w' => r = Value.bool (small m c 5 0).1 ∧ Since nX w w') := by
 refine enter (args := [_, _]) (X := nX) (G := G) (l := [(0, Value.agg #[Value.int .i64 c.h.k, Value.bool c.h.v0, Value.int .i64 c.h.n0, Value.bool c.h.v1, Value.int .i64 c.h.n1, Value.bool c.h.v2, Value.int .i64 c.h.n2, sv]), (1, Value.int .i64 m)]) Try.func27 rfl Try.ntmps27 hG ⟨rfl, rfl, trivial⟩ (Nat.le_of_ble_eq_true rfl) ?_
 refine c_seq (c_region ?_)
 refine r_box .none rfl rfl (IsRow.lit _) (fun b_1 => ?_)
 refine r_val .none rfl (p_assign rfl) (r_nil (e_next (c_seq (c_region ?_))))
 refine r_alloc .none rfl zr3 (IsRow.lit [_]) (fun b_2 => ?_)
 refine r_st (k := 0) .none sz3 rfl rfl rfl rfl (by first | exact odt rfl | omega) ?_
 refine r_nil (e_next (c_seq (c_region ?_)))
 refine r_val .none rfl (p_ldw (k := 1) Try.underlying80 rfl sz80 rfl rfl (rfl : _ = Value.agg #[_, _, _, _, _, _, _, _])) ?_
 refine r_val .none rfl (p_move rfl) ?_
 refine r_callo (k := 0) (vs := [_, _, _, _]) .none rfl cl57 rfl rfl (fun w F hw hA hFG => c_small c sv 5 m 0 _ (by omega) hs w hw (box_congr (fun i hi => by match i, hi with | 0, _ => rfl) _ _ hA) hFG) ?_
 refine r_val .none rfl (p_assign rfl) (r_nil (e_next ?_))
 refine c_ret ?_
 refine e_ret1 Try.results27 (.tmp rfl .nil) (fun w hm => ⟨?_, hm.since⟩)
 rfl
theorem c_rcheck_s (n : Nat) (ih : RcheckIs n) (c : CT) (sv : Value) (d : Int) {G : Ghost} (hz : SizeOf.sizeOf c ≤ n + 1) (hd : 1 ≤ d) (hs : Rs G sv c.subs) (w : World) (hG : Has G w) :
    Calls Try.prog 28 #[Value.agg #[Value.int .i64 c.h.k, Value.int .i64 (vi c.h.v0), Value.int .i64 c.h.n0, Value.int .i64 (vi c.h.v1), Value.int .i64 c.h.n1, Value.int .i64 (vi c.h.v2), Value.int .i64 c.h.n2, sv], Value.int .i64 d] w (Ret fun r w' => r = Value.int .i64 (check c d) ∧ Since nX w w') := by
 refine enter (args := [_, _]) (X := nX) (G := G) (l := [(0, Value.agg #[Value.int .i64 c.h.k, Value.int .i64 (vi c.h.v0), Value.int .i64 c.h.n0, Value.int .i64 (vi c.h.v1), Value.int .i64 c.h.n1, Value.int .i64 (vi c.h.v2), Value.int .i64 c.h.n2, sv]), (1, Value.int .i64 d)]) Try.func28 rfl Try.ntmps28 hG ⟨rfl, rfl, trivial⟩ (Nat.le_of_ble_eq_true rfl) ?_
 obtain ⟨rs, hr, hp, hl⟩ := hs.inv
 have hlen : c.subs.length = rs.length := by rw [hl]; simp
 have hbd := hr.bound
 have hb0 : vi c.h.v0 = 0 ∨ vi c.h.v0 = 1 := (by cases c.h.v0 <;> simp [vi])
 have hb1 : vi c.h.v1 = 0 ∨ vi c.h.v1 = 1 := (by cases c.h.v1 <;> simp [vi])
 have hb2 : vi c.h.v2 = 0 ∨ vi c.h.v2 = 1 := (by cases c.h.v2 <;> simp [vi])
 refine c_seq (c_region ?_)
 refine r_box .none rfl rfl (IsRow.lit _) (fun b_1 => ?_)
 refine r_val .none rfl (p_assign rfl) (r_nil (e_next (c_seq (c_seq ?_))))
 refine c_region (r_val .none rfl (p_move rfl) ?_)
 refine r_val .none rfl (p_gt rfl rfl) ?_
 refine r_nil (e_next ?_)
 refine c_splitd (d := 11) rfl (fun h_1 => ?_) (fun h_1 => ?_)
 · (
 first
 | (exfalso; omega)
 | (
 refine c_cond_t rfl (c_seq (c_region (r_val .none rfl (p_assign rfl) (r_nil ?_))))
 refine e_next ?_
 refine c_ret ?_
 refine e_ret_then ?_
 refine e_ret1 Try.results28 (.tmp rfl .nil) (fun w hm => ⟨?_, hm.since⟩)
 rw [check_eq c d, show max d 1 = d by omega]
 have e5 : (0 : Int) = rs.length ∨ 0 < rs.length := (by omega)
 first
 | exact congrArg (Value.int .i64) (if_pos (by omega)).symm
 | exact congrArg (Value.int .i64) ((if_neg (by omega)).trans ((if_neg (by omega)).trans (if_pos (by omega)))).symm
 | exact congrArg (Value.int .i64) ((if_neg (by omega)).trans ((if_neg (by omega)).trans ((if_neg (by omega)).trans (if_pos (by first | (right; omega) | (left; simp_all [headOk]; done)))))).symm
 | exact congrArg (Value.int .i64) ((if_neg (by omega)).trans ((if_neg (by omega)).trans ((if_neg (by omega)).trans (if_neg (by rintro (hx | hx) <;> first | omega | (simp_all [headOk]; done)))))).symm
 | exact congrArg (Value.int .i64) ((if_neg (by omega)).trans ((if_pos (by omega)).trans (if_pos (headNone_no (by omega))))).symm
 | exact congrArg (Value.int .i64) ((if_neg (by omega)).trans ((if_pos (by omega)).trans ((if_neg (headNone_yes (by omega))).trans (if_pos (by omega))))).symm
 | exact congrArg (Value.int .i64) ((if_neg (by omega)).trans ((if_pos (by omega)).trans ((if_neg (headNone_yes (by omega))).trans ((if_neg (by omega)).trans (by rw [← hphi.2, map_drop (i := k) (d := d0) (by omega), checkL_no hE]))))).symm
 | exact congrArg (Value.int .i64) ((if_neg (by omega)).trans ((if_pos (by omega)).trans ((if_neg (headNone_yes (by omega))).trans ((if_neg (by omega)).trans (by rw [← hphi.2, List.drop_eq_nil_of_le (by simp; omega), checkL]))))).symm))
 · (
 first
 | (exfalso; omega)
 | (
 refine c_cond_f rfl (c_skip (e_next (c_seq (c_seq ?_))))
 refine c_region ?_
 refine r_val .none rfl (p_field Try.underlying85 rfl sz3 rfl) ?_
 refine r_val .none rfl (p_ld (k := 0) Try.underlying3 rfl rfl rfl (by first | exact odt rfl | omega) (rfl : _ = Value.int _ _)) ?_
 refine r_val .none rfl (p_lt rfl rfl) ?_
 refine r_val .none rfl (p_move rfl) ?_
 refine' r_or (c := 15) (d := 19) [_, _, _, _] rfl (fun h_2 Q_3 hQ_4 => ?_) (fun h_2 Q_3 hQ_4 => ?_) ?_
 rotate_left 1
 · (
 replace h_2 := of_decide_eq_false h_2
 refine r_val (.some rfl rfl) rfl (p_field Try.underlying85 rfl sz3 rfl) ?_
 refine r_val (.some rfl rfl) rfl (p_ld (k := 0) Try.underlying3 rfl rfl rfl (by first | exact odt rfl | omega) (rfl : _ = Value.int _ _)) ?_
 refine r_val (.some rfl rfl) rfl (p_gt rfl rfl) ?_
 refine r_val .none rfl (p_pick_f rfl rfl) ?_
 refine r_nil (e_fin (d := 19) hQ_4 rfl (by repeat (first | exact .refl | refine .put rfl ?_ | refine .say rfl ?_ | refine .say2 rfl (by first | assumption | simp_all) ?_))))
 · (
 repeat (first | refine r_skip rfl (.no rfl rfl) ?_ | refine r_skip rfl (.un rfl rfl) ?_)
 refine r_val (by first | exact .none | exact .some rfl rfl) rfl (p_pick_t rfl rfl) ?_
 refine r_nil (e_fin (d := 19) hQ_4 rfl (by repeat (first | exact .refl | refine .put rfl ?_ | refine .say rfl ?_ | refine .say2 rfl (by first | assumption | simp_all) ?_))))
 refine r_nil (e_next ?_)
 refine c_split (d := 19) rfl (fun h_6 => ?_) (fun h_6 => ?_)
 · (
 try simp only [norms] at h_6
 first
 | (exfalso; omega)
 | (
 refine c_cond_t rfl (c_seq (c_region (r_val .none rfl (p_assign rfl) (r_nil ?_))))
 refine e_next ?_
 refine c_ret ?_
 refine e_ret_then ?_
 refine e_ret1 Try.results28 (.tmp rfl .nil) (fun w hm => ⟨?_, hm.since⟩)
 rw [check_eq c d, show max d 1 = d by omega]
 have e5 : (0 : Int) = rs.length ∨ 0 < rs.length := (by omega)
 first
 | exact congrArg (Value.int .i64) (if_pos (by omega)).symm
 | exact congrArg (Value.int .i64) ((if_neg (by omega)).trans ((if_neg (by omega)).trans (if_pos (by omega)))).symm
 | exact congrArg (Value.int .i64) ((if_neg (by omega)).trans ((if_neg (by omega)).trans ((if_neg (by omega)).trans (if_pos (by first | (right; omega) | (left; simp_all [headOk]; done)))))).symm
 | exact congrArg (Value.int .i64) ((if_neg (by omega)).trans ((if_neg (by omega)).trans ((if_neg (by omega)).trans (if_neg (by rintro (hx | hx) <;> first | omega | (simp_all [headOk]; done)))))).symm
 | exact congrArg (Value.int .i64) ((if_neg (by omega)).trans ((if_pos (by omega)).trans (if_pos (headNone_no (by omega))))).symm
 | exact congrArg (Value.int .i64) ((if_neg (by omega)).trans ((if_pos (by omega)).trans ((if_neg (headNone_yes (by omega))).trans (if_pos (by omega))))).symm
 | exact congrArg (Value.int .i64) ((if_neg (by omega)).trans ((if_pos (by omega)).trans ((if_neg (headNone_yes (by omega))).trans ((if_neg (by omega)).trans (by rw [← hphi.2, map_drop (i := k) (d := d0) (by omega), checkL_no hE]))))).symm
 | exact congrArg (Value.int .i64) ((if_neg (by omega)).trans ((if_pos (by omega)).trans ((if_neg (headNone_yes (by omega))).trans ((if_neg (by omega)).trans (by rw [← hphi.2, List.drop_eq_nil_of_le (by simp; omega), checkL]))))).symm))
 · (
 try simp only [norms] at h_6
 first
 | (exfalso; omega)
 | (
 refine c_cond_f rfl (c_skip (e_next (c_seq (c_seq ?_))))
 refine c_region ?_
 refine r_val .none rfl (p_field Try.underlying85 rfl sz3 rfl) ?_
 refine r_val .none rfl (p_ld (k := 0) Try.underlying3 rfl rfl rfl (by first | exact odt rfl | omega) (rfl : _ = Value.int _ _)) ?_
 refine r_val .none rfl (p_lt rfl rfl) ?_
 refine r_nil (e_next ?_)
 refine c_splitd (d := 22) rfl (fun h_7 => ?_) (fun h_7 => ?_)
 · (
 first
 | (exfalso; omega)
 | (
 refine c_cond_t rfl (c_seq (c_seq (c_region (r_val .none rfl (p_assign rfl) ?_))))
 refine r_nil (e_next (c_block ?_))
 refine c_unroll 4 ?_
 refine l_round (n := 3) ?_
 refine c_seq (c_seq (c_region (r_val .none rfl (p_move rfl) ?_)))
 refine r_val .none rfl (p_lt rfl rfl) ?_
 refine r_say (d := 24) (v := Value.bool true) rfl ?_
 refine r_nil (e_next (c_cond_t rfl (c_skip (e_next ?_))))
 refine c_seq (c_block (c_seq (c_region (r_val .none rfl (p_move rfl) ?_))))
 refine r_val .none rfl (p_field Try.underlying85 rfl sz83 rfl) ?_
 refine r_val .none rfl (p_iaddr (k := 0) Try.underlying83 sz82 rfl rfl (by first | exact odt rfl | omega)) ?_
 refine r_val .none rfl (p_lda (k := 0) Try.underlying82 rfl sz82 rfl rfl (by first | exact odt rfl | omega) (rfl : _ = Value.agg #[_, _])) ?_
 refine r_call (vs := [_]) .none rfl cl58 rfl (fun w hw => c_rright _ _ w) ?_
 refine r_val .none rfl (p_not rfl) ?_
 refine r_nil (e_next ?_)
 refine c_splitn (d := 32) rfl (fun h_8 => ?_) (fun h_8 => ?_)
 · (
 first
 | (exfalso; omega)
 | (
 refine c_cond_t rfl (c_seq (c_region (r_val .none rfl (p_assign rfl) (r_nil ?_))))
 refine e_next ?_
 refine c_ret ?_
 refine e_ret_block ?_
 refine e_ret_then ?_
 refine e_ret_then ?_
 refine e_ret_block ?_
 refine e_ret_then ?_
 refine e_ret_then ?_
 refine e_ret1 Try.results28 (.tmp rfl .nil) (fun w hm => ⟨?_, hm.since⟩)
 rw [check_eq c d, show max d 1 = d by omega]
 have e5 : (0 : Int) = rs.length ∨ 0 < rs.length := (by omega)
 first
 | exact congrArg (Value.int .i64) (if_pos (by omega)).symm
 | exact congrArg (Value.int .i64) ((if_neg (by omega)).trans ((if_neg (by omega)).trans (if_pos (by omega)))).symm
 | exact congrArg (Value.int .i64) ((if_neg (by omega)).trans ((if_neg (by omega)).trans ((if_neg (by omega)).trans (if_pos (by first | (right; omega) | (left; simp_all [headOk]; done)))))).symm
 | exact congrArg (Value.int .i64) ((if_neg (by omega)).trans ((if_neg (by omega)).trans ((if_neg (by omega)).trans (if_neg (by rintro (hx | hx) <;> first | omega | (simp_all [headOk]; done)))))).symm
 | exact congrArg (Value.int .i64) ((if_neg (by omega)).trans ((if_pos (by omega)).trans (if_pos (headNone_no (by omega))))).symm
 | exact congrArg (Value.int .i64) ((if_neg (by omega)).trans ((if_pos (by omega)).trans ((if_neg (headNone_yes (by omega))).trans (if_pos (by omega))))).symm
 | exact congrArg (Value.int .i64) ((if_neg (by omega)).trans ((if_pos (by omega)).trans ((if_neg (headNone_yes (by omega))).trans ((if_neg (by omega)).trans (by rw [← hphi.2, map_drop (i := k) (d := d0) (by omega), checkL_no hE]))))).symm
 | exact congrArg (Value.int .i64) ((if_neg (by omega)).trans ((if_pos (by omega)).trans ((if_neg (headNone_yes (by omega))).trans ((if_neg (by omega)).trans (by rw [← hphi.2, List.drop_eq_nil_of_le (by simp; omega), checkL]))))).symm))
 · (
 first
 | (exfalso; omega)
 | (
 refine c_cond_f rfl (c_skip ?_)
 refine e_norm_block ?_
 refine e_next (c_region (r_val .none rfl (p_move rfl) ?_))
 refine r_val .none rfl (p_add rfl rfl (by omega)) ?_
 refine r_val .none rfl (p_assign rfl) (r_nil ?_)
 refine e_again ?_
 refine l_round (n := 2) ?_
 refine c_seq (c_seq (c_region (r_val .none rfl (p_move rfl) ?_)))
 refine r_val .none rfl (p_lt rfl rfl) ?_
 refine r_say (d := 24) (v := Value.bool true) rfl ?_
 refine r_nil (e_next (c_cond_t rfl (c_skip (e_next ?_))))
 refine c_seq (c_block (c_seq (c_region (r_val .none rfl (p_move rfl) ?_))))
 refine r_val .none rfl (p_field Try.underlying85 rfl sz83 rfl) ?_
 refine r_val .none rfl (p_iaddr (k := 1) Try.underlying83 sz82 rfl rfl (by first | exact odt rfl | omega)) ?_
 refine r_val .none rfl (p_lda (k := 0) Try.underlying82 rfl sz82 rfl rfl (by first | exact odt rfl | omega) (rfl : _ = Value.agg #[_, _])) ?_
 refine r_call (vs := [_]) .none rfl cl58 rfl (fun w hw => c_rright _ _ w) ?_
 refine r_val .none rfl (p_not rfl) ?_
 refine r_nil (e_next ?_)
 refine c_splitn (d := 32) rfl (fun h_9 => ?_) (fun h_9 => ?_)
 · (
 first
 | (exfalso; omega)
 | (
 refine c_cond_t rfl (c_seq (c_region (r_val .none rfl (p_assign rfl) (r_nil ?_))))
 refine e_next ?_
 refine c_ret ?_
 refine e_ret_block ?_
 refine e_ret_then ?_
 refine e_ret_then ?_
 refine e_ret_block ?_
 refine e_ret_then ?_
 refine e_ret_then ?_
 refine e_ret1 Try.results28 (.tmp rfl .nil) (fun w hm => ⟨?_, hm.since⟩)
 rw [check_eq c d, show max d 1 = d by omega]
 have e5 : (0 : Int) = rs.length ∨ 0 < rs.length := (by omega)
 first
 | exact congrArg (Value.int .i64) (if_pos (by omega)).symm
 | exact congrArg (Value.int .i64) ((if_neg (by omega)).trans ((if_neg (by omega)).trans (if_pos (by omega)))).symm
 | exact congrArg (Value.int .i64) ((if_neg (by omega)).trans ((if_neg (by omega)).trans ((if_neg (by omega)).trans (if_pos (by first | (right; omega) | (left; simp_all [headOk]; done)))))).symm
 | exact congrArg (Value.int .i64) ((if_neg (by omega)).trans ((if_neg (by omega)).trans ((if_neg (by omega)).trans (if_neg (by rintro (hx | hx) <;> first | omega | (simp_all [headOk]; done)))))).symm
 | exact congrArg (Value.int .i64) ((if_neg (by omega)).trans ((if_pos (by omega)).trans (if_pos (headNone_no (by omega))))).symm
 | exact congrArg (Value.int .i64) ((if_neg (by omega)).trans ((if_pos (by omega)).trans ((if_neg (headNone_yes (by omega))).trans (if_pos (by omega))))).symm
 | exact congrArg (Value.int .i64) ((if_neg (by omega)).trans ((if_pos (by omega)).trans ((if_neg (headNone_yes (by omega))).trans ((if_neg (by omega)).trans (by rw [← hphi.2, map_drop (i := k) (d := d0) (by omega), checkL_no hE]))))).symm
 | exact congrArg (Value.int .i64) ((if_neg (by omega)).trans ((if_pos (by omega)).trans ((if_neg (headNone_yes (by omega))).trans ((if_neg (by omega)).trans (by rw [← hphi.2, List.drop_eq_nil_of_le (by simp; omega), checkL]))))).symm))
 · (
 first
 | (exfalso; omega)
 | (
 refine c_cond_f rfl (c_skip ?_)
 refine e_norm_block ?_
 refine e_next (c_region (r_val .none rfl (p_move rfl) ?_))
 refine r_val .none rfl (p_add rfl rfl (by omega)) ?_
 refine r_val .none rfl (p_assign rfl) (r_nil ?_)
 refine e_again ?_
 refine l_round (n := 1) ?_
 refine c_seq (c_seq (c_region (r_val .none rfl (p_move rfl) ?_)))
 refine r_val .none rfl (p_lt rfl rfl) ?_
 refine r_say (d := 24) (v := Value.bool true) rfl ?_
 refine r_nil (e_next (c_cond_t rfl (c_skip (e_next ?_))))
 refine c_seq (c_block (c_seq (c_region (r_val .none rfl (p_move rfl) ?_))))
 refine r_val .none rfl (p_field Try.underlying85 rfl sz83 rfl) ?_
 refine r_val .none rfl (p_iaddr (k := 2) Try.underlying83 sz82 rfl rfl (by first | exact odt rfl | omega)) ?_
 refine r_val .none rfl (p_lda (k := 0) Try.underlying82 rfl sz82 rfl rfl (by first | exact odt rfl | omega) (rfl : _ = Value.agg #[_, _])) ?_
 refine r_call (vs := [_]) .none rfl cl58 rfl (fun w hw => c_rright _ _ w) ?_
 refine r_val .none rfl (p_not rfl) ?_
 refine r_nil (e_next ?_)
 refine c_splitn (d := 32) rfl (fun h_10 => ?_) (fun h_10 => ?_)
 · (
 first
 | (exfalso; omega)
 | (
 refine c_cond_t rfl (c_seq (c_region (r_val .none rfl (p_assign rfl) (r_nil ?_))))
 refine e_next ?_
 refine c_ret ?_
 refine e_ret_block ?_
 refine e_ret_then ?_
 refine e_ret_then ?_
 refine e_ret_block ?_
 refine e_ret_then ?_
 refine e_ret_then ?_
 refine e_ret1 Try.results28 (.tmp rfl .nil) (fun w hm => ⟨?_, hm.since⟩)
 rw [check_eq c d, show max d 1 = d by omega]
 have e5 : (0 : Int) = rs.length ∨ 0 < rs.length := (by omega)
 first
 | exact congrArg (Value.int .i64) (if_pos (by omega)).symm
 | exact congrArg (Value.int .i64) ((if_neg (by omega)).trans ((if_neg (by omega)).trans (if_pos (by omega)))).symm
 | exact congrArg (Value.int .i64) ((if_neg (by omega)).trans ((if_neg (by omega)).trans ((if_neg (by omega)).trans (if_pos (by first | (right; omega) | (left; simp_all [headOk]; done)))))).symm
 | exact congrArg (Value.int .i64) ((if_neg (by omega)).trans ((if_neg (by omega)).trans ((if_neg (by omega)).trans (if_neg (by rintro (hx | hx) <;> first | omega | (simp_all [headOk]; done)))))).symm
 | exact congrArg (Value.int .i64) ((if_neg (by omega)).trans ((if_pos (by omega)).trans (if_pos (headNone_no (by omega))))).symm
 | exact congrArg (Value.int .i64) ((if_neg (by omega)).trans ((if_pos (by omega)).trans ((if_neg (headNone_yes (by omega))).trans (if_pos (by omega))))).symm
 | exact congrArg (Value.int .i64) ((if_neg (by omega)).trans ((if_pos (by omega)).trans ((if_neg (headNone_yes (by omega))).trans ((if_neg (by omega)).trans (by rw [← hphi.2, map_drop (i := k) (d := d0) (by omega), checkL_no hE]))))).symm
 | exact congrArg (Value.int .i64) ((if_neg (by omega)).trans ((if_pos (by omega)).trans ((if_neg (headNone_yes (by omega))).trans ((if_neg (by omega)).trans (by rw [← hphi.2, List.drop_eq_nil_of_le (by simp; omega), checkL]))))).symm))
 · (
 first
 | (exfalso; omega)
 | (
 refine c_cond_f rfl (c_skip ?_)
 refine e_norm_block ?_
 refine e_next (c_region (r_val .none rfl (p_move rfl) ?_))
 refine r_val .none rfl (p_add rfl rfl (by omega)) ?_
 refine r_val .none rfl (p_assign rfl) (r_nil ?_)
 refine e_again ?_
 refine l_round (n := 0) ?_
 refine c_seq (c_seq (c_region (r_val .none rfl (p_move rfl) ?_)))
 refine r_val .none rfl (p_lt rfl rfl) ?_
 refine r_say (d := 24) (v := Value.bool false) rfl ?_
 refine r_nil (e_next (c_cond_f rfl (c_exit (e_exit_then ?_))))
 refine e_exit_then ?_
 refine e_exit_block ?_
 refine e_next (c_seq (c_seq (c_region ?_)))
 refine r_val .none rfl (p_field Try.underlying85 rfl sz31 rfl) ?_
 refine r_val .none rfl (p_ld (k := 0) Try.underlying31 rfl rfl rfl (by first | exact odt rfl | omega) rfl) ?_
 refine r_val .none rfl (p_leng Try.underlying31 rfl hr) ?_
 have bd_11 := (hr).bound
 refine r_val .none rfl (p_gt rfl rfl) ?_
 refine r_nil (e_next ?_)
 refine c_splitd (d := 36) rfl (fun h_12 => ?_) (fun h_12 => ?_)
 · (
 first
 | (exfalso; omega)
 | (
 refine c_cond_t rfl (c_seq (c_region (r_val .none rfl (p_assign rfl) (r_nil ?_))))
 refine e_next ?_
 refine c_ret ?_
 refine e_ret_then ?_
 refine e_ret_then ?_
 refine e_ret1 Try.results28 (.tmp rfl .nil) (fun w hm => ⟨?_, hm.since⟩)
 rw [check_eq c d, show max d 1 = d by omega]
 have e5 : (0 : Int) = rs.length ∨ 0 < rs.length := (by omega)
 first
 | exact congrArg (Value.int .i64) (if_pos (by omega)).symm
 | exact congrArg (Value.int .i64) ((if_neg (by omega)).trans ((if_neg (by omega)).trans (if_pos (by omega)))).symm
 | exact congrArg (Value.int .i64) ((if_neg (by omega)).trans ((if_neg (by omega)).trans ((if_neg (by omega)).trans (if_pos (by first | (right; omega) | (left; simp_all [headOk]; done)))))).symm
 | exact congrArg (Value.int .i64) ((if_neg (by omega)).trans ((if_neg (by omega)).trans ((if_neg (by omega)).trans (if_neg (by rintro (hx | hx) <;> first | omega | (simp_all [headOk]; done)))))).symm
 | exact congrArg (Value.int .i64) ((if_neg (by omega)).trans ((if_pos (by omega)).trans (if_pos (headNone_no (by omega))))).symm
 | exact congrArg (Value.int .i64) ((if_neg (by omega)).trans ((if_pos (by omega)).trans ((if_neg (headNone_yes (by omega))).trans (if_pos (by omega))))).symm
 | exact congrArg (Value.int .i64) ((if_neg (by omega)).trans ((if_pos (by omega)).trans ((if_neg (headNone_yes (by omega))).trans ((if_neg (by omega)).trans (by rw [← hphi.2, map_drop (i := k) (d := d0) (by omega), checkL_no hE]))))).symm
 | exact congrArg (Value.int .i64) ((if_neg (by omega)).trans ((if_pos (by omega)).trans ((if_neg (headNone_yes (by omega))).trans ((if_neg (by omega)).trans (by rw [← hphi.2, List.drop_eq_nil_of_le (by simp; omega), checkL]))))).symm))
 · (
 first
 | (exfalso; omega)
 | (
 refine c_cond_f rfl (c_skip (e_next (c_seq (c_region ?_))))
 refine r_val .none rfl (p_assign rfl) (r_nil (e_next ?_))
 refine c_ret ?_
 refine e_ret_then ?_
 refine e_ret1 Try.results28 (.tmp rfl .nil) (fun w hm => ⟨?_, hm.since⟩)
 rw [check_eq c d, show max d 1 = d by omega]
 have e5 : (0 : Int) = rs.length ∨ 0 < rs.length := (by omega)
 first
 | exact congrArg (Value.int .i64) (if_pos (by omega)).symm
 | exact congrArg (Value.int .i64) ((if_neg (by omega)).trans ((if_neg (by omega)).trans (if_pos (by omega)))).symm
 | exact congrArg (Value.int .i64) ((if_neg (by omega)).trans ((if_neg (by omega)).trans ((if_neg (by omega)).trans (if_pos (by first | (right; omega) | (left; simp_all [headOk]; done)))))).symm
 | exact congrArg (Value.int .i64) ((if_neg (by omega)).trans ((if_neg (by omega)).trans ((if_neg (by omega)).trans (if_neg (by rintro (hx | hx) <;> first | omega | (simp_all [headOk]; done)))))).symm
 | exact congrArg (Value.int .i64) ((if_neg (by omega)).trans ((if_pos (by omega)).trans (if_pos (headNone_no (by omega))))).symm
 | exact congrArg (Value.int .i64) ((if_neg (by omega)).trans ((if_pos (by omega)).trans ((if_neg (headNone_yes (by omega))).trans (if_pos (by omega))))).symm
 | exact congrArg (Value.int .i64) ((if_neg (by omega)).trans ((if_pos (by omega)).trans ((if_neg (headNone_yes (by omega))).trans ((if_neg (by omega)).trans (by rw [← hphi.2, map_drop (i := k) (d := d0) (by omega), checkL_no hE]))))).symm
 | exact congrArg (Value.int .i64) ((if_neg (by omega)).trans ((if_pos (by omega)).trans ((if_neg (headNone_yes (by omega))).trans ((if_neg (by omega)).trans (by rw [← hphi.2, List.drop_eq_nil_of_le (by simp; omega), checkL]))))).symm))))))))))
 · (
 first
 | (exfalso; omega)
 | (
 refine c_cond_f rfl (c_skip (e_next (c_seq (c_seq ?_))))
 refine c_region (r_val .none rfl (p_assign rfl) (r_nil (e_next (c_block ?_))))
 refine c_unroll 4 ?_
 refine l_round (n := 3) ?_
 refine c_seq (c_seq (c_region (r_val .none rfl (p_move rfl) ?_)))
 refine r_val .none rfl (p_lt rfl rfl) ?_
 refine r_say (d := 38) (v := Value.bool true) rfl ?_
 refine r_nil (e_next (c_cond_t rfl (c_skip (e_next ?_))))
 refine c_seq (c_block (c_seq (c_region (r_val .none rfl (p_move rfl) ?_))))
 refine r_val .none rfl (p_field Try.underlying85 rfl sz83 rfl) ?_
 refine r_val .none rfl (p_iaddr (k := 0) Try.underlying83 sz82 rfl rfl (by first | exact odt rfl | omega)) ?_
 refine r_val .none rfl (p_field Try.underlying82 rfl sz3 rfl) ?_
 refine r_val .none rfl (p_ld (k := 0) Try.underlying3 rfl rfl rfl (by first | exact odt rfl | omega) (rfl : _ = Value.int _ _)) ?_
 refine r_val .none rfl (p_ne rfl rfl) ?_
 refine r_val .none rfl (p_move rfl) ?_
 refine' r_or (c := 47) (d := 54) [_, _, _, _, _, _, _] rfl (fun h_13 Q_14 hQ_15 => ?_) (fun h_13 Q_14 hQ_15 => ?_) ?_
 rotate_left 1
 · (
 replace h_13 := of_decide_eq_false h_13
 refine r_val (.some rfl rfl) rfl (p_move rfl) ?_
 refine r_val (.some rfl rfl) rfl (p_field Try.underlying85 rfl sz83 rfl) ?_
 refine r_val (.some rfl rfl) rfl (p_iaddr (k := 0) Try.underlying83 sz82 rfl rfl (by first | exact odt rfl | omega)) ?_
 refine r_val (.some rfl rfl) rfl (p_field Try.underlying82 rfl sz3 rfl) ?_
 refine r_val (.some rfl rfl) rfl (p_ld (k := 0) Try.underlying3 rfl rfl rfl (by first | exact odt rfl | omega) (rfl : _ = Value.int _ _)) ?_
 refine r_val (.some rfl rfl) rfl (p_ne rfl rfl) ?_
 refine r_val .none rfl (p_pick_f rfl rfl) ?_
 refine r_nil (e_fin (d := 54) hQ_15 rfl (by repeat (first | exact .refl | refine .put rfl ?_ | refine .say rfl ?_ | refine .say2 rfl (by first | assumption | simp_all) ?_))))
 · (
 repeat (first | refine r_skip rfl (.no rfl rfl) ?_ | refine r_skip rfl (.un rfl rfl) ?_)
 refine r_val (by first | exact .none | exact .some rfl rfl) rfl (p_pick_t rfl rfl) ?_
 refine r_nil (e_fin (d := 54) hQ_15 rfl (by repeat (first | exact .refl | refine .put rfl ?_ | refine .say rfl ?_ | refine .say2 rfl (by first | assumption | simp_all) ?_))))
 refine r_nil (e_next ?_)
 refine c_split (d := 54) rfl (fun h_17 => ?_) (fun h_17 => ?_)
 · (
 try simp only [norms] at h_17
 first
 | (exfalso; omega)
 | (
 refine c_cond_t rfl (c_seq (c_region (r_val .none rfl (p_assign rfl) (r_nil ?_))))
 refine e_next ?_
 refine c_ret ?_
 refine e_ret_block ?_
 refine e_ret_then ?_
 refine e_ret_then ?_
 refine e_ret_block ?_
 refine e_ret_then ?_
 refine e_ret1 Try.results28 (.tmp rfl .nil) (fun w hm => ⟨?_, hm.since⟩)
 rw [check_eq c d, show max d 1 = d by omega]
 have e5 : (0 : Int) = rs.length ∨ 0 < rs.length := (by omega)
 first
 | exact congrArg (Value.int .i64) (if_pos (by omega)).symm
 | exact congrArg (Value.int .i64) ((if_neg (by omega)).trans ((if_neg (by omega)).trans (if_pos (by omega)))).symm
 | exact congrArg (Value.int .i64) ((if_neg (by omega)).trans ((if_neg (by omega)).trans ((if_neg (by omega)).trans (if_pos (by first | (right; omega) | (left; simp_all [headOk]; done)))))).symm
 | exact congrArg (Value.int .i64) ((if_neg (by omega)).trans ((if_neg (by omega)).trans ((if_neg (by omega)).trans (if_neg (by rintro (hx | hx) <;> first | omega | (simp_all [headOk]; done)))))).symm
 | exact congrArg (Value.int .i64) ((if_neg (by omega)).trans ((if_pos (by omega)).trans (if_pos (headNone_no (by omega))))).symm
 | exact congrArg (Value.int .i64) ((if_neg (by omega)).trans ((if_pos (by omega)).trans ((if_neg (headNone_yes (by omega))).trans (if_pos (by omega))))).symm
 | exact congrArg (Value.int .i64) ((if_neg (by omega)).trans ((if_pos (by omega)).trans ((if_neg (headNone_yes (by omega))).trans ((if_neg (by omega)).trans (by rw [← hphi.2, map_drop (i := k) (d := d0) (by omega), checkL_no hE]))))).symm
 | exact congrArg (Value.int .i64) ((if_neg (by omega)).trans ((if_pos (by omega)).trans ((if_neg (headNone_yes (by omega))).trans ((if_neg (by omega)).trans (by rw [← hphi.2, List.drop_eq_nil_of_le (by simp; omega), checkL]))))).symm))
 · (
 try simp only [norms] at h_17
 first
 | (exfalso; omega)
 | (
 refine c_cond_f rfl (c_skip ?_)
 refine e_norm_block ?_
 refine e_next (c_region (r_val .none rfl (p_move rfl) ?_))
 refine r_val .none rfl (p_add rfl rfl (by omega)) ?_
 refine r_val .none rfl (p_assign rfl) (r_nil ?_)
 refine e_again ?_
 refine l_round (n := 2) ?_
 refine c_seq (c_seq (c_region (r_val .none rfl (p_move rfl) ?_)))
 refine r_val .none rfl (p_lt rfl rfl) ?_
 refine r_say (d := 38) (v := Value.bool true) rfl ?_
 refine r_nil (e_next (c_cond_t rfl (c_skip (e_next ?_))))
 refine c_seq (c_block (c_seq (c_region (r_val .none rfl (p_move rfl) ?_))))
 refine r_val .none rfl (p_field Try.underlying85 rfl sz83 rfl) ?_
 refine r_val .none rfl (p_iaddr (k := 1) Try.underlying83 sz82 rfl rfl (by first | exact odt rfl | omega)) ?_
 refine r_val .none rfl (p_field Try.underlying82 rfl sz3 rfl) ?_
 refine r_val .none rfl (p_ld (k := 0) Try.underlying3 rfl rfl rfl (by first | exact odt rfl | omega) (rfl : _ = Value.int _ _)) ?_
 refine r_val .none rfl (p_ne rfl rfl) ?_
 refine r_val .none rfl (p_move rfl) ?_
 refine r_splitd (d := 47) rfl (fun h_18 => ?_) (fun h_18 => ?_)
 · (
 first
 | (exfalso; omega)
 | (
 refine r_skip rfl (.no rfl rfl) ?_
 refine r_skip rfl (.no rfl rfl) ?_
 refine r_skip rfl (.no rfl rfl) ?_
 refine r_skip rfl (.no rfl rfl) ?_
 refine r_skip rfl (.no rfl rfl) ?_
 refine r_skip rfl (.no rfl rfl) ?_
 refine r_val .none rfl (p_pick_t rfl rfl) ?_
 refine r_nil (e_next (c_cond_t rfl (c_seq (c_region ?_))))
 refine r_val .none rfl (p_assign rfl) (r_nil (e_next ?_))
 refine c_ret ?_
 refine e_ret_block ?_
 refine e_ret_then ?_
 refine e_ret_then ?_
 refine e_ret_block ?_
 refine e_ret_then ?_
 refine e_ret1 Try.results28 (.tmp rfl .nil) (fun w hm => ⟨?_, hm.since⟩)
 rw [check_eq c d, show max d 1 = d by omega]
 have e5 : (0 : Int) = rs.length ∨ 0 < rs.length := (by omega)
 first
 | exact congrArg (Value.int .i64) (if_pos (by omega)).symm
 | exact congrArg (Value.int .i64) ((if_neg (by omega)).trans ((if_neg (by omega)).trans (if_pos (by omega)))).symm
 | exact congrArg (Value.int .i64) ((if_neg (by omega)).trans ((if_neg (by omega)).trans ((if_neg (by omega)).trans (if_pos (by first | (right; omega) | (left; simp_all [headOk]; done)))))).symm
 | exact congrArg (Value.int .i64) ((if_neg (by omega)).trans ((if_neg (by omega)).trans ((if_neg (by omega)).trans (if_neg (by rintro (hx | hx) <;> first | omega | (simp_all [headOk]; done)))))).symm
 | exact congrArg (Value.int .i64) ((if_neg (by omega)).trans ((if_pos (by omega)).trans (if_pos (headNone_no (by omega))))).symm
 | exact congrArg (Value.int .i64) ((if_neg (by omega)).trans ((if_pos (by omega)).trans ((if_neg (headNone_yes (by omega))).trans (if_pos (by omega))))).symm
 | exact congrArg (Value.int .i64) ((if_neg (by omega)).trans ((if_pos (by omega)).trans ((if_neg (headNone_yes (by omega))).trans ((if_neg (by omega)).trans (by rw [← hphi.2, map_drop (i := k) (d := d0) (by omega), checkL_no hE]))))).symm
 | exact congrArg (Value.int .i64) ((if_neg (by omega)).trans ((if_pos (by omega)).trans ((if_neg (headNone_yes (by omega))).trans ((if_neg (by omega)).trans (by rw [← hphi.2, List.drop_eq_nil_of_le (by simp; omega), checkL]))))).symm))
 · (
 first
 | (exfalso; omega)
 | (
 refine r_val (.some rfl rfl) rfl (p_move rfl) ?_
 refine r_val (.some rfl rfl) rfl (p_field Try.underlying85 rfl sz83 rfl) ?_
 refine r_val (.some rfl rfl) rfl (p_iaddr (k := 1) Try.underlying83 sz82 rfl rfl (by first | exact odt rfl | omega)) ?_
 refine r_val (.some rfl rfl) rfl (p_field Try.underlying82 rfl sz3 rfl) ?_
 refine r_val (.some rfl rfl) rfl (p_ld (k := 0) Try.underlying3 rfl rfl rfl (by first | exact odt rfl | omega) (rfl : _ = Value.int _ _)) ?_
 refine r_val (.some rfl rfl) rfl (p_ne rfl rfl) ?_
 refine r_val .none rfl (p_pick_f rfl rfl) ?_
 refine r_nil (e_next ?_)
 refine c_splitd (d := 54) rfl (fun h_19 => ?_) (fun h_19 => ?_)
 · (
 first
 | (exfalso; omega)
 | (
 refine c_cond_t rfl (c_seq (c_region (r_val .none rfl (p_assign rfl) (r_nil ?_))))
 refine e_next ?_
 refine c_ret ?_
 refine e_ret_block ?_
 refine e_ret_then ?_
 refine e_ret_then ?_
 refine e_ret_block ?_
 refine e_ret_then ?_
 refine e_ret1 Try.results28 (.tmp rfl .nil) (fun w hm => ⟨?_, hm.since⟩)
 rw [check_eq c d, show max d 1 = d by omega]
 have e5 : (0 : Int) = rs.length ∨ 0 < rs.length := (by omega)
 first
 | exact congrArg (Value.int .i64) (if_pos (by omega)).symm
 | exact congrArg (Value.int .i64) ((if_neg (by omega)).trans ((if_neg (by omega)).trans (if_pos (by omega)))).symm
 | exact congrArg (Value.int .i64) ((if_neg (by omega)).trans ((if_neg (by omega)).trans ((if_neg (by omega)).trans (if_pos (by first | (right; omega) | (left; simp_all [headOk]; done)))))).symm
 | exact congrArg (Value.int .i64) ((if_neg (by omega)).trans ((if_neg (by omega)).trans ((if_neg (by omega)).trans (if_neg (by rintro (hx | hx) <;> first | omega | (simp_all [headOk]; done)))))).symm
 | exact congrArg (Value.int .i64) ((if_neg (by omega)).trans ((if_pos (by omega)).trans (if_pos (headNone_no (by omega))))).symm
 | exact congrArg (Value.int .i64) ((if_neg (by omega)).trans ((if_pos (by omega)).trans ((if_neg (headNone_yes (by omega))).trans (if_pos (by omega))))).symm
 | exact congrArg (Value.int .i64) ((if_neg (by omega)).trans ((if_pos (by omega)).trans ((if_neg (headNone_yes (by omega))).trans ((if_neg (by omega)).trans (by rw [← hphi.2, map_drop (i := k) (d := d0) (by omega), checkL_no hE]))))).symm
 | exact congrArg (Value.int .i64) ((if_neg (by omega)).trans ((if_pos (by omega)).trans ((if_neg (headNone_yes (by omega))).trans ((if_neg (by omega)).trans (by rw [← hphi.2, List.drop_eq_nil_of_le (by simp; omega), checkL]))))).symm))
 · (
 first
 | (exfalso; omega)
 | (
 refine c_cond_f rfl (c_skip ?_)
 refine e_norm_block ?_
 refine e_next (c_region (r_val .none rfl (p_move rfl) ?_))
 refine r_val .none rfl (p_add rfl rfl (by omega)) ?_
 refine r_val .none rfl (p_assign rfl) (r_nil ?_)
 refine e_again ?_
 refine l_round (n := 1) ?_
 refine c_seq (c_seq (c_region (r_val .none rfl (p_move rfl) ?_)))
 refine r_val .none rfl (p_lt rfl rfl) ?_
 refine r_say (d := 38) (v := Value.bool true) rfl ?_
 refine r_nil (e_next (c_cond_t rfl (c_skip (e_next ?_))))
 refine c_seq (c_block (c_seq (c_region (r_val .none rfl (p_move rfl) ?_))))
 refine r_val .none rfl (p_field Try.underlying85 rfl sz83 rfl) ?_
 refine r_val .none rfl (p_iaddr (k := 2) Try.underlying83 sz82 rfl rfl (by first | exact odt rfl | omega)) ?_
 refine r_val .none rfl (p_field Try.underlying82 rfl sz3 rfl) ?_
 refine r_val .none rfl (p_ld (k := 0) Try.underlying3 rfl rfl rfl (by first | exact odt rfl | omega) (rfl : _ = Value.int _ _)) ?_
 refine r_val .none rfl (p_ne rfl rfl) ?_
 refine r_val .none rfl (p_move rfl) ?_
 refine r_splitd (d := 47) rfl (fun h_20 => ?_) (fun h_20 => ?_)
 · (
 first
 | (exfalso; omega)
 | (
 refine r_skip rfl (.no rfl rfl) ?_
 refine r_skip rfl (.no rfl rfl) ?_
 refine r_skip rfl (.no rfl rfl) ?_
 refine r_skip rfl (.no rfl rfl) ?_
 refine r_skip rfl (.no rfl rfl) ?_
 refine r_skip rfl (.no rfl rfl) ?_
 refine r_val .none rfl (p_pick_t rfl rfl) ?_
 refine r_nil (e_next (c_cond_t rfl (c_seq (c_region ?_))))
 refine r_val .none rfl (p_assign rfl) (r_nil (e_next ?_))
 refine c_ret ?_
 refine e_ret_block ?_
 refine e_ret_then ?_
 refine e_ret_then ?_
 refine e_ret_block ?_
 refine e_ret_then ?_
 refine e_ret1 Try.results28 (.tmp rfl .nil) (fun w hm => ⟨?_, hm.since⟩)
 rw [check_eq c d, show max d 1 = d by omega]
 have e5 : (0 : Int) = rs.length ∨ 0 < rs.length := (by omega)
 first
 | exact congrArg (Value.int .i64) (if_pos (by omega)).symm
 | exact congrArg (Value.int .i64) ((if_neg (by omega)).trans ((if_neg (by omega)).trans (if_pos (by omega)))).symm
 | exact congrArg (Value.int .i64) ((if_neg (by omega)).trans ((if_neg (by omega)).trans ((if_neg (by omega)).trans (if_pos (by first | (right; omega) | (left; simp_all [headOk]; done)))))).symm
 | exact congrArg (Value.int .i64) ((if_neg (by omega)).trans ((if_neg (by omega)).trans ((if_neg (by omega)).trans (if_neg (by rintro (hx | hx) <;> first | omega | (simp_all [headOk]; done)))))).symm
 | exact congrArg (Value.int .i64) ((if_neg (by omega)).trans ((if_pos (by omega)).trans (if_pos (headNone_no (by omega))))).symm
 | exact congrArg (Value.int .i64) ((if_neg (by omega)).trans ((if_pos (by omega)).trans ((if_neg (headNone_yes (by omega))).trans (if_pos (by omega))))).symm
 | exact congrArg (Value.int .i64) ((if_neg (by omega)).trans ((if_pos (by omega)).trans ((if_neg (headNone_yes (by omega))).trans ((if_neg (by omega)).trans (by rw [← hphi.2, map_drop (i := k) (d := d0) (by omega), checkL_no hE]))))).symm
 | exact congrArg (Value.int .i64) ((if_neg (by omega)).trans ((if_pos (by omega)).trans ((if_neg (headNone_yes (by omega))).trans ((if_neg (by omega)).trans (by rw [← hphi.2, List.drop_eq_nil_of_le (by simp; omega), checkL]))))).symm))
 · (
 first
 | (exfalso; omega)
 | (
 refine r_val (.some rfl rfl) rfl (p_move rfl) ?_
 refine r_val (.some rfl rfl) rfl (p_field Try.underlying85 rfl sz83 rfl) ?_
 refine r_val (.some rfl rfl) rfl (p_iaddr (k := 2) Try.underlying83 sz82 rfl rfl (by first | exact odt rfl | omega)) ?_
 refine r_val (.some rfl rfl) rfl (p_field Try.underlying82 rfl sz3 rfl) ?_
 refine r_val (.some rfl rfl) rfl (p_ld (k := 0) Try.underlying3 rfl rfl rfl (by first | exact odt rfl | omega) (rfl : _ = Value.int _ _)) ?_
 refine r_val (.some rfl rfl) rfl (p_ne rfl rfl) ?_
 refine r_val .none rfl (p_pick_f rfl rfl) ?_
 refine r_nil (e_next ?_)
 refine c_splitd (d := 54) rfl (fun h_21 => ?_) (fun h_21 => ?_)
 · (
 first
 | (exfalso; omega)
 | (
 refine c_cond_t rfl (c_seq (c_region (r_val .none rfl (p_assign rfl) (r_nil ?_))))
 refine e_next ?_
 refine c_ret ?_
 refine e_ret_block ?_
 refine e_ret_then ?_
 refine e_ret_then ?_
 refine e_ret_block ?_
 refine e_ret_then ?_
 refine e_ret1 Try.results28 (.tmp rfl .nil) (fun w hm => ⟨?_, hm.since⟩)
 rw [check_eq c d, show max d 1 = d by omega]
 have e5 : (0 : Int) = rs.length ∨ 0 < rs.length := (by omega)
 first
 | exact congrArg (Value.int .i64) (if_pos (by omega)).symm
 | exact congrArg (Value.int .i64) ((if_neg (by omega)).trans ((if_neg (by omega)).trans (if_pos (by omega)))).symm
 | exact congrArg (Value.int .i64) ((if_neg (by omega)).trans ((if_neg (by omega)).trans ((if_neg (by omega)).trans (if_pos (by first | (right; omega) | (left; simp_all [headOk]; done)))))).symm
 | exact congrArg (Value.int .i64) ((if_neg (by omega)).trans ((if_neg (by omega)).trans ((if_neg (by omega)).trans (if_neg (by rintro (hx | hx) <;> first | omega | (simp_all [headOk]; done)))))).symm
 | exact congrArg (Value.int .i64) ((if_neg (by omega)).trans ((if_pos (by omega)).trans (if_pos (headNone_no (by omega))))).symm
 | exact congrArg (Value.int .i64) ((if_neg (by omega)).trans ((if_pos (by omega)).trans ((if_neg (headNone_yes (by omega))).trans (if_pos (by omega))))).symm
 | exact congrArg (Value.int .i64) ((if_neg (by omega)).trans ((if_pos (by omega)).trans ((if_neg (headNone_yes (by omega))).trans ((if_neg (by omega)).trans (by rw [← hphi.2, map_drop (i := k) (d := d0) (by omega), checkL_no hE]))))).symm
 | exact congrArg (Value.int .i64) ((if_neg (by omega)).trans ((if_pos (by omega)).trans ((if_neg (headNone_yes (by omega))).trans ((if_neg (by omega)).trans (by rw [← hphi.2, List.drop_eq_nil_of_le (by simp; omega), checkL]))))).symm))
 · (
 first
 | (exfalso; omega)
 | (
 refine c_cond_f rfl (c_skip ?_)
 refine e_norm_block ?_
 refine e_next (c_region (r_val .none rfl (p_move rfl) ?_))
 refine r_val .none rfl (p_add rfl rfl (by omega)) ?_
 refine r_val .none rfl (p_assign rfl) (r_nil ?_)
 refine e_again ?_
 refine l_round (n := 0) ?_
 refine c_seq (c_seq (c_region (r_val .none rfl (p_move rfl) ?_)))
 refine r_val .none rfl (p_lt rfl rfl) ?_
 refine r_say (d := 38) (v := Value.bool false) rfl ?_
 refine r_nil (e_next (c_cond_f rfl (c_exit (e_exit_then ?_))))
 refine e_exit_then ?_
 refine e_exit_block ?_
 refine e_next (c_seq (c_seq (c_region ?_)))
 refine r_val .none rfl (p_field Try.underlying85 rfl sz31 rfl) ?_
 refine r_val .none rfl (p_ld (k := 0) Try.underlying31 rfl rfl rfl (by first | exact odt rfl | omega) rfl) ?_
 refine r_val .none rfl (p_leng Try.underlying31 rfl hr) ?_
 have bd_22 := (hr).bound
 refine r_val .none rfl (p_eq rfl rfl) ?_
 refine r_nil (e_next ?_)
 refine c_splitd (d := 58) rfl (fun h_23 => ?_) (fun h_23 => ?_)
 · (
 first
 | (exfalso; omega)
 | (
 refine c_cond_t rfl (c_seq (c_region (r_val .none rfl (p_assign rfl) (r_nil ?_))))
 refine e_next ?_
 refine c_ret ?_
 refine e_ret_then ?_
 refine e_ret1 Try.results28 (.tmp rfl .nil) (fun w hm => ⟨?_, hm.since⟩)
 rw [check_eq c d, show max d 1 = d by omega]
 have e5 : (0 : Int) = rs.length ∨ 0 < rs.length := (by omega)
 first
 | exact congrArg (Value.int .i64) (if_pos (by omega)).symm
 | exact congrArg (Value.int .i64) ((if_neg (by omega)).trans ((if_neg (by omega)).trans (if_pos (by omega)))).symm
 | exact congrArg (Value.int .i64) ((if_neg (by omega)).trans ((if_neg (by omega)).trans ((if_neg (by omega)).trans (if_pos (by first | (right; omega) | (left; simp_all [headOk]; done)))))).symm
 | exact congrArg (Value.int .i64) ((if_neg (by omega)).trans ((if_neg (by omega)).trans ((if_neg (by omega)).trans (if_neg (by rintro (hx | hx) <;> first | omega | (simp_all [headOk]; done)))))).symm
 | exact congrArg (Value.int .i64) ((if_neg (by omega)).trans ((if_pos (by omega)).trans (if_pos (headNone_no (by omega))))).symm
 | exact congrArg (Value.int .i64) ((if_neg (by omega)).trans ((if_pos (by omega)).trans ((if_neg (headNone_yes (by omega))).trans (if_pos (by omega))))).symm
 | exact congrArg (Value.int .i64) ((if_neg (by omega)).trans ((if_pos (by omega)).trans ((if_neg (headNone_yes (by omega))).trans ((if_neg (by omega)).trans (by rw [← hphi.2, map_drop (i := k) (d := d0) (by omega), checkL_no hE]))))).symm
 | exact congrArg (Value.int .i64) ((if_neg (by omega)).trans ((if_pos (by omega)).trans ((if_neg (headNone_yes (by omega))).trans ((if_neg (by omega)).trans (by rw [← hphi.2, List.drop_eq_nil_of_le (by simp; omega), checkL]))))).symm))
 · (
 first
 | (exfalso; omega)
 | (
 refine c_cond_f rfl (c_skip (e_next (c_seq (c_seq ?_))))
 refine c_region ?_
 refine r_val .none rfl (p_field Try.underlying85 rfl sz31 rfl) ?_
 refine r_val .none rfl (p_ld (k := 0) Try.underlying31 rfl rfl rfl (by first | exact odt rfl | omega) rfl) ?_
 refine r_val .none rfl (p_leng Try.underlying31 rfl hr) ?_
 have bd_24 := (hr).bound
 refine r_val .none rfl (p_move rfl) (r_nil (e_next (c_block ?_)))
 refine c_name (d := 1) rfl (fun u_25 hu_25 => ?_)
 refine c_name (d := 60) rfl (fun u_26 hu_26 => ?_)
 refine c_name (d := 61) rfl (fun u_27 hu_27 => ?_)
 refine c_nameL (k := 0) rfl (fun A_28 hA_28 => ?_)
 refine c_loop (σ := Nat) (fun k => [(62, Value.int .i64 (k : Nat)), (1, u_25), (60, u_26), (61, u_27)]) (fun k => [A_28]) (fun _ => _) (fun k => k ≤ rs.length ∧ checkL ((rs.map Prod.fst).drop k) (d + 1) = checkL c.subs (d + 1)) (fun k => rs.length - k) (0) ⟨Nat.zero_le _, by rw [hl]; rfl⟩ rfl ⟨rfl, rfl, rfl, rfl, trivial⟩ (.keep (fun _ _ h => h) (.nil)) (fun k hphi => ?_)
 subst hu_25
 subst hu_26
 subst hu_27
 subst hA_28
 refine c_seq (c_region ?_)
 refine r_val .none rfl (p_lt rfl rfl) ?_
 refine r_nil (e_next (c_seq ?_))
 refine c_splitd (d := 63) rfl (fun h_29 => ?_) (fun h_29 => ?_)
 · (
 first
 | (exfalso; omega)
 | (
 refine c_cond_t rfl (c_skip (e_next (c_seq (c_block ?_))))
 refine c_seq (c_region ?_)
 refine r_iaddr_g .none rfl Try.underlying31 sz85 rfl hr rfl (by first | exact odt rfl | omega) (fun p_31 o_32 R_30 => ?_)
 have hc_33 := hp _ (getD_mem (i := k) (d := d0) (by omega))
 refine r_val .none rfl (p_ldga0 Try.underlying85 rfl sz85 rfl R_30 (by first | exact odt rfl | omega) (rfl : _ = Value.agg #[_, _, _, _, _, _, _, _])) ?_
 refine r_alloc .none rfl zr85 (IsRow.lit _) (fun b_2 => ?_)
 refine r_stw (k := 0) .none sz85 rfl rfl (IsRow.lit _) (one_lit rfl (all_cons rfl (all_cons rfl (all_cons rfl (all_cons rfl (all_cons rfl (all_cons rfl (all_cons rfl (all_cons (hc_33).one rfl))))))))) rfl ?_
 refine r_nil (e_next (c_seq (c_region ?_)))
 refine r_val .none rfl (p_ldw (k := 0) Try.underlying85 rfl sz85 rfl rfl (rfl : _ = Value.agg #[_, _, _, _, _, _, _, _])) ?_
 refine r_val .none rfl (p_move rfl) ?_
 refine r_val .none rfl (p_add rfl rfl (by omega)) ?_
 refine r_call (vs := [_, _]) .none rfl cl28 rfl (fun w hw => ih (rs.getD k d0).1 _ _ _ w (size_at hl (by omega) hz) (by omega) hc_33 hw) ?_
 refine r_val .none rfl (p_assign rfl) (r_nil (e_next (c_seq (c_region ?_))))
 refine r_val .none rfl (p_move rfl) ?_
 refine r_val .none rfl (p_ne rfl rfl) ?_
 refine r_nil (e_next ?_)
 refine c_splitd (d := 71) rfl (fun h_34 => ?_) (fun h_34 => ?_)
 · (
 have hE := h_34
 first
 | (exfalso; omega)
 | (
 refine c_cond_t rfl (c_seq (c_region (r_val .none rfl (p_move rfl) (r_val .none rfl (p_assign rfl) ?_))))
 refine r_nil (e_next ?_)
 refine c_ret ?_
 refine e_ret_block ?_
 refine e_ret_then ?_
 refine e_ret_then ?_
 refine e_ret_block ?_
 refine e_ret_then ?_
 refine e_ret1 Try.results28 (.tmp rfl .nil) (fun w hm => ⟨?_, hm.since⟩)
 rw [check_eq c d, show max d 1 = d by omega]
 have e5 : (0 : Int) = rs.length ∨ 0 < rs.length := (by omega)
 first
 | exact congrArg (Value.int .i64) (if_pos (by omega)).symm
 | exact congrArg (Value.int .i64) ((if_neg (by omega)).trans ((if_neg (by omega)).trans (if_pos (by omega)))).symm
 | exact congrArg (Value.int .i64) ((if_neg (by omega)).trans ((if_neg (by omega)).trans ((if_neg (by omega)).trans (if_pos (by first | (right; omega) | (left; simp_all [headOk]; done)))))).symm
 | exact congrArg (Value.int .i64) ((if_neg (by omega)).trans ((if_neg (by omega)).trans ((if_neg (by omega)).trans (if_neg (by rintro (hx | hx) <;> first | omega | (simp_all [headOk]; done)))))).symm
 | exact congrArg (Value.int .i64) ((if_neg (by omega)).trans ((if_pos (by omega)).trans (if_pos (headNone_no (by omega))))).symm
 | exact congrArg (Value.int .i64) ((if_neg (by omega)).trans ((if_pos (by omega)).trans ((if_neg (headNone_yes (by omega))).trans (if_pos (by omega))))).symm
 | exact congrArg (Value.int .i64) ((if_neg (by omega)).trans ((if_pos (by omega)).trans ((if_neg (headNone_yes (by omega))).trans ((if_neg (by omega)).trans (by rw [← hphi.2, map_drop (i := k) (d := d0) (by omega), checkL_no hE]))))).symm
 | exact congrArg (Value.int .i64) ((if_neg (by omega)).trans ((if_pos (by omega)).trans ((if_neg (headNone_yes (by omega))).trans ((if_neg (by omega)).trans (by rw [← hphi.2, List.drop_eq_nil_of_le (by simp; omega), checkL]))))).symm))
 · (
 have hE := Decidable.not_not.1 h_34
 first
 | (exfalso; omega)
 | (
 refine c_cond_f rfl (c_skip ?_)
 refine e_norm_block ?_
 refine e_next (c_region ?_)
 refine r_val .none rfl (p_add rfl rfl (by omega)) ?_
 refine r_val .none rfl (p_move rfl) (r_nil ?_)
 refine e_round (k + 1) ⟨⟨by omega, by rw [← hphi.2, map_drop (i := k) (d := d0) (by omega), checkL_ok hE]⟩, by omega⟩ rfl ⟨rfl, rfl, rfl, rfl, trivial⟩ (.drop (.keep (fun _ _ h => h) (.nil)))))))
 · (
 first
 | (exfalso; omega)
 | (
 refine c_cond_f rfl (c_exit (e_exit_then (e_exit_then ?_)))
 refine e_exit_block ?_
 refine e_next (c_seq (c_region (r_val .none rfl (p_assign rfl) (r_nil ?_))))
 refine e_next ?_
 refine c_ret ?_
 refine e_ret1 Try.results28 (.tmp rfl .nil) (fun w hm => ⟨?_, hm.since⟩)
 rw [check_eq c d, show max d 1 = d by omega]
 have e5 : (0 : Int) = rs.length ∨ 0 < rs.length := (by omega)
 first
 | exact congrArg (Value.int .i64) (if_pos (by omega)).symm
 | exact congrArg (Value.int .i64) ((if_neg (by omega)).trans ((if_neg (by omega)).trans (if_pos (by omega)))).symm
 | exact congrArg (Value.int .i64) ((if_neg (by omega)).trans ((if_neg (by omega)).trans ((if_neg (by omega)).trans (if_pos (by first | (right; omega) | (left; simp_all [headOk]; done)))))).symm
 | exact congrArg (Value.int .i64) ((if_neg (by omega)).trans ((if_neg (by omega)).trans ((if_neg (by omega)).trans (if_neg (by rintro (hx | hx) <;> first | omega | (simp_all [headOk]; done)))))).symm
 | exact congrArg (Value.int .i64) ((if_neg (by omega)).trans ((if_pos (by omega)).trans (if_pos (headNone_no (by omega))))).symm
 | exact congrArg (Value.int .i64) ((if_neg (by omega)).trans ((if_pos (by omega)).trans ((if_neg (headNone_yes (by omega))).trans (if_pos (by omega))))).symm
 | exact congrArg (Value.int .i64) ((if_neg (by omega)).trans ((if_pos (by omega)).trans ((if_neg (headNone_yes (by omega))).trans ((if_neg (by omega)).trans (by rw [← hphi.2, map_drop (i := k) (d := d0) (by omega), checkL_no hE]))))).symm
 | exact congrArg (Value.int .i64) ((if_neg (by omega)).trans ((if_pos (by omega)).trans ((if_neg (headNone_yes (by omega))).trans ((if_neg (by omega)).trans (by rw [← hphi.2, List.drop_eq_nil_of_le (by simp; omega), checkL]))))).symm))))))))))))))))))))
theorem c_rcheck_n : ∀ n, RcheckIs n
 | 0 => fun c sv d G w hz hd hs hG => absurd hz (by have := size_subs c; omega)
 | n + 1 => fun c sv d G w hz hd hs hG => c_rcheck_s n (c_rcheck_n n) c sv d hz hd hs w hG
theorem c_rcheck (c : CT) (sv : Value) (d : Int) {G : Ghost} (hd : 1 ≤ d) (hs : Rs G sv c.subs) (w : World) (hG : Has G w) : Calls Try.prog 28 #[Value.agg #[Value.int .i64 c.h.k, Value.int .i64 (vi c.h.v0), Value.int .i64 c.h.n0, Value.int .i64 (vi c.h.v1), Value.int .i64 c.h.n1, Value.int .i64 (vi c.h.v2), Value.int .i64 c.h.n2, sv], Value.int .i64 d] w (Ret fun r w' => r = Value.int .i64 (check c d) ∧ Since nX w w') := c_rcheck_n _ c sv d G w (Nat.le_refl _) hd hs hG
theorem c_ref4_s (n : Nat) (ih : RefIs n) (c : CT) (sv : Value)  {G : Ghost} (hz : SizeOf.sizeOf c ≤ n + 1) (hsz : size c ≤ 1000) (hs : Cs G sv c.subs) (w : World) (hG : Has G w) :
    Calls Try.prog 31 #[Value.agg #[Value.int .i64 c.h.k, Value.bool c.h.v0, Value.int .i64 c.h.n0, Value.bool c.h.v1, Value.int .i64 c.h.n1, Value.bool c.h.v2, Value.int .i64 c.h.n2, sv]] w (Ret fun r w' => ∃ G', GNew w nX G G' ∧ Has G' w' ∧ (∃ u, r = Value.agg #[Value.int .i64 c.h.k, Value.int .i64 (vi c.h.v0), Value.int .i64 c.h.n0, Value.int .i64 (vi c.h.v1), Value.int .i64 c.h.n1, Value.int .i64 (vi c.h.v2), Value.int .i64 c.h.n2, u] ∧ Rs G' u c.subs) ∧ Since nX w w') := by
 refine enter (args := [_]) (X := nX) (G := G) (l := [(0, Value.agg #[Value.int .i64 c.h.k, Value.bool c.h.v0, Value.int .i64 c.h.n0, Value.bool c.h.v1, Value.int .i64 c.h.n1, Value.bool c.h.v2, Value.int .i64 c.h.n2, sv])]) Try.func31 rfl Try.ntmps31 hG ⟨rfl, trivial⟩ (Nat.le_of_ble_eq_true rfl) ?_
 obtain ⟨rs, hr, hp, hl⟩ := hs.inv
 have hlen : c.subs.length = rs.length := by rw [hl]; simp
 have hbd := hr.bound
 have hl1 := size_len hl hsz
 refine c_seq (c_region ?_)
 refine r_box .none rfl rfl (IsRow.lit _) (fun b_1 => ?_)
 refine r_alloc .none rfl zr85 (IsRow.lit _) (fun b_2 => ?_)
 refine r_nil (e_next (c_seq ?_))
 refine c_region_d (fun _ => false) _ mixed (.keep (fun _ _ h => h) (.keep (fun _ _ h => h) (.nil))) ?_
 refine d_val1 0 rfl rfl (by kernel_rfl) (fun _ _ => rfl) .none rfl (p_field Try.underlying80 rfl sz3 rfl) ?_
 refine d_val1 1 rfl rfl (by kernel_rfl) (fun _ _ => rfl) .none rfl (p_ld (k := 1) Try.underlying3 rfl rfl rfl (by first | exact odt rfl | omega) (rfl : _ = Value.int _ _)) ?_
 refine d_val1 2 rfl rfl (by kernel_rfl) (fun _ _ => rfl) .none rfl (p_field Try.underlying80 rfl sz78 rfl) ?_
 refine d_val1 3 rfl rfl (by kernel_rfl) (fun _ _ => rfl) .none rfl (p_lda (k := 1) Try.underlying78 rfl sz78 rfl rfl (by first | exact odt rfl | omega) (rfl : _ = Value.agg #[_, _, _, _, _, _])) ?_
 refine d_eff2 4 6 rfl rfl (by kernel_rfl) (fun K_1 hKK_1 hcK_1 => ?_) (fun K_1 hKK_1 hcK_1 => ?_)
 · (
 refine r_call (vs := [_]) .none rfl cl60 rfl (fun w hw => c_ref _ _ _ _ _ _ w) ?_
 refine r_nil (e_d (i := 4) (brk := (fun _ => false)) (ph' := true) hKK_1 hcK_1 rfl (fun _ => GLe.refl _) (fun _ => .keep (fun _ _ h => h) (.keep (fun _ _ h => h) (.nil))) ?_)
 clear hKK_1 hcK_1 K_1
 refine d_val1 5 rfl rfl (by kernel_rfl) (fun _ _ => rfl) .none rfl (p_build (vs := [(0, Value.int _ _), (1, Value.agg #[_, _, _, _, _, _])]) rfl (bl85_0i1_1a6 _ _ _ _ _ _ _)) ?_
 refine d_eff 6 rfl (by kernel_rfl) (fun K_2 hKK_2 hcK_2 => ?_)
 refine r_alloc .none rfl zr85 (IsRow.lit _) (fun b_3 => ?_)
 refine r_nil (e_d (i := 6) (brk := (fun _ => false)) (ph' := true) hKK_2 hcK_2 rfl (fun _ => GLe.refl _) (fun _ => .drop (.keep (fun _ _ h => h) (.keep (fun _ _ h => h) (.nil)))) ?_)
 clear hKK_2 hcK_2 K_2
 refine d_eff 7 rfl (by kernel_rfl) (fun K_3 hKK_3 hcK_3 => ?_)
 refine r_stw (k := 0) .none sz85 rfl rfl (IsRow.lit _) (one_lit rfl rfl) rfl ?_
 refine r_nil (e_d (i := 7) (brk := (fun _ => false)) (ph' := true) hKK_3 hcK_3 rfl (fun _ => GLe.refl _) (fun _ => .drop (.keep (fun _ _ h => h) (.keep (fun _ _ h => h) (.nil)))) ?_)
 clear hKK_3 hcK_3 K_3
 refine d_nil (by kernel_rfl) ?_
 refine e_next (c_seq (c_seq (c_region ?_)))
 refine r_val .none rfl (p_field Try.underlying80 rfl sz27 rfl) ?_
 refine r_val .none rfl (p_ld (k := 2) Try.underlying27 rfl rfl rfl (by first | exact odt rfl | omega) rfl) ?_
 refine r_val .none rfl (p_leng Try.underlying27 rfl hr) ?_
 have bd_4 := (hr).bound
 refine r_val .none rfl (p_move rfl) (r_nil (e_next (c_block ?_)))
 refine c_nilrow 85 8 ?_
 refine c_name (d := 2) rfl (fun u_5 hu_5 => ?_)
 refine c_name (d := 3) rfl (fun u_6 hu_6 => ?_)
 refine c_name (d := 13) rfl (fun u_7 hu_7 => ?_)
 refine c_name (d := 14) rfl (fun u_8 hu_8 => ?_)
 refine c_nameL (k := 2) rfl (fun A_9 hA_9 => ?_)
 refine c_nameL (k := 3) rfl (fun A_10 hA_10 => ?_)
 refine c_loop (σ := Nat × Value × List (CT × Value) × Ghost) (fun s => [(15, Value.int .i64 (s.1 : Nat)), (2, u_5), (3, u_6), (13, u_7), (14, u_8)]) (fun s => [rowA (s.2.1) 85 8 (s.2.2.1).length ((s.2.2.1).flatMap rvC), box b_3 8 85 (at_ [.int .i64 c.h.k, .int .i64 (vi c.h.v0), .int .i64 c.h.n0, .int .i64 (vi c.h.v1), .int .i64 c.h.n1, .int .i64 (vi c.h.v2), .int .i64 c.h.n2, s.2.1]), A_9, A_10]) (fun s => s.2.2.2) (fun s => s.1 ≤ rs.length ∧ s.2.2.1.map Prod.fst = (rs.map Prod.fst).take s.1 ∧ (∀ p ∈ s.2.2.1, Rs s.2.2.2 p.2 p.1.subs) ∧ GNew w nX G s.2.2.2) (fun s => rs.length - s.1) ((0, _, [], _)) ⟨Nat.zero_le _, rfl, by simp, GNew.refl _ _ _⟩ rfl ⟨rfl, rfl, rfl, rfl, rfl, trivial⟩ (.keep (fun _ _ h => rowA_nil rfl _ _ h) (.keep (fun _ _ h => box_congr (fun i hi => by match i, hi with | 0, _ => rfl | 1, _ => rfl | 2, _ => rfl | 3, _ => rfl | 4, _ => rfl | 5, _ => rfl | 6, _ => rfl | 7, _ => rfl) _ _ h) (.keep (fun _ _ h => h) (.keep (fun _ _ h => h) (.nil))))) (fun s hphi => ?_)
 subst hu_5
 subst hu_6
 subst hu_7
 subst hu_8
 subst hA_9
 subst hA_10
 obtain ⟨k, v, qs, H⟩ := s
 obtain ⟨hk, hq, hqs, hgn⟩ := hphi
 dsimp only at hk hq hqs hgn ⊢
 have hql : qs.length ≤ k := (by have := congrArg List.length hq; simp at this; omega)
 refine c_row1 (k := 0) rfl (fun ov => ?_)
 refine c_rowlen (k := 0) rfl (fun l63 => ?_)
 replace hp := fun p hm0 => (hp p hm0).mono hgn.le
 replace hr := hr.mono hgn.le
 refine c_seq (c_region ?_)
 refine r_val .none rfl (p_lt rfl rfl) ?_
 refine r_nil (e_next (c_seq ?_))
 refine c_splitd (d := 16) rfl (fun h_11 => ?_) (fun h_11 => ?_)
 · (
 first
 | (exfalso; omega)
 | (
 refine c_cond_t rfl (c_skip (e_next (c_seq (c_block ?_))))
 refine c_seq (c_region ?_)
 refine r_iaddr_g .none rfl Try.underlying27 sz80 rfl hr rfl (by first | exact odt rfl | omega) (fun p_13 o_14 R_12 => ?_)
 have hc_15 := hp _ (getD_mem (i := k) (d := d0) (by omega))
 refine r_val .none rfl (p_ldga0 Try.underlying80 rfl sz80 rfl R_12 (by first | exact odt rfl | omega) (rfl : _ = Value.agg #[_, _, _, _, _, _, _, _])) ?_
 refine r_alloc .none rfl zr80 (IsRow.lit _) (fun b_4 => ?_)
 refine r_stw (k := 0) .none sz80 rfl rfl (IsRow.lit _) (one_lit rfl (all_cons rfl (all_cons rfl (all_cons rfl (all_cons rfl (all_cons rfl (all_cons rfl (all_cons rfl (all_cons (hc_15).one rfl))))))))) rfl ?_
 refine r_nil (e_next ?_)
 refine c_region_d (fun j => [5, 6, 7].contains j) _ mixed (.keep (fun _ _ h => h) (.keep (fun _ _ h => h) (.keep (fun _ _ h => h) (.keep (fun _ _ h => h) (.keep (fun _ _ h => h) (.nil)))))) ?_
 refine d_val1 0 rfl rfl (by kernel_rfl) (fun j hj => by have h : 7 < j := (Nat.lt_of_lt_of_le (by decide : 7 < 8) hj); simp; omega) .none rfl (p_field Try.underlying85 rfl sz31 rfl) ?_
 refine d_val1 1 rfl rfl (by kernel_rfl) (fun j hj => by have h : 7 < j := (Nat.lt_of_lt_of_le (by decide : 7 < 8) hj); simp; omega) .none rfl (p_ld (k := 2) Try.underlying31 rfl rfl rfl (by first | exact odt rfl | omega) rfl) ?_
 refine d_val1 2 rfl rfl (by kernel_rfl) (fun j hj => by have h : 7 < j := (Nat.lt_of_lt_of_le (by decide : 7 < 8) hj); simp; omega) .none rfl (p_ldw (k := 0) Try.underlying80 rfl sz80 rfl rfl (rfl : _ = Value.agg #[_, _, _, _, _, _, _, _])) ?_
 refine d_eff 3 rfl (by kernel_rfl) (fun K_16 hKK_16 hcK_16 => ?_)
 refine r_callm (vs := [_]) .none rfl cl31 rfl (fun w hw => ih (rs.getD k d0).1 _ _ w (size_at hl (by omega) hz) (size_child hl (by omega) hsz) hc_15 hw) (fun G_17 v_20 hn_18 hr_19 => ?_)
 replace hp := fun p hm0 => (hp p hm0).mono hn_18.le
 replace hr := hr.mono hn_18.le
 replace hqs := fun p hm0 => (hqs p hm0).mono hn_18.le
 replace R_12 := R_12.mono hn_18.le
 replace hc_15 := hc_15.mono hn_18.le
 obtain ⟨u_21, rfl, u_21s⟩ := hr_19
 refine r_nil (e_d (i := 3) (brk := (fun j => [5, 6, 7].contains j)) (ph' := true) hKK_16 hcK_16 rfl (fun _ => hn_18.le) (fun _ => .keep (fun _ _ h => h) (.keep (fun _ _ h => h) (.keep (fun _ _ h => h) (.keep (fun _ _ h => h) (.keep (fun _ _ h => h) (.nil)))))) ?_)
 clear hKK_16 hcK_16 K_16
 refine d_eff 4 rfl (by kernel_rfl) (fun K_22 hKK_22 hcK_22 => ?_)
 refine r_bslice (vs := [(0, Value.agg #[_, _, _, _, _, _, _, _])]) (c := #[_, _, _, _, _, _, _, _]) .none rfl Try.underlying31 el85 rfl rfl rfl (bs85_10a8 _ _ _ _ _ _ _ _) (IsRow.lit _) (fun b_5 => ?_)
 refine r_nil (e_d (i := 4) (brk := (fun j => [5, 6, 7].contains j)) (ph' := true) hKK_22 hcK_22 rfl (fun _ => hn_18.le) (fun _ => .drop (.keep (fun _ _ h => h) (.keep (fun _ _ h => h) (.keep (fun _ _ h => h) (.keep (fun _ _ h => h) (.keep (fun _ _ h => h) (.nil))))))) ?_)
 clear hKK_22 hcK_22 K_22
 refine d_eff 5 rfl (by kernel_rfl) (fun K_23 hKK_23 hcK_23 => ?_)
 refine r_append (k := 2) (k2 := 0) .none rfl Try.underlying31 el85 rfl (by decide) rfl rfl rfl rfl rfl (one_lit rfl (all_cons rfl (all_cons rfl (all_cons rfl (all_cons rfl (all_cons rfl (all_cons rfl (all_cons rfl (all_cons (u_21s).one rfl))))))))) (by simp only [maxLen]; omega) (by omega) (fun v_24 => ?_)
 refine r_row1 (k := 2) rfl (fun o_25 => ?_)
 refine r_nil (e_d (i := 5) (brk := (fun j => [5, 6, 7].contains j)) (ph' := false) hKK_23 hcK_23 rfl (fun h => by cases h) (fun h => by cases h) ?_)
 clear hKK_23 hcK_23 K_23
 refine d_val2 6 rfl rfl (by kernel_rfl) .none rfl (fun _ => p_field Try.underlying85 rfl sz31 rfl) ?_
 refine d_eff 7 rfl (by kernel_rfl) (fun K_26 hKK_26 hcK_26 => ?_)
 refine r_st (k := 3) .none sz31 rfl rfl o_25 rfl (by first | exact odt rfl | omega) ?_
 refine r_nil (e_d (i := 7) (brk := (fun j => [5, 6, 7].contains j)) (ph' := false) hKK_26 hcK_26 rfl (fun h => by cases h) (fun h => by cases h) ?_)
 clear hKK_26 hcK_26 K_26
 refine d_nil (by kernel_rfl) ?_
 refine e_norm_block ?_
 refine e_next (c_region ?_)
 refine r_val .none rfl (p_add rfl rfl (by omega)) ?_
 refine r_val .none rfl (p_move rfl) (r_nil ?_)
 refine e_round ((k + 1, _, qs ++ [((rs.getD k d0).1, u_21)], _)) ⟨⟨by dsimp only; omega, by rw [map_take (d := d0) (by omega), List.map_append, hq]; rfl, (fun p hp' => by rcases List.mem_append.1 hp' with h | h; exact hqs p h; rw [List.mem_singleton.1 h]; exact u_21s), (hgn.trans hn_18)⟩, by dsimp only; omega⟩ rfl ⟨rfl, rfl, rfl, rfl, rfl, trivial⟩ (.drop (.drop (.keep (fun _ _ h => rowA_snoc (l := qs) (x := ((rs.getD k d0).1, u_21)) rfl rfl rfl rfl _ _ h) (.keep (fun _ _ h => box_congr (fun i hi => by match i, hi with | 0, _ => rfl | 1, _ => rfl | 2, _ => rfl | 3, _ => rfl | 4, _ => rfl | 5, _ => rfl | 6, _ => rfl | 7, _ => rfl) _ _ h) (.keep (fun _ _ h => h) (.keep (fun _ _ h => h) (.nil)))))))))
 · (
 first
 | (exfalso; omega)
 | (
 refine c_cond_f rfl (c_exit (e_exit_then (e_exit_then ?_)))
 refine e_exit_block ?_
 refine e_next (c_seq (c_region ?_))
 refine r_val .none rfl (p_ldw (k := 1) Try.underlying85 rfl sz85 rfl rfl (rfl : _ = Value.agg #[_, _, _, _, _, _, _, _])) ?_
 refine r_stw (k := 2) .none sz85 rfl rfl (IsRow.lit _) (one_lit rfl (all_cons rfl (all_cons rfl (all_cons rfl (all_cons rfl (all_cons rfl (all_cons rfl (all_cons rfl (all_cons ov rfl))))))))) rfl ?_
 refine r_nil (e_next ?_)
 refine c_ret ?_
 refine e_freeze (k := 0) rfl (fun G_27 hn_28 hs_29 => ?_)
 replace hp := fun p hm0 => (hp p hm0).mono hn_28.le
 replace hr := hr.mono hn_28.le
 replace hqs := fun p hm0 => (hqs p hm0).mono hn_28.le
 refine e_ret1 Try.results31 (.cell (k := 1) rfl Try.underlying85 rfl sz85 rfl (rfl : _ = Value.agg #[_, _, _, _, _, _, _, _]) .nil) (fun w hm => ⟨_, (hgn.trans hn_28), hm.has, ⟨_, rfl, ?_⟩, hm.since⟩)
 rw [show c.subs = qs.map Prod.fst by rw [hl, hq, List.take_of_length_le (by simp; omega)]]
 exact Tr.mk qs (SlL.of d0 (fun _ => rfl) rfl hs_29) hqs)))
 · (
 refine r_alloc .none rfl zr85 (IsRow.lit _) (fun b_6 => ?_)
 refine r_nil (e_d (i := 6) (brk := (fun _ => false)) (ph' := true) hKK_1 hcK_1 rfl (fun _ => GLe.refl _) (fun _ => .drop (.keep (fun _ _ h => h) (.keep (fun _ _ h => h) (.nil)))) ?_)
 clear hKK_1 hcK_1 K_1
 refine d_eff 4 rfl (by kernel_rfl) (fun K_30 hKK_30 hcK_30 => ?_)
 refine r_call (vs := [_]) .none rfl cl60 rfl (fun w hw => c_ref _ _ _ _ _ _ w) ?_
 refine r_nil (e_d (i := 4) (brk := (fun _ => false)) (ph' := true) hKK_30 hcK_30 rfl (fun _ => GLe.refl _) (fun _ => .drop (.keep (fun _ _ h => h) (.keep (fun _ _ h => h) (.nil)))) ?_)
 clear hKK_30 hcK_30 K_30
 refine d_val1 5 rfl rfl (by kernel_rfl) (fun _ _ => rfl) .none rfl (p_build (vs := [(0, Value.int _ _), (1, Value.agg #[_, _, _, _, _, _])]) rfl (bl85_0i1_1a6 _ _ _ _ _ _ _)) ?_
 refine d_eff 7 rfl (by kernel_rfl) (fun K_31 hKK_31 hcK_31 => ?_)
 refine r_stw (k := 0) .none sz85 rfl rfl (IsRow.lit _) (one_lit rfl rfl) rfl ?_
 refine r_nil (e_d (i := 7) (brk := (fun _ => false)) (ph' := true) hKK_31 hcK_31 rfl (fun _ => GLe.refl _) (fun _ => .drop (.keep (fun _ _ h => h) (.keep (fun _ _ h => h) (.nil)))) ?_)
 clear hKK_31 hcK_31 K_31
 refine d_nil (by kernel_rfl) ?_
 refine e_next (c_seq (c_seq (c_region ?_)))
 refine r_val .none rfl (p_field Try.underlying80 rfl sz27 rfl) ?_
 refine r_val .none rfl (p_ld (k := 2) Try.underlying27 rfl rfl rfl (by first | exact odt rfl | omega) rfl) ?_
 refine r_val .none rfl (p_leng Try.underlying27 rfl hr) ?_
 have bd_32 := (hr).bound
 refine r_val .none rfl (p_move rfl) (r_nil (e_next (c_block ?_)))
 refine c_nilrow 85 8 ?_
 refine c_name (d := 2) rfl (fun u_33 hu_33 => ?_)
 refine c_name (d := 3) rfl (fun u_34 hu_34 => ?_)
 refine c_name (d := 13) rfl (fun u_35 hu_35 => ?_)
 refine c_name (d := 14) rfl (fun u_36 hu_36 => ?_)
 refine c_nameL (k := 2) rfl (fun A_37 hA_37 => ?_)
 refine c_nameL (k := 3) rfl (fun A_38 hA_38 => ?_)
 refine c_loop (σ := Nat × Value × List (CT × Value) × Ghost) (fun s => [(15, Value.int .i64 (s.1 : Nat)), (2, u_33), (3, u_34), (13, u_35), (14, u_36)]) (fun s => [rowA (s.2.1) 85 8 (s.2.2.1).length ((s.2.2.1).flatMap rvC), box b_6 8 85 (at_ [.int .i64 c.h.k, .int .i64 (vi c.h.v0), .int .i64 c.h.n0, .int .i64 (vi c.h.v1), .int .i64 c.h.n1, .int .i64 (vi c.h.v2), .int .i64 c.h.n2, s.2.1]), A_37, A_38]) (fun s => s.2.2.2) (fun s => s.1 ≤ rs.length ∧ s.2.2.1.map Prod.fst = (rs.map Prod.fst).take s.1 ∧ (∀ p ∈ s.2.2.1, Rs s.2.2.2 p.2 p.1.subs) ∧ GNew w nX G s.2.2.2) (fun s => rs.length - s.1) ((0, _, [], _)) ⟨Nat.zero_le _, rfl, by simp, GNew.refl _ _ _⟩ rfl ⟨rfl, rfl, rfl, rfl, rfl, trivial⟩ (.keep (fun _ _ h => rowA_nil rfl _ _ h) (.keep (fun _ _ h => box_congr (fun i hi => by match i, hi with | 0, _ => rfl | 1, _ => rfl | 2, _ => rfl | 3, _ => rfl | 4, _ => rfl | 5, _ => rfl | 6, _ => rfl | 7, _ => rfl) _ _ h) (.keep (fun _ _ h => h) (.keep (fun _ _ h => h) (.nil))))) (fun s hphi => ?_)
 subst hu_33
 subst hu_34
 subst hu_35
 subst hu_36
 subst hA_37
 subst hA_38
 obtain ⟨k, v, qs, H⟩ := s
 obtain ⟨hk, hq, hqs, hgn⟩ := hphi
 dsimp only at hk hq hqs hgn ⊢
 have hql : qs.length ≤ k := (by have := congrArg List.length hq; simp at this; omega)
 refine c_row1 (k := 0) rfl (fun ov => ?_)
 refine c_rowlen (k := 0) rfl (fun l63 => ?_)
 replace hp := fun p hm0 => (hp p hm0).mono hgn.le
 replace hr := hr.mono hgn.le
 refine c_seq (c_region ?_)
 refine r_val .none rfl (p_lt rfl rfl) ?_
 refine r_nil (e_next (c_seq ?_))
 refine c_splitd (d := 16) rfl (fun h_39 => ?_) (fun h_39 => ?_)
 · (
 first
 | (exfalso; omega)
 | (
 refine c_cond_t rfl (c_skip (e_next (c_seq (c_block ?_))))
 refine c_seq (c_region ?_)
 refine r_iaddr_g .none rfl Try.underlying27 sz80 rfl hr rfl (by first | exact odt rfl | omega) (fun p_41 o_42 R_40 => ?_)
 have hc_43 := hp _ (getD_mem (i := k) (d := d0) (by omega))
 refine r_val .none rfl (p_ldga0 Try.underlying80 rfl sz80 rfl R_40 (by first | exact odt rfl | omega) (rfl : _ = Value.agg #[_, _, _, _, _, _, _, _])) ?_
 refine r_alloc .none rfl zr80 (IsRow.lit _) (fun b_7 => ?_)
 refine r_stw (k := 0) .none sz80 rfl rfl (IsRow.lit _) (one_lit rfl (all_cons rfl (all_cons rfl (all_cons rfl (all_cons rfl (all_cons rfl (all_cons rfl (all_cons rfl (all_cons (hc_43).one rfl))))))))) rfl ?_
 refine r_nil (e_next ?_)
 refine c_region_d (fun j => [5, 6, 7].contains j) _ mixed (.keep (fun _ _ h => h) (.keep (fun _ _ h => h) (.keep (fun _ _ h => h) (.keep (fun _ _ h => h) (.keep (fun _ _ h => h) (.nil)))))) ?_
 refine d_val1 0 rfl rfl (by kernel_rfl) (fun j hj => by have h : 7 < j := (Nat.lt_of_lt_of_le (by decide : 7 < 8) hj); simp; omega) .none rfl (p_field Try.underlying85 rfl sz31 rfl) ?_
 refine d_val1 1 rfl rfl (by kernel_rfl) (fun j hj => by have h : 7 < j := (Nat.lt_of_lt_of_le (by decide : 7 < 8) hj); simp; omega) .none rfl (p_ld (k := 2) Try.underlying31 rfl rfl rfl (by first | exact odt rfl | omega) rfl) ?_
 refine d_val1 2 rfl rfl (by kernel_rfl) (fun j hj => by have h : 7 < j := (Nat.lt_of_lt_of_le (by decide : 7 < 8) hj); simp; omega) .none rfl (p_ldw (k := 0) Try.underlying80 rfl sz80 rfl rfl (rfl : _ = Value.agg #[_, _, _, _, _, _, _, _])) ?_
 refine d_eff 3 rfl (by kernel_rfl) (fun K_44 hKK_44 hcK_44 => ?_)
 refine r_callm (vs := [_]) .none rfl cl31 rfl (fun w hw => ih (rs.getD k d0).1 _ _ w (size_at hl (by omega) hz) (size_child hl (by omega) hsz) hc_43 hw) (fun G_45 v_48 hn_46 hr_47 => ?_)
 replace hp := fun p hm0 => (hp p hm0).mono hn_46.le
 replace hr := hr.mono hn_46.le
 replace hqs := fun p hm0 => (hqs p hm0).mono hn_46.le
 replace R_40 := R_40.mono hn_46.le
 replace hc_43 := hc_43.mono hn_46.le
 obtain ⟨u_49, rfl, u_49s⟩ := hr_47
 refine r_nil (e_d (i := 3) (brk := (fun j => [5, 6, 7].contains j)) (ph' := true) hKK_44 hcK_44 rfl (fun _ => hn_46.le) (fun _ => .keep (fun _ _ h => h) (.keep (fun _ _ h => h) (.keep (fun _ _ h => h) (.keep (fun _ _ h => h) (.keep (fun _ _ h => h) (.nil)))))) ?_)
 clear hKK_44 hcK_44 K_44
 refine d_eff 4 rfl (by kernel_rfl) (fun K_50 hKK_50 hcK_50 => ?_)
 refine r_bslice (vs := [(0, Value.agg #[_, _, _, _, _, _, _, _])]) (c := #[_, _, _, _, _, _, _, _]) .none rfl Try.underlying31 el85 rfl rfl rfl (bs85_10a8 _ _ _ _ _ _ _ _) (IsRow.lit _) (fun b_8 => ?_)
 refine r_nil (e_d (i := 4) (brk := (fun j => [5, 6, 7].contains j)) (ph' := true) hKK_50 hcK_50 rfl (fun _ => hn_46.le) (fun _ => .drop (.keep (fun _ _ h => h) (.keep (fun _ _ h => h) (.keep (fun _ _ h => h) (.keep (fun _ _ h => h) (.keep (fun _ _ h => h) (.nil))))))) ?_)
 clear hKK_50 hcK_50 K_50
 refine d_eff 5 rfl (by kernel_rfl) (fun K_51 hKK_51 hcK_51 => ?_)
 refine r_append (k := 2) (k2 := 0) .none rfl Try.underlying31 el85 rfl (by decide) rfl rfl rfl rfl rfl (one_lit rfl (all_cons rfl (all_cons rfl (all_cons rfl (all_cons rfl (all_cons rfl (all_cons rfl (all_cons rfl (all_cons (u_49s).one rfl))))))))) (by simp only [maxLen]; omega) (by omega) (fun v_52 => ?_)
 refine r_row1 (k := 2) rfl (fun o_53 => ?_)
 refine r_nil (e_d (i := 5) (brk := (fun j => [5, 6, 7].contains j)) (ph' := false) hKK_51 hcK_51 rfl (fun h => by cases h) (fun h => by cases h) ?_)
 clear hKK_51 hcK_51 K_51
 refine d_val2 6 rfl rfl (by kernel_rfl) .none rfl (fun _ => p_field Try.underlying85 rfl sz31 rfl) ?_
 refine d_eff 7 rfl (by kernel_rfl) (fun K_54 hKK_54 hcK_54 => ?_)
 refine r_st (k := 3) .none sz31 rfl rfl o_53 rfl (by first | exact odt rfl | omega) ?_
 refine r_nil (e_d (i := 7) (brk := (fun j => [5, 6, 7].contains j)) (ph' := false) hKK_54 hcK_54 rfl (fun h => by cases h) (fun h => by cases h) ?_)
 clear hKK_54 hcK_54 K_54
 refine d_nil (by kernel_rfl) ?_
 refine e_norm_block ?_
 refine e_next (c_region ?_)
 refine r_val .none rfl (p_add rfl rfl (by omega)) ?_
 refine r_val .none rfl (p_move rfl) (r_nil ?_)
 refine e_round ((k + 1, _, qs ++ [((rs.getD k d0).1, u_49)], _)) ⟨⟨by dsimp only; omega, by rw [map_take (d := d0) (by omega), List.map_append, hq]; rfl, (fun p hp' => by rcases List.mem_append.1 hp' with h | h; exact hqs p h; rw [List.mem_singleton.1 h]; exact u_49s), (hgn.trans hn_46)⟩, by dsimp only; omega⟩ rfl ⟨rfl, rfl, rfl, rfl, rfl, trivial⟩ (.drop (.drop (.keep (fun _ _ h => rowA_snoc (l := qs) (x := ((rs.getD k d0).1, u_49)) rfl rfl rfl rfl _ _ h) (.keep (fun _ _ h => box_congr (fun i hi => by match i, hi with | 0, _ => rfl | 1, _ => rfl | 2, _ => rfl | 3, _ => rfl | 4, _ => rfl | 5, _ => rfl | 6, _ => rfl | 7, _ => rfl) _ _ h) (.keep (fun _ _ h => h) (.keep (fun _ _ h => h) (.nil)))))))))
 · (
 first
 | (exfalso; omega)
 | (
 refine c_cond_f rfl (c_exit (e_exit_then (e_exit_then ?_)))
 refine e_exit_block ?_
 refine e_next (c_seq (c_region ?_))
 refine r_val .none rfl (p_ldw (k := 1) Try.underlying85 rfl sz85 rfl rfl (rfl : _ = Value.agg #[_, _, _, _, _, _, _, _])) ?_
 refine r_stw (k := 2) .none sz85 rfl rfl (IsRow.lit _) (one_lit rfl (all_cons rfl (all_cons rfl (all_cons rfl (all_cons rfl (all_cons rfl (all_cons rfl (all_cons rfl (all_cons ov rfl))))))))) rfl ?_
 refine r_nil (e_next ?_)
 refine c_ret ?_
 refine e_freeze (k := 0) rfl (fun G_55 hn_56 hs_57 => ?_)
 replace hp := fun p hm0 => (hp p hm0).mono hn_56.le
 replace hr := hr.mono hn_56.le
 replace hqs := fun p hm0 => (hqs p hm0).mono hn_56.le
 refine e_ret1 Try.results31 (.cell (k := 1) rfl Try.underlying85 rfl sz85 rfl (rfl : _ = Value.agg #[_, _, _, _, _, _, _, _]) .nil) (fun w hm => ⟨_, (hgn.trans hn_56), hm.has, ⟨_, rfl, ?_⟩, hm.since⟩)
 rw [show c.subs = qs.map Prod.fst by rw [hl, hq, List.take_of_length_le (by simp; omega)]]
 exact Tr.mk qs (SlL.of d0 (fun _ => rfl) rfl hs_57) hqs)))
theorem c_ref4_n : ∀ n, RefIs n
 | 0 => fun c sv G w hz hsz hs hG => absurd hz (by have := size_subs c; omega)
 | n + 1 => fun c sv G w hz hsz hs hG => c_ref4_s n (c_ref4_n n) c sv hz hsz hs w hG
theorem c_ref4 (c : CT) (sv : Value) {G : Ghost} (hsz : size c ≤ 1000) (hs : Cs G sv c.subs) (w : World) (hG : Has G w) : Calls Try.prog 31 #[Value.agg #[Value.int .i64 c.h.k, Value.bool c.h.v0, Value.int .i64 c.h.n0, Value.bool c.h.v1, Value.int .i64 c.h.n1, Value.bool c.h.v2, Value.int .i64 c.h.n2, sv]] w (Ret fun r w' => ∃ G', GNew w nX G G' ∧ Has G' w' ∧ (∃ u, r = Value.agg #[Value.int .i64 c.h.k, Value.int .i64 (vi c.h.v0), Value.int .i64 c.h.n0, Value.int .i64 (vi c.h.v1), Value.int .i64 c.h.n1, Value.int .i64 (vi c.h.v2), Value.int .i64 c.h.n2, u] ∧ Rs G' u c.subs) ∧ Since nX w w') := c_ref4_n _ c sv G w (Nat.le_refl _) hsz hs hG
theorem c_rsize_s (n : Nat) (ih : RsizeIs n) (c : CT) (sv : Value)  {G : Ghost} (hz : SizeOf.sizeOf c ≤ n + 1) (hsz : size c ≤ 1000) (hs : Rs G sv c.subs) (w : World) (hG : Has G w) :
    Calls Try.prog 29 #[Value.agg #[Value.int .i64 c.h.k, Value.int .i64 (vi c.h.v0), Value.int .i64 c.h.n0, Value.int .i64 (vi c.h.v1), Value.int .i64 c.h.n1, Value.int .i64 (vi c.h.v2), Value.int .i64 c.h.n2, sv]] w (Ret fun r w' => r = Value.int .i64 (size c : Nat) ∧ Since nX w w') := by
 refine enter (args := [_]) (X := nX) (G := G) (l := [(0, Value.agg #[Value.int .i64 c.h.k, Value.int .i64 (vi c.h.v0), Value.int .i64 c.h.n0, Value.int .i64 (vi c.h.v1), Value.int .i64 c.h.n1, Value.int .i64 (vi c.h.v2), Value.int .i64 c.h.n2, sv])]) Try.func29 rfl Try.ntmps29 hG ⟨rfl, trivial⟩ (Nat.le_of_ble_eq_true rfl) ?_
 obtain ⟨rs, hr, hp, hl⟩ := hs.inv
 have hlen : c.subs.length = rs.length := by rw [hl]; simp
 have hbd := hr.bound
 refine c_seq (c_region ?_)
 refine r_box .none rfl rfl (IsRow.lit _) (fun b_1 => ?_)
 refine r_val .none rfl (p_assign rfl) (r_nil (e_next (c_seq (c_region ?_))))
 refine r_val .none rfl (p_assign rfl) (r_nil (e_next (c_seq (c_seq ?_))))
 refine c_region ?_
 refine r_val .none rfl (p_field Try.underlying85 rfl sz31 rfl) ?_
 refine r_val .none rfl (p_ld (k := 0) Try.underlying31 rfl rfl rfl (by first | exact odt rfl | omega) rfl) ?_
 refine r_val .none rfl (p_leng Try.underlying31 rfl hr) ?_
 have bd_1 := (hr).bound
 refine r_val .none rfl (p_move rfl) (r_nil (e_next (c_block ?_)))
 refine c_name (d := 2) rfl (fun u_2 hu_2 => ?_)
 refine c_name (d := 7) rfl (fun u_3 hu_3 => ?_)
 refine c_name (d := 8) rfl (fun u_4 hu_4 => ?_)
 refine c_nameL (k := 0) rfl (fun A_5 hA_5 => ?_)
 refine c_loop (σ := Nat) (fun k => [(9, Value.int .i64 (k : Nat)), (3, Value.int .i64 (1 + sizeL ((rs.map Prod.fst).take k) : Nat)), (2, u_2), (7, u_3), (8, u_4)]) (fun k => [A_5]) (fun _ => _) (fun k => k ≤ rs.length) (fun k => rs.length - k) (0) (by omega) rfl ⟨rfl, rfl, rfl, rfl, rfl, trivial⟩ (.keep (fun _ _ h => h) (.nil)) (fun k hphi => ?_)
 subst hu_2
 subst hu_3
 subst hu_4
 subst hA_5
 refine c_seq (c_region ?_)
 refine r_val .none rfl (p_lt rfl rfl) ?_
 refine r_nil (e_next (c_seq ?_))
 refine c_splitd (d := 10) rfl (fun h_6 => ?_) (fun h_6 => ?_)
 · (
 first
 | (exfalso; omega)
 | (
 refine c_cond_t rfl (c_skip (e_next (c_seq (c_block ?_))))
 refine c_seq (c_region ?_)
 refine r_iaddr_g .none rfl Try.underlying31 sz85 rfl hr rfl (by first | exact odt rfl | omega) (fun p_8 o_9 R_7 => ?_)
 have hc_10 := hp _ (getD_mem (i := k) (d := d0) (by omega))
 have hz3 := size_child (i := k) hl (by omega) hsz
 refine r_val .none rfl (p_ldga0 Try.underlying85 rfl sz85 rfl R_7 (by first | exact odt rfl | omega) (rfl : _ = Value.agg #[_, _, _, _, _, _, _, _])) ?_
 refine r_alloc .none rfl zr85 (IsRow.lit _) (fun b_2 => ?_)
 refine r_stw (k := 0) .none sz85 rfl rfl (IsRow.lit _) (one_lit rfl (all_cons rfl (all_cons rfl (all_cons rfl (all_cons rfl (all_cons rfl (all_cons rfl (all_cons rfl (all_cons (hc_10).one rfl))))))))) rfl ?_
 refine r_nil (e_next (c_region (r_val .none rfl (p_move rfl) ?_)))
 refine r_val .none rfl (p_ldw (k := 0) Try.underlying85 rfl sz85 rfl rfl (rfl : _ = Value.agg #[_, _, _, _, _, _, _, _])) ?_
 refine r_call (vs := [_]) .none rfl cl29 rfl (fun w hw => ih (rs.getD k d0).1 _ _ w (size_at hl (by omega) hz) hz3 hc_10 hw) ?_
 refine r_val .none rfl (p_add rfl rfl (by have h1 := sizeL_take_le (rs.map Prod.fst) k; have h2 := size_eq c; rw [hl] at h2; omega)) ?_
 refine r_val .none rfl (p_assign rfl) (r_nil ?_)
 refine e_norm_block ?_
 refine e_next (c_region ?_)
 refine r_val .none rfl (p_add rfl rfl (by omega)) ?_
 refine r_val .none rfl (p_move rfl) (r_nil ?_)
 refine e_round (k + 1) ⟨by omega, by omega⟩ rfl ⟨rfl, (congrArg (fun z => some (Value.int .i64 z)) (by rw [sizeL_take (by omega)]; omega)), rfl, rfl, rfl, trivial⟩ (.drop (.keep (fun _ _ h => h) (.nil)))))
 · (
 first
 | (exfalso; omega)
 | (
 refine c_cond_f rfl (c_exit (e_exit_then (e_exit_then ?_)))
 refine e_exit_block ?_
 refine e_next (c_seq (c_region (r_val .none rfl (p_move rfl) (r_val .none rfl (p_assign rfl) ?_))))
 refine r_nil (e_next ?_)
 refine c_ret ?_
 refine e_ret1 Try.results29 (.tmp rfl .nil) (fun w hm => ⟨?_, hm.since⟩)
 have hk : k = rs.length := by omega
 subst hk
 rw [size_eq, hl, List.take_of_length_le (by simp)]))
theorem c_rsize_n : ∀ n, RsizeIs n
 | 0 => fun c sv G w hz hsz hs hG => absurd hz (by have := size_subs c; omega)
 | n + 1 => fun c sv G w hz hsz hs hG => c_rsize_s n (c_rsize_n n) c sv hz hsz hs w hG
theorem c_rsize (c : CT) (sv : Value) {G : Ghost} (hsz : size c ≤ 1000) (hs : Rs G sv c.subs) (w : World) (hG : Has G w) : Calls Try.prog 29 #[Value.agg #[Value.int .i64 c.h.k, Value.int .i64 (vi c.h.v0), Value.int .i64 c.h.n0, Value.int .i64 (vi c.h.v1), Value.int .i64 c.h.n1, Value.int .i64 (vi c.h.v2), Value.int .i64 c.h.n2, sv]] w (Ret fun r w' => r = Value.int .i64 (size c : Nat) ∧ Since nX w w') := c_rsize_n _ c sv G w (Nat.le_refl _) hsz hs hG
end Go.Proofs.Ytdkfdncbldngdaa

/-
  GX: a block of the call's own stays as it is from now on, and is a slice. Generic in the program.
-/
namespace Go.Gx
open Go.RowKit

section
variable {P : Program} {ops : Array Oper} {Q : Exit → Act → World → Prop} {N : Nat} {X : Nat → Prop} {w0 : World} {G : Ghost} {l : List (Nat × Value)} {L : List Asrt}
variable {rest : List Oper}

theorem Mem.freezeB {w : World} {k n m sz b : Nat} {E : TypeId} {f : Nat → Value} (h : Mem X w0 G w L) (hL : L[k]? = some (box b n E f)) (hn : n = m * sz) (hm : m ≤ 1000) :
    ∃ G', GNew w0 X G G' ∧ SlG G' (.slice (some ⟨b, 0, none⟩) m m) m sz (fun i j => f (i * sz + j)) ∧ Mem X w0 G' w (L.eraseIdx k) := by
  obtain ⟨F, ⟨⟨c, hc, hr⟩, hF⟩, hU, hsep⟩ := h.sep.erase hL
  have hgF : F b := (hF b).2 rfl
  have hgU := hU b hgF
  refine ⟨fun b' => if b' = b then some (.cells c E (0, 0)) else G b', ⟨fun b' o e => ?_, fun b' e e' => ?_⟩, ?_, h.since, fun b' o e => ?_, hsep.mono (fun b' _ hb => ⟨hb.1.1, ?_⟩)⟩
  · have : b' ≠ b := fun e2 => by subst e2; rw [hgU.2] at e; cases e
    simp only [if_neg this]; exact e
  · by_cases e2 : b' = b
    · subst e2; exact hgU.1
    · simp only [if_neg e2] at e'; exact absurd e e'
  · refine ⟨some ⟨b, 0, none⟩, m, rfl, ⟨Nat.le_refl _, by simp only [maxLen]; omega⟩, fun _ => ⟨b, 0, rfl, fun i hi => ⟨c, E, (0, 0), by simp, fun j hj => ?_⟩⟩⟩
    have hlt : i * sz + j < n := by
      have := Nat.mul_le_mul_right sz (show i + 1 ≤ m from hi)
      rw [Nat.add_mul, Nat.one_mul] at this; omega
    rw [Nat.zero_add]
    exact hr.get _ hlt
  · by_cases e2 : b' = b
    · subst e2; simp only [if_true, Option.some.injEq] at e; subst e; exact hc
    · simp only [if_neg e2] at e; exact h.has b' o e
  · have : b' ≠ b := fun e2 => hb.2 (by rw [e2]; exact hgF)
    simp only [if_neg this]; exact hb.1.2

theorem r_freezeB {k n b E : Nat} {f : Nat → Value} (m sz : Nat) (hL : L[k]? = some (box b n E f)) (hn : n = m * sz) (hm : m ≤ 1000)
    (h : ∀ G', GNew w0 X G G' → SlG G' (.slice (some ⟨b, 0, none⟩) m m) m sz (fun i j => f (i * sz + j)) → Runs P ops Q N X w0 G' rest l (L.eraseIdx k)) : Runs P ops Q N X w0 G rest l L := by
  intro a w hS
  obtain ⟨G', h1, h2, h3⟩ := hS.mem.freezeB hL hn hm
  exact h G' h1 h2 a w ⟨hS.fr, h3⟩

/-- A call that hands back a row of its own. -/
theorem r_callrow {d : Nat} {ty : TypeId} {pos : String} {after : Array Edge} {gd : Option (Nat × Bool)} {f : FuncId} {xs : List Operand} {vs : List Value} {ats : Array TypeId} {E : TypeId} {sz n : Nat} {ys : List Value} (hw : Wt ops l gd) (hd : Nat.blt d N = true) (hf : Callable P f) (hv : evs l xs = some vs)
    (hc : ∀ w, Has G w → Calls P f vs.toArray w (Ret fun r w' => Since nX w w' ∧ ∃ F', (rowA r E sz n ys).holds w' F' ∧ ∀ b, F' b → w.heap.size ≤ b))
    (h : ∀ v, Runs P ops Q N X w0 G rest ((d, v) :: l) (rowA v E sz n ys :: L)) : Runs P ops Q N X w0 G (⟨some d, .call ⟨.value (.func f), xs.toArray, ats⟩, ty, pos, after, gd⟩ :: rest) l L := by
  refine Runs.step hw (fun a w hS => ?_)
  show Oper.upon P _ a _ Q _
  rw [run_call hS.fr hv hf, Oper.upon_enter]
  refine (hc w hS.mem.has).mono (fun e w' hR => ?_)
  cases e with
  | returned r =>
    obtain ⟨hs, F', hB, hF'⟩ := hR
    have h1 := hS.mem.call hs
    refine h r _ _ ⟨hS.fr.put (by simpa using hd) _, h1.since, h1.has, F', hB, fun b hb => ⟨.inl (Nat.le_trans hS.mem.since.size (hF' b hb)), hS.mem.has.fresh (hF' b hb)⟩, ?_⟩
    refine Sep.keep (hS.mem.sep.mono (fun b hb hu => ⟨hu, fun hf => ?_⟩)) (fun b hb _ => hs.block b hb id)
    have := hF' b hf
    omega
  | panicked c => exact hR.elim
  | outgrown => exact hR.elim
end

section
variable {P : Program} {ops : Array Oper} {brk : Nat → Bool} {G0 : Ghost} {L0 : List Asrt} {Q : Exit → Act → World → Prop} {N : Nat} {X : Nat → Prop} {w0 : World} {G : Ghost} {l : List (Nat × Value)} {L : List Asrt}
variable {d n : Nat} {listed : Array Bool} {ty : TypeId} {pos : String} {after : Array Edge} {gd : Option (Nat × Bool)} {v : Value} {T E : TypeId} {m sz : Nat} {q : IntKind} {f : Nat → Nat → Value} {x o : Operand}
/-- A part of a slice, from its beginning on, in a drawn region. -/
theorem d_slice0 (i b : Nat) (hi : ops[i]? = some ⟨some d, .slice T x none (some o) none, ty, pos, after, gd⟩) (hb : brk i = false) (hf : firstB ops brk listed i = true) (hbig : ∀ j, ops.size ≤ j → brk j = false) (hw : Wt ops l gd) (hd : Nat.blt d N = true)
    (hT : P.underlying T = some (.slice E)) (hE : SzIs P E sz) (hx : ev l x = some v) (hs : SlG G0 v m sz f) (hhi : ev l o = some (.int q (b : Nat))) (hbn : b ≤ m)
    (h : ∀ v', SlG G0 v' b sz f → DR P ops brk G0 L0 Q N X w0 G true n (listed.setIfInBounds i true) ((d, v') :: l) L) : DR P ops brk G0 L0 Q N X w0 G true (n + 1) listed l L := by
  obtain ⟨v', h1, h2⟩ := p_slice (P := P) (N := N) (X := aX) (w0 := w0) (l := l) (L := L0) (d := d) (ty := ty) (pos := pos) (after := after) (gd := gd) (q := .i64) (q' := q) (a := 0) (b := b) hT hE hx hs none (some o) rfl hhi (Nat.zero_le _) hbn
  exact d_val1 i hi hb hf hbig hw hd h2 (h v' h1.from0)
end

/-- One element in a block of its own. -/
theorem SlG.single {α : Type} {G : Ghost} {v : Value} {sz : Nat} {f : Nat → Nat → Value} {cells : α → List Value} {e : α} (a : α) (h : SlG G v 1 sz f) (hc : ∀ j, j < sz → f 0 j = at_ (cells a) j) : SlL G v sz cells e [a] := by
  refine SlG.congr h (fun i hi j hj => ?_)
  have hi' : i < 1 := hi
  obtain rfl : i = 0 := by omega
  exact hc j hj
end Go.Gx
namespace Go.Gx
open Go.RowKit
section
variable {P : Program} {ops : Array Oper} {brk : Nat → Bool} {G0 : Ghost} {L0 : List Asrt} {Q : Exit → Act → World → Prop} {N : Nat} {X : Nat → Prop} {w0 : World} {G : Ghost} {l : List (Nat × Value)} {L : List Asrt}
variable {d n : Nat} {listed : Array Bool} {ty : TypeId} {pos : String} {after : Array Edge} {gd : Option (Nat × Bool)} {v : Value} {T E : TypeId} {m sz : Nat} {q : IntKind} {f : Nat → Nat → Value} {x y : Operand}
end
end Go.Gx

/- Plain laws of steps: trees with tests; what conditions are compiled to; no program in sight. -/
namespace Go.Gx.T8
open Go.Gx Go.Gx.T3 Go.Gx.T4

abbrev TD := Int × Int × Int
def tC (t : TD) : List Value := [.int .i64 t.1, .int .i64 t.2.1, .int .i64 t.2.2]
abbrev t0 : TD := (0, 0, 0)
/-- A step but for what stands below it. -/
structure SH where
  k : Int
  k0 : Int
  k1 : Int
  k2 : Int
  ts : List TD
inductive ST where
  | mk (h : SH) (subs : List ST)
def ST.h : ST → SH | .mk h _ => h
def ST.subs : ST → List ST | .mk _ l => l
abbrev SVal := ST × Value × Value
abbrev s0 : SVal := (.mk ⟨0, 0, 0, 0, []⟩ [], .slice none 0 0, .slice none 0 0)
def sC (p : SVal) : List Value := [.int .i64 p.1.h.k, .int .i64 p.1.h.k0, .int .i64 p.1.h.k1, .int .i64 p.1.h.k2, p.2.1, p.2.2]
/-- The value v is a slice of steps. -/
inductive Ss (G : Ghost) : Value → List ST → Prop
  | mk {v : Value} (rs : List SVal) (h : SlL G v 6 sC s0 rs) (ht : ∀ p ∈ rs, SlL G p.2.1 3 tC t0 p.1.h.ts) (hs : ∀ p ∈ rs, Ss G p.2.2 p.1.subs) : Ss G v (rs.map Prod.fst)
theorem Ss.inv {G : Ghost} {v : Value} {l : List ST} (h : Ss G v l) : ∃ rs : List SVal, SlL G v 6 sC s0 rs ∧ (∀ p ∈ rs, SlL G p.2.1 3 tC t0 p.1.h.ts) ∧ (∀ p ∈ rs, Ss G p.2.2 p.1.subs) ∧ l = rs.map Prod.fst := by
  cases h with
  | mk rs h ht hs => exact ⟨rs, h, ht, hs, rfl⟩
theorem Ss.mono {G G' : Ghost} {v : Value} {l : List ST} (h : Ss G v l) (hle : GLe G G') : Ss G' v l := by
  induction h with
  | mk rs h ht _ ih => exact .mk rs (h.mono hle) (fun p hp => (ht p hp).mono hle) ih
theorem Ss.one {G : Ghost} {v : Value} {l : List ST} (h : Ss G v l) : v.oneCell' = true := by
  cases h with
  | mk rs h _ _ => exact h.one
theorem Ss.nil {G : Ghost} : Ss G (.slice none 0 0) [] := Ss.mk [] (SlG.nil _ _ _) (by simp) (by simp)

/-- A part of a slice of trees, from its beginning on. -/
theorem Tr.take {α : Type} {subs : α → List α} {cf : α × Value → List Value} {sz k : Nat} {d : α × Value} {G : Ghost} {v : Value} {rs : List (α × Value)} (hk : k ≤ rs.length) (h : SlG G v k sz (fun i => at_ (cf (rs.getD i d)))) (hs : ∀ p ∈ rs, Tr subs cf sz d G p.2 (subs p.1)) : SlL G v sz cf d (rs.take k) ∧ Tr subs cf sz d G v ((rs.take k).map Prod.fst) := by
  have h1 : SlL G v sz cf d (rs.take k) := by
    unfold SlL
    rw [List.length_take, Nat.min_eq_left hk]
    refine h.congr fun i hi j _ => ?_
    simp [List.getD, hi]
  exact ⟨h1, Tr.mk _ h1 fun p hp => hs p (List.mem_of_mem_take hp)⟩

theorem rv_ones {G : Ghost} {rs : List (CT × Value)} (hp : ∀ p ∈ rs, Rs G p.2 p.1.subs) : ∀ i, i < rs.length → ∀ j, j < 8 → (at_ (rvC (rs.getD i d0)) j).oneCell' = true := by
  intro i hi j hj
  have h := (hp _ (getD_mem (d := d0) hi)).one
  match j, hj with
  | 0, _ => rfl
  | 1, _ => rfl
  | 2, _ => rfl
  | 3, _ => rfl
  | 4, _ => rfl
  | 5, _ => rfl
  | 6, _ => rfl
  | 7, _ => exact h

/-! ### where a variable is bound -/
def firstF (h : Hd) (v : Int) : Option Int :=
  if h.v0 = true ∧ h.n0 = v then some 0 else if h.v1 = true ∧ h.n1 = v then some 1 else if h.v2 = true ∧ h.n2 = v then some 2 else none
def bound (v : Int) : List CT → Int → Option (Int × Int)
  | [], _ => none
  | c :: t, b => if c.h.k = 1 then (match firstF c.h v with | some f => some (b, f) | none => bound v t (b + 1)) else bound v t b
theorem bound_skip {v b : Int} {c : CT} {t : List CT} (h : c.h.k ≠ 1) : bound v (c :: t) b = bound v t b := by rw [bound, if_neg h]
theorem bound_next {v b : Int} {c : CT} {t : List CT} (h : c.h.k = 1) (hf : firstF c.h v = none) : bound v (c :: t) b = bound v t (b + 1) := by rw [bound, if_pos h, hf]
theorem bound_here {v b f : Int} {c : CT} {t : List CT} (h : c.h.k = 1) (hf : firstF c.h v = some f) : bound v (c :: t) b = some (b, f) := by rw [bound, if_pos h, hf]
theorem firstF_at {h : Hd} {v : Int} (f : Int) (e : (f = 0 ∧ vi h.v0 = 1 ∧ h.n0 = v) ∨ (f = 1 ∧ ¬ (vi h.v0 = 1 ∧ h.n0 = v) ∧ vi h.v1 = 1 ∧ h.n1 = v) ∨ (f = 2 ∧ ¬ (vi h.v0 = 1 ∧ h.n0 = v) ∧ ¬ (vi h.v1 = 1 ∧ h.n1 = v) ∧ vi h.v2 = 1 ∧ h.n2 = v)) : firstF h v = some f := by
  have b0 : vi h.v0 = 1 ↔ h.v0 = true := by cases h.v0 <;> simp [vi]
  have b1 : vi h.v1 = 1 ↔ h.v1 = true := by cases h.v1 <;> simp [vi]
  have b2 : vi h.v2 = 1 ↔ h.v2 = true := by cases h.v2 <;> simp [vi]
  rw [b0, b1, b2] at e
  unfold firstF
  rcases e with ⟨rfl, e⟩ | ⟨rfl, e1, e⟩ | ⟨rfl, e1, e2, e⟩
  · rw [if_pos e]
  · rw [if_neg e1, if_pos e]
  · rw [if_neg e1, if_neg e2, if_pos e]
theorem firstF_no {h : Hd} {v : Int} (e : ¬ (vi h.v0 = 1 ∧ h.n0 = v) ∧ ¬ (vi h.v1 = 1 ∧ h.n1 = v) ∧ ¬ (vi h.v2 = 1 ∧ h.n2 = v)) : firstF h v = none := by
  have b0 : vi h.v0 = 1 ↔ h.v0 = true := by cases h.v0 <;> simp [vi]
  have b1 : vi h.v1 = 1 ↔ h.v1 = true := by cases h.v1 <;> simp [vi]
  have b2 : vi h.v2 = 1 ↔ h.v2 = true := by cases h.v2 <;> simp [vi]
  rw [b0, b1, b2] at e
  unfold firstF
  rw [if_neg e.1, if_neg e.2.1, if_neg e.2.2]
/-! ### steps -/
def vF (h : Hd) : Nat → Bool | 0 => h.v0 | 1 => h.v1 | _ => h.v2
def nF (h : Hd) : Nat → Int | 0 => h.n0 | 1 => h.n1 | _ => h.n2
/-- Is term g what term f is? -/
def sameF (h : Hd) (g f : Nat) : Bool := decide (vF h g = vF h f) && decide (nF h g = nF h f)
/-- The first term ahead of term f, from g on, that is alike. -/
def dupF (h : Hd) (f : Nat) : Option Int := if f ≥ 1 ∧ sameF h 0 f = true then some 0 else if f ≥ 2 ∧ sameF h 1 f = true then some 1 else none
/-- The test of field f. -/
def testF (ch : List CT) (h : Hd) (f : Nat) : List TD :=
  if vF h f = true then (match bound (nF h f) ch 0 with
    | some x => [((f : Int), x.1, x.2)]
    | none => match dupF h f with | some g => [((f : Int), -1, g)] | none => []) else []
def testsTo (ch : List CT) (h : Hd) : Nat → List TD
  | 0 => []
  | f + 1 => testsTo ch h f ++ testF ch h f
theorem testsTo_succ (ch : List CT) (h : Hd) (f : Nat) : testsTo ch h (f + 1) = testsTo ch h f ++ testF ch h f := rfl
def keyTo (h : Hd) (f i : Nat) : Int := if i < f ∧ vF h i = false then nF h i else 0
mutual
def stepOf : List CT → CT → ST
  | ch, .mk h l => if h.k = 3 then .mk ⟨h.k, 0, 0, 0, []⟩ (stepsOf ch l) else .mk ⟨h.k, keyTo h 3 0, keyTo h 3 1, keyTo h 3 2, testsTo ch h 3⟩ []
def stepsOf : List CT → List CT → List ST
  | _, [] => []
  | ch, c :: t => stepOf ch c :: stepsOf (ch ++ [c]) t
end
theorem stepOf_ncc {ch : List CT} {c : CT} (h : c.h.k = 3) : stepOf ch c = .mk ⟨c.h.k, 0, 0, 0, []⟩ (stepsOf ch c.subs) := by
  cases c with | mk hd l => have h' : hd.k = 3 := h; rw [stepOf, if_pos h']; rfl
theorem stepOf_other {ch : List CT} {c : CT} (h : c.h.k ≠ 3) : stepOf ch c = .mk ⟨c.h.k, keyTo c.h 3 0, keyTo c.h 3 1, keyTo c.h 3 2, testsTo ch c.h 3⟩ [] := by
  cases c with | mk hd l => have h' : hd.k ≠ 3 := h; rw [stepOf, if_neg h']; rfl
theorem stepsOf_append (a b : List CT) : ∀ ch, stepsOf ch (a ++ b) = stepsOf ch a ++ stepsOf (ch ++ a) b := by
  induction a with
  | nil => intro ch; simp [stepsOf]
  | cons c t ih => intro ch; simp [stepsOf, ih]
theorem stepsOf_len : ∀ (l ch : List CT), (stepsOf ch l).length = l.length
  | [], _ => by simp [stepsOf]
  | c :: t, ch => by simp [stepsOf, stepsOf_len t]
theorem stepsOf_take {rs : List (CT × Value)} {k : Nat} {ch : List CT} (hk : k < rs.length) : stepsOf ch ((rs.map Prod.fst).take (k + 1)) = stepsOf ch ((rs.map Prod.fst).take k) ++ [stepOf (ch ++ (rs.map Prod.fst).take k) (rs.getD k d0).1] := by
  rw [map_take (d := d0) hk, stepsOf_append]; simp [stepsOf]
theorem testsTo_len (ch : List CT) (h : Hd) : ∀ f, (testsTo ch h f).length ≤ f
  | 0 => Nat.le_refl _
  | f + 1 => by
    have := testsTo_len ch h f
    have h2 : (testF ch h f).length ≤ 1 := by
      unfold testF; repeat' split
      all_goals simp
    rw [testsTo, List.length_append]; omega
theorem same_cs (h : Hd) (g f : Nat) : csEq [.int .i64 (vi (vF h g)), .int .i64 (nF h g)] [.int .i64 (vi (vF h f)), .int .i64 (nF h f)] = sameF h g f := by
  unfold sameF
  cases vF h g <;> cases vF h f <;> simp [csEq, cEq, vi]
theorem vF_no {h : Hd} {f : Nat} (e : vi (vF h f) = 0) : vF h f = false := by cases x : vF h f <;> simp_all [vi]
theorem vF_yes {h : Hd} {f : Nat} (e : ¬ vi (vF h f) = 0) : vF h f = true := by cases x : vF h f <;> simp_all [vi]
theorem T1 {ch : List CT} {h : Hd} {f : Nat} (hv : vF h f = false) : testF ch h f = [] := by unfold testF; rw [if_neg (by rw [hv]; decide)]
theorem T2 {ch : List CT} {h : Hd} {f : Nat} (hv : vF h f = true) (hb : (bound (nF h f) ch 0).isSome = true) : testF ch h f = [((f : Int), ((bound (nF h f) ch 0).getD (0, 0)).1, ((bound (nF h f) ch 0).getD (0, 0)).2)] := by
  unfold testF
  obtain ⟨x, hx⟩ := Option.isSome_iff_exists.1 hb
  rw [if_pos hv, hx]; rfl
theorem T3 {ch : List CT} {h : Hd} {f : Nat} {g : Int} (hv : vF h f = true) (hb : (bound (nF h f) ch 0).isSome = false) (hd : dupF h f = some g) : testF ch h f = [((f : Int), -1, g)] := by
  unfold testF
  have hn : bound (nF h f) ch 0 = none := by
    cases e : bound (nF h f) ch 0 with
    | none => rfl
    | some x => rw [e] at hb; cases hb
  rw [if_pos hv, hn, hd]
theorem T4 {ch : List CT} {h : Hd} {f : Nat} (hv : vF h f = true) (hb : (bound (nF h f) ch 0).isSome = false) (hd : dupF h f = none) : testF ch h f = [] := by
  unfold testF
  have hn : bound (nF h f) ch 0 = none := by
    cases e : bound (nF h f) ch 0 with
    | none => rfl
    | some x => rw [e] at hb; cases hb
  rw [if_pos hv, hn, hd]
theorem dup0 (h : Hd) : dupF h 0 = none := by simp [dupF]
theorem dup1_yes {h : Hd} (s : sameF h 0 1 = true) : dupF h 1 = some 0 := by simp [dupF, s]
theorem dup1_no {h : Hd} (s : sameF h 0 1 = false) : dupF h 1 = none := by simp [dupF, s]
theorem dup2_0 {h : Hd} (s : sameF h 0 2 = true) : dupF h 2 = some 0 := by simp [dupF, s]
theorem dup2_1 {h : Hd} (s : sameF h 0 2 = false) (s' : sameF h 1 2 = true) : dupF h 2 = some 1 := by simp [dupF, s, s']
theorem dup2_no {h : Hd} (s : sameF h 0 2 = false) (s' : sameF h 1 2 = false) : dupF h 2 = none := by simp [dupF, s, s']
theorem key_set {h : Hd} {f : Nat} (hv : vF h f = false) : keyTo h (f + 1) f = nF h f := by unfold keyTo; rw [if_pos ⟨by omega, hv⟩]
theorem key_not {h : Hd} {f : Nat} (hv : vF h f = true) : keyTo h (f + 1) f = 0 := by unfold keyTo; rw [if_neg (by simp [hv])]
theorem key_else {h : Hd} {f i : Nat} (hi : i ≠ f) : keyTo h (f + 1) i = keyTo h f i := by
  unfold keyTo
  by_cases e : i < f
  · have e2 : i < f + 1 := by omega
    simp [e, e2]
  · have e2 : ¬ i < f + 1 := by omega
    simp [e, e2]

/-! ### right conditions, and few -/
def fineL (l : List CT) : Bool := (small 18 (.mk h0 l) 5 0).1 && ((l.all fun c => decide (check c 1 = 0)) && decide (sizeL l ≤ 16))
theorem fineL_small {l : List CT} (h : (small 18 (.mk h0 l) 5 0).1 = false) : fineL l = false := by rw [fineL, h]; rfl
theorem fineL_bad {l : List CT} {c : CT} (hc : c ∈ l) (h : check c 1 ≠ 0) : fineL l = false := by
  rw [← Bool.not_eq_true]
  intro e
  simp only [fineL, Bool.and_eq_true, List.all_eq_true, decide_eq_true_eq] at e
  exact h (e.2.1 c hc)
theorem fineL_end {l : List CT} (h : (small 18 (.mk h0 l) 5 0).1 = true) (ha : ∀ c ∈ l, check c 1 = 0) : fineL l = decide (sizeL l ≤ 16) := by
  rw [fineL, h, List.all_eq_true.2 (fun c hc => decide_eq_true (ha c hc))]; rfl
theorem fineL_yes {l : List CT} (h : fineL l = true) : (∀ c ∈ l, check c 1 = 0) ∧ sizeL l ≤ 16 := by
  simp only [fineL, Bool.and_eq_true, List.all_eq_true, decide_eq_true_eq] at h
  exact ⟨h.2.1, h.2.2⟩
theorem fine_size {l : List CT} (h : (small 18 (.mk h0 l) 5 0).1 = true) : sizeL l ≤ 1000 := by
  have := small_le (m := 18) h
  rw [size_eq] at this
  have e : (CT.mk h0 l).subs = l := rfl
  rw [e] at this; omega
end Go.Gx.T8
namespace Go.Gx.T8
open Go.Gx Go.Gx.T3 Go.Gx.T4
theorem Tr.take2 {α : Type} {subs : α → List α} {cf : α × Value → List Value} {sz k : Nat} {d : α × Value} {G : Ghost} {v : Value} {rs : List (α × Value)} (hk : k ≤ rs.length) (h : SlG G v k sz (fun i => at_ (cf (rs.getD i d)))) (hs : ∀ p ∈ rs, Tr subs cf sz d G p.2 (subs p.1)) : Tr subs cf sz d G v ((rs.map Prod.fst).take k) := by
  rw [← List.map_take]; exact (Tr.take hk h hs).2
theorem Ss.len {G : Ghost} {v : Value} {l : List ST} (h : Ss G v l) : ∃ a cap, v = .slice a l.length cap := by
  cases h with
  | mk rs h _ _ => obtain ⟨a, c, e⟩ := SlG.len h; exact ⟨a, c, by simpa using e⟩
mutual
/-- How many steps and tests there are. -/
def ssz : ST → Nat
  | .mk h l => 1 + h.ts.length + sszL l
def sszL : List ST → Nat
  | [] => 0
  | s :: t => ssz s + sszL t
end
theorem ssz_eq (s : ST) : ssz s = 1 + s.h.ts.length + sszL s.subs := by cases s; rw [ssz]; rfl
theorem sszL_len : ∀ l : List ST, l.length ≤ sszL l
  | [] => Nat.le_refl _
  | s :: t => by have := sszL_len t; have := ssz_eq s; rw [sszL]; simp; omega
theorem sszL_mem : ∀ {l : List ST} {x : ST}, x ∈ l → ssz x ≤ sszL l
  | c :: t, x, h => by
    rw [sszL]
    rcases List.mem_cons.1 h with rfl | h
    · omega
    · have := sszL_mem h; omega
theorem sv_mem {rs : List SVal} {k : Nat} (hk : k < rs.length) : (rs.getD k s0).1 ∈ rs.map Prod.fst := List.mem_map.2 ⟨_, getD_mem hk, rfl⟩
theorem sv_take {rs : List SVal} {k : Nat} (hk : k < rs.length) : (rs.map Prod.fst).take (k + 1) = (rs.map Prod.fst).take k ++ [(rs.getD k s0).1] := by
  rw [List.take_succ_eq_append_getElem (by simpa using hk)]
  simp [List.getD, List.getElem?_eq_getElem hk]
theorem sv_at {l : List ST} {rs : List SVal} {k n : Nat} (hl : l = rs.map Prod.fst) (hk : k < rs.length) (hz : SizeOf.sizeOf l ≤ n + 1) : SizeOf.sizeOf (rs.getD k s0).1.subs ≤ n := by
  have h1 : (rs.getD k s0).1 ∈ l := by rw [hl]; exact sv_mem hk
  have h2 := List.sizeOf_lt_of_mem h1
  have h3 : SizeOf.sizeOf (rs.getD k s0).1.subs < SizeOf.sizeOf (rs.getD k s0).1 := by
    cases (rs.getD k s0).1 with
    | mk h l => simp [ST.subs]; omega
  omega
theorem ts_next {ts : List TD} {j : Nat} (hj : j < ts.length) : ts.take (j + 1) = ts.take j ++ [ts.getD j t0] := by
  rw [List.take_succ_eq_append_getElem hj]; simp [List.getD, List.getElem?_eq_getElem hj]
mutual
theorem ssz_of : ∀ (c : CT) (ch : List CT), ssz (stepOf ch c) ≤ 4 * size c
  | .mk h l, ch => by
    rw [stepOf, size]
    split
    · have := sszL_of l ch
      rw [ssz]; simp; omega
    · have := testsTo_len ch h 3
      rw [ssz, sszL]; simp; omega
theorem sszL_of : ∀ (l : List CT) (ch : List CT), sszL (stepsOf ch l) ≤ 4 * sizeL l
  | [], _ => by simp [stepsOf, sszL]
  | c :: t, ch => by
    have h1 := ssz_of c ch
    have h2 := sszL_of t (ch ++ [c])
    rw [stepsOf, sszL, sizeL]; omega
end
end Go.Gx.T8

/- Walks: what Go functions of this chapter come to, each as a function on plain data; no condition but those that each theorem names. Printed by a program of this work (gen.py). -/
namespace Go.Proofs.Ytdkfdncbldngdaa
open Go.Gx Go.Gx.T3 Go.Gx.T4 Go.Gx.T3 Go.Gx.T8 Go.Gx.T4 Go.Gx.T3
theorem sz119 : SzIs Try.prog 119 3 := by
 unfold SzIs
 kernel_rfl
theorem zr119 : ZeroIs Try.prog 119 (Value.agg #[Value.int .i64 0, Value.int .i64 0, Value.int .i64 0]) := by
 unfold ZeroIs
 kernel_rfl
theorem cl11 : Callable Try.prog 11 := callable Try.func11 (by kernel_rfl) rfl
theorem cl27 : Callable Try.prog 27 := callable Try.func27 (by kernel_rfl) rfl
theorem bl80_2s3 (x0 : Option Addr) (x1 : Nat) (x2 : Nat) : Program.built Try.prog 80 [(2, Value.slice x0 x1 x2)] = some #[Value.int .i64 0, Value.bool false, Value.int .i64 0, Value.bool false, Value.int .i64 0, Value.bool false, Value.int .i64 0, Value.slice x0 x1 x2] := by
 kernel_rfl
theorem bl119_0i1_1i1_2i1 (x0 : Int) (x1 : Int) (x2 : Int) : Program.built Try.prog 119 [(0, Value.int .i64 x0), (1, Value.int .i64 x1), (2, Value.int .i64 x2)] = some #[Value.int .i64 x0, Value.int .i64 x1, Value.int .i64 x2] := by
 kernel_rfl
theorem bl119_  : Program.built Try.prog 119 [] = some #[Value.int .i64 0, Value.int .i64 0, Value.int .i64 0] := by
 kernel_rfl
theorem c_lref (v : Value) (l : List CT) {G : Ghost} (hsz : sizeL l ≤ 1000) (hs : Cs G v l) (w : World) (hG : Has G w) :
    Calls Try.prog 11 #[v] w (Ret fun r w' => ∃ G', GNew w nX G G' ∧ Has G' w' ∧ Rs G' r l ∧ Since nX w w') := by
 refine enter (args := [_]) (X := nX) (G := G) (l := [(0, v)]) Try.func11 rfl Try.ntmps11 hG ⟨rfl, trivial⟩ (Nat.le_of_ble_eq_true rfl) ?_
 obtain ⟨rs, hr, hp, rfl⟩ := hs.inv
 have hbd := hr.bound
 have hll := sizeL_len (rs.map Prod.fst)
 rw [List.length_map] at hll
 refine c_seq (c_region (r_val .none rfl (p_assign rfl) (r_nil (e_next ?_))))
 refine c_seq (c_region (r_val .none rfl (p_assign rfl) (r_nil (e_next ?_))))
 refine c_seq (c_seq (c_region (r_val .none rfl (p_move rfl) ?_)))
 refine r_val .none rfl (p_leng Try.underlying27 rfl hr) ?_
 have bd_1 := (hr).bound
 refine r_val .none rfl (p_move rfl) (r_nil (e_next (c_block ?_)))
 refine c_nilrow 85 8 ?_
 refine c_name (d := 2) rfl (fun u_2 hu_2 => ?_)
 refine c_name (d := 6) rfl (fun u_3 hu_3 => ?_)
 refine c_name (d := 7) rfl (fun u_4 hu_4 => ?_)
 refine c_loop (σ := Nat × Value × List (CT × Value) × Ghost) (fun s => [(8, Value.int .i64 (s.1 : Nat)), (3, s.2.1), (2, u_2), (6, u_3), (7, u_4)]) (fun s => [rowA (s.2.1) 85 8 (s.2.2.1).length ((s.2.2.1).flatMap rvC)]) (fun s => s.2.2.2) (fun s => s.1 ≤ rs.length ∧ s.2.2.1.map Prod.fst = (rs.map Prod.fst).take s.1 ∧ (∀ p ∈ s.2.2.1, Rs s.2.2.2 p.2 p.1.subs) ∧ GNew w nX G s.2.2.2) (fun s => rs.length - s.1) ((0, _, [], _)) ⟨Nat.zero_le _, rfl, by simp, GNew.refl _ _ _⟩ rfl ⟨rfl, rfl, rfl, rfl, rfl, trivial⟩ (.keep (fun _ _ h => rowA_nil rfl _ _ h) (.nil)) (fun s hphi => ?_)
 subst hu_2
 subst hu_3
 subst hu_4
 obtain ⟨k, v, qs, H⟩ := s
 obtain ⟨hk, hq, hqs, hgn⟩ := hphi
 dsimp only at hk hq hqs hgn ⊢
 have hql : qs.length ≤ k := (by have := congrArg List.length hq; simp at this; omega)
 replace hr := hr.mono hgn.le
 replace hp := fun p hm0 => (hp p hm0).mono hgn.le
 refine c_seq (c_region ?_)
 refine r_val .none rfl (p_lt rfl rfl) ?_
 refine r_nil (e_next (c_seq ?_))
 refine c_splitd (d := 9) rfl (fun h_5 => ?_) (fun h_5 => ?_)
 · (
 first
 | (exfalso; omega)
 | (
 refine c_cond_t rfl (c_skip (e_next (c_seq (c_block ?_))))
 refine c_seq (c_region ?_)
 refine r_iaddr_g .none rfl Try.underlying27 sz80 rfl hr rfl (by first | exact odt rfl | omega) (fun p_7 o_8 R_6 => ?_)
 have hc_9 := hp _ (getD_mem (i := k) (d := d0) (by omega))
 have hz3 : size (rs.getD k d0).1 ≤ 1000 := Nat.le_trans (sizeL_mem (List.mem_map.2 ⟨_, getD_mem (i := k) (d := d0) (by omega), rfl⟩)) hsz
 refine r_val .none rfl (p_ldga0 Try.underlying80 rfl sz80 rfl R_6 (by first | exact odt rfl | omega) (rfl : _ = Value.agg #[_, _, _, _, _, _, _, _])) ?_
 refine r_alloc .none rfl zr80 (IsRow.lit _) (fun b_1 => ?_)
 refine r_stw (k := 0) .none sz80 rfl rfl (IsRow.lit _) (one_lit rfl (all_cons rfl (all_cons rfl (all_cons rfl (all_cons rfl (all_cons rfl (all_cons rfl (all_cons rfl (all_cons (hc_9).one rfl))))))))) rfl ?_
 refine r_nil (e_next (c_region (r_val .none rfl (p_move rfl) ?_)))
 refine r_val .none rfl (p_ldw (k := 0) Try.underlying80 rfl sz80 rfl rfl (rfl : _ = Value.agg #[_, _, _, _, _, _, _, _])) ?_
 refine r_callm (vs := [_]) .none rfl cl31 rfl (fun w hw => c_ref4 (rs.getD k d0).1 _ hz3 hc_9 w hw) (fun G_10 v_13 hn_11 hr_12 => ?_)
 replace hr := hr.mono hn_11.le
 replace hp := fun p hm0 => (hp p hm0).mono hn_11.le
 replace hqs := fun p hm0 => (hqs p hm0).mono hn_11.le
 replace R_6 := R_6.mono hn_11.le
 replace hc_9 := hc_9.mono hn_11.le
 obtain ⟨u_14, rfl, u_14s⟩ := hr_12
 refine r_bslice (vs := [(0, Value.agg #[_, _, _, _, _, _, _, _])]) (c := #[_, _, _, _, _, _, _, _]) .none rfl Try.underlying31 el85 rfl rfl rfl (bs85_10a8 _ _ _ _ _ _ _ _) (IsRow.lit _) (fun b_2 => ?_)
 refine r_append (k := 2) (k2 := 0) .none rfl Try.underlying31 el85 rfl (by decide) rfl rfl rfl rfl rfl (one_lit rfl (all_cons rfl (all_cons rfl (all_cons rfl (all_cons rfl (all_cons rfl (all_cons rfl (all_cons rfl (all_cons (u_14s).one rfl))))))))) (by simp only [maxLen]; omega) (by omega) (fun v_15 => ?_)
 refine r_row1 (k := 2) rfl (fun o_16 => ?_)
 refine r_val .none rfl (p_assign rfl) (r_nil ?_)
 refine e_norm_block ?_
 refine e_next (c_region ?_)
 refine r_val .none rfl (p_add rfl rfl (by omega)) ?_
 refine r_val .none rfl (p_move rfl) (r_nil ?_)
 refine e_round ((k + 1, _, qs ++ [((rs.getD k d0).1, u_14)], _)) ⟨⟨by dsimp only; omega, by rw [map_take (d := d0) (by omega), List.map_append, hq]; rfl, (fun p hp' => by rcases List.mem_append.1 hp' with h | h; exact hqs p h; rw [List.mem_singleton.1 h]; exact u_14s), (hgn.trans hn_11)⟩, by dsimp only; omega⟩ rfl ⟨rfl, rfl, rfl, rfl, rfl, trivial⟩ (.drop (.drop (.keep (fun _ _ h => rowA_snoc (l := qs) (x := ((rs.getD k d0).1, u_14)) rfl rfl rfl rfl _ _ h) (.nil))))))
 · (
 first
 | (exfalso; omega)
 | (
 refine c_cond_f rfl (c_exit (e_exit_then (e_exit_then ?_)))
 refine e_exit_block ?_
 refine e_next (c_seq (c_region (r_val .none rfl (p_move rfl) (r_val .none rfl (p_assign rfl) ?_))))
 refine r_nil (e_next ?_)
 refine c_ret ?_
 refine e_freeze (k := 0) rfl (fun G_17 hn_18 hs_19 => ?_)
 replace hr := hr.mono hn_18.le
 replace hp := fun p hm0 => (hp p hm0).mono hn_18.le
 replace hqs := fun p hm0 => (hqs p hm0).mono hn_18.le
 refine e_ret1 Try.results11 (.tmp rfl .nil) (fun w hm => ⟨_, (hgn.trans hn_18), hm.has, ?_, hm.since⟩)
 rw [show rs.map Prod.fst = qs.map Prod.fst by rw [hq, List.take_of_length_le (by simp; omega)]]
 exact Tr.mk qs (SlL.of d0 (fun _ => rfl) rfl hs_19) hqs))
theorem c_fine6 (v : Value) (l : List CT) {G : Ghost} (hs : Cs G v l) (w : World) (hG : Has G w) :
    Calls Try.prog 9 #[v] w (Ret fun r w' => r = Value.bool (fineL l) ∧ Since nX w w') := by
 refine enter (args := [_]) (X := nX) (G := G) (l := [(0, v)]) Try.func9 rfl Try.ntmps9 hG ⟨rfl, trivial⟩ (Nat.le_of_ble_eq_true rfl) ?_
 obtain ⟨rs, hr, hp, hl⟩ := hs.inv
 refine c_seq (c_region (r_val .none rfl (p_assign rfl) (r_nil (e_next ?_))))
 refine c_seq (c_seq (c_region (r_val .none rfl (p_move rfl) ?_)))
 obtain ⟨a_1, c_2, rfl⟩ := SlG.len hr
 refine r_val .none rfl (p_build (vs := [(2, Value.slice _ _ _)]) rfl (bl80_2s3 _ _ _)) ?_
 refine r_call (vs := [_, _]) .none rfl cl27 rfl (fun w hw => c_Small (.mk h0 l) _ 18 (by omega) hs w hw) ?_
 refine r_val .none rfl (p_not rfl) ?_
 refine r_nil (e_next ?_)
 refine c_splitn (d := 9) rfl (fun h_3 => ?_) (fun h_3 => ?_)
 · (
 first
 | (exfalso; omega)
 | (
 refine c_cond_t rfl (c_seq (c_region (r_val .none rfl (p_assign rfl) (r_nil ?_))))
 refine e_next ?_
 refine c_ret ?_
 refine e_ret_then ?_
 refine e_ret1 Try.results9 (.tmp rfl .nil) (fun w hm => ⟨?_, hm.since⟩)
 first
 | (rw [fineL_small (by assumption)]; done)
 | (rw [fineL_bad (c := (qs.getD k d0).1) (by rw [hql]; exact List.mem_map.2 ⟨_, getD_mem (i := k) (d := d0) (by omega), rfl⟩) hE]; done)
 | (have hk : k = qs.length := (by omega); rw [fineL_end (by assumption) (fun c hc => hphi.2 c (by rw [hk, List.take_of_length_le (by simp), ← hql]; exact hc)), hk, List.take_of_length_le (by simp), ← hql]; congr 1; simp; omega)))
 · (
 first
 | (exfalso; omega)
 | (
 refine c_cond_f rfl (c_skip (e_next (c_seq (c_region ?_))))
 refine r_val .none rfl (p_assign rfl) (r_nil (e_next (c_seq (c_seq ?_))))
 refine c_region (r_val .none rfl (p_move rfl) ?_)
 refine r_callm (vs := [_]) .none rfl cl11 rfl (fun w hw => c_lref _ _ (fine_size (by assumption)) hs w hw) (fun G_4 v_7 hn_5 hr_6 => ?_)
 replace hr := hr.mono hn_5.le
 replace hp := fun p hm0 => (hp p hm0).mono hn_5.le
 replace hs := hs.mono hn_5.le
 obtain ⟨qs, hq, hqp, hql⟩ := hr_6.inv
 have hsz := fine_size (by assumption)
 refine r_val .none rfl (p_leng Try.underlying31 rfl hq) ?_
 have bd_9 := (hq).bound
 refine r_val .none rfl (p_move rfl) (r_nil (e_next (c_block ?_)))
 refine c_name (d := 11) rfl (fun u_10 hu_10 => ?_)
 refine c_name (d := 12) rfl (fun u_11 hu_11 => ?_)
 refine c_loop (σ := Nat) (fun k => [(13, Value.int .i64 (k : Nat)), (3, Value.int .i64 (sizeL ((qs.map Prod.fst).take k) : Nat)), (11, u_10), (12, u_11)]) (fun k => []) (fun _ => _) (fun k => k ≤ qs.length ∧ ∀ c ∈ (qs.map Prod.fst).take k, check c 1 = 0) (fun k => qs.length - k) (0) ⟨Nat.zero_le _, by simp⟩ rfl ⟨rfl, rfl, rfl, rfl, trivial⟩ (.nil) (fun k hphi => ?_)
 subst hu_10
 subst hu_11
 refine c_seq (c_region ?_)
 refine r_val .none rfl (p_lt rfl rfl) ?_
 refine r_nil (e_next (c_seq ?_))
 refine c_splitd (d := 14) rfl (fun h_12 => ?_) (fun h_12 => ?_)
 · (
 first
 | (exfalso; omega)
 | (
 refine c_cond_t rfl (c_skip (e_next (c_seq (c_block ?_))))
 refine c_seq (c_region ?_)
 refine r_iaddr_g .none rfl Try.underlying31 sz85 rfl hq rfl (by first | exact odt rfl | omega) (fun p_14 o_15 R_13 => ?_)
 have hc_16 := hqp _ (getD_mem (i := k) (d := d0) (by omega))
 refine r_val .none rfl (p_ldga0 Try.underlying85 rfl sz85 rfl R_13 (by first | exact odt rfl | omega) (rfl : _ = Value.agg #[_, _, _, _, _, _, _, _])) ?_
 have hz4 : size (qs.getD k d0).1 ≤ 1000 := Nat.le_trans (sizeL_mem (by rw [hql]; exact List.mem_map.2 ⟨_, getD_mem (i := k) (d := d0) (by omega), rfl⟩)) hsz
 have hst := sizeL_take (rs := qs) (k := k) (by omega)
 have hst2 : sizeL ((qs.map Prod.fst).take (k + 1)) ≤ sizeL l := by rw [hql]; exact sizeL_take_le _ _
 refine r_alloc .none rfl zr85 (IsRow.lit _) (fun b_1 => ?_)
 refine r_stw (k := 0) .none sz85 rfl rfl (IsRow.lit _) (one_lit rfl (all_cons rfl (all_cons rfl (all_cons rfl (all_cons rfl (all_cons rfl (all_cons rfl (all_cons rfl (all_cons (hc_16).one rfl))))))))) rfl ?_
 refine r_nil (e_next (c_seq (c_seq (c_region ?_))))
 refine r_val .none rfl (p_ldw (k := 0) Try.underlying85 rfl sz85 rfl rfl (rfl : _ = Value.agg #[_, _, _, _, _, _, _, _])) ?_
 refine r_call (vs := [_, _]) .none rfl cl28 rfl (fun w hw => c_rcheck (qs.getD k d0).1 _ _ (by omega) hc_16 w hw) ?_
 refine r_val .none rfl (p_ne rfl rfl) ?_
 refine r_nil (e_next ?_)
 refine c_splitd (d := 19) rfl (fun h_17 => ?_) (fun h_17 => ?_)
 · (
 have hE := h_17
 first
 | (exfalso; omega)
 | (
 refine c_cond_t rfl (c_seq (c_region (r_val .none rfl (p_assign rfl) (r_nil ?_))))
 refine e_next ?_
 refine c_ret ?_
 refine e_ret_then ?_
 refine e_ret_block ?_
 refine e_ret_then ?_
 refine e_ret_then ?_
 refine e_ret_block ?_
 refine e_ret_then ?_
 refine e_ret1 Try.results9 (.tmp rfl .nil) (fun w hm => ⟨?_, hm.since⟩)
 first
 | (rw [fineL_small (by assumption)]; done)
 | (rw [fineL_bad (c := (qs.getD k d0).1) (by rw [hql]; exact List.mem_map.2 ⟨_, getD_mem (i := k) (d := d0) (by omega), rfl⟩) hE]; done)
 | (have hk : k = qs.length := (by omega); rw [fineL_end (by assumption) (fun c hc => hphi.2 c (by rw [hk, List.take_of_length_le (by simp), ← hql]; exact hc)), hk, List.take_of_length_le (by simp), ← hql]; congr 1; simp; omega)))
 · (
 have hE := Decidable.not_not.1 h_17
 first
 | (exfalso; omega)
 | (
 refine c_cond_f rfl (c_skip (e_next (c_region (r_val .none rfl (p_move rfl) ?_))))
 refine r_val .none rfl (p_ldw (k := 0) Try.underlying85 rfl sz85 rfl rfl (rfl : _ = Value.agg #[_, _, _, _, _, _, _, _])) ?_
 refine r_call (vs := [_]) .none rfl cl29 rfl (fun w hw => c_rsize (qs.getD k d0).1 _ hz4 hc_16 w hw) ?_
 refine r_val .none rfl (p_add rfl rfl (by rw [hst] at hst2; omega)) ?_
 refine r_val .none rfl (p_assign rfl) (r_nil ?_)
 refine e_norm_block ?_
 refine e_next (c_region ?_)
 refine r_val .none rfl (p_add rfl rfl (by omega)) ?_
 refine r_val .none rfl (p_move rfl) (r_nil ?_)
 refine e_round (k + 1) ⟨⟨by omega, fun c hc => by rw [map_take (d := d0) (by omega)] at hc; rcases List.mem_append.1 hc with h | h; exact hphi.2 c h; rw [List.mem_singleton.1 h]; exact hE⟩, by omega⟩ rfl ⟨rfl, (congrArg (fun z => some (Value.int .i64 z)) (by rw [hst]; omega)), rfl, rfl, trivial⟩ (.drop (.nil))))))
 · (
 first
 | (exfalso; omega)
 | (
 refine c_cond_f rfl (c_exit (e_exit_then (e_exit_then ?_)))
 refine e_exit_block ?_
 refine e_next (c_seq (c_region (r_val .none rfl (p_move rfl) ?_)))
 refine r_val .none rfl (p_le rfl rfl) ?_
 refine r_val .none rfl (p_assign rfl) (r_nil (e_next ?_))
 refine c_ret ?_
 refine e_ret1 Try.results9 (.tmp rfl .nil) (fun w hm => ⟨?_, hm.since⟩)
 first
 | (rw [fineL_small (by assumption)]; done)
 | (rw [fineL_bad (c := (qs.getD k d0).1) (by rw [hql]; exact List.mem_map.2 ⟨_, getD_mem (i := k) (d := d0) (by omega), rfl⟩) hE]; done)
 | (have hk : k = qs.length := (by omega); rw [fineL_end (by assumption) (fun c hc => hphi.2 c (by rw [hk, List.take_of_length_le (by simp), ← hql]; exact hc)), hk, List.take_of_length_le (by simp), ← hql]; congr 1; simp; omega)))))
theorem c_bound (va : Value) (l : List CT) (v : Int) {G : Ghost} (hs : Rs G va l) (w : World) (hG : Has G w) :
    Calls Try.prog 59 #[va, Value.int .i64 v] w (Ret fun r w' => r = Value.tuple #[Value.agg #[Value.int .i64 (if (bound v l 0).isSome = true then v else 0), Value.int .i64 ((bound v l 0).getD (0, 0)).1, Value.int .i64 ((bound v l 0).getD (0, 0)).2], Value.bool (bound v l 0).isSome] ∧ Since nX w w') := by
 refine enter (args := [_, _]) (X := nX) (G := G) (l := [(0, va), (1, Value.int .i64 v)]) Try.func59 rfl Try.ntmps59 hG ⟨rfl, rfl, trivial⟩ (Nat.le_of_ble_eq_true rfl) ?_
 obtain ⟨rs, hr, hp, rfl⟩ := hs.inv
 have hbd := hr.bound
 refine c_seq (c_region ?_)
 refine r_alloc .none rfl zr119 (IsRow.lit _) (fun b_1 => ?_)
 refine r_val .none rfl (p_assign rfl) (r_nil (e_next (c_seq (c_region ?_))))
 refine r_val .none rfl (p_assign rfl) (r_nil (e_next (c_seq (c_seq ?_))))
 refine c_region (r_val .none rfl (p_move rfl) ?_)
 refine r_val .none rfl (p_leng Try.underlying31 rfl hr) ?_
 have bd_1 := (hr).bound
 refine r_val .none rfl (p_move rfl) (r_nil (e_next (c_block ?_)))
 refine c_name (d := 1) rfl (fun u_2 hu_2 => ?_)
 refine c_name (d := 4) rfl (fun u_3 hu_3 => ?_)
 refine c_name (d := 10) rfl (fun u_4 hu_4 => ?_)
 refine c_name (d := 11) rfl (fun u_5 hu_5 => ?_)
 refine c_nameL (k := 0) rfl (fun A_6 hA_6 => ?_)
 refine c_loop (σ := Nat × Int) (fun s => [(12, Value.int .i64 (s.1 : Nat)), (6, Value.int .i64 s.2), (1, u_2), (4, u_3), (10, u_4), (11, u_5)]) (fun s => [A_6]) (fun _ => _) (fun s => s.1 ≤ rs.length ∧ (0 ≤ s.2 ∧ s.2 ≤ s.1) ∧ bound v ((rs.map Prod.fst).drop s.1) s.2 = bound v (rs.map Prod.fst) 0) (fun s => rs.length - s.1) ((0, 0)) ⟨Nat.zero_le _, ⟨Int.le_refl _, Int.le_refl _⟩, rfl⟩ rfl ⟨rfl, rfl, rfl, rfl, rfl, rfl, trivial⟩ (.keep (fun _ _ h => h) (.nil)) (fun s hphi => ?_)
 subst hu_2
 subst hu_3
 subst hu_4
 subst hu_5
 subst hA_6
 obtain ⟨k, b⟩ := s
 obtain ⟨hk, hb, hb3⟩ := hphi
 dsimp only at hk hb hb3 ⊢
 refine c_seq (c_region ?_)
 refine r_val .none rfl (p_lt rfl rfl) ?_
 refine r_nil (e_next (c_seq ?_))
 refine c_splitd (d := 13) rfl (fun h_7 => ?_) (fun h_7 => ?_)
 · (
 first
 | (exfalso; omega)
 | (
 refine c_cond_t rfl (c_skip (e_next (c_seq (c_block ?_))))
 refine c_seq (c_region ?_)
 refine r_iaddr_g .none rfl Try.underlying31 sz85 rfl hr rfl (by first | exact odt rfl | omega) (fun p_9 o_10 R_8 => ?_)
 have hc_11 := hp _ (getD_mem (i := k) (d := d0) (by omega))
 refine r_val .none rfl (p_ldga0 Try.underlying85 rfl sz85 rfl R_8 (by first | exact odt rfl | omega) (rfl : _ = Value.agg #[_, _, _, _, _, _, _, _])) ?_
 refine r_alloc .none rfl zr85 (IsRow.lit _) (fun b_2 => ?_)
 refine r_stw (k := 0) .none sz85 rfl rfl (IsRow.lit _) (one_lit rfl (all_cons rfl (all_cons rfl (all_cons rfl (all_cons rfl (all_cons rfl (all_cons rfl (all_cons rfl (all_cons (hc_11).one rfl))))))))) rfl ?_
 refine r_nil (e_next (c_seq (c_seq (c_region ?_))))
 refine r_val .none rfl (p_field Try.underlying85 rfl sz3 rfl) ?_
 refine r_val .none rfl (p_ld (k := 0) Try.underlying3 rfl rfl rfl (by first | exact odt rfl | omega) (rfl : _ = Value.int _ _)) ?_
 refine r_val .none rfl (p_ne rfl rfl) ?_
 refine r_nil (e_next ?_)
 refine c_splitd (d := 18) rfl (fun h_12 => ?_) (fun h_12 => ?_)
 · (
 first
 | (exfalso; omega)
 | (
 refine c_cond_t rfl (c_exit (e_exit_then ?_))
 refine e_exit_block ?_
 refine e_next (c_region ?_)
 refine r_val .none rfl (p_add rfl rfl (by omega)) ?_
 refine r_val .none rfl (p_move rfl) (r_nil ?_)
 refine e_round ((k + 1, _)) ⟨⟨by dsimp only; omega, by dsimp only; omega, by first | (rw [← hb3, map_drop (i := k) (d := d0) (by omega), bound_skip (by omega)]; done) | (rw [← hb3, map_drop (i := k) (d := d0) (by omega), bound_next (by omega) (firstF_no (by omega))]; done)⟩, by dsimp only; omega⟩ rfl ⟨rfl, rfl, rfl, rfl, rfl, rfl, trivial⟩ (.drop (.keep (fun _ _ h => h) (.nil)))))
 · (
 first
 | (exfalso; omega)
 | (
 refine c_cond_f rfl (c_skip (e_next (c_seq (c_seq ?_))))
 refine c_region (r_val .none rfl (p_assign rfl) (r_nil (e_next (c_block ?_))))
 refine c_unroll 4 ?_
 refine l_round (n := 3) ?_
 refine c_seq (c_seq (c_region (r_val .none rfl (p_move rfl) ?_)))
 refine r_val .none rfl (p_lt rfl rfl) ?_
 refine r_say (d := 20) (v := Value.bool true) rfl ?_
 refine r_nil (e_next (c_cond_t rfl (c_skip (e_next ?_))))
 refine c_seq (c_block (c_seq (c_region (r_val .none rfl (p_move rfl) ?_))))
 refine r_val .none rfl (p_field Try.underlying85 rfl sz83 rfl) ?_
 refine r_val .none rfl (p_iaddr (k := 0) Try.underlying83 sz82 rfl rfl (by first | exact odt rfl | omega)) ?_
 refine r_val .none rfl (p_field Try.underlying82 rfl sz3 rfl) ?_
 refine r_val .none rfl (p_ld (k := 0) Try.underlying3 rfl rfl rfl (by first | exact odt rfl | omega) (rfl : _ = Value.int _ _)) ?_
 refine r_val .none rfl (p_eq rfl rfl) ?_
 refine r_val .none rfl (p_move rfl) ?_
 refine' r_and (c := 29) (d := 37) [_, _, _, _, _, _, _, _] rfl (fun h_13 Q_14 hQ_15 => ?_) (fun h_13 Q_14 hQ_15 => ?_) ?_
 rotate_left 1
 · (
 replace h_13 := of_decide_eq_true h_13
 refine r_val (.some rfl rfl) rfl (p_move rfl) ?_
 refine r_val (.some rfl rfl) rfl (p_field Try.underlying85 rfl sz83 rfl) ?_
 refine r_val (.some rfl rfl) rfl (p_iaddr (k := 0) Try.underlying83 sz82 rfl rfl (by first | exact odt rfl | omega)) ?_
 refine r_val (.some rfl rfl) rfl (p_field Try.underlying82 rfl sz3 rfl) ?_
 refine r_val (.some rfl rfl) rfl (p_ld (k := 0) Try.underlying3 rfl rfl rfl (by first | exact odt rfl | omega) (rfl : _ = Value.int _ _)) ?_
 refine r_val (.some rfl rfl) rfl (p_move rfl) ?_
 refine r_val (.some rfl rfl) rfl (p_eq rfl rfl) ?_
 refine r_val .none rfl (p_pick_t rfl rfl) ?_
 refine r_nil (e_fin (d := 37) hQ_15 rfl (by repeat (first | exact .refl | refine .put rfl ?_ | refine .say rfl ?_ | refine .say2 rfl (by first | assumption | simp_all) ?_))))
 · (
 repeat (first | refine r_skip rfl (.no rfl rfl) ?_ | refine r_skip rfl (.un rfl rfl) ?_)
 refine r_val (by first | exact .none | exact .some rfl rfl) rfl (p_pick_f rfl rfl) ?_
 refine r_nil (e_fin (d := 37) hQ_15 rfl (by repeat (first | exact .refl | refine .put rfl ?_ | refine .say rfl ?_ | refine .say2 rfl (by first | assumption | simp_all) ?_))))
 refine r_nil (e_next ?_)
 refine c_split (d := 37) rfl (fun h_17 => ?_) (fun h_17 => ?_)
 · (
 try simp only [norms] at h_17
 first
 | (exfalso; omega)
 | (
 refine c_cond_t rfl (c_seq (c_region (r_val .none rfl (p_move rfl) (r_val .none rfl (p_move rfl) ?_))))
 refine r_val .none rfl (p_move rfl) ?_
 refine r_val .none rfl (p_build (vs := [(0, Value.int _ _), (1, Value.int _ _), (2, Value.int _ _)]) rfl (bl119_0i1_1i1_2i1 _ _ _)) ?_
 refine r_stw (k := 1) .none sz119 rfl rfl (IsRow.lit _) (one_lit rfl rfl) rfl ?_
 refine r_val .none rfl (p_assign rfl) (r_nil (e_next ?_))
 refine c_ret ?_
 refine e_ret_block ?_
 refine e_ret_then ?_
 refine e_ret_then ?_
 refine e_ret_block ?_
 refine e_ret_then ?_
 refine e_ret_block ?_
 refine e_ret_then ?_
 refine e_ret_then ?_
 refine e_ret_block ?_
 refine e_ret_then ?_
 refine e_retn Try.results59 (.cell (k := 1) rfl Try.underlying119 rfl sz119 rfl (rfl : _ = Value.agg #[_, _, _]) (.tmp rfl .nil)) rfl (fun w hm => ⟨?_, hm.since⟩)
 first
 | (rw [← hb3, map_drop (i := k) (d := d0) (by omega), bound_here (f := 0) (by omega) (firstF_at 0 (by omega))]; rfl)
 | (rw [← hb3, map_drop (i := k) (d := d0) (by omega), bound_here (f := 1) (by omega) (firstF_at 1 (by omega))]; rfl)
 | (rw [← hb3, map_drop (i := k) (d := d0) (by omega), bound_here (f := 2) (by omega) (firstF_at 2 (by omega))]; rfl)
 | (rw [← hb3, List.drop_eq_nil_of_le (by simp; omega)]; rfl)))
 · (
 try simp only [norms] at h_17
 first
 | (exfalso; omega)
 | (
 refine c_cond_f rfl (c_skip ?_)
 refine e_norm_block ?_
 refine e_next (c_region (r_val .none rfl (p_move rfl) ?_))
 refine r_val .none rfl (p_add rfl rfl (by omega)) ?_
 refine r_val .none rfl (p_assign rfl) (r_nil ?_)
 refine e_again ?_
 refine l_round (n := 2) ?_
 refine c_seq (c_seq (c_region (r_val .none rfl (p_move rfl) ?_)))
 refine r_val .none rfl (p_lt rfl rfl) ?_
 refine r_say (d := 20) (v := Value.bool true) rfl ?_
 refine r_nil (e_next (c_cond_t rfl (c_skip (e_next ?_))))
 refine c_seq (c_block (c_seq (c_region (r_val .none rfl (p_move rfl) ?_))))
 refine r_val .none rfl (p_field Try.underlying85 rfl sz83 rfl) ?_
 refine r_val .none rfl (p_iaddr (k := 1) Try.underlying83 sz82 rfl rfl (by first | exact odt rfl | omega)) ?_
 refine r_val .none rfl (p_field Try.underlying82 rfl sz3 rfl) ?_
 refine r_val .none rfl (p_ld (k := 0) Try.underlying3 rfl rfl rfl (by first | exact odt rfl | omega) (rfl : _ = Value.int _ _)) ?_
 refine r_val .none rfl (p_eq rfl rfl) ?_
 refine r_val .none rfl (p_move rfl) ?_
 refine r_splitd (d := 29) rfl (fun h_18 => ?_) (fun h_18 => ?_)
 · (
 first
 | (exfalso; omega)
 | (
 refine r_val (.some rfl rfl) rfl (p_move rfl) ?_
 refine r_val (.some rfl rfl) rfl (p_field Try.underlying85 rfl sz83 rfl) ?_
 refine r_val (.some rfl rfl) rfl (p_iaddr (k := 1) Try.underlying83 sz82 rfl rfl (by first | exact odt rfl | omega)) ?_
 refine r_val (.some rfl rfl) rfl (p_field Try.underlying82 rfl sz3 rfl) ?_
 refine r_val (.some rfl rfl) rfl (p_ld (k := 0) Try.underlying3 rfl rfl rfl (by first | exact odt rfl | omega) (rfl : _ = Value.int _ _)) ?_
 refine r_val (.some rfl rfl) rfl (p_move rfl) ?_
 refine r_val (.some rfl rfl) rfl (p_eq rfl rfl) ?_
 refine r_val .none rfl (p_pick_t rfl rfl) ?_
 refine r_nil (e_next ?_)
 refine c_splitd (d := 37) rfl (fun h_19 => ?_) (fun h_19 => ?_)
 · (
 first
 | (exfalso; omega)
 | (
 refine c_cond_t rfl (c_seq (c_region (r_val .none rfl (p_move rfl) (r_val .none rfl (p_move rfl) ?_))))
 refine r_val .none rfl (p_move rfl) ?_
 refine r_val .none rfl (p_build (vs := [(0, Value.int _ _), (1, Value.int _ _), (2, Value.int _ _)]) rfl (bl119_0i1_1i1_2i1 _ _ _)) ?_
 refine r_stw (k := 1) .none sz119 rfl rfl (IsRow.lit _) (one_lit rfl rfl) rfl ?_
 refine r_val .none rfl (p_assign rfl) (r_nil (e_next ?_))
 refine c_ret ?_
 refine e_ret_block ?_
 refine e_ret_then ?_
 refine e_ret_then ?_
 refine e_ret_block ?_
 refine e_ret_then ?_
 refine e_ret_block ?_
 refine e_ret_then ?_
 refine e_ret_then ?_
 refine e_ret_block ?_
 refine e_ret_then ?_
 refine e_retn Try.results59 (.cell (k := 1) rfl Try.underlying119 rfl sz119 rfl (rfl : _ = Value.agg #[_, _, _]) (.tmp rfl .nil)) rfl (fun w hm => ⟨?_, hm.since⟩)
 first
 | (rw [← hb3, map_drop (i := k) (d := d0) (by omega), bound_here (f := 0) (by omega) (firstF_at 0 (by omega))]; rfl)
 | (rw [← hb3, map_drop (i := k) (d := d0) (by omega), bound_here (f := 1) (by omega) (firstF_at 1 (by omega))]; rfl)
 | (rw [← hb3, map_drop (i := k) (d := d0) (by omega), bound_here (f := 2) (by omega) (firstF_at 2 (by omega))]; rfl)
 | (rw [← hb3, List.drop_eq_nil_of_le (by simp; omega)]; rfl)))
 · (
 first
 | (exfalso; omega)
 | (
 refine c_cond_f rfl (c_skip ?_)
 refine e_norm_block ?_
 refine e_next (c_region (r_val .none rfl (p_move rfl) ?_))
 refine r_val .none rfl (p_add rfl rfl (by omega)) ?_
 refine r_val .none rfl (p_assign rfl) (r_nil ?_)
 refine e_again ?_
 refine l_round (n := 1) ?_
 refine c_seq (c_seq (c_region (r_val .none rfl (p_move rfl) ?_)))
 refine r_val .none rfl (p_lt rfl rfl) ?_
 refine r_say (d := 20) (v := Value.bool true) rfl ?_
 refine r_nil (e_next (c_cond_t rfl (c_skip (e_next ?_))))
 refine c_seq (c_block (c_seq (c_region (r_val .none rfl (p_move rfl) ?_))))
 refine r_val .none rfl (p_field Try.underlying85 rfl sz83 rfl) ?_
 refine r_val .none rfl (p_iaddr (k := 2) Try.underlying83 sz82 rfl rfl (by first | exact odt rfl | omega)) ?_
 refine r_val .none rfl (p_field Try.underlying82 rfl sz3 rfl) ?_
 refine r_val .none rfl (p_ld (k := 0) Try.underlying3 rfl rfl rfl (by first | exact odt rfl | omega) (rfl : _ = Value.int _ _)) ?_
 refine r_val .none rfl (p_eq rfl rfl) ?_
 refine r_val .none rfl (p_move rfl) ?_
 refine r_splitd (d := 29) rfl (fun h_20 => ?_) (fun h_20 => ?_)
 · (
 first
 | (exfalso; omega)
 | (
 refine r_val (.some rfl rfl) rfl (p_move rfl) ?_
 refine r_val (.some rfl rfl) rfl (p_field Try.underlying85 rfl sz83 rfl) ?_
 refine r_val (.some rfl rfl) rfl (p_iaddr (k := 2) Try.underlying83 sz82 rfl rfl (by first | exact odt rfl | omega)) ?_
 refine r_val (.some rfl rfl) rfl (p_field Try.underlying82 rfl sz3 rfl) ?_
 refine r_val (.some rfl rfl) rfl (p_ld (k := 0) Try.underlying3 rfl rfl rfl (by first | exact odt rfl | omega) (rfl : _ = Value.int _ _)) ?_
 refine r_val (.some rfl rfl) rfl (p_move rfl) ?_
 refine r_val (.some rfl rfl) rfl (p_eq rfl rfl) ?_
 refine r_val .none rfl (p_pick_t rfl rfl) ?_
 refine r_nil (e_next ?_)
 refine c_splitd (d := 37) rfl (fun h_21 => ?_) (fun h_21 => ?_)
 · (
 first
 | (exfalso; omega)
 | (
 refine c_cond_t rfl (c_seq (c_region (r_val .none rfl (p_move rfl) (r_val .none rfl (p_move rfl) ?_))))
 refine r_val .none rfl (p_move rfl) ?_
 refine r_val .none rfl (p_build (vs := [(0, Value.int _ _), (1, Value.int _ _), (2, Value.int _ _)]) rfl (bl119_0i1_1i1_2i1 _ _ _)) ?_
 refine r_stw (k := 1) .none sz119 rfl rfl (IsRow.lit _) (one_lit rfl rfl) rfl ?_
 refine r_val .none rfl (p_assign rfl) (r_nil (e_next ?_))
 refine c_ret ?_
 refine e_ret_block ?_
 refine e_ret_then ?_
 refine e_ret_then ?_
 refine e_ret_block ?_
 refine e_ret_then ?_
 refine e_ret_block ?_
 refine e_ret_then ?_
 refine e_ret_then ?_
 refine e_ret_block ?_
 refine e_ret_then ?_
 refine e_retn Try.results59 (.cell (k := 1) rfl Try.underlying119 rfl sz119 rfl (rfl : _ = Value.agg #[_, _, _]) (.tmp rfl .nil)) rfl (fun w hm => ⟨?_, hm.since⟩)
 first
 | (rw [← hb3, map_drop (i := k) (d := d0) (by omega), bound_here (f := 0) (by omega) (firstF_at 0 (by omega))]; rfl)
 | (rw [← hb3, map_drop (i := k) (d := d0) (by omega), bound_here (f := 1) (by omega) (firstF_at 1 (by omega))]; rfl)
 | (rw [← hb3, map_drop (i := k) (d := d0) (by omega), bound_here (f := 2) (by omega) (firstF_at 2 (by omega))]; rfl)
 | (rw [← hb3, List.drop_eq_nil_of_le (by simp; omega)]; rfl)))
 · (
 first
 | (exfalso; omega)
 | (
 refine c_cond_f rfl (c_skip ?_)
 refine e_norm_block ?_
 refine e_next (c_region (r_val .none rfl (p_move rfl) ?_))
 refine r_val .none rfl (p_add rfl rfl (by omega)) ?_
 refine r_val .none rfl (p_assign rfl) (r_nil ?_)
 refine e_again ?_
 refine l_round (n := 0) ?_
 refine c_seq (c_seq (c_region (r_val .none rfl (p_move rfl) ?_)))
 refine r_val .none rfl (p_lt rfl rfl) ?_
 refine r_say (d := 20) (v := Value.bool false) rfl ?_
 refine r_nil (e_next (c_cond_f rfl (c_exit (e_exit_then ?_))))
 refine e_exit_then ?_
 refine e_exit_block ?_
 refine e_next (c_region (r_val .none rfl (p_move rfl) ?_))
 refine r_val .none rfl (p_add rfl rfl (by omega)) ?_
 refine r_val .none rfl (p_assign rfl) (r_nil ?_)
 refine e_norm_block ?_
 refine e_next (c_region ?_)
 refine r_val .none rfl (p_add rfl rfl (by omega)) ?_
 refine r_val .none rfl (p_move rfl) (r_nil ?_)
 refine e_round ((k + 1, _)) ⟨⟨by dsimp only; omega, by dsimp only; omega, by first | (rw [← hb3, map_drop (i := k) (d := d0) (by omega), bound_skip (by omega)]; done) | (rw [← hb3, map_drop (i := k) (d := d0) (by omega), bound_next (by omega) (firstF_no (by omega))]; done)⟩, by dsimp only; omega⟩ rfl ⟨rfl, rfl, rfl, rfl, rfl, rfl, trivial⟩ (.drop (.keep (fun _ _ h => h) (.nil)))))))
 · (
 first
 | (exfalso; omega)
 | (
 refine r_skip rfl (.no rfl rfl) ?_
 refine r_skip rfl (.no rfl rfl) ?_
 refine r_skip rfl (.no rfl rfl) ?_
 refine r_skip rfl (.no rfl rfl) ?_
 refine r_skip rfl (.no rfl rfl) ?_
 refine r_skip rfl (.no rfl rfl) ?_
 refine r_skip rfl (.no rfl rfl) ?_
 refine r_val .none rfl (p_pick_f rfl rfl) ?_
 refine r_nil (e_next (c_cond_f rfl (c_skip ?_)))
 refine e_norm_block ?_
 refine e_next (c_region (r_val .none rfl (p_move rfl) ?_))
 refine r_val .none rfl (p_add rfl rfl (by omega)) ?_
 refine r_val .none rfl (p_assign rfl) (r_nil ?_)
 refine e_again ?_
 refine l_round (n := 0) ?_
 refine c_seq (c_seq (c_region (r_val .none rfl (p_move rfl) ?_)))
 refine r_val .none rfl (p_lt rfl rfl) ?_
 refine r_say (d := 20) (v := Value.bool false) rfl ?_
 refine r_nil (e_next (c_cond_f rfl (c_exit (e_exit_then ?_))))
 refine e_exit_then ?_
 refine e_exit_block ?_
 refine e_next (c_region (r_val .none rfl (p_move rfl) ?_))
 refine r_val .none rfl (p_add rfl rfl (by omega)) ?_
 refine r_val .none rfl (p_assign rfl) (r_nil ?_)
 refine e_norm_block ?_
 refine e_next (c_region ?_)
 refine r_val .none rfl (p_add rfl rfl (by omega)) ?_
 refine r_val .none rfl (p_move rfl) (r_nil ?_)
 refine e_round ((k + 1, _)) ⟨⟨by dsimp only; omega, by dsimp only; omega, by first | (rw [← hb3, map_drop (i := k) (d := d0) (by omega), bound_skip (by omega)]; done) | (rw [← hb3, map_drop (i := k) (d := d0) (by omega), bound_next (by omega) (firstF_no (by omega))]; done)⟩, by dsimp only; omega⟩ rfl ⟨rfl, rfl, rfl, rfl, rfl, rfl, trivial⟩ (.drop (.keep (fun _ _ h => h) (.nil)))))))))
 · (
 first
 | (exfalso; omega)
 | (
 refine r_skip rfl (.no rfl rfl) ?_
 refine r_skip rfl (.no rfl rfl) ?_
 refine r_skip rfl (.no rfl rfl) ?_
 refine r_skip rfl (.no rfl rfl) ?_
 refine r_skip rfl (.no rfl rfl) ?_
 refine r_skip rfl (.no rfl rfl) ?_
 refine r_skip rfl (.no rfl rfl) ?_
 refine r_val .none rfl (p_pick_f rfl rfl) ?_
 refine r_nil (e_next (c_cond_f rfl (c_skip ?_)))
 refine e_norm_block ?_
 refine e_next (c_region (r_val .none rfl (p_move rfl) ?_))
 refine r_val .none rfl (p_add rfl rfl (by omega)) ?_
 refine r_val .none rfl (p_assign rfl) (r_nil ?_)
 refine e_again ?_
 refine l_round (n := 1) ?_
 refine c_seq (c_seq (c_region (r_val .none rfl (p_move rfl) ?_)))
 refine r_val .none rfl (p_lt rfl rfl) ?_
 refine r_say (d := 20) (v := Value.bool true) rfl ?_
 refine r_nil (e_next (c_cond_t rfl (c_skip (e_next ?_))))
 refine c_seq (c_block (c_seq (c_region (r_val .none rfl (p_move rfl) ?_))))
 refine r_val .none rfl (p_field Try.underlying85 rfl sz83 rfl) ?_
 refine r_val .none rfl (p_iaddr (k := 2) Try.underlying83 sz82 rfl rfl (by first | exact odt rfl | omega)) ?_
 refine r_val .none rfl (p_field Try.underlying82 rfl sz3 rfl) ?_
 refine r_val .none rfl (p_ld (k := 0) Try.underlying3 rfl rfl rfl (by first | exact odt rfl | omega) (rfl : _ = Value.int _ _)) ?_
 refine r_val .none rfl (p_eq rfl rfl) ?_
 refine r_val .none rfl (p_move rfl) ?_
 refine r_splitd (d := 29) rfl (fun h_22 => ?_) (fun h_22 => ?_)
 · (
 first
 | (exfalso; omega)
 | (
 refine r_val (.some rfl rfl) rfl (p_move rfl) ?_
 refine r_val (.some rfl rfl) rfl (p_field Try.underlying85 rfl sz83 rfl) ?_
 refine r_val (.some rfl rfl) rfl (p_iaddr (k := 2) Try.underlying83 sz82 rfl rfl (by first | exact odt rfl | omega)) ?_
 refine r_val (.some rfl rfl) rfl (p_field Try.underlying82 rfl sz3 rfl) ?_
 refine r_val (.some rfl rfl) rfl (p_ld (k := 0) Try.underlying3 rfl rfl rfl (by first | exact odt rfl | omega) (rfl : _ = Value.int _ _)) ?_
 refine r_val (.some rfl rfl) rfl (p_move rfl) ?_
 refine r_val (.some rfl rfl) rfl (p_eq rfl rfl) ?_
 refine r_val .none rfl (p_pick_t rfl rfl) ?_
 refine r_nil (e_next ?_)
 refine c_splitd (d := 37) rfl (fun h_23 => ?_) (fun h_23 => ?_)
 · (
 first
 | (exfalso; omega)
 | (
 refine c_cond_t rfl (c_seq (c_region (r_val .none rfl (p_move rfl) (r_val .none rfl (p_move rfl) ?_))))
 refine r_val .none rfl (p_move rfl) ?_
 refine r_val .none rfl (p_build (vs := [(0, Value.int _ _), (1, Value.int _ _), (2, Value.int _ _)]) rfl (bl119_0i1_1i1_2i1 _ _ _)) ?_
 refine r_stw (k := 1) .none sz119 rfl rfl (IsRow.lit _) (one_lit rfl rfl) rfl ?_
 refine r_val .none rfl (p_assign rfl) (r_nil (e_next ?_))
 refine c_ret ?_
 refine e_ret_block ?_
 refine e_ret_then ?_
 refine e_ret_then ?_
 refine e_ret_block ?_
 refine e_ret_then ?_
 refine e_ret_block ?_
 refine e_ret_then ?_
 refine e_ret_then ?_
 refine e_ret_block ?_
 refine e_ret_then ?_
 refine e_retn Try.results59 (.cell (k := 1) rfl Try.underlying119 rfl sz119 rfl (rfl : _ = Value.agg #[_, _, _]) (.tmp rfl .nil)) rfl (fun w hm => ⟨?_, hm.since⟩)
 first
 | (rw [← hb3, map_drop (i := k) (d := d0) (by omega), bound_here (f := 0) (by omega) (firstF_at 0 (by omega))]; rfl)
 | (rw [← hb3, map_drop (i := k) (d := d0) (by omega), bound_here (f := 1) (by omega) (firstF_at 1 (by omega))]; rfl)
 | (rw [← hb3, map_drop (i := k) (d := d0) (by omega), bound_here (f := 2) (by omega) (firstF_at 2 (by omega))]; rfl)
 | (rw [← hb3, List.drop_eq_nil_of_le (by simp; omega)]; rfl)))
 · (
 first
 | (exfalso; omega)
 | (
 refine c_cond_f rfl (c_skip ?_)
 refine e_norm_block ?_
 refine e_next (c_region (r_val .none rfl (p_move rfl) ?_))
 refine r_val .none rfl (p_add rfl rfl (by omega)) ?_
 refine r_val .none rfl (p_assign rfl) (r_nil ?_)
 refine e_again ?_
 refine l_round (n := 0) ?_
 refine c_seq (c_seq (c_region (r_val .none rfl (p_move rfl) ?_)))
 refine r_val .none rfl (p_lt rfl rfl) ?_
 refine r_say (d := 20) (v := Value.bool false) rfl ?_
 refine r_nil (e_next (c_cond_f rfl (c_exit (e_exit_then ?_))))
 refine e_exit_then ?_
 refine e_exit_block ?_
 refine e_next (c_region (r_val .none rfl (p_move rfl) ?_))
 refine r_val .none rfl (p_add rfl rfl (by omega)) ?_
 refine r_val .none rfl (p_assign rfl) (r_nil ?_)
 refine e_norm_block ?_
 refine e_next (c_region ?_)
 refine r_val .none rfl (p_add rfl rfl (by omega)) ?_
 refine r_val .none rfl (p_move rfl) (r_nil ?_)
 refine e_round ((k + 1, _)) ⟨⟨by dsimp only; omega, by dsimp only; omega, by first | (rw [← hb3, map_drop (i := k) (d := d0) (by omega), bound_skip (by omega)]; done) | (rw [← hb3, map_drop (i := k) (d := d0) (by omega), bound_next (by omega) (firstF_no (by omega))]; done)⟩, by dsimp only; omega⟩ rfl ⟨rfl, rfl, rfl, rfl, rfl, rfl, trivial⟩ (.drop (.keep (fun _ _ h => h) (.nil)))))))
 · (
 first
 | (exfalso; omega)
 | (
 refine r_skip rfl (.no rfl rfl) ?_
 refine r_skip rfl (.no rfl rfl) ?_
 refine r_skip rfl (.no rfl rfl) ?_
 refine r_skip rfl (.no rfl rfl) ?_
 refine r_skip rfl (.no rfl rfl) ?_
 refine r_skip rfl (.no rfl rfl) ?_
 refine r_skip rfl (.no rfl rfl) ?_
 refine r_val .none rfl (p_pick_f rfl rfl) ?_
 refine r_nil (e_next (c_cond_f rfl (c_skip ?_)))
 refine e_norm_block ?_
 refine e_next (c_region (r_val .none rfl (p_move rfl) ?_))
 refine r_val .none rfl (p_add rfl rfl (by omega)) ?_
 refine r_val .none rfl (p_assign rfl) (r_nil ?_)
 refine e_again ?_
 refine l_round (n := 0) ?_
 refine c_seq (c_seq (c_region (r_val .none rfl (p_move rfl) ?_)))
 refine r_val .none rfl (p_lt rfl rfl) ?_
 refine r_say (d := 20) (v := Value.bool false) rfl ?_
 refine r_nil (e_next (c_cond_f rfl (c_exit (e_exit_then ?_))))
 refine e_exit_then ?_
 refine e_exit_block ?_
 refine e_next (c_region (r_val .none rfl (p_move rfl) ?_))
 refine r_val .none rfl (p_add rfl rfl (by omega)) ?_
 refine r_val .none rfl (p_assign rfl) (r_nil ?_)
 refine e_norm_block ?_
 refine e_next (c_region ?_)
 refine r_val .none rfl (p_add rfl rfl (by omega)) ?_
 refine r_val .none rfl (p_move rfl) (r_nil ?_)
 refine e_round ((k + 1, _)) ⟨⟨by dsimp only; omega, by dsimp only; omega, by first | (rw [← hb3, map_drop (i := k) (d := d0) (by omega), bound_skip (by omega)]; done) | (rw [← hb3, map_drop (i := k) (d := d0) (by omega), bound_next (by omega) (firstF_no (by omega))]; done)⟩, by dsimp only; omega⟩ rfl ⟨rfl, rfl, rfl, rfl, rfl, rfl, trivial⟩ (.drop (.keep (fun _ _ h => h) (.nil)))))))))))))
 · (
 first
 | (exfalso; omega)
 | (
 refine c_cond_f rfl (c_exit (e_exit_then (e_exit_then ?_)))
 refine e_exit_block ?_
 refine e_next (c_seq (c_region ?_))
 refine r_val .none rfl (p_build (vs := []) rfl (bl119_ )) ?_
 refine r_stw (k := 0) .none sz119 rfl rfl (IsRow.lit _) (one_lit rfl rfl) rfl ?_
 refine r_val .none rfl (p_assign rfl) (r_nil (e_next ?_))
 refine c_ret ?_
 refine e_retn Try.results59 (.cell (k := 0) rfl Try.underlying119 rfl sz119 rfl (rfl : _ = Value.agg #[_, _, _]) (.tmp rfl .nil)) rfl (fun w hm => ⟨?_, hm.since⟩)
 first
 | (rw [← hb3, map_drop (i := k) (d := d0) (by omega), bound_here (f := 0) (by omega) (firstF_at 0 (by omega))]; rfl)
 | (rw [← hb3, map_drop (i := k) (d := d0) (by omega), bound_here (f := 1) (by omega) (firstF_at 1 (by omega))]; rfl)
 | (rw [← hb3, map_drop (i := k) (d := d0) (by omega), bound_here (f := 2) (by omega) (firstF_at 2 (by omega))]; rfl)
 | (rw [← hb3, List.drop_eq_nil_of_le (by simp; omega)]; rfl)))
end Go.Proofs.Ytdkfdncbldngdaa

/- Walks: what Go functions of this chapter come to, each as a function on plain data; no condition but those that each theorem names. Printed by a program of this work (gen.py). -/
namespace Go.Proofs.Ytdkfdncbldngdaa
open Go.Gx Go.Gx.T3 Go.Gx.T4 Go.Gx.T3 Go.Gx.T8 Go.Gx.T4 Go.Gx.T3
theorem sz29 : SzIs Try.prog 29 1 := by
 unfold SzIs
 kernel_rfl
theorem sz46 : SzIs Try.prog 46 3 := by
 unfold SzIs
 kernel_rfl
theorem sz88 : SzIs Try.prog 88 1 := by
 unfold SzIs
 kernel_rfl
theorem sz90 : SzIs Try.prog 90 6 := by
 unfold SzIs
 kernel_rfl
theorem zr90 : ZeroIs Try.prog 90 (Value.agg #[Value.int .i64 0, Value.int .i64 0, Value.int .i64 0, Value.int .i64 0, Value.slice none 0 0, Value.slice none 0 0]) := by
 unfold ZeroIs
 kernel_rfl
theorem lf82 : leafT Try.prog 9 82 = some [3, 3] := by
 kernel_rfl
theorem ef82 : eqT Try.prog 9 82 = true := by
 kernel_rfl
theorem eg82 : Try.prog.eqGuardType Try.prog.depth 82 = false := by
 kernel_rfl
theorem cl30 : Callable Try.prog 30 := callable Try.func30 (by kernel_rfl) rfl
theorem cl59 : Callable Try.prog 59 := callable Try.func59 (by kernel_rfl) rfl
theorem bl90_0i1 (x0 : Int) : Program.built Try.prog 90 [(0, Value.int .i64 x0)] = some #[Value.int .i64 x0, Value.int .i64 0, Value.int .i64 0, Value.int .i64 0, Value.slice none 0 0, Value.slice none 0 0] := by
 kernel_rfl
theorem bl96_0i1_1i1_2i1 (x0 : Int) (x1 : Int) (x2 : Int) : Program.built Try.prog 96 [(0, Value.int .i64 x0), (1, Value.int .i64 x1), (2, Value.int .i64 x2)] = some #[Value.int .i64 x0, Value.int .i64 x1, Value.int .i64 x2] := by
 kernel_rfl
theorem bs90_10a6 (a0 a1 a2 a3 a4 a5 : Value) : Instr.fill (fun i => some (i * 6, 6)) ((Array.range (1 * 6)).map ((Value.agg #[Value.int .i64 0, Value.int .i64 0, Value.int .i64 0, Value.int .i64 0, Value.slice none 0 0, Value.slice none 0 0]).cells[· % (Value.agg #[Value.int .i64 0, Value.int .i64 0, Value.int .i64 0, Value.int .i64 0, Value.slice none 0 0, Value.slice none 0 0]).cells.size]!)) [(0, Value.agg #[a0, a1, a2, a3, a4, a5])] = some #[a0, a1, a2, a3, a4, a5] := by
 kernel_rfl
theorem bs96_10a3 (a0 a1 a2 : Value) : Instr.fill (fun i => some (i * 3, 3)) ((Array.range (1 * 3)).map ((Value.agg #[Value.int .i64 0, Value.int .i64 0, Value.int .i64 0]).cells[· % (Value.agg #[Value.int .i64 0, Value.int .i64 0, Value.int .i64 0]).cells.size]!)) [(0, Value.agg #[a0, a1, a2])] = some #[a0, a1, a2] := by
 kernel_rfl
theorem el90 : ElemIs Try.prog 90 6 80 (Value.agg #[Value.int .i64 0, Value.int .i64 0, Value.int .i64 0, Value.int .i64 0, Value.slice none 0 0, Value.slice none 0 0]) := by
 unfold ElemIs
 kernel_rfl
theorem el96 : ElemIs Try.prog 96 3 24 (Value.agg #[Value.int .i64 0, Value.int .i64 0, Value.int .i64 0]) := by
 unfold ElemIs
 kernel_rfl
def OfIs (n : Nat) : Prop := ∀ (c : CT) (sv va : Value) (l : List CT) (G : Ghost) (w : World), SizeOf.sizeOf c ≤ n → l.length + size c ≤ 1000 → Rs G sv c.subs → Rs G va l → Has G w → Calls Try.prog 30 #[va, Value.agg #[Value.int .i64 c.h.k, Value.int .i64 (vi c.h.v0), Value.int .i64 c.h.n0, Value.int .i64 (vi c.h.v1), Value.int .i64 c.h.n1, Value.int .i64 (vi c.h.v2), Value.int .i64 c.h.n2, sv]] w (Ret fun r w' => ∃ G', GNew w nX G G' ∧ Has G' w' ∧ (∃ tv uv, r = Value.agg #[Value.int .i64 (stepOf l c).h.k, Value.int .i64 (stepOf l c).h.k0, Value.int .i64 (stepOf l c).h.k1, Value.int .i64 (stepOf l c).h.k2, tv, uv] ∧ SlL G' tv 3 tC t0 (stepOf l c).h.ts ∧ Ss G' uv (stepOf l c).subs) ∧ Since nX w w')
theorem c_of_s (n : Nat) (ih : OfIs n) (c : CT) (sv : Value) (va : Value) (l : List CT) {G : Ghost} (hz : SizeOf.sizeOf c ≤ n + 1) (hch : l.length + size c ≤ 1000) (hs : Rs G sv c.subs) (hs2 : Rs G va l) (w : World) (hG : Has G w) :
    Calls Try.prog 30 #[va, Value.agg #[Value.int .i64 c.h.k, Value.int .i64 (vi c.h.v0), Value.int .i64 c.h.n0, Value.int .i64 (vi c.h.v1), Value.int .i64 c.h.n1, Value.int .i64 (vi c.h.v2), Value.int .i64 c.h.n2, sv]] w (Ret fun r w' => ∃ G', GNew w nX G G' ∧ Has G' w' ∧ (∃ tv uv, r = Value.agg #[Value.int .i64 (stepOf l c).h.k, Value.int .i64 (stepOf l c).h.k0, Value.int .i64 (stepOf l c).h.k1, Value.int .i64 (stepOf l c).h.k2, tv, uv] ∧ SlL G' tv 3 tC t0 (stepOf l c).h.ts ∧ Ss G' uv (stepOf l c).subs) ∧ Since nX w w') := by
 refine enter (args := [_, _]) (X := nX) (G := G) (l := [(0, va), (1, Value.agg #[Value.int .i64 c.h.k, Value.int .i64 (vi c.h.v0), Value.int .i64 c.h.n0, Value.int .i64 (vi c.h.v1), Value.int .i64 c.h.n1, Value.int .i64 (vi c.h.v2), Value.int .i64 c.h.n2, sv])]) Try.func30 rfl Try.ntmps30 hG ⟨rfl, rfl, trivial⟩ (Nat.le_of_ble_eq_true rfl) ?_
 obtain ⟨rs, hr, hp, hl⟩ := hs.inv
 have hlen : c.subs.length = rs.length := by rw [hl]; simp
 have hbd := hr.bound
 have hrl := size_len hl (Nat.le_refl (size c))
 obtain ⟨rc, hrc, hpc, hlc⟩ := hs2.inv
 have hcl : l.length = rc.length := by rw [hlc]; simp
 refine c_seq (c_region ?_)
 refine r_box .none rfl rfl (IsRow.lit _) (fun b_1 => ?_)
 refine r_alloc .none rfl zr90 (IsRow.lit _) (fun b_2 => ?_)
 refine r_nil (e_next (c_seq (c_region ?_)))
 refine r_val .none rfl (p_field Try.underlying85 rfl sz3 rfl) ?_
 refine r_val .none rfl (p_ld (k := 1) Try.underlying3 rfl rfl rfl (by first | exact odt rfl | omega) (rfl : _ = Value.int _ _)) ?_
 refine r_val .none rfl (p_build (vs := [(0, Value.int _ _)]) rfl (bl90_0i1 _)) ?_
 refine r_alloc .none rfl zr90 (IsRow.lit _) (fun b_3 => ?_)
 refine r_stw (k := 0) .none sz90 rfl rfl (IsRow.lit _) (one_lit rfl rfl) rfl ?_
 refine r_nil (e_next (c_seq (c_seq (c_region ?_))))
 refine r_val .none rfl (p_field Try.underlying85 rfl sz3 rfl) ?_
 refine r_val .none rfl (p_ld (k := 2) Try.underlying3 rfl rfl rfl (by first | exact odt rfl | omega) (rfl : _ = Value.int _ _)) ?_
 refine r_val .none rfl (p_eq rfl rfl) ?_
 refine r_nil (e_next ?_)
 refine c_splitd (d := 18) rfl (fun h_1 => ?_) (fun h_1 => ?_)
 · (
 first
 | (exfalso; omega)
 | (
 refine c_cond_t rfl (c_seq (c_seq (c_region ?_)))
 refine r_val .none rfl (p_field Try.underlying85 rfl sz31 rfl) ?_
 refine r_val .none rfl (p_ld (k := 2) Try.underlying31 rfl rfl rfl (by first | exact odt rfl | omega) rfl) ?_
 refine r_val .none rfl (p_leng Try.underlying31 rfl hr) ?_
 have bd_2 := (hr).bound
 refine r_val .none rfl (p_move rfl) (r_nil (e_next (c_block ?_)))
 refine c_nilrow 90 6 ?_
 refine c_name (d := 0) rfl (fun u_3 hu_3 => ?_)
 refine c_name (d := 3) rfl (fun u_4 hu_4 => ?_)
 refine c_name (d := 4) rfl (fun u_5 hu_5 => ?_)
 refine c_name (d := 5) rfl (fun u_6 hu_6 => ?_)
 refine c_name (d := 20) rfl (fun u_7 hu_7 => ?_)
 refine c_name (d := 21) rfl (fun u_8 hu_8 => ?_)
 refine c_nameL (k := 2) rfl (fun A_9 hA_9 => ?_)
 refine c_nameL (k := 3) rfl (fun A_10 hA_10 => ?_)
 refine c_loop (σ := Nat × Value × List SVal × Ghost) (fun s => [(22, Value.int .i64 (s.1 : Nat)), (0, u_3), (3, u_4), (4, u_5), (5, u_6), (20, u_7), (21, u_8)]) (fun s => [rowA (s.2.1) 90 6 (s.2.2.1).length ((s.2.2.1).flatMap sC), box b_3 6 90 (at_ [.int .i64 c.h.k, .int .i64 0, .int .i64 0, .int .i64 0, .slice none 0 0, s.2.1]), A_9, A_10]) (fun s => s.2.2.2) (fun s => s.1 ≤ rs.length ∧ s.2.2.1.map Prod.fst = stepsOf l ((rs.map Prod.fst).take s.1) ∧ (∀ p ∈ s.2.2.1, SlL s.2.2.2 p.2.1 3 tC t0 p.1.h.ts) ∧ (∀ p ∈ s.2.2.1, Ss s.2.2.2 p.2.2 p.1.subs) ∧ GNew w nX G s.2.2.2) (fun s => rs.length - s.1) ((0, _, [], _)) ⟨Nat.zero_le _, rfl, by simp, by simp, GNew.refl _ _ _⟩ rfl ⟨rfl, rfl, rfl, rfl, rfl, rfl, rfl, trivial⟩ (.keep (fun _ _ h => rowA_nil rfl _ _ h) (.keep (fun _ _ h => box_congr (fun i hi => by match i, hi with | 0, _ => rfl | 1, _ => rfl | 2, _ => rfl | 3, _ => rfl | 4, _ => rfl | 5, _ => rfl) _ _ h) (.keep (fun _ _ h => h) (.keep (fun _ _ h => h) (.nil))))) (fun s hphi => ?_)
 subst hu_3
 subst hu_4
 subst hu_5
 subst hu_6
 subst hu_7
 subst hu_8
 subst hA_9
 subst hA_10
 obtain ⟨k, v, qs, H⟩ := s
 obtain ⟨hk, hq, hqt, hqs, hgn⟩ := hphi
 dsimp only at hk hq hqt hqs hgn ⊢
 have hql : qs.length ≤ k := (by have := congrArg List.length hq; rw [stepsOf_len] at this; simp at this; omega)
 refine c_row1 (k := 0) rfl (fun ov => ?_)
 refine c_rowlen (k := 0) rfl (fun l63 => ?_)
 replace hrc := hrc.mono hgn.le
 replace hp := fun p hm0 => (hp p hm0).mono hgn.le
 replace hr := hr.mono hgn.le
 replace hpc := fun p hm0 => (hpc p hm0).mono hgn.le
 replace hs2 := hs2.mono hgn.le
 refine c_seq (c_region ?_)
 refine r_val .none rfl (p_lt rfl rfl) ?_
 refine r_nil (e_next (c_seq ?_))
 refine c_splitd (d := 23) rfl (fun h_11 => ?_) (fun h_11 => ?_)
 · (
 first
 | (exfalso; omega)
 | (
 refine c_cond_t rfl (c_skip (e_next (c_seq (c_block ?_))))
 refine c_seq (c_region (r_val .none rfl (p_move rfl) ?_))
 refine r_iaddr_g .none rfl Try.underlying31 sz85 rfl hr rfl (by first | exact odt rfl | omega) (fun p_13 o_14 R_12 => ?_)
 have hc_15 := hp _ (getD_mem (i := k) (d := d0) (by omega))
 have hz5 : (l ++ ((rs.map Prod.fst).take k)).length + size (rs.getD k d0).1 ≤ 1000 := by have h1 := sizeL_take (rs := rs) (k := k) (by omega); have h2 := sizeL_take_le (rs.map Prod.fst) (k + 1); have h3 := sizeL_len ((rs.map Prod.fst).take k); have h4 := size_eq c; rw [hl] at h4; rw [List.length_take, List.length_map] at h3; rw [List.length_append, List.length_take, List.length_map]; omega
 refine r_val .none rfl (p_ldga0 Try.underlying85 rfl sz85 rfl R_12 (by first | exact odt rfl | omega) (rfl : _ = Value.agg #[_, _, _, _, _, _, _, _])) ?_
 refine r_alloc .none rfl zr85 (IsRow.lit _) (fun b_4 => ?_)
 refine r_val .none rfl (p_assign rfl) ?_
 refine r_stw (k := 0) .none sz85 rfl rfl (IsRow.lit _) (one_lit rfl (all_cons rfl (all_cons rfl (all_cons rfl (all_cons rfl (all_cons rfl (all_cons rfl (all_cons rfl (all_cons (hc_15).one rfl))))))))) rfl ?_
 refine r_nil (e_next (c_seq (c_region (r_val .none rfl (p_assign rfl) ?_))))
 refine r_nil (e_next (c_seq (c_region (r_val .none rfl (p_move rfl) ?_))))
 refine r_val .none rfl (p_move rfl) ?_
 refine r_nilrow 85 8 ?_
 refine r_append_g (k := 0) .none rfl Try.underlying31 el85 rfl (by decide) rfl rfl rfl hrc (rv_ones hpc) (by simp only [maxLen]; omega) (by omega) (fun v_16 => ?_)
 refine r_row1 (k := 0) rfl (fun o_17 => ?_)
 refine r_val .none rfl (p_assign rfl) (r_nil (e_next (c_seq (c_region ?_))))
 refine r_val .none rfl (p_move rfl) ?_
 refine r_val .none rfl (p_field Try.underlying85 rfl sz31 rfl) ?_
 refine r_val .none rfl (p_ld (k := 5) Try.underlying31 rfl rfl rfl (by first | exact odt rfl | omega) rfl) ?_
 refine r_val .none rfl (p_move rfl) ?_
 refine r_slice0 (k) .none rfl Try.underlying31 sz85 rfl hr rfl (by first | exact odt rfl | omega) (fun v_18 hs_19 => ?_)
 have hpt_21 := (Tr.take (by omega) hs_19 hp).1
 refine r_append_g (k := 0) .none rfl Try.underlying31 el85 rfl (by decide) rfl rfl rfl hpt_21 (rv_ones (fun p hm0 => hp p (List.mem_of_mem_take hm0))) (by rw [List.length_take]; simp only [maxLen]; omega) (by rw [List.length_take]; omega) (fun v_22 => ?_)
 refine r_row1 (k := 0) rfl (fun o_23 => ?_)
 refine r_freeze (k := 0) rfl (fun G_24 hn_25 hs_26 => ?_)
 replace hrc := hrc.mono hn_25.le
 replace hp := fun p hm0 => (hp p hm0).mono hn_25.le
 replace hr := hr.mono hn_25.le
 replace hpc := fun p hm0 => (hpc p hm0).mono hn_25.le
 replace hs2 := hs2.mono hn_25.le
 replace hqt := fun p hm0 => (hqt p hm0).mono hn_25.le
 replace hqs := fun p hm0 => (hqs p hm0).mono hn_25.le
 replace R_12 := R_12.mono hn_25.le
 replace hc_15 := hc_15.mono hn_25.le
 replace hs_19 := hs_19.mono hn_25.le
 replace hpt_21 := hpt_21.mono hn_25.le
 have hf_27 : SlL G_24 v_22 8 rvC d0 (rc ++ rs.take k) := SlL.of2 d0 (fun _ => rfl) (by simp) (by rw [List.nil_append, flat_all (cells := rvC) (fun _ => rfl), flat_all (cells := rvC) (fun _ => rfl), List.flatMap_append]) hs_26
 have hT_28 : Rs G_24 v_22 (l ++ ((rs.map Prod.fst).take k)) := by rw [hlc, ← List.map_take, ← List.map_append]; exact Tr.mk _ hf_27 (fun p hm0 => by rcases List.mem_append.1 hm0 with h | h; exact hpc p h; exact hp p (List.mem_of_mem_take h))
 refine r_val .none rfl (p_assign rfl) (r_nil (e_next ?_))
 refine c_region_d (fun j => [6, 7, 8].contains j) _ mixed (.keep (fun _ _ h => h) (.keep (fun _ _ h => h) (.keep (fun _ _ h => h) (.keep (fun _ _ h => h) (.keep (fun _ _ h => h) (.nil)))))) ?_
 refine d_val1 0 rfl rfl (by kernel_rfl) (fun j hj => by have h : 8 < j := (Nat.lt_of_lt_of_le (by decide : 8 < 9) hj); simp; omega) .none rfl (p_field Try.underlying90 rfl sz29 rfl) ?_
 refine d_val1 1 rfl rfl (by kernel_rfl) (fun j hj => by have h : 8 < j := (Nat.lt_of_lt_of_le (by decide : 8 < 9) hj); simp; omega) .none rfl (p_ld (k := 2) Try.underlying29 rfl rfl rfl (by first | exact odt rfl | omega) rfl) ?_
 refine d_val1 2 rfl rfl (by kernel_rfl) (fun j hj => by have h : 8 < j := (Nat.lt_of_lt_of_le (by decide : 8 < 9) hj); simp; omega) .none rfl (p_move rfl) ?_
 refine d_val1 3 rfl rfl (by kernel_rfl) (fun j hj => by have h : 8 < j := (Nat.lt_of_lt_of_le (by decide : 8 < 9) hj); simp; omega) .none rfl (p_ldw (k := 0) Try.underlying85 rfl sz85 rfl rfl (rfl : _ = Value.agg #[_, _, _, _, _, _, _, _])) ?_
 refine d_eff 4 rfl (by kernel_rfl) (fun K_29 hKK_29 hcK_29 => ?_)
 refine r_callm (vs := [_, _]) .none rfl cl30 rfl (fun w hw => ih (rs.getD k d0).1 _ _ _ _ w (size_at hl (by omega) hz) hz5 hc_15 hT_28 hw) (fun G_30 v_33 hn_31 hr_32 => ?_)
 replace hrc := hrc.mono hn_31.le
 replace hp := fun p hm0 => (hp p hm0).mono hn_31.le
 replace hr := hr.mono hn_31.le
 replace hpc := fun p hm0 => (hpc p hm0).mono hn_31.le
 replace hs2 := hs2.mono hn_31.le
 replace hqt := fun p hm0 => (hqt p hm0).mono hn_31.le
 replace hqs := fun p hm0 => (hqs p hm0).mono hn_31.le
 replace R_12 := R_12.mono hn_31.le
 replace hc_15 := hc_15.mono hn_31.le
 replace hs_19 := hs_19.mono hn_31.le
 replace hpt_21 := hpt_21.mono hn_31.le
 replace hT_28 := hT_28.mono hn_31.le
 obtain ⟨u_34a, u_34b, rfl, u_34s, u_34t⟩ := hr_32
 refine r_nil (e_d (i := 4) (brk := (fun j => [6, 7, 8].contains j)) (ph' := true) hKK_29 hcK_29 rfl (fun _ => hn_31.le) (fun _ => .keep (fun _ _ h => h) (.keep (fun _ _ h => h) (.keep (fun _ _ h => h) (.keep (fun _ _ h => h) (.keep (fun _ _ h => h) (.nil)))))) ?_)
 clear hKK_29 hcK_29 K_29
 refine d_eff 5 rfl (by kernel_rfl) (fun K_35 hKK_35 hcK_35 => ?_)
 refine r_bslice (vs := [(0, Value.agg #[_, _, _, _, _, _])]) (c := #[_, _, _, _, _, _]) .none rfl Try.underlying29 el90 rfl rfl rfl (bs90_10a6 _ _ _ _ _ _) (IsRow.lit _) (fun b_5 => ?_)
 refine r_nil (e_d (i := 5) (brk := (fun j => [6, 7, 8].contains j)) (ph' := true) hKK_35 hcK_35 rfl (fun _ => hn_31.le) (fun _ => .drop (.keep (fun _ _ h => h) (.keep (fun _ _ h => h) (.keep (fun _ _ h => h) (.keep (fun _ _ h => h) (.keep (fun _ _ h => h) (.nil))))))) ?_)
 clear hKK_35 hcK_35 K_35
 refine d_eff 6 rfl (by kernel_rfl) (fun K_36 hKK_36 hcK_36 => ?_)
 refine r_append (k := 2) (k2 := 0) .none rfl Try.underlying29 el90 rfl (by decide) rfl rfl rfl rfl rfl (one_lit rfl (all_cons rfl (all_cons rfl (all_cons rfl (all_cons rfl (all_cons (u_34s).one (all_cons (u_34t).one rfl))))))) (by simp only [maxLen]; omega) (by omega) (fun v_37 => ?_)
 refine r_row1 (k := 2) rfl (fun o_38 => ?_)
 refine r_nil (e_d (i := 6) (brk := (fun j => [6, 7, 8].contains j)) (ph' := false) hKK_36 hcK_36 rfl (fun h => by cases h) (fun h => by cases h) ?_)
 clear hKK_36 hcK_36 K_36
 refine d_val2 7 rfl rfl (by kernel_rfl) .none rfl (fun _ => p_field Try.underlying90 rfl sz29 rfl) ?_
 refine d_eff 8 rfl (by kernel_rfl) (fun K_39 hKK_39 hcK_39 => ?_)
 refine r_st (k := 3) .none sz29 rfl rfl o_38 rfl (by first | exact odt rfl | omega) ?_
 refine r_nil (e_d (i := 8) (brk := (fun j => [6, 7, 8].contains j)) (ph' := false) hKK_39 hcK_39 rfl (fun h => by cases h) (fun h => by cases h) ?_)
 clear hKK_39 hcK_39 K_39
 refine d_nil (by kernel_rfl) ?_
 refine e_norm_block ?_
 refine e_next (c_region ?_)
 refine r_val .none rfl (p_add rfl rfl (by omega)) ?_
 refine r_val .none rfl (p_move rfl) (r_nil ?_)
 refine e_round ((k + 1, _, qs ++ [(stepOf (l ++ ((rs.map Prod.fst).take k)) (rs.getD k d0).1, u_34a, u_34b)], _)) ⟨⟨by dsimp only; omega, by rw [stepsOf_take (by omega), List.map_append, hq]; rfl, (fun p hp' => by rcases List.mem_append.1 hp' with h | h; exact hqt p h; rw [List.mem_singleton.1 h]; exact u_34s), (fun p hp' => by rcases List.mem_append.1 hp' with h | h; exact hqs p h; rw [List.mem_singleton.1 h]; exact u_34t), ((hgn.trans hn_25).trans hn_31)⟩, by dsimp only; omega⟩ rfl ⟨rfl, rfl, rfl, rfl, rfl, rfl, rfl, trivial⟩ (.drop (.drop (.keep (fun _ _ h => rowA_snoc (l := qs) (x := (stepOf (l ++ ((rs.map Prod.fst).take k)) (rs.getD k d0).1, u_34a, u_34b)) rfl rfl rfl rfl _ _ h) (.keep (fun _ _ h => box_congr (fun i hi => by match i, hi with | 0, _ => rfl | 1, _ => rfl | 2, _ => rfl | 3, _ => rfl | 4, _ => rfl | 5, _ => rfl) _ _ h) (.keep (fun _ _ h => h) (.keep (fun _ _ h => h) (.nil)))))))))
 · (
 first
 | (exfalso; omega)
 | (
 refine c_cond_f rfl (c_exit (e_exit_then (e_exit_then ?_)))
 refine e_exit_block ?_
 refine e_next (c_seq (c_region ?_))
 refine r_val .none rfl (p_ldw (k := 1) Try.underlying90 rfl sz90 rfl rfl (rfl : _ = Value.agg #[_, _, _, _, _, _])) ?_
 refine r_stw (k := 2) .none sz90 rfl rfl (IsRow.lit _) (one_lit rfl (all_cons rfl (all_cons rfl (all_cons rfl (all_cons rfl (all_cons rfl (all_cons ov rfl))))))) rfl ?_
 refine r_nil (e_next ?_)
 refine c_ret ?_
 refine e_ret_then ?_
 refine e_freeze (k := 0) rfl (fun G_40 hn_41 hs_42 => ?_)
 replace hrc := hrc.mono hn_41.le
 replace hp := fun p hm0 => (hp p hm0).mono hn_41.le
 replace hr := hr.mono hn_41.le
 replace hpc := fun p hm0 => (hpc p hm0).mono hn_41.le
 replace hs2 := hs2.mono hn_41.le
 replace hqt := fun p hm0 => (hqt p hm0).mono hn_41.le
 replace hqs := fun p hm0 => (hqs p hm0).mono hn_41.le
 refine e_ret1 Try.results30 (.cell (k := 1) rfl Try.underlying90 rfl sz90 rfl (rfl : _ = Value.agg #[_, _, _, _, _, _]) .nil) (fun w hm => ⟨_, (hgn.trans hn_41), hm.has, ?_, hm.since⟩)
 have hk2 : k = rs.length := by omega
 rw [stepOf_ncc (by omega)]
 refine ⟨_, _, rfl, SlG.nil _ _ _, ?_⟩
 show Ss _ _ (stepsOf l c.subs)
 rw [show stepsOf l c.subs = qs.map Prod.fst by rw [hq, hl, List.take_of_length_le (by simp; omega)]]
 exact Ss.mk qs (SlL.of s0 (fun _ => rfl) rfl hs_42) hqt hqs))))
 · (
 first
 | (exfalso; omega)
 | (
 refine c_cond_f rfl (c_skip (e_next (c_seq (c_seq ?_))))
 refine c_region (r_val .none rfl (p_assign rfl) (r_nil (e_next (c_block ?_))))
 refine c_nilrow 96 3 ?_
 refine c_name (d := 0) rfl (fun u_43 hu_43 => ?_)
 refine c_name (d := 3) rfl (fun u_44 hu_44 => ?_)
 refine c_name (d := 4) rfl (fun u_45 hu_45 => ?_)
 refine c_name (d := 5) rfl (fun u_46 hu_46 => ?_)
 refine c_nameL (k := 2) rfl (fun A_47 hA_47 => ?_)
 refine c_nameL (k := 3) rfl (fun A_48 hA_48 => ?_)
 refine c_loop (σ := Nat × Value) (fun s => [(9, Value.int .i64 (s.1 : Nat)), (0, u_43), (3, u_44), (4, u_45), (5, u_46)]) (fun s => [rowA (s.2) 96 3 ((testsTo l c.h s.1)).length (((testsTo l c.h s.1)).flatMap tC), box b_3 6 90 (at_ [.int .i64 c.h.k, .int .i64 (keyTo c.h s.1 0), .int .i64 (keyTo c.h s.1 1), .int .i64 (keyTo c.h s.1 2), s.2, .slice none 0 0]), A_47, A_48]) (fun _ => _) (fun s => s.1 ≤ 3) (fun s => 3 - s.1) ((0, _)) (by omega) rfl ⟨rfl, rfl, rfl, rfl, rfl, trivial⟩ (.keep (fun _ _ h => rowA_nil rfl _ _ h) (.keep (fun _ _ h => box_congr (fun i hi => by match i, hi with | 0, _ => rfl | 1, _ => rfl | 2, _ => rfl | 3, _ => rfl | 4, _ => rfl | 5, _ => rfl) _ _ h) (.keep (fun _ _ h => h) (.keep (fun _ _ h => h) (.nil))))) (fun s hphi => ?_)
 subst hu_43
 subst hu_44
 subst hu_45
 subst hu_46
 subst hA_47
 subst hA_48
 obtain ⟨f, v⟩ := s
 dsimp only at hphi ⊢
 refine c_row1 (k := 0) rfl (fun ov => ?_)
 refine c_rowlen (k := 0) rfl (fun l63 => ?_)
 obtain rfl | rfl | rfl | rfl : f = 0 ∨ f = 1 ∨ f = 2 ∨ f = 3 := by omega
 · (
 refine c_seq (c_seq (c_region (r_val .none rfl (p_move rfl) ?_)))
 refine r_val .none rfl (p_lt rfl rfl) ?_
 refine r_say (d := 47) (v := Value.bool true) rfl ?_
 refine r_nil (e_next (c_cond_t rfl (c_skip (e_next ?_))))
 refine c_seq (c_block (c_seq (c_seq (c_region ?_))))
 refine r_val .none rfl (p_move rfl) ?_
 refine r_val .none rfl (p_field Try.underlying85 rfl sz83 rfl) ?_
 refine r_val .none rfl (p_iaddr (k := 0) Try.underlying83 sz82 rfl rfl (by first | exact odt rfl | omega)) ?_
 refine r_val .none rfl (p_field Try.underlying82 rfl sz3 rfl) ?_
 refine r_val .none rfl (p_ld (k := 3) Try.underlying3 rfl rfl rfl (by first | exact odt rfl | omega) (rfl : _ = Value.int _ _)) ?_
 refine r_val .none rfl (p_eq rfl rfl) ?_
 refine r_nil (e_next ?_)
 refine c_splitd (d := 55) rfl (fun h_49 => ?_) (fun h_49 => ?_)
 · (
 have hv : vF c.h 0 = false := vF_no h_49
 first
 | (exfalso; omega)
 | (
 refine c_cond_t rfl (c_seq (c_region (r_val .none rfl (p_move rfl) (r_val .none rfl (p_move rfl) ?_))))
 refine r_val .none rfl (p_field Try.underlying85 rfl sz83 rfl) ?_
 refine r_val .none rfl (p_iaddr (k := 0) Try.underlying83 sz82 rfl rfl (by first | exact odt rfl | omega)) ?_
 refine r_val .none rfl (p_field Try.underlying82 rfl sz3 rfl) ?_
 refine r_val .none rfl (p_ld (k := 3) Try.underlying3 rfl rfl rfl (by first | exact odt rfl | omega) (rfl : _ = Value.int _ _)) ?_
 refine r_val .none rfl (p_field Try.underlying90 rfl sz46 rfl) ?_
 refine r_val .none rfl (p_iaddr (k := 0) Try.underlying46 sz3 rfl rfl (by first | exact odt rfl | omega)) ?_
 refine r_st (k := 1) .none sz3 rfl rfl rfl rfl (by first | exact odt rfl | omega) ?_
 refine r_nil (e_next (c_exit (e_exit_then ?_)))
 refine e_exit_block ?_
 refine e_next (c_region (r_val .none rfl (p_move rfl) ?_))
 refine r_val .none rfl (p_add rfl rfl (by omega)) ?_
 refine r_val .none rfl (p_assign rfl) (r_nil ?_)
 refine e_round ((1, _)) ⟨Nat.le_of_ble_eq_true rfl, Nat.le_of_ble_eq_true rfl⟩ rfl ⟨rfl, rfl, rfl, rfl, rfl, trivial⟩ (.keep (fun _ _ h => rowA_same (by show testsTo l c.h (0 + 1) = _; rw [testsTo_succ, (by first | exact T1 (by assumption) | exact T4 (by assumption) (by assumption) (dup0 _) : testF l c.h 0 = []), List.append_nil]) _ _ h) (.keep (fun _ _ h => box_congr (fun i hi => by match i, hi with | 0, _ => rfl | 1, _ => exact (by first | exact congrArg (Value.int .i64) (key_set (h := c.h) (f := 0) (by assumption)).symm | exact congrArg (Value.int .i64) ((show keyTo c.h 0 0 = 0 by simp [keyTo]).trans (key_not (h := c.h) (f := 0) (by assumption)).symm)) | 2, _ => exact congrArg (Value.int .i64) (key_else (h := c.h) (f := 0) (i := 1) (by decide)).symm | 3, _ => exact congrArg (Value.int .i64) (key_else (h := c.h) (f := 0) (i := 2) (by decide)).symm | 4, _ => rfl | 5, _ => rfl) _ _ h) (.keep (fun _ _ h => h) (.keep (fun _ _ h => h) (.nil)))))))
 · (
 have hv : vF c.h 0 = true := vF_yes h_49
 first
 | (exfalso; omega)
 | (
 refine c_cond_f rfl (c_skip (e_next (c_seq (c_region ?_))))
 refine r_val .none rfl (p_move rfl) (r_val .none rfl (p_move rfl) ?_)
 refine r_val .none rfl (p_field Try.underlying85 rfl sz83 rfl) ?_
 refine r_val .none rfl (p_iaddr (k := 0) Try.underlying83 sz82 rfl rfl (by first | exact odt rfl | omega)) ?_
 refine r_val .none rfl (p_field Try.underlying82 rfl sz3 rfl) ?_
 refine r_val .none rfl (p_ld (k := 3) Try.underlying3 rfl rfl rfl (by first | exact odt rfl | omega) (rfl : _ = Value.int _ _)) ?_
 refine r_call (vs := [_, _]) .none rfl cl59 rfl (fun w hw => c_bound _ _ _ hs2 w hw) ?_
 refine r_val .none rfl (p_move rfl) ?_
 refine r_val .none rfl (p_extract rfl rfl) ?_
 refine r_val .none rfl (p_extract rfl rfl) ?_
 refine r_alloc .none rfl zr119 (IsRow.lit _) (fun b_6 => ?_)
 refine r_stw (k := 0) .none sz119 rfl rfl (IsRow.lit _) (one_lit rfl rfl) rfl ?_
 refine r_val .none rfl (p_assign rfl) (r_nil (e_next (c_seq (c_seq ?_))))
 refine c_region (r_val .none rfl (p_move rfl) (r_nil (e_next ?_)))
 refine c_split (d := 74) rfl (fun h_50 => ?_) (fun h_50 => ?_)
 · (
 have hb : (bound (nF c.h 0) l 0).isSome = true := h_50
 first
 | (exfalso; omega)
 | (
 refine c_cond_t rfl (c_seq (c_region ?_))
 refine r_val .none rfl (p_field Try.underlying90 rfl sz88 rfl) ?_
 refine r_val .none rfl (p_ld (k := 2) Try.underlying88 rfl rfl rfl (by first | exact odt rfl | omega) rfl) ?_
 refine r_val .none rfl (p_move rfl) ?_
 refine r_val .none rfl (p_field Try.underlying119 rfl sz3 rfl) ?_
 refine r_val .none rfl (p_ld (k := 0) Try.underlying3 rfl rfl rfl (by first | exact odt rfl | omega) (rfl : _ = Value.int _ _)) ?_
 refine r_val .none rfl (p_field Try.underlying119 rfl sz3 rfl) ?_
 refine r_val .none rfl (p_ld (k := 0) Try.underlying3 rfl rfl rfl (by first | exact odt rfl | omega) (rfl : _ = Value.int _ _)) ?_
 refine r_val .none rfl (p_build (vs := [(0, Value.int _ _), (1, Value.int _ _), (2, Value.int _ _)]) rfl (bl96_0i1_1i1_2i1 _ _ _)) ?_
 refine r_bslice (vs := [(0, Value.agg #[_, _, _])]) (c := #[_, _, _]) .none rfl Try.underlying88 el96 rfl rfl rfl (bs96_10a3 _ _ _) (IsRow.lit _) (fun b_7 => ?_)
 refine r_append (k := 2) (k2 := 0) .none rfl Try.underlying88 el96 rfl (by decide) rfl rfl rfl rfl rfl (one_lit rfl rfl) (by have q0 := testsTo_len l c.h 0; have q1 := testsTo_len l c.h 1; have q2 := testsTo_len l c.h 2; simp only [maxLen]; omega) (by have q0 := testsTo_len l c.h 0; have q1 := testsTo_len l c.h 1; have q2 := testsTo_len l c.h 2; omega) (fun v_51 => ?_)
 refine r_row1 (k := 2) rfl (fun o_52 => ?_)
 refine r_val .none rfl (p_field Try.underlying90 rfl sz88 rfl) ?_
 refine r_st (k := 3) .none sz88 rfl rfl o_52 rfl (by first | exact odt rfl | omega) ?_
 refine r_nil (e_next (c_exit (e_exit_then ?_)))
 refine e_exit_block ?_
 refine e_next (c_region (r_val .none rfl (p_move rfl) ?_))
 refine r_val .none rfl (p_add rfl rfl (by omega)) ?_
 refine r_val .none rfl (p_assign rfl) (r_nil ?_)
 refine e_round ((1, _)) ⟨Nat.le_of_ble_eq_true rfl, Nat.le_of_ble_eq_true rfl⟩ rfl ⟨rfl, rfl, rfl, rfl, rfl, trivial⟩ (.drop (.drop (.keep (fun _ _ h => rowA_snoc (x := (((0 : Nat) : Int), ((bound (nF c.h 0) l 0).getD (0, 0)).1, ((bound (nF c.h 0) l 0).getD (0, 0)).2)) (by show testsTo l c.h (0 + 1) = _; rw [testsTo_succ, T2 (by assumption) (by assumption)]) rfl rfl rfl _ _ h) (.keep (fun _ _ h => box_congr (fun i hi => by match i, hi with | 0, _ => rfl | 1, _ => exact (by first | exact congrArg (Value.int .i64) (key_set (h := c.h) (f := 0) (by assumption)).symm | exact congrArg (Value.int .i64) ((show keyTo c.h 0 0 = 0 by simp [keyTo]).trans (key_not (h := c.h) (f := 0) (by assumption)).symm)) | 2, _ => exact congrArg (Value.int .i64) (key_else (h := c.h) (f := 0) (i := 1) (by decide)).symm | 3, _ => exact congrArg (Value.int .i64) (key_else (h := c.h) (f := 0) (i := 2) (by decide)).symm | 4, _ => rfl | 5, _ => rfl) _ _ h) (.keep (fun _ _ h => h) (.keep (fun _ _ h => h) (.nil)))))))))
 · (
 have hb : (bound (nF c.h 0) l 0).isSome = false := h_50
 first
 | (exfalso; omega)
 | (
 refine c_cond_f rfl (c_skip (e_next (c_seq (c_region ?_))))
 refine r_val .none rfl (p_assign rfl) (r_nil (e_next (c_block ?_)))
 refine c_unroll 3 ?_
 refine l_round (n := 2) ?_
 refine c_seq (c_seq (c_region (r_val .none rfl (p_move rfl) (r_val .none rfl (p_move rfl) ?_))))
 refine r_val .none rfl (p_lt rfl rfl) ?_
 refine r_say (d := 88) (v := Value.bool false) rfl ?_
 refine r_nil (e_next (c_cond_f rfl (c_exit (e_exit_then ?_))))
 refine e_exit_then ?_
 refine e_exit_block ?_
 refine e_norm_block ?_
 refine e_next (c_region (r_val .none rfl (p_move rfl) ?_))
 refine r_val .none rfl (p_add rfl rfl (by omega)) ?_
 refine r_val .none rfl (p_assign rfl) (r_nil ?_)
 refine e_round ((1, _)) ⟨Nat.le_of_ble_eq_true rfl, Nat.le_of_ble_eq_true rfl⟩ rfl ⟨rfl, rfl, rfl, rfl, rfl, trivial⟩ (.drop (.keep (fun _ _ h => rowA_same (by show testsTo l c.h (0 + 1) = _; rw [testsTo_succ, (by first | exact T1 (by assumption) | exact T4 (by assumption) (by assumption) (dup0 _) : testF l c.h 0 = []), List.append_nil]) _ _ h) (.keep (fun _ _ h => box_congr (fun i hi => by match i, hi with | 0, _ => rfl | 1, _ => exact (by first | exact congrArg (Value.int .i64) (key_set (h := c.h) (f := 0) (by assumption)).symm | exact congrArg (Value.int .i64) ((show keyTo c.h 0 0 = 0 by simp [keyTo]).trans (key_not (h := c.h) (f := 0) (by assumption)).symm)) | 2, _ => exact congrArg (Value.int .i64) (key_else (h := c.h) (f := 0) (i := 1) (by decide)).symm | 3, _ => exact congrArg (Value.int .i64) (key_else (h := c.h) (f := 0) (i := 2) (by decide)).symm | 4, _ => rfl | 5, _ => rfl) _ _ h) (.keep (fun _ _ h => h) (.keep (fun _ _ h => h) (.nil)))))))))))
 · (
 refine c_seq (c_seq (c_region (r_val .none rfl (p_move rfl) ?_)))
 refine r_val .none rfl (p_lt rfl rfl) ?_
 refine r_say (d := 47) (v := Value.bool true) rfl ?_
 refine r_nil (e_next (c_cond_t rfl (c_skip (e_next ?_))))
 refine c_seq (c_block (c_seq (c_seq (c_region ?_))))
 refine r_val .none rfl (p_move rfl) ?_
 refine r_val .none rfl (p_field Try.underlying85 rfl sz83 rfl) ?_
 refine r_val .none rfl (p_iaddr (k := 1) Try.underlying83 sz82 rfl rfl (by first | exact odt rfl | omega)) ?_
 refine r_val .none rfl (p_field Try.underlying82 rfl sz3 rfl) ?_
 refine r_val .none rfl (p_ld (k := 3) Try.underlying3 rfl rfl rfl (by first | exact odt rfl | omega) (rfl : _ = Value.int _ _)) ?_
 refine r_val .none rfl (p_eq rfl rfl) ?_
 refine r_nil (e_next ?_)
 refine c_splitd (d := 55) rfl (fun h_53 => ?_) (fun h_53 => ?_)
 · (
 have hv : vF c.h 1 = false := vF_no h_53
 first
 | (exfalso; omega)
 | (
 refine c_cond_t rfl (c_seq (c_region (r_val .none rfl (p_move rfl) (r_val .none rfl (p_move rfl) ?_))))
 refine r_val .none rfl (p_field Try.underlying85 rfl sz83 rfl) ?_
 refine r_val .none rfl (p_iaddr (k := 1) Try.underlying83 sz82 rfl rfl (by first | exact odt rfl | omega)) ?_
 refine r_val .none rfl (p_field Try.underlying82 rfl sz3 rfl) ?_
 refine r_val .none rfl (p_ld (k := 3) Try.underlying3 rfl rfl rfl (by first | exact odt rfl | omega) (rfl : _ = Value.int _ _)) ?_
 refine r_val .none rfl (p_field Try.underlying90 rfl sz46 rfl) ?_
 refine r_val .none rfl (p_iaddr (k := 1) Try.underlying46 sz3 rfl rfl (by first | exact odt rfl | omega)) ?_
 refine r_st (k := 1) .none sz3 rfl rfl rfl rfl (by first | exact odt rfl | omega) ?_
 refine r_nil (e_next (c_exit (e_exit_then ?_)))
 refine e_exit_block ?_
 refine e_next (c_region (r_val .none rfl (p_move rfl) ?_))
 refine r_val .none rfl (p_add rfl rfl (by omega)) ?_
 refine r_val .none rfl (p_assign rfl) (r_nil ?_)
 refine e_round ((2, _)) ⟨Nat.le_of_ble_eq_true rfl, Nat.le_of_ble_eq_true rfl⟩ rfl ⟨rfl, rfl, rfl, rfl, rfl, trivial⟩ (.keep (fun _ _ h => rowA_same (by show testsTo l c.h (1 + 1) = _; rw [testsTo_succ, (by first | exact T1 (by assumption) | exact T4 (by assumption) (by assumption) (dup1_no (by assumption)) : testF l c.h 1 = []), List.append_nil]) _ _ h) (.keep (fun _ _ h => box_congr (fun i hi => by match i, hi with | 0, _ => rfl | 1, _ => exact congrArg (Value.int .i64) (key_else (h := c.h) (f := 1) (i := 0) (by decide)).symm | 2, _ => exact (by first | exact congrArg (Value.int .i64) (key_set (h := c.h) (f := 1) (by assumption)).symm | exact congrArg (Value.int .i64) ((show keyTo c.h 1 1 = 0 by simp [keyTo]).trans (key_not (h := c.h) (f := 1) (by assumption)).symm)) | 3, _ => exact congrArg (Value.int .i64) (key_else (h := c.h) (f := 1) (i := 2) (by decide)).symm | 4, _ => rfl | 5, _ => rfl) _ _ h) (.keep (fun _ _ h => h) (.keep (fun _ _ h => h) (.nil)))))))
 · (
 have hv : vF c.h 1 = true := vF_yes h_53
 first
 | (exfalso; omega)
 | (
 refine c_cond_f rfl (c_skip (e_next (c_seq (c_region ?_))))
 refine r_val .none rfl (p_move rfl) (r_val .none rfl (p_move rfl) ?_)
 refine r_val .none rfl (p_field Try.underlying85 rfl sz83 rfl) ?_
 refine r_val .none rfl (p_iaddr (k := 1) Try.underlying83 sz82 rfl rfl (by first | exact odt rfl | omega)) ?_
 refine r_val .none rfl (p_field Try.underlying82 rfl sz3 rfl) ?_
 refine r_val .none rfl (p_ld (k := 3) Try.underlying3 rfl rfl rfl (by first | exact odt rfl | omega) (rfl : _ = Value.int _ _)) ?_
 refine r_call (vs := [_, _]) .none rfl cl59 rfl (fun w hw => c_bound _ _ _ hs2 w hw) ?_
 refine r_val .none rfl (p_move rfl) ?_
 refine r_val .none rfl (p_extract rfl rfl) ?_
 refine r_val .none rfl (p_extract rfl rfl) ?_
 refine r_alloc .none rfl zr119 (IsRow.lit _) (fun b_8 => ?_)
 refine r_stw (k := 0) .none sz119 rfl rfl (IsRow.lit _) (one_lit rfl rfl) rfl ?_
 refine r_val .none rfl (p_assign rfl) (r_nil (e_next (c_seq (c_seq ?_))))
 refine c_region (r_val .none rfl (p_move rfl) (r_nil (e_next ?_)))
 refine c_split (d := 74) rfl (fun h_54 => ?_) (fun h_54 => ?_)
 · (
 have hb : (bound (nF c.h 1) l 0).isSome = true := h_54
 first
 | (exfalso; omega)
 | (
 refine c_cond_t rfl (c_seq (c_region ?_))
 refine r_val .none rfl (p_field Try.underlying90 rfl sz88 rfl) ?_
 refine r_val .none rfl (p_ld (k := 2) Try.underlying88 rfl rfl rfl (by first | exact odt rfl | omega) rfl) ?_
 refine r_val .none rfl (p_move rfl) ?_
 refine r_val .none rfl (p_field Try.underlying119 rfl sz3 rfl) ?_
 refine r_val .none rfl (p_ld (k := 0) Try.underlying3 rfl rfl rfl (by first | exact odt rfl | omega) (rfl : _ = Value.int _ _)) ?_
 refine r_val .none rfl (p_field Try.underlying119 rfl sz3 rfl) ?_
 refine r_val .none rfl (p_ld (k := 0) Try.underlying3 rfl rfl rfl (by first | exact odt rfl | omega) (rfl : _ = Value.int _ _)) ?_
 refine r_val .none rfl (p_build (vs := [(0, Value.int _ _), (1, Value.int _ _), (2, Value.int _ _)]) rfl (bl96_0i1_1i1_2i1 _ _ _)) ?_
 refine r_bslice (vs := [(0, Value.agg #[_, _, _])]) (c := #[_, _, _]) .none rfl Try.underlying88 el96 rfl rfl rfl (bs96_10a3 _ _ _) (IsRow.lit _) (fun b_9 => ?_)
 refine r_append (k := 2) (k2 := 0) .none rfl Try.underlying88 el96 rfl (by decide) rfl rfl rfl rfl rfl (one_lit rfl rfl) (by have q0 := testsTo_len l c.h 0; have q1 := testsTo_len l c.h 1; have q2 := testsTo_len l c.h 2; simp only [maxLen]; omega) (by have q0 := testsTo_len l c.h 0; have q1 := testsTo_len l c.h 1; have q2 := testsTo_len l c.h 2; omega) (fun v_55 => ?_)
 refine r_row1 (k := 2) rfl (fun o_56 => ?_)
 refine r_val .none rfl (p_field Try.underlying90 rfl sz88 rfl) ?_
 refine r_st (k := 3) .none sz88 rfl rfl o_56 rfl (by first | exact odt rfl | omega) ?_
 refine r_nil (e_next (c_exit (e_exit_then ?_)))
 refine e_exit_block ?_
 refine e_next (c_region (r_val .none rfl (p_move rfl) ?_))
 refine r_val .none rfl (p_add rfl rfl (by omega)) ?_
 refine r_val .none rfl (p_assign rfl) (r_nil ?_)
 refine e_round ((2, _)) ⟨Nat.le_of_ble_eq_true rfl, Nat.le_of_ble_eq_true rfl⟩ rfl ⟨rfl, rfl, rfl, rfl, rfl, trivial⟩ (.drop (.drop (.keep (fun _ _ h => rowA_snoc (x := (((1 : Nat) : Int), ((bound (nF c.h 1) l 0).getD (0, 0)).1, ((bound (nF c.h 1) l 0).getD (0, 0)).2)) (by show testsTo l c.h (1 + 1) = _; rw [testsTo_succ, T2 (by assumption) (by assumption)]) rfl rfl rfl _ _ h) (.keep (fun _ _ h => box_congr (fun i hi => by match i, hi with | 0, _ => rfl | 1, _ => exact congrArg (Value.int .i64) (key_else (h := c.h) (f := 1) (i := 0) (by decide)).symm | 2, _ => exact (by first | exact congrArg (Value.int .i64) (key_set (h := c.h) (f := 1) (by assumption)).symm | exact congrArg (Value.int .i64) ((show keyTo c.h 1 1 = 0 by simp [keyTo]).trans (key_not (h := c.h) (f := 1) (by assumption)).symm)) | 3, _ => exact congrArg (Value.int .i64) (key_else (h := c.h) (f := 1) (i := 2) (by decide)).symm | 4, _ => rfl | 5, _ => rfl) _ _ h) (.keep (fun _ _ h => h) (.keep (fun _ _ h => h) (.nil)))))))))
 · (
 have hb : (bound (nF c.h 1) l 0).isSome = false := h_54
 first
 | (exfalso; omega)
 | (
 refine c_cond_f rfl (c_skip (e_next (c_seq (c_region ?_))))
 refine r_val .none rfl (p_assign rfl) (r_nil (e_next (c_block ?_)))
 refine c_unroll 3 ?_
 refine l_round (n := 2) ?_
 refine c_seq (c_seq (c_region (r_val .none rfl (p_move rfl) (r_val .none rfl (p_move rfl) ?_))))
 refine r_val .none rfl (p_lt rfl rfl) ?_
 refine r_say (d := 88) (v := Value.bool true) rfl ?_
 refine r_nil (e_next (c_cond_t rfl (c_skip (e_next ?_))))
 refine c_seq (c_block (c_seq ?_))
 refine c_region_q mixed (by kernel_rfl) ?_
 refine q_val .none rfl (p_move rfl) ?_
 refine q_val .none rfl (p_field Try.underlying85 rfl sz83 rfl) ?_
 refine q_val .none rfl (p_iaddr (k := 0) Try.underlying83 sz82 rfl rfl (by first | exact odt rfl | omega)) ?_
 refine q_val .none rfl (p_lda (k := 4) Try.underlying82 rfl sz82 rfl rfl (by first | exact odt rfl | omega) (rfl : _ = Value.agg #[_, _])) ?_
 refine q_val .none rfl (p_move rfl) ?_
 refine q_val .none rfl (p_field Try.underlying85 rfl sz83 rfl) ?_
 refine q_val .none rfl (p_iaddr (k := 1) Try.underlying83 sz82 rfl rfl (by first | exact odt rfl | omega)) ?_
 refine q_val .none rfl (p_lda (k := 4) Try.underlying82 rfl sz82 rfl rfl (by first | exact odt rfl | omega) (rfl : _ = Value.agg #[_, _])) ?_
 refine q_val .none rfl (p_eqa rfl rfl (eq_flat Try.underlying82 rfl lf82 ef82 eg82 (.cons (.int Try.underlying3) (.cons (.int Try.underlying3) (.nil))) (.cons (.int Try.underlying3) (.cons (.int Try.underlying3) (.nil))))) ?_
 refine q_nil ?_
 refine e_next ?_
 refine c_split (d := 99) rfl (fun h_57 => ?_) (fun h_57 => ?_)
 · (
 first | have s0 : sameF c.h 0 1 = true := (same_cs c.h 0 1).symm.trans h_57 | have s1 : sameF c.h 1 1 = true := (same_cs c.h 1 1).symm.trans h_57
 first
 | (exfalso; omega)
 | (
 refine c_cond_t rfl (c_seq (c_region ?_))
 refine r_val .none rfl (p_field Try.underlying90 rfl sz88 rfl) ?_
 refine r_val .none rfl (p_ld (k := 2) Try.underlying88 rfl rfl rfl (by first | exact odt rfl | omega) rfl) ?_
 refine r_val .none rfl (p_move rfl) (r_val .none rfl (p_move rfl) ?_)
 refine r_val .none rfl (p_build (vs := [(0, Value.int _ _), (1, Value.int _ _), (2, Value.int _ _)]) rfl (bl96_0i1_1i1_2i1 _ _ _)) ?_
 refine r_bslice (vs := [(0, Value.agg #[_, _, _])]) (c := #[_, _, _]) .none rfl Try.underlying88 el96 rfl rfl rfl (bs96_10a3 _ _ _) (IsRow.lit _) (fun b_10 => ?_)
 refine r_append (k := 2) (k2 := 0) .none rfl Try.underlying88 el96 rfl (by decide) rfl rfl rfl rfl rfl (one_lit rfl rfl) (by have q0 := testsTo_len l c.h 0; have q1 := testsTo_len l c.h 1; have q2 := testsTo_len l c.h 2; simp only [maxLen]; omega) (by have q0 := testsTo_len l c.h 0; have q1 := testsTo_len l c.h 1; have q2 := testsTo_len l c.h 2; omega) (fun v_58 => ?_)
 refine r_row1 (k := 2) rfl (fun o_59 => ?_)
 refine r_val .none rfl (p_field Try.underlying90 rfl sz88 rfl) ?_
 refine r_st (k := 3) .none sz88 rfl rfl o_59 rfl (by first | exact odt rfl | omega) ?_
 refine r_nil (e_next (c_exit ?_))
 refine e_exit_past rfl ?_
 refine e_exit_then (e_exit_then ?_)
 refine e_exit_block ?_
 refine e_norm_block ?_
 refine e_next (c_region (r_val .none rfl (p_move rfl) ?_))
 refine r_val .none rfl (p_add rfl rfl (by omega)) ?_
 refine r_val .none rfl (p_assign rfl) (r_nil ?_)
 refine e_round ((2, _)) ⟨Nat.le_of_ble_eq_true rfl, Nat.le_of_ble_eq_true rfl⟩ rfl ⟨rfl, rfl, rfl, rfl, rfl, trivial⟩ (.drop (.drop (.keep (fun _ _ h => rowA_snoc (x := (((1 : Nat) : Int), -1, 0)) (by show testsTo l c.h (1 + 1) = _; rw [testsTo_succ, T3 (by assumption) (by assumption) (dup1_yes (by assumption))]) rfl rfl rfl _ _ h) (.keep (fun _ _ h => box_congr (fun i hi => by match i, hi with | 0, _ => rfl | 1, _ => exact congrArg (Value.int .i64) (key_else (h := c.h) (f := 1) (i := 0) (by decide)).symm | 2, _ => exact (by first | exact congrArg (Value.int .i64) (key_set (h := c.h) (f := 1) (by assumption)).symm | exact congrArg (Value.int .i64) ((show keyTo c.h 1 1 = 0 by simp [keyTo]).trans (key_not (h := c.h) (f := 1) (by assumption)).symm)) | 3, _ => exact congrArg (Value.int .i64) (key_else (h := c.h) (f := 1) (i := 2) (by decide)).symm | 4, _ => rfl | 5, _ => rfl) _ _ h) (.keep (fun _ _ h => h) (.keep (fun _ _ h => h) (.nil)))))))))
 · (
 first | have s0 : sameF c.h 0 1 = false := (same_cs c.h 0 1).symm.trans h_57 | have s1 : sameF c.h 1 1 = false := (same_cs c.h 1 1).symm.trans h_57
 first
 | (exfalso; omega)
 | (
 refine c_cond_f rfl (c_skip ?_)
 refine e_norm_block ?_
 refine e_next (c_region (r_val .none rfl (p_move rfl) ?_))
 refine r_val .none rfl (p_add rfl rfl (by omega)) ?_
 refine r_val .none rfl (p_assign rfl) (r_nil ?_)
 refine e_again ?_
 refine l_round (n := 1) ?_
 refine c_seq (c_seq (c_region (r_val .none rfl (p_move rfl) (r_val .none rfl (p_move rfl) ?_))))
 refine r_val .none rfl (p_lt rfl rfl) ?_
 refine r_say (d := 88) (v := Value.bool false) rfl ?_
 refine r_nil (e_next (c_cond_f rfl (c_exit (e_exit_then ?_))))
 refine e_exit_then ?_
 refine e_exit_block ?_
 refine e_norm_block ?_
 refine e_next (c_region (r_val .none rfl (p_move rfl) ?_))
 refine r_val .none rfl (p_add rfl rfl (by omega)) ?_
 refine r_val .none rfl (p_assign rfl) (r_nil ?_)
 refine e_round ((2, _)) ⟨Nat.le_of_ble_eq_true rfl, Nat.le_of_ble_eq_true rfl⟩ rfl ⟨rfl, rfl, rfl, rfl, rfl, trivial⟩ (.drop (.keep (fun _ _ h => rowA_same (by show testsTo l c.h (1 + 1) = _; rw [testsTo_succ, (by first | exact T1 (by assumption) | exact T4 (by assumption) (by assumption) (dup1_no (by assumption)) : testF l c.h 1 = []), List.append_nil]) _ _ h) (.keep (fun _ _ h => box_congr (fun i hi => by match i, hi with | 0, _ => rfl | 1, _ => exact congrArg (Value.int .i64) (key_else (h := c.h) (f := 1) (i := 0) (by decide)).symm | 2, _ => exact (by first | exact congrArg (Value.int .i64) (key_set (h := c.h) (f := 1) (by assumption)).symm | exact congrArg (Value.int .i64) ((show keyTo c.h 1 1 = 0 by simp [keyTo]).trans (key_not (h := c.h) (f := 1) (by assumption)).symm)) | 3, _ => exact congrArg (Value.int .i64) (key_else (h := c.h) (f := 1) (i := 2) (by decide)).symm | 4, _ => rfl | 5, _ => rfl) _ _ h) (.keep (fun _ _ h => h) (.keep (fun _ _ h => h) (.nil)))))))))))))
 · (
 refine c_seq (c_seq (c_region (r_val .none rfl (p_move rfl) ?_)))
 refine r_val .none rfl (p_lt rfl rfl) ?_
 refine r_say (d := 47) (v := Value.bool true) rfl ?_
 refine r_nil (e_next (c_cond_t rfl (c_skip (e_next ?_))))
 refine c_seq (c_block (c_seq (c_seq (c_region ?_))))
 refine r_val .none rfl (p_move rfl) ?_
 refine r_val .none rfl (p_field Try.underlying85 rfl sz83 rfl) ?_
 refine r_val .none rfl (p_iaddr (k := 2) Try.underlying83 sz82 rfl rfl (by first | exact odt rfl | omega)) ?_
 refine r_val .none rfl (p_field Try.underlying82 rfl sz3 rfl) ?_
 refine r_val .none rfl (p_ld (k := 3) Try.underlying3 rfl rfl rfl (by first | exact odt rfl | omega) (rfl : _ = Value.int _ _)) ?_
 refine r_val .none rfl (p_eq rfl rfl) ?_
 refine r_nil (e_next ?_)
 refine c_splitd (d := 55) rfl (fun h_60 => ?_) (fun h_60 => ?_)
 · (
 have hv : vF c.h 2 = false := vF_no h_60
 first
 | (exfalso; omega)
 | (
 refine c_cond_t rfl (c_seq (c_region (r_val .none rfl (p_move rfl) (r_val .none rfl (p_move rfl) ?_))))
 refine r_val .none rfl (p_field Try.underlying85 rfl sz83 rfl) ?_
 refine r_val .none rfl (p_iaddr (k := 2) Try.underlying83 sz82 rfl rfl (by first | exact odt rfl | omega)) ?_
 refine r_val .none rfl (p_field Try.underlying82 rfl sz3 rfl) ?_
 refine r_val .none rfl (p_ld (k := 3) Try.underlying3 rfl rfl rfl (by first | exact odt rfl | omega) (rfl : _ = Value.int _ _)) ?_
 refine r_val .none rfl (p_field Try.underlying90 rfl sz46 rfl) ?_
 refine r_val .none rfl (p_iaddr (k := 2) Try.underlying46 sz3 rfl rfl (by first | exact odt rfl | omega)) ?_
 refine r_st (k := 1) .none sz3 rfl rfl rfl rfl (by first | exact odt rfl | omega) ?_
 refine r_nil (e_next (c_exit (e_exit_then ?_)))
 refine e_exit_block ?_
 refine e_next (c_region (r_val .none rfl (p_move rfl) ?_))
 refine r_val .none rfl (p_add rfl rfl (by omega)) ?_
 refine r_val .none rfl (p_assign rfl) (r_nil ?_)
 refine e_round ((3, _)) ⟨Nat.le_of_ble_eq_true rfl, Nat.le_of_ble_eq_true rfl⟩ rfl ⟨rfl, rfl, rfl, rfl, rfl, trivial⟩ (.keep (fun _ _ h => rowA_same (by show testsTo l c.h (2 + 1) = _; rw [testsTo_succ, (by first | exact T1 (by assumption) | exact T4 (by assumption) (by assumption) (dup2_no (by assumption) (by assumption)) : testF l c.h 2 = []), List.append_nil]) _ _ h) (.keep (fun _ _ h => box_congr (fun i hi => by match i, hi with | 0, _ => rfl | 1, _ => exact congrArg (Value.int .i64) (key_else (h := c.h) (f := 2) (i := 0) (by decide)).symm | 2, _ => exact congrArg (Value.int .i64) (key_else (h := c.h) (f := 2) (i := 1) (by decide)).symm | 3, _ => exact (by first | exact congrArg (Value.int .i64) (key_set (h := c.h) (f := 2) (by assumption)).symm | exact congrArg (Value.int .i64) ((show keyTo c.h 2 2 = 0 by simp [keyTo]).trans (key_not (h := c.h) (f := 2) (by assumption)).symm)) | 4, _ => rfl | 5, _ => rfl) _ _ h) (.keep (fun _ _ h => h) (.keep (fun _ _ h => h) (.nil)))))))
 · (
 have hv : vF c.h 2 = true := vF_yes h_60
 first
 | (exfalso; omega)
 | (
 refine c_cond_f rfl (c_skip (e_next (c_seq (c_region ?_))))
 refine r_val .none rfl (p_move rfl) (r_val .none rfl (p_move rfl) ?_)
 refine r_val .none rfl (p_field Try.underlying85 rfl sz83 rfl) ?_
 refine r_val .none rfl (p_iaddr (k := 2) Try.underlying83 sz82 rfl rfl (by first | exact odt rfl | omega)) ?_
 refine r_val .none rfl (p_field Try.underlying82 rfl sz3 rfl) ?_
 refine r_val .none rfl (p_ld (k := 3) Try.underlying3 rfl rfl rfl (by first | exact odt rfl | omega) (rfl : _ = Value.int _ _)) ?_
 refine r_call (vs := [_, _]) .none rfl cl59 rfl (fun w hw => c_bound _ _ _ hs2 w hw) ?_
 refine r_val .none rfl (p_move rfl) ?_
 refine r_val .none rfl (p_extract rfl rfl) ?_
 refine r_val .none rfl (p_extract rfl rfl) ?_
 refine r_alloc .none rfl zr119 (IsRow.lit _) (fun b_11 => ?_)
 refine r_stw (k := 0) .none sz119 rfl rfl (IsRow.lit _) (one_lit rfl rfl) rfl ?_
 refine r_val .none rfl (p_assign rfl) (r_nil (e_next (c_seq (c_seq ?_))))
 refine c_region (r_val .none rfl (p_move rfl) (r_nil (e_next ?_)))
 refine c_split (d := 74) rfl (fun h_61 => ?_) (fun h_61 => ?_)
 · (
 have hb : (bound (nF c.h 2) l 0).isSome = true := h_61
 first
 | (exfalso; omega)
 | (
 refine c_cond_t rfl (c_seq (c_region ?_))
 refine r_val .none rfl (p_field Try.underlying90 rfl sz88 rfl) ?_
 refine r_val .none rfl (p_ld (k := 2) Try.underlying88 rfl rfl rfl (by first | exact odt rfl | omega) rfl) ?_
 refine r_val .none rfl (p_move rfl) ?_
 refine r_val .none rfl (p_field Try.underlying119 rfl sz3 rfl) ?_
 refine r_val .none rfl (p_ld (k := 0) Try.underlying3 rfl rfl rfl (by first | exact odt rfl | omega) (rfl : _ = Value.int _ _)) ?_
 refine r_val .none rfl (p_field Try.underlying119 rfl sz3 rfl) ?_
 refine r_val .none rfl (p_ld (k := 0) Try.underlying3 rfl rfl rfl (by first | exact odt rfl | omega) (rfl : _ = Value.int _ _)) ?_
 refine r_val .none rfl (p_build (vs := [(0, Value.int _ _), (1, Value.int _ _), (2, Value.int _ _)]) rfl (bl96_0i1_1i1_2i1 _ _ _)) ?_
 refine r_bslice (vs := [(0, Value.agg #[_, _, _])]) (c := #[_, _, _]) .none rfl Try.underlying88 el96 rfl rfl rfl (bs96_10a3 _ _ _) (IsRow.lit _) (fun b_12 => ?_)
 refine r_append (k := 2) (k2 := 0) .none rfl Try.underlying88 el96 rfl (by decide) rfl rfl rfl rfl rfl (one_lit rfl rfl) (by have q0 := testsTo_len l c.h 0; have q1 := testsTo_len l c.h 1; have q2 := testsTo_len l c.h 2; simp only [maxLen]; omega) (by have q0 := testsTo_len l c.h 0; have q1 := testsTo_len l c.h 1; have q2 := testsTo_len l c.h 2; omega) (fun v_62 => ?_)
 refine r_row1 (k := 2) rfl (fun o_63 => ?_)
 refine r_val .none rfl (p_field Try.underlying90 rfl sz88 rfl) ?_
 refine r_st (k := 3) .none sz88 rfl rfl o_63 rfl (by first | exact odt rfl | omega) ?_
 refine r_nil (e_next (c_exit (e_exit_then ?_)))
 refine e_exit_block ?_
 refine e_next (c_region (r_val .none rfl (p_move rfl) ?_))
 refine r_val .none rfl (p_add rfl rfl (by omega)) ?_
 refine r_val .none rfl (p_assign rfl) (r_nil ?_)
 refine e_round ((3, _)) ⟨Nat.le_of_ble_eq_true rfl, Nat.le_of_ble_eq_true rfl⟩ rfl ⟨rfl, rfl, rfl, rfl, rfl, trivial⟩ (.drop (.drop (.keep (fun _ _ h => rowA_snoc (x := (((2 : Nat) : Int), ((bound (nF c.h 2) l 0).getD (0, 0)).1, ((bound (nF c.h 2) l 0).getD (0, 0)).2)) (by show testsTo l c.h (2 + 1) = _; rw [testsTo_succ, T2 (by assumption) (by assumption)]) rfl rfl rfl _ _ h) (.keep (fun _ _ h => box_congr (fun i hi => by match i, hi with | 0, _ => rfl | 1, _ => exact congrArg (Value.int .i64) (key_else (h := c.h) (f := 2) (i := 0) (by decide)).symm | 2, _ => exact congrArg (Value.int .i64) (key_else (h := c.h) (f := 2) (i := 1) (by decide)).symm | 3, _ => exact (by first | exact congrArg (Value.int .i64) (key_set (h := c.h) (f := 2) (by assumption)).symm | exact congrArg (Value.int .i64) ((show keyTo c.h 2 2 = 0 by simp [keyTo]).trans (key_not (h := c.h) (f := 2) (by assumption)).symm)) | 4, _ => rfl | 5, _ => rfl) _ _ h) (.keep (fun _ _ h => h) (.keep (fun _ _ h => h) (.nil)))))))))
 · (
 have hb : (bound (nF c.h 2) l 0).isSome = false := h_61
 first
 | (exfalso; omega)
 | (
 refine c_cond_f rfl (c_skip (e_next (c_seq (c_region ?_))))
 refine r_val .none rfl (p_assign rfl) (r_nil (e_next (c_block ?_)))
 refine c_unroll 3 ?_
 refine l_round (n := 2) ?_
 refine c_seq (c_seq (c_region (r_val .none rfl (p_move rfl) (r_val .none rfl (p_move rfl) ?_))))
 refine r_val .none rfl (p_lt rfl rfl) ?_
 refine r_say (d := 88) (v := Value.bool true) rfl ?_
 refine r_nil (e_next (c_cond_t rfl (c_skip (e_next ?_))))
 refine c_seq (c_block (c_seq ?_))
 refine c_region_q mixed (by kernel_rfl) ?_
 refine q_val .none rfl (p_move rfl) ?_
 refine q_val .none rfl (p_field Try.underlying85 rfl sz83 rfl) ?_
 refine q_val .none rfl (p_iaddr (k := 0) Try.underlying83 sz82 rfl rfl (by first | exact odt rfl | omega)) ?_
 refine q_val .none rfl (p_lda (k := 4) Try.underlying82 rfl sz82 rfl rfl (by first | exact odt rfl | omega) (rfl : _ = Value.agg #[_, _])) ?_
 refine q_val .none rfl (p_move rfl) ?_
 refine q_val .none rfl (p_field Try.underlying85 rfl sz83 rfl) ?_
 refine q_val .none rfl (p_iaddr (k := 2) Try.underlying83 sz82 rfl rfl (by first | exact odt rfl | omega)) ?_
 refine q_val .none rfl (p_lda (k := 4) Try.underlying82 rfl sz82 rfl rfl (by first | exact odt rfl | omega) (rfl : _ = Value.agg #[_, _])) ?_
 refine q_val .none rfl (p_eqa rfl rfl (eq_flat Try.underlying82 rfl lf82 ef82 eg82 (.cons (.int Try.underlying3) (.cons (.int Try.underlying3) (.nil))) (.cons (.int Try.underlying3) (.cons (.int Try.underlying3) (.nil))))) ?_
 refine q_nil ?_
 refine e_next ?_
 refine c_split (d := 99) rfl (fun h_64 => ?_) (fun h_64 => ?_)
 · (
 first | have s0 : sameF c.h 0 2 = true := (same_cs c.h 0 2).symm.trans h_64 | have s1 : sameF c.h 1 2 = true := (same_cs c.h 1 2).symm.trans h_64
 first
 | (exfalso; omega)
 | (
 refine c_cond_t rfl (c_seq (c_region ?_))
 refine r_val .none rfl (p_field Try.underlying90 rfl sz88 rfl) ?_
 refine r_val .none rfl (p_ld (k := 2) Try.underlying88 rfl rfl rfl (by first | exact odt rfl | omega) rfl) ?_
 refine r_val .none rfl (p_move rfl) (r_val .none rfl (p_move rfl) ?_)
 refine r_val .none rfl (p_build (vs := [(0, Value.int _ _), (1, Value.int _ _), (2, Value.int _ _)]) rfl (bl96_0i1_1i1_2i1 _ _ _)) ?_
 refine r_bslice (vs := [(0, Value.agg #[_, _, _])]) (c := #[_, _, _]) .none rfl Try.underlying88 el96 rfl rfl rfl (bs96_10a3 _ _ _) (IsRow.lit _) (fun b_13 => ?_)
 refine r_append (k := 2) (k2 := 0) .none rfl Try.underlying88 el96 rfl (by decide) rfl rfl rfl rfl rfl (one_lit rfl rfl) (by have q0 := testsTo_len l c.h 0; have q1 := testsTo_len l c.h 1; have q2 := testsTo_len l c.h 2; simp only [maxLen]; omega) (by have q0 := testsTo_len l c.h 0; have q1 := testsTo_len l c.h 1; have q2 := testsTo_len l c.h 2; omega) (fun v_65 => ?_)
 refine r_row1 (k := 2) rfl (fun o_66 => ?_)
 refine r_val .none rfl (p_field Try.underlying90 rfl sz88 rfl) ?_
 refine r_st (k := 3) .none sz88 rfl rfl o_66 rfl (by first | exact odt rfl | omega) ?_
 refine r_nil (e_next (c_exit ?_))
 refine e_exit_past rfl ?_
 refine e_exit_then (e_exit_then ?_)
 refine e_exit_block ?_
 refine e_norm_block ?_
 refine e_next (c_region (r_val .none rfl (p_move rfl) ?_))
 refine r_val .none rfl (p_add rfl rfl (by omega)) ?_
 refine r_val .none rfl (p_assign rfl) (r_nil ?_)
 refine e_round ((3, _)) ⟨Nat.le_of_ble_eq_true rfl, Nat.le_of_ble_eq_true rfl⟩ rfl ⟨rfl, rfl, rfl, rfl, rfl, trivial⟩ (.drop (.drop (.keep (fun _ _ h => rowA_snoc (x := (((2 : Nat) : Int), -1, 0)) (by show testsTo l c.h (2 + 1) = _; rw [testsTo_succ, T3 (by assumption) (by assumption) (dup2_0 (by assumption))]) rfl rfl rfl _ _ h) (.keep (fun _ _ h => box_congr (fun i hi => by match i, hi with | 0, _ => rfl | 1, _ => exact congrArg (Value.int .i64) (key_else (h := c.h) (f := 2) (i := 0) (by decide)).symm | 2, _ => exact congrArg (Value.int .i64) (key_else (h := c.h) (f := 2) (i := 1) (by decide)).symm | 3, _ => exact (by first | exact congrArg (Value.int .i64) (key_set (h := c.h) (f := 2) (by assumption)).symm | exact congrArg (Value.int .i64) ((show keyTo c.h 2 2 = 0 by simp [keyTo]).trans (key_not (h := c.h) (f := 2) (by assumption)).symm)) | 4, _ => rfl | 5, _ => rfl) _ _ h) (.keep (fun _ _ h => h) (.keep (fun _ _ h => h) (.nil)))))))))
 · (
 first | have s0 : sameF c.h 0 2 = false := (same_cs c.h 0 2).symm.trans h_64 | have s1 : sameF c.h 1 2 = false := (same_cs c.h 1 2).symm.trans h_64
 first
 | (exfalso; omega)
 | (
 refine c_cond_f rfl (c_skip ?_)
 refine e_norm_block ?_
 refine e_next (c_region (r_val .none rfl (p_move rfl) ?_))
 refine r_val .none rfl (p_add rfl rfl (by omega)) ?_
 refine r_val .none rfl (p_assign rfl) (r_nil ?_)
 refine e_again ?_
 refine l_round (n := 1) ?_
 refine c_seq (c_seq (c_region (r_val .none rfl (p_move rfl) (r_val .none rfl (p_move rfl) ?_))))
 refine r_val .none rfl (p_lt rfl rfl) ?_
 refine r_say (d := 88) (v := Value.bool true) rfl ?_
 refine r_nil (e_next (c_cond_t rfl (c_skip (e_next ?_))))
 refine c_seq (c_block (c_seq ?_))
 refine c_region_q mixed (by kernel_rfl) ?_
 refine q_val .none rfl (p_move rfl) ?_
 refine q_val .none rfl (p_field Try.underlying85 rfl sz83 rfl) ?_
 refine q_val .none rfl (p_iaddr (k := 1) Try.underlying83 sz82 rfl rfl (by first | exact odt rfl | omega)) ?_
 refine q_val .none rfl (p_lda (k := 4) Try.underlying82 rfl sz82 rfl rfl (by first | exact odt rfl | omega) (rfl : _ = Value.agg #[_, _])) ?_
 refine q_val .none rfl (p_move rfl) ?_
 refine q_val .none rfl (p_field Try.underlying85 rfl sz83 rfl) ?_
 refine q_val .none rfl (p_iaddr (k := 2) Try.underlying83 sz82 rfl rfl (by first | exact odt rfl | omega)) ?_
 refine q_val .none rfl (p_lda (k := 4) Try.underlying82 rfl sz82 rfl rfl (by first | exact odt rfl | omega) (rfl : _ = Value.agg #[_, _])) ?_
 refine q_val .none rfl (p_eqa rfl rfl (eq_flat Try.underlying82 rfl lf82 ef82 eg82 (.cons (.int Try.underlying3) (.cons (.int Try.underlying3) (.nil))) (.cons (.int Try.underlying3) (.cons (.int Try.underlying3) (.nil))))) ?_
 refine q_nil ?_
 refine e_next ?_
 refine c_split (d := 99) rfl (fun h_67 => ?_) (fun h_67 => ?_)
 · (
 first | have s0 : sameF c.h 0 2 = true := (same_cs c.h 0 2).symm.trans h_67 | have s1 : sameF c.h 1 2 = true := (same_cs c.h 1 2).symm.trans h_67
 first
 | (exfalso; omega)
 | (
 refine c_cond_t rfl (c_seq (c_region ?_))
 refine r_val .none rfl (p_field Try.underlying90 rfl sz88 rfl) ?_
 refine r_val .none rfl (p_ld (k := 2) Try.underlying88 rfl rfl rfl (by first | exact odt rfl | omega) rfl) ?_
 refine r_val .none rfl (p_move rfl) (r_val .none rfl (p_move rfl) ?_)
 refine r_val .none rfl (p_build (vs := [(0, Value.int _ _), (1, Value.int _ _), (2, Value.int _ _)]) rfl (bl96_0i1_1i1_2i1 _ _ _)) ?_
 refine r_bslice (vs := [(0, Value.agg #[_, _, _])]) (c := #[_, _, _]) .none rfl Try.underlying88 el96 rfl rfl rfl (bs96_10a3 _ _ _) (IsRow.lit _) (fun b_14 => ?_)
 refine r_append (k := 2) (k2 := 0) .none rfl Try.underlying88 el96 rfl (by decide) rfl rfl rfl rfl rfl (one_lit rfl rfl) (by have q0 := testsTo_len l c.h 0; have q1 := testsTo_len l c.h 1; have q2 := testsTo_len l c.h 2; simp only [maxLen]; omega) (by have q0 := testsTo_len l c.h 0; have q1 := testsTo_len l c.h 1; have q2 := testsTo_len l c.h 2; omega) (fun v_68 => ?_)
 refine r_row1 (k := 2) rfl (fun o_69 => ?_)
 refine r_val .none rfl (p_field Try.underlying90 rfl sz88 rfl) ?_
 refine r_st (k := 3) .none sz88 rfl rfl o_69 rfl (by first | exact odt rfl | omega) ?_
 refine r_nil (e_next (c_exit ?_))
 refine e_exit_past rfl ?_
 refine e_exit_then (e_exit_then ?_)
 refine e_exit_block ?_
 refine e_norm_block ?_
 refine e_next (c_region (r_val .none rfl (p_move rfl) ?_))
 refine r_val .none rfl (p_add rfl rfl (by omega)) ?_
 refine r_val .none rfl (p_assign rfl) (r_nil ?_)
 refine e_round ((3, _)) ⟨Nat.le_of_ble_eq_true rfl, Nat.le_of_ble_eq_true rfl⟩ rfl ⟨rfl, rfl, rfl, rfl, rfl, trivial⟩ (.drop (.drop (.keep (fun _ _ h => rowA_snoc (x := (((2 : Nat) : Int), -1, 1)) (by show testsTo l c.h (2 + 1) = _; rw [testsTo_succ, T3 (by assumption) (by assumption) (dup2_1 (by assumption) (by assumption))]) rfl rfl rfl _ _ h) (.keep (fun _ _ h => box_congr (fun i hi => by match i, hi with | 0, _ => rfl | 1, _ => exact congrArg (Value.int .i64) (key_else (h := c.h) (f := 2) (i := 0) (by decide)).symm | 2, _ => exact congrArg (Value.int .i64) (key_else (h := c.h) (f := 2) (i := 1) (by decide)).symm | 3, _ => exact (by first | exact congrArg (Value.int .i64) (key_set (h := c.h) (f := 2) (by assumption)).symm | exact congrArg (Value.int .i64) ((show keyTo c.h 2 2 = 0 by simp [keyTo]).trans (key_not (h := c.h) (f := 2) (by assumption)).symm)) | 4, _ => rfl | 5, _ => rfl) _ _ h) (.keep (fun _ _ h => h) (.keep (fun _ _ h => h) (.nil)))))))))
 · (
 first | have s0 : sameF c.h 0 2 = false := (same_cs c.h 0 2).symm.trans h_67 | have s1 : sameF c.h 1 2 = false := (same_cs c.h 1 2).symm.trans h_67
 first
 | (exfalso; omega)
 | (
 refine c_cond_f rfl (c_skip ?_)
 refine e_norm_block ?_
 refine e_next (c_region (r_val .none rfl (p_move rfl) ?_))
 refine r_val .none rfl (p_add rfl rfl (by omega)) ?_
 refine r_val .none rfl (p_assign rfl) (r_nil ?_)
 refine e_again ?_
 refine l_round (n := 0) ?_
 refine c_seq (c_seq (c_region (r_val .none rfl (p_move rfl) (r_val .none rfl (p_move rfl) ?_))))
 refine r_val .none rfl (p_lt rfl rfl) ?_
 refine r_say (d := 88) (v := Value.bool false) rfl ?_
 refine r_nil (e_next (c_cond_f rfl (c_exit (e_exit_then ?_))))
 refine e_exit_then ?_
 refine e_exit_block ?_
 refine e_norm_block ?_
 refine e_next (c_region (r_val .none rfl (p_move rfl) ?_))
 refine r_val .none rfl (p_add rfl rfl (by omega)) ?_
 refine r_val .none rfl (p_assign rfl) (r_nil ?_)
 refine e_round ((3, _)) ⟨Nat.le_of_ble_eq_true rfl, Nat.le_of_ble_eq_true rfl⟩ rfl ⟨rfl, rfl, rfl, rfl, rfl, trivial⟩ (.drop (.keep (fun _ _ h => rowA_same (by show testsTo l c.h (2 + 1) = _; rw [testsTo_succ, (by first | exact T1 (by assumption) | exact T4 (by assumption) (by assumption) (dup2_no (by assumption) (by assumption)) : testF l c.h 2 = []), List.append_nil]) _ _ h) (.keep (fun _ _ h => box_congr (fun i hi => by match i, hi with | 0, _ => rfl | 1, _ => exact congrArg (Value.int .i64) (key_else (h := c.h) (f := 2) (i := 0) (by decide)).symm | 2, _ => exact congrArg (Value.int .i64) (key_else (h := c.h) (f := 2) (i := 1) (by decide)).symm | 3, _ => exact (by first | exact congrArg (Value.int .i64) (key_set (h := c.h) (f := 2) (by assumption)).symm | exact congrArg (Value.int .i64) ((show keyTo c.h 2 2 = 0 by simp [keyTo]).trans (key_not (h := c.h) (f := 2) (by assumption)).symm)) | 4, _ => rfl | 5, _ => rfl) _ _ h) (.keep (fun _ _ h => h) (.keep (fun _ _ h => h) (.nil)))))))))))))))
 · (
 refine c_seq (c_seq (c_region (r_val .none rfl (p_move rfl) ?_)))
 refine r_val .none rfl (p_lt rfl rfl) ?_
 refine r_say (d := 47) (v := Value.bool false) rfl ?_
 refine r_nil (e_next (c_cond_f rfl (c_exit (e_exit_then ?_))))
 refine e_exit_then ?_
 refine e_exit_block ?_
 refine e_next (c_seq (c_region ?_))
 refine r_val .none rfl (p_ldw (k := 1) Try.underlying90 rfl sz90 rfl rfl (rfl : _ = Value.agg #[_, _, _, _, _, _])) ?_
 refine r_stw (k := 2) .none sz90 rfl rfl (IsRow.lit _) (one_lit rfl (all_cons rfl (all_cons rfl (all_cons rfl (all_cons rfl (all_cons ov (all_cons rfl rfl))))))) rfl ?_
 refine r_nil (e_next ?_)
 refine c_ret ?_
 refine e_freeze (k := 0) rfl (fun G_70 hn_71 hs_72 => ?_)
 replace hrc := hrc.mono hn_71.le
 replace hp := fun p hm0 => (hp p hm0).mono hn_71.le
 replace hr := hr.mono hn_71.le
 replace hpc := fun p hm0 => (hpc p hm0).mono hn_71.le
 replace hs2 := hs2.mono hn_71.le
 refine e_ret1 Try.results30 (.cell (k := 1) rfl Try.underlying90 rfl sz90 rfl (rfl : _ = Value.agg #[_, _, _, _, _, _]) .nil) (fun w hm => ⟨_, hn_71, hm.has, ?_, hm.since⟩)
 rw [stepOf_other (by omega)]
 exact ⟨_, _, rfl, SlL.of t0 (fun _ => rfl) rfl hs_72, Ss.nil⟩)))
theorem c_of_n : ∀ n, OfIs n
 | 0 => fun c sv va l G w hz hch hs hs2 hG => absurd hz (by have := size_subs c; omega)
 | n + 1 => fun c sv va l G w hz hch hs hs2 hG => c_of_s n (c_of_n n) c sv va l hz hch hs hs2 w hG
theorem c_of (c : CT) (sv va : Value) (l : List CT) {G : Ghost} (hch : l.length + size c ≤ 1000) (hs : Rs G sv c.subs) (hs2 : Rs G va l) (w : World) (hG : Has G w) : Calls Try.prog 30 #[va, Value.agg #[Value.int .i64 c.h.k, Value.int .i64 (vi c.h.v0), Value.int .i64 c.h.n0, Value.int .i64 (vi c.h.v1), Value.int .i64 c.h.n1, Value.int .i64 (vi c.h.v2), Value.int .i64 c.h.n2, sv]] w (Ret fun r w' => ∃ G', GNew w nX G G' ∧ Has G' w' ∧ (∃ tv uv, r = Value.agg #[Value.int .i64 (stepOf l c).h.k, Value.int .i64 (stepOf l c).h.k0, Value.int .i64 (stepOf l c).h.k1, Value.int .i64 (stepOf l c).h.k2, tv, uv] ∧ SlL G' tv 3 tC t0 (stepOf l c).h.ts ∧ Ss G' uv (stepOf l c).subs) ∧ Since nX w w') := c_of_n _ c sv va l G w (Nat.le_refl _) hch hs hs2 hG
end Go.Proofs.Ytdkfdncbldngdaa

/- Walks: what Go functions of this chapter come to, each as a function on plain data; no condition but those that each theorem names. Printed by a program of this work (gen.py). -/
namespace Go.Proofs.Ytdkfdncbldngdaa
open Go.Gx Go.Gx.T3 Go.Gx.T4 Go.Gx.T3 Go.Gx.T8 Go.Gx.T4 Go.Gx.T3
theorem sz48 : SzIs Try.prog 48 1 := by
 unfold SzIs
 kernel_rfl
theorem sz50 : SzIs Try.prog 50 6 := by
 unfold SzIs
 kernel_rfl
theorem sz96 : SzIs Try.prog 96 3 := by
 unfold SzIs
 kernel_rfl
theorem zr50 : ZeroIs Try.prog 50 (Value.agg #[Value.int .i64 0, Value.int .i64 0, Value.int .i64 0, Value.int .i64 0, Value.slice none 0 0, Value.slice none 0 0]) := by
 unfold ZeroIs
 kernel_rfl
theorem zr96 : ZeroIs Try.prog 96 (Value.agg #[Value.int .i64 0, Value.int .i64 0, Value.int .i64 0]) := by
 unfold ZeroIs
 kernel_rfl
theorem cl13 : Callable Try.prog 13 := callable Try.func13 (by kernel_rfl) rfl
theorem bl50_0i1_1a3_3s3 (x0 : Int) (x1 : Value) (x2 : Value) (x3 : Value) (x4 : Option Addr) (x5 : Nat) (x6 : Nat) : Program.built Try.prog 50 [(0, Value.int .i64 x0), (1, Value.agg #[x1, x2, x3]), (3, Value.slice x4 x5 x6)] = some #[Value.int .i64 x0, x1, x2, x3, Value.slice none 0 0, Value.slice x4 x5 x6] := by
 kernel_rfl
theorem bl52_0i1_1i1_2i1 (x0 : Int) (x1 : Int) (x2 : Int) : Program.built Try.prog 52 [(0, Value.int .i64 x0), (1, Value.int .i64 x1), (2, Value.int .i64 x2)] = some #[Value.int .i64 x0, Value.int .i64 x1, Value.int .i64 x2] := by
 kernel_rfl
theorem bs50_10a6 (a0 a1 a2 a3 a4 a5 : Value) : Instr.fill (fun i => some (i * 6, 6)) ((Array.range (1 * 6)).map ((Value.agg #[Value.int .i64 0, Value.int .i64 0, Value.int .i64 0, Value.int .i64 0, Value.slice none 0 0, Value.slice none 0 0]).cells[· % (Value.agg #[Value.int .i64 0, Value.int .i64 0, Value.int .i64 0, Value.int .i64 0, Value.slice none 0 0, Value.slice none 0 0]).cells.size]!)) [(0, Value.agg #[a0, a1, a2, a3, a4, a5])] = some #[a0, a1, a2, a3, a4, a5] := by
 kernel_rfl
theorem bs52_10a3 (a0 a1 a2 : Value) : Instr.fill (fun i => some (i * 3, 3)) ((Array.range (1 * 3)).map ((Value.agg #[Value.int .i64 0, Value.int .i64 0, Value.int .i64 0]).cells[· % (Value.agg #[Value.int .i64 0, Value.int .i64 0, Value.int .i64 0]).cells.size]!)) [(0, Value.agg #[a0, a1, a2])] = some #[a0, a1, a2] := by
 kernel_rfl
theorem el50 : ElemIs Try.prog 50 6 80 (Value.agg #[Value.int .i64 0, Value.int .i64 0, Value.int .i64 0, Value.int .i64 0, Value.slice none 0 0, Value.slice none 0 0]) := by
 unfold ElemIs
 kernel_rfl
theorem el52 : ElemIs Try.prog 52 3 24 (Value.agg #[Value.int .i64 0, Value.int .i64 0, Value.int .i64 0]) := by
 unfold ElemIs
 kernel_rfl
def StepsIs (n : Nat) : Prop := ∀ (v : Value) (l : List ST) (G : Ghost) (w : World), SizeOf.sizeOf l ≤ n → sszL l ≤ 5000 → Ss G v l → Has G w → Calls Try.prog 13 #[v] w (Ret fun r w' => ∃ G', GNew w nX G G' ∧ Has G' w' ∧ Ss G' r l ∧ Since nX w w')
theorem c_compile (v : Value) (l : List CT) {G : Ghost} (hsz : sizeL l ≤ 1000) (hs : Rs G v l) (w : World) (hG : Has G w) :
    Calls Try.prog 10 #[v] w (Ret fun r w' => ∃ G', GNew w nX G G' ∧ Has G' w' ∧ Ss G' r (stepsOf [] l) ∧ Since nX w w') := by
 refine enter (args := [_]) (X := nX) (G := G) (l := [(0, v)]) Try.func10 rfl Try.ntmps10 hG ⟨rfl, trivial⟩ (Nat.le_of_ble_eq_true rfl) ?_
 obtain ⟨rs, hr, hp, rfl⟩ := hs.inv
 have hbd := hr.bound
 have hll := sizeL_len (rs.map Prod.fst)
 rw [List.length_map] at hll
 refine c_seq (c_region (r_val .none rfl (p_assign rfl) (r_nil (e_next ?_))))
 refine c_seq (c_region (r_val .none rfl (p_assign rfl) (r_nil (e_next ?_))))
 refine c_seq (c_seq (c_region (r_val .none rfl (p_move rfl) ?_)))
 refine r_val .none rfl (p_leng Try.underlying31 rfl hr) ?_
 have bd_1 := (hr).bound
 refine r_val .none rfl (p_move rfl) (r_nil (e_next (c_block ?_)))
 refine c_nilrow 90 6 ?_
 refine c_name (d := 0) rfl (fun u_2 hu_2 => ?_)
 refine c_name (d := 2) rfl (fun u_3 hu_3 => ?_)
 refine c_name (d := 6) rfl (fun u_4 hu_4 => ?_)
 refine c_name (d := 7) rfl (fun u_5 hu_5 => ?_)
 refine c_loop (σ := Nat × Value × List SVal × Ghost) (fun s => [(8, Value.int .i64 (s.1 : Nat)), (3, s.2.1), (0, u_2), (2, u_3), (6, u_4), (7, u_5)]) (fun s => [rowA (s.2.1) 90 6 (s.2.2.1).length ((s.2.2.1).flatMap sC)]) (fun s => s.2.2.2) (fun s => s.1 ≤ rs.length ∧ s.2.2.1.map Prod.fst = stepsOf [] ((rs.map Prod.fst).take s.1) ∧ (∀ p ∈ s.2.2.1, SlL s.2.2.2 p.2.1 3 tC t0 p.1.h.ts) ∧ (∀ p ∈ s.2.2.1, Ss s.2.2.2 p.2.2 p.1.subs) ∧ GNew w nX G s.2.2.2) (fun s => rs.length - s.1) ((0, _, [], _)) ⟨Nat.zero_le _, rfl, by simp, by simp, GNew.refl _ _ _⟩ rfl ⟨rfl, rfl, rfl, rfl, rfl, rfl, trivial⟩ (.keep (fun _ _ h => rowA_nil rfl _ _ h) (.nil)) (fun s hphi => ?_)
 subst hu_2
 subst hu_3
 subst hu_4
 subst hu_5
 obtain ⟨k, v, qs, H⟩ := s
 obtain ⟨hk, hq, hqt, hqs, hgn⟩ := hphi
 dsimp only at hk hq hqt hqs hgn ⊢
 have hql : qs.length ≤ k := (by have := congrArg List.length hq; rw [stepsOf_len] at this; simp at this; omega)
 replace hr := hr.mono hgn.le
 replace hp := fun p hm0 => (hp p hm0).mono hgn.le
 refine c_seq (c_region ?_)
 refine r_val .none rfl (p_lt rfl rfl) ?_
 refine r_nil (e_next (c_seq ?_))
 refine c_splitd (d := 9) rfl (fun h_6 => ?_) (fun h_6 => ?_)
 · (
 first
 | (exfalso; omega)
 | (
 refine c_cond_t rfl (c_skip (e_next (c_seq (c_block ?_))))
 refine c_seq (c_region (r_val .none rfl (p_move rfl) ?_))
 refine r_iaddr_g .none rfl Try.underlying31 sz85 rfl hr rfl (by first | exact odt rfl | omega) (fun p_8 o_9 R_7 => ?_)
 have hc_10 := hp _ (getD_mem (i := k) (d := d0) (by omega))
 have hz6 : ((rs.map Prod.fst).take k).length + size (rs.getD k d0).1 ≤ 1000 := by have h1 := sizeL_take (rs := rs) (k := k) (by omega); have h2 := sizeL_take_le (rs.map Prod.fst) (k + 1); have h3 := sizeL_len ((rs.map Prod.fst).take k); omega
 refine r_val .none rfl (p_ldga0 Try.underlying85 rfl sz85 rfl R_7 (by first | exact odt rfl | omega) (rfl : _ = Value.agg #[_, _, _, _, _, _, _, _])) ?_
 refine r_alloc .none rfl zr85 (IsRow.lit _) (fun b_1 => ?_)
 refine r_val .none rfl (p_assign rfl) ?_
 refine r_stw (k := 0) .none sz85 rfl rfl (IsRow.lit _) (one_lit rfl (all_cons rfl (all_cons rfl (all_cons rfl (all_cons rfl (all_cons rfl (all_cons rfl (all_cons rfl (all_cons (hc_10).one rfl))))))))) rfl ?_
 refine r_nil (e_next ?_)
 refine c_region_d (fun _ => false) _ mixed (.keep (fun _ _ h => h) (.drop (.nil))) ?_
 refine d_val1 0 rfl rfl (by kernel_rfl) (fun _ _ => rfl) .none rfl (p_move rfl) ?_
 refine d_val1 1 rfl rfl (by kernel_rfl) (fun _ _ => rfl) .none rfl (p_move rfl) ?_
 refine d_val1 2 rfl rfl (by kernel_rfl) (fun _ _ => rfl) .none rfl (p_move rfl) ?_
 refine d_slice0 3 k rfl rfl (by kernel_rfl) (fun _ _ => rfl) .none rfl Try.underlying31 sz85 rfl hr rfl (by first | exact odt rfl | omega) (fun v_11 hs_12 => ?_)
 have hT_14 := Tr.take2 (by omega) hs_12 hp
 refine d_val1 4 rfl rfl (by kernel_rfl) (fun _ _ => rfl) .none rfl (p_ldw (k := 0) Try.underlying85 rfl sz85 rfl rfl (rfl : _ = Value.agg #[_, _, _, _, _, _, _, _])) ?_
 refine d_eff 5 rfl (by kernel_rfl) (fun K_15 hKK_15 hcK_15 => ?_)
 refine r_callm (vs := [_, _]) .none rfl cl30 rfl (fun w hw => c_of (rs.getD k d0).1 _ _ _ hz6 hc_10 hT_14 w hw) (fun G_16 v_19 hn_17 hr_18 => ?_)
 replace hr := hr.mono hn_17.le
 replace hp := fun p hm0 => (hp p hm0).mono hn_17.le
 replace hqt := fun p hm0 => (hqt p hm0).mono hn_17.le
 replace hqs := fun p hm0 => (hqs p hm0).mono hn_17.le
 replace R_7 := R_7.mono hn_17.le
 replace hc_10 := hc_10.mono hn_17.le
 replace hs_12 := hs_12.mono hn_17.le
 replace hT_14 := hT_14.mono hn_17.le
 obtain ⟨u_20a, u_20b, rfl, u_20s, u_20t⟩ := hr_18
 refine r_nil (e_d (i := 5) (brk := (fun _ => false)) (ph' := true) hKK_15 hcK_15 rfl (fun _ => hn_17.le) (fun _ => .keep (fun _ _ h => h) (.drop (.nil))) ?_)
 clear hKK_15 hcK_15 K_15
 refine d_eff 6 rfl (by kernel_rfl) (fun K_21 hKK_21 hcK_21 => ?_)
 refine r_bslice (vs := [(0, Value.agg #[_, _, _, _, _, _])]) (c := #[_, _, _, _, _, _]) .none rfl Try.underlying29 el90 rfl rfl rfl (bs90_10a6 _ _ _ _ _ _) (IsRow.lit _) (fun b_2 => ?_)
 refine r_nil (e_d (i := 6) (brk := (fun _ => false)) (ph' := true) hKK_21 hcK_21 rfl (fun _ => hn_17.le) (fun _ => .drop (.keep (fun _ _ h => h) (.drop (.nil)))) ?_)
 clear hKK_21 hcK_21 K_21
 refine d_eff 7 rfl (by kernel_rfl) (fun K_22 hKK_22 hcK_22 => ?_)
 refine r_append (k := 2) (k2 := 0) .none rfl Try.underlying29 el90 rfl (by decide) rfl rfl rfl rfl rfl (one_lit rfl (all_cons rfl (all_cons rfl (all_cons rfl (all_cons rfl (all_cons (u_20s).one (all_cons (u_20t).one rfl))))))) (by simp only [maxLen]; omega) (by omega) (fun v_23 => ?_)
 refine r_row1 (k := 2) rfl (fun o_24 => ?_)
 refine r_nil (e_d (i := 7) (brk := (fun _ => false)) (ph' := true) hKK_22 hcK_22 rfl (fun _ => hn_17.le) (fun _ => .drop (.keep (fun _ _ h => h) (.drop (.nil)))) ?_)
 clear hKK_22 hcK_22 K_22
 refine d_val1 8 rfl rfl (by kernel_rfl) (fun _ _ => rfl) .none rfl (p_assign rfl) ?_
 refine d_nil (by kernel_rfl) ?_
 refine e_norm_block ?_
 refine e_next (c_region ?_)
 refine r_val .none rfl (p_add rfl rfl (by omega)) ?_
 refine r_val .none rfl (p_move rfl) (r_nil ?_)
 refine e_round ((k + 1, _, qs ++ [(stepOf ((rs.map Prod.fst).take k) (rs.getD k d0).1, u_20a, u_20b)], _)) ⟨⟨by dsimp only; omega, by rw [stepsOf_take (by omega), List.map_append, hq, List.nil_append]; rfl, (fun p hp' => by rcases List.mem_append.1 hp' with h | h; exact hqt p h; rw [List.mem_singleton.1 h]; exact u_20s), (fun p hp' => by rcases List.mem_append.1 hp' with h | h; exact hqs p h; rw [List.mem_singleton.1 h]; exact u_20t), (hgn.trans hn_17)⟩, by dsimp only; omega⟩ rfl ⟨rfl, rfl, rfl, rfl, rfl, rfl, trivial⟩ (.drop (.drop (.keep (fun _ _ h => rowA_snoc (l := qs) (x := (stepOf ((rs.map Prod.fst).take k) (rs.getD k d0).1, u_20a, u_20b)) rfl rfl rfl rfl _ _ h) (.nil))))))
 · (
 first
 | (exfalso; omega)
 | (
 refine c_cond_f rfl (c_exit (e_exit_then (e_exit_then ?_)))
 refine e_exit_block ?_
 refine e_next (c_seq (c_region (r_val .none rfl (p_move rfl) (r_val .none rfl (p_assign rfl) ?_))))
 refine r_nil (e_next ?_)
 refine c_ret ?_
 refine e_freeze (k := 0) rfl (fun G_25 hn_26 hs_27 => ?_)
 replace hr := hr.mono hn_26.le
 replace hp := fun p hm0 => (hp p hm0).mono hn_26.le
 replace hqt := fun p hm0 => (hqt p hm0).mono hn_26.le
 replace hqs := fun p hm0 => (hqs p hm0).mono hn_26.le
 refine e_ret1 Try.results10 (.tmp rfl .nil) (fun w hm => ⟨_, (hgn.trans hn_26), hm.has, ?_, hm.since⟩)
 rw [show stepsOf [] (rs.map Prod.fst) = qs.map Prod.fst by rw [hq, List.take_of_length_le (by simp; omega)]]
 exact Ss.mk qs (SlL.of s0 (fun _ => rfl) rfl hs_27) hqt hqs))
end Go.Proofs.Ytdkfdncbldngdaa

/-
  GX: a range over a map of the call's own that stays as it is meanwhile. Generic in the program.
-/
namespace Go.Gx
open Go.RowKit Go.MapKept

section
variable {κ ν : Type} {ke : κ → Value} {ve : ν → Value}

def ranA (m r : Nat) (ke : κ → Value) (ve : ν → Value) (l lft : List (κ × ν)) : Asrt where
  holds w F := (∃ es clock since c0 seen, MapIs w m ke ve l es clock ∧ w.heap[r]? = some (.mapIter (some m) since seen c0) ∧ (∀ x ∈ es.toList, x.born < since) ∧ since ≤ c0 ∧ since ≤ clock ∧
    (es.toList.filter fun e => !seen.contains e.born).map kv = lft.map (enc ke ve)) ∧ ∀ b, F b ↔ b = m ∨ b = r
  frame := by
    rintro w w' F ⟨⟨es, c, s, c0, se, h1, h2, h3⟩, hF⟩ hk
    exact ⟨⟨es, c, s, c0, se, ⟨by rw [hk m ((hF m).2 (.inl rfl))]; exact h1.heap, h1.st, h1.eq⟩, by rw [hk r ((hF r).2 (.inr rfl))]; exact h2, h3⟩, hF⟩
  dom := by
    rintro w F b ⟨⟨es, c, s, c0, se, h1, h2, _⟩, hF⟩ hb
    rcases (hF b).1 hb with rfl | rfl
    · exact lt_of_heap h1.heap
    · exact lt_of_heap h2

/-- The same, just behind a step that yielded p. -/
def ranE (m r : Nat) (ke : κ → Value) (ve : ν → Value) (l lft : List (κ × ν)) (p : κ × ν) : Asrt where
  holds w F := (∃ es clock since seen, MapIs w m ke ve l es clock ∧ w.heap[r]? = some (.mapIter (some m) since seen clock) ∧ (∀ x ∈ es.toList, x.born < since) ∧ since ≤ clock ∧
    (es.toList.filter fun e => !seen.contains e.born).map kv = lft.map (enc ke ve) ∧ ∃ e ∈ es.toList, ∃ s0 : Array Nat, seen = s0.push e.born ∧ kv e = enc ke ve p) ∧ ∀ b, F b ↔ b = m ∨ b = r
  frame := by
    rintro w w' F ⟨⟨es, c, s, se, h1, h2, h3⟩, hF⟩ hk
    exact ⟨⟨es, c, s, se, ⟨by rw [hk m ((hF m).2 (.inl rfl))]; exact h1.heap, h1.st, h1.eq⟩, by rw [hk r ((hF r).2 (.inr rfl))]; exact h2, h3⟩, hF⟩
  dom := by
    rintro w F b ⟨⟨es, c, s, se, h1, h2, _⟩, hF⟩ hb
    rcases (hF b).1 hb with rfl | rfl
    · exact lt_of_heap h1.heap
    · exact lt_of_heap h2

variable {P : Program} {ops : Array Oper} {Q : Exit → Act → World → Prop} {N : Nat} {X : Nat → Prop} {w0 : World} {G : Ghost} {l : List (Nat × Value)} {L : List Asrt}
variable {rest : List Oper} {d i m r : Nat} {ty : TypeId} {pos : String} {after : Array Edge} {gd : Option (Nat × Bool)} {x : Operand} {T K E : TypeId} {mv lft : List (κ × ν)}

end
end Go.Gx

/-
  GX: a string made of the call's own bytes. Generic in the program.
-/
namespace Go.Gx
open Go.RowKit

def bytesF (n : Nat) (f : Nat → Nat) : ByteArray := ⟨((List.range n).map fun i => UInt8.ofNat (f i)).toArray⟩

section
variable {P : Program} {N : Nat} {X : Nat → Prop} {w0 : World} {G : Ghost} {l : List (Nat × Value)} {L : List Asrt}
variable {d : Nat} {ty : TypeId} {pos : String} {after : Array Edge} {gd : Option (Nat × Bool)} {x : Operand} {T U E E' : TypeId} {b k : Nat} {f : Nat → Value}

end
end Go.Gx

/-
  GX: a row of the call's own is sorted, or its runs are made one, by the library (whose contracts come in as premises). Generic in the program.
-/
namespace Go.Gx
open Go.RowKit Go.Sort

section
variable {α : Type} [Inhabited α]

theorem putRow_heap {enc : α → Value} {w : World} {g n : Nat} {d : Array α} {cur : Array Value} {E : TypeId} {fr : Nat × Nat} (hg : w.heap[g]? = some (.cells cur E fr)) : (putRow enc w g 0 d).heap[g]? = some (.cells (putCells enc 0 d cur) E fr) := by
  show (w.heap.modify g (onCells (putCells enc 0 d)))[g]? = _
  rw [Array.getElem?_modify, if_pos rfl, hg]
  rfl
theorem putRow_other {enc : α → Value} {w : World} {g k : Nat} {d : Array α} (h : k ≠ g) : (putRow enc w g 0 d).heap[k]? = w.heap[k]? := by
  simp [putRow, mapBlock, Array.getElem?_modify, Ne.symm h]

theorem putCells_take {enc : α → Value} {d : Array α} {cur : Array Value} {m : Nat} (hm : m ≤ d.size) (hc : d.size ≤ cur.size) : (putCells enc 0 d cur).toList.take m = ((d.toList.take m).map enc) := by
  apply List.ext_getElem?
  intro i
  by_cases hi : i < m
  · have h1 : i < cur.size := by omega
    have h2 : i < d.size := by omega
    simp [List.getElem?_take, hi, putCells, h1, h2]
  · simp [List.getElem?_take, hi]
end

theorem compact_le (zs : List Int) : (Lib.compact zs).length ≤ zs.length := by
  unfold Lib.compact Lib.compactUpTo
  rw [List.length_map]
  exact Nat.le_trans (List.length_filter_le _ _) (by simp)
abbrev sortI (zs : List Int) : List Int := zs.mergeSort fun x y => decide (x ≤ y)
abbrev cI (z : Int) : List Value := [.int .i64 z]

/-- The library's contract of slices.Sort at []int. -/
def SortC (P : Program) (f : FuncId) : Prop := ∀ (blk off cap : Nat) (zs : List Int) (w : World), Holds (Value.int .i64) w blk off zs.toArray → blk < w.heap.size → zs.length < 4611686018427387904 →
  Calls P f #[.slice (some ⟨blk, off, none⟩) zs.length cap] w fun e w' => e = .returned (.tuple #[]) ∧ ∃ n os, w' = grow (putRow (Value.int .i64) (Sort.ahead w n) blk off (sortI zs).toArray) os
def SortN (P : Program) (f : FuncId) : Prop := ∀ (p : Option Addr) (cap : Nat) (w : World), Calls P f #[.slice p 0 cap] w fun e w' => e = .returned (.tuple #[]) ∧ w' = w
/-- .. and of slices.Compact. -/
def CompC (P : Program) (f : FuncId) : Prop := ∀ (blk off cap : Nat) (zs : List Int) (w : World), Holds (Value.int .i64) w blk off zs.toArray → zs.length ≤ 9223372036854775807 → zs.length ≤ cap →
  Calls P f #[.slice (some ⟨blk, off, none⟩) zs.length cap] w fun e w' => e = .returned (.slice (some ⟨blk, off, none⟩) (Lib.compact zs).length cap) ∧ ∃ q, w' = putRow (Value.int .i64) (Sort.ahead w q) blk off (Lib.compact zs ++ List.replicate (zs.length - (Lib.compact zs).length) 0).toArray
def CompN (P : Program) (f : FuncId) : Prop := ∀ (a : Option Addr) (cap : Nat) (w : World), Calls P f #[.slice a 0 cap] w fun e w' => e = .returned (.slice a 0 cap) ∧ w' = w

theorem cells_ints (zs : List Int) : zs.flatMap cI = zs.map (Value.int .i64) := by
  induction zs with
  | nil => rfl
  | cons z t ih => simp [List.flatMap_cons, ih]

section
variable {P : Program} {ops : Array Oper} {Q : Exit → Act → World → Prop} {N : Nat} {X : Nat → Prop} {w0 : World} {G : Ghost} {l : List (Nat × Value)} {L : List Asrt}
variable {rest : List Oper} {d k n : Nat} {ty : TypeId} {pos : String} {after : Array Edge} {gd : Option (Nat × Bool)} {v : Value} {E : TypeId} {zs : List Int} {f : FuncId} {xs : List Operand} {ats : Array TypeId}

theorem own_holds {w : World} {g cap : Nat} {cur : Array Value} (hg : w.heap[g]? = some (.cells cur E (0, 0))) (hc : cur.size = cap) (hn : zs.length ≤ cap) (ht : cur.toList.take zs.length = zs.map (Value.int .i64)) : Holds (Value.int .i64) w g 0 zs.toArray := by
  intro j hj
  have hj' : j < zs.length := by simpa using hj
  constructor
  · rw [cell_of_row w g (0 + j) cur E (0, 0) hg, Nat.zero_add]
    have h1 := congrArg (fun l => l[j]?) ht
    simp [List.getElem?_take, hj'] at h1
    simp [h1, hj']
  · simp [World.frozen?, hg]

theorem own_after {w : World} {g cap q : Nat} {cur : Array Value} {os : Array Obj} {zs' : List Int} {m : Nat} (hg : w.heap[g]? = some (.cells cur E (0, 0))) (hc : cur.size = cap) (hcm : cap ≤ maxLen) (hz : zs'.length ≤ cap) (hm : m ≤ zs'.length) (hmm : m ≤ maxLen) :
    (rowA (.slice (some ⟨g, 0, none⟩) m cap) E 1 m ((zs'.take m).flatMap cI)).holds (grow (putRow (Value.int .i64) (Sort.ahead w q) g 0 zs'.toArray) os) (fun b => b = g) := by
  have hg' : (Sort.ahead w q).heap[g]? = some (.cells cur E (0, 0)) := hg
  have h1 := putRow_heap (enc := Value.int .i64) (n := 0) (d := zs'.toArray) hg'
  have hlt : g < (putRow (Value.int .i64) (Sort.ahead w q) g 0 zs'.toArray).heap.size := lt_of_heap h1
  refine ⟨⟨?_, .inr ⟨g, cap, putCells (Value.int .i64) 0 zs'.toArray cur, rfl, Nat.zero_le _, ?_, by omega, hcm, ?_, ?_⟩⟩, fun b => ⟨fun h => by subst h; rfl, fun h => by simp [Value.ownBlock] at h; exact h.symm⟩, hmm⟩
  · rw [cells_ints]; simp; omega
  · show ((putRow (Value.int .i64) (Sort.ahead w q) g 0 zs'.toArray).heap ++ os)[g]? = _
    rw [Array.getElem?_append_left hlt]; exact h1
  · simp [putCells, hc]
  · rw [Nat.mul_one, putCells_take (by simpa using hm) (by simp; omega), cells_ints]

theorem since_sort {w : World} {g q : Nat} {os : Array Obj} {zs' : List Int} {F : Nat → Prop} (hF : F g) : Since F w (grow (putRow (Value.int .i64) (Sort.ahead w q) g 0 zs'.toArray) os) := by
  refine ⟨rfl, rfl, rfl, ?_, fun b hb hx => ?_⟩
  · show w.heap.size ≤ (((putRow (Value.int .i64) (Sort.ahead w q) g 0 zs'.toArray).heap ++ os)).size
    have : (putRow (Value.int .i64) (Sort.ahead w q) g 0 zs'.toArray).heap.size = w.heap.size := by
      show (w.heap.modify g _).size = _
      simp
    rw [Array.size_append]; omega
  · have hne : b ≠ g := fun e => hx (e ▸ hF)
    show ((putRow (Value.int .i64) (Sort.ahead w q) g 0 zs'.toArray).heap ++ os)[b]? = _
    have hsz : (putRow (Value.int .i64) (Sort.ahead w q) g 0 zs'.toArray).heap.size = w.heap.size := by
      show (w.heap.modify g _).size = _
      simp
    rw [Array.getElem?_append_left (by omega), putRow_other hne]
    rfl

theorem r_sort (hw : Wt ops l gd) (hd : Nat.blt d N = true) (hf : Callable P f) (hv : evs l xs = some [v]) (hL : L[k]? = some (rowA v E 1 zs.length (zs.flatMap cI))) (hs : SortC P f) (hn : SortN P f) (hlen : zs.length < 4611686018427387904)
    (h : Runs P ops Q N X w0 G rest ((d, .tuple #[]) :: l) (L.set k (rowA v E 1 (sortI zs).length ((sortI zs).flatMap cI)))) : Runs P ops Q N X w0 G (⟨some d, .call ⟨.value (.func f), xs.toArray, ats⟩, ty, pos, after, gd⟩ :: rest) l L := by
  refine Runs.step hw (fun a w hS => ?_)
  show Oper.upon P _ a _ Q _
  rw [run_call hS.fr hv hf, Oper.upon_enter]
  obtain ⟨F, ⟨⟨hlen1, hown⟩, hF, hmax⟩, _, hput⟩ := hS.mem.take hL
  have hsl : (sortI zs).length = zs.length := List.length_mergeSort zs
  by_cases hz : zs.length = 0
  · have hz' : zs = [] := List.eq_nil_of_length_eq_zero hz
    subst hz'
    have e1 : (rowA v E 1 (sortI []).length ((sortI []).flatMap cI)) = rowA v E 1 ([] : List Int).length (([] : List Int).flatMap cI) := by simp [sortI]
    rw [e1, set_same hL] at h
    have hv2 : ∃ p c, v = .slice p 0 c := by
      rcases hown with ⟨rfl, _⟩ | ⟨g, cap, cur, rfl, _⟩
      · exact ⟨_, _, rfl⟩
      · exact ⟨_, _, rfl⟩
    obtain ⟨p, c, rfl⟩ := hv2
    refine (hn p c w).mono (fun e w' hR => ?_)
    obtain ⟨rfl, rfl⟩ := hR
    exact h _ _ ⟨hS.fr.put (by simpa using hd) _, hS.mem⟩
  · rcases hown with ⟨_, h0⟩ | ⟨g, cap, cur, rfl, _, hg, hnc, hcm, hcs, htk⟩
    · exact absurd h0 hz
    · have hcs' : cur.size = cap := by simpa using hcs
      have htk' : cur.toList.take zs.length = zs.map (Value.int .i64) := by rw [← cells_ints]; simpa using htk
      refine (hs g 0 cap zs w (own_holds hg hcs' hnc htk') (lt_of_heap hg) hlen).mono (fun e w' hR => ?_)
      obtain ⟨rfl, q, os, rfl⟩ := hR
      have hFg : F g := (hF g).2 rfl
      refine h _ _ ⟨hS.fr.put (by simpa using hd) _, hput _ _ (fun b => b = g) (since_sort hFg) ?_ (fun b hb => .inl (hb ▸ hFg))⟩
      have h2 := own_after (q := q) (os := os) (zs' := sortI zs) (m := zs.length) hg hcs' hcm (by omega) (by omega) (by omega)
      rw [List.take_of_length_le (by omega)] at h2
      rw [hsl]
      exact h2

theorem r_compact (hw : Wt ops l gd) (hd : Nat.blt d N = true) (hf : Callable P f) (hv : evs l xs = some [v]) (hL : L[k]? = some (rowA v E 1 zs.length (zs.flatMap cI))) (hs : CompC P f) (hn : CompN P f) (hle : (Lib.compact zs).length ≤ zs.length)
    (h : ∀ v', Runs P ops Q N X w0 G rest ((d, v') :: l) (L.set k (rowA v' E 1 (Lib.compact zs).length ((Lib.compact zs).flatMap cI)))) : Runs P ops Q N X w0 G (⟨some d, .call ⟨.value (.func f), xs.toArray, ats⟩, ty, pos, after, gd⟩ :: rest) l L := by
  refine Runs.step hw (fun a w hS => ?_)
  show Oper.upon P _ a _ Q _
  rw [run_call hS.fr hv hf, Oper.upon_enter]
  obtain ⟨F, ⟨⟨hlen1, hown⟩, hF, hmax⟩, _, hput⟩ := hS.mem.take hL
  by_cases hz : zs.length = 0
  · have hz' : zs = [] := List.eq_nil_of_length_eq_zero hz
    subst hz'
    have hc0 : Lib.compact ([] : List Int) = [] := List.eq_nil_of_length_eq_zero (by simpa using hle)
    have h' := h v
    rw [hc0, set_same hL] at h'
    have hv2 : ∃ p c, v = .slice p 0 c := by
      rcases hown with ⟨rfl, _⟩ | ⟨g, cap, cur, rfl, _⟩
      · exact ⟨_, _, rfl⟩
      · exact ⟨_, _, rfl⟩
    obtain ⟨p, c, rfl⟩ := hv2
    refine (hn p c w).mono (fun e w' hR => ?_)
    obtain ⟨rfl, rfl⟩ := hR
    exact h' _ _ ⟨hS.fr.put (by simpa using hd) _, hS.mem⟩
  · rcases hown with ⟨_, h0⟩ | ⟨g, cap, cur, rfl, _, hg, hnc, hcm, hcs, htk⟩
    · exact absurd h0 hz
    · have hcs' : cur.size = cap := by simpa using hcs
      have htk' : cur.toList.take zs.length = zs.map (Value.int .i64) := by rw [← cells_ints]; simpa using htk
      refine (hs g 0 cap zs w (own_holds hg hcs' hnc htk') (by simpa only [maxLen] using hmax) hnc).mono (fun e w' hR => ?_)
      obtain ⟨rfl, q, rfl⟩ := hR
      have hFg : F g := (hF g).2 rfl
      have e0 : ∀ W : World, W = grow W #[] := fun W => (grow_empty W).symm
      rw [e0 (putRow _ _ _ _ _)]
      refine h _ _ _ ⟨hS.fr.put (by simpa using hd) _, hput _ _ (fun b => b = g) (since_sort hFg) ?_ (fun b hb => .inl (hb ▸ hFg))⟩
      have h2 := own_after (q := q) (os := #[]) (zs' := Lib.compact zs ++ List.replicate (zs.length - (Lib.compact zs).length) 0) (m := (Lib.compact zs).length) hg hcs' hcm (by simp; omega) (by simp) (by simp only [maxLen] at *; omega)
      rw [List.take_left' rfl] at h2
      exact h2
end
end Go.Gx

/-
  GX: the keys of a map of the call's own, sorted by the library (its contracts come in as premises). Generic in the program.
-/
namespace Go.Gx
open Go.RowKit Go.Sort Go.Maps
open Go.WideElems (Fit rd rg)

theorem sortI_perm {l l' : List Int} (h : l.Perm l') : sortI l = sortI l' := by
  unfold sortI
  refine List.Perm.eq_of_pairwise (le := fun a b : Int => decide (a ≤ b) = true) (fun a b _ _ h1 h2 => ?_) (List.pairwise_mergeSort (by intro a b c; simp; omega) (by intro a b; simp; omega) l) (List.pairwise_mergeSort (by intro a b c; simp; omega) (by intro a b; simp; omega) l') (((List.mergeSort_perm l _).trans h).trans (List.mergeSort_perm l' _).symm)
  simp at h1 h2; omega

/-- How an element reads, where nothing is asked of it. -/
def R0 : Value → Option (DataW Unit × List MemPlace) := fun _ => some (.nil, [])

section
variable {ν : Type} {P : Program} {K : TypeId}
theorem ownsMap_of {w : World} {m : Nat} {ve : ν → Value} {l : List (Int × ν)} {es : Array MapEntry} {clock : Nat} (hM : MapIs w m kI ve l es clock) (hK : P.underlying K = some (.int .i64)) (hwf : ∀ p ∈ l, (Lit.int .i64 p.1).wf = true) (hsz : l.length ≤ maxLen) :
    ∃ D0 : DataW Unit, w.ownsMap P K R0 m l.length D0 ∧ (intKeys D0).Perm (l.map Prod.fst) ∧ Maps.size D0 = l.length := by
  have hlen : es.size = l.length := by have := congrArg List.length hM.eq; simpa using this
  have hmem : ∀ x ∈ es.toList, ∃ p ∈ l, x.key = .int .i64 p.1 := by
    intro x hx
    have h1 : kv x ∈ es.toList.map kv := List.mem_map.2 ⟨x, hx, rfl⟩
    rw [hM.eq] at h1
    obtain ⟨p, hp, e⟩ := List.mem_map.1 h1
    exact ⟨p, hp, by have := congrArg Prod.fst e; exact this.symm⟩
  have hrd : ∀ x ∈ es.toList, ∃ n : Int, x.key = .int .i64 n ∧ WideElems.rd (H := Unit) P K R0 x = some (.int .i64 n, .nil) := by
    intro x hx
    obtain ⟨p, hp, e⟩ := hmem x hx
    refine ⟨p.1, e, ?_⟩
    unfold WideElems.rd
    rw [e, keyOf_int_mk hK (hwf p hp)]
    rfl
  refine ⟨_, ⟨es, clock, hM.heap, ⟨by rw [hlen]; exact hsz, hM.st, fun x hx => by obtain ⟨n, _, h⟩ := hrd x hx; exact ⟨_, h⟩⟩, by omega, rfl⟩, ?_, ?_⟩
  · show (List.map (fun p : Lit × DataW Unit => intOf p.1) _).Perm _
    refine ((Go.WideShapes.sorted_perm _).map _).trans ?_
    rw [List.map_map]
    have e1 : es.toList.map ((fun p : Lit × DataW Unit => intOf p.1) ∘ rg P K R0) = (es.toList.map kv).map (fun q : Value × Value => match q.1 with | .int _ n => n | _ => 0) := by
      rw [List.map_map]
      refine List.map_congr_left fun x hx => ?_
      obtain ⟨n, h1, h2⟩ := hrd x hx
      simp only [Function.comp, rg, h2, Option.getD_some, kv, h1]
      rfl
    rw [e1, hM.eq, List.map_map]
    exact List.Perm.refl _
  · show (List.foldr DataW.insert [] _).length = _
    rw [(Go.WideShapes.sorted_perm _).length_eq]
    simpa using hlen
end

/-- slices.Sorted(maps.Keys(m)): the second call, of what the first one made. -/
def KeysC (P : Program) (f g : FuncId) (K : TypeId) : Prop := ∀ (Bm b nn : Nat) (D0 : DataW Unit) (w : World), w.cell? ⟨Bm, 0, none⟩ = some (.map (some b)) → Bm < w.heap.size → w.ownsMap P K R0 b nn D0 → Maps.size D0 ≤ maxLen → Maps.size D0 * 8 ≤ 140737488355328 →
  Calls P f #[.func (.func g) #[] #[.pointer (some ⟨Bm, 0, none⟩)]] w fun e w' => ∃ (v : Value) (ss : List Int), e = .returned v ∧ ss.Perm (intKeys D0) ∧ w'.ownsRow w.heap.size K 1 v ss.length ((ss.mergeSort fun x y => decide (x ≤ y)).map (Value.int .i64)) ∧ Below w.heap.size w w'

section
variable {P : Program} {ops : Array Oper} {Q : Exit → Act → World → Prop} {N : Nat} {X : Nat → Prop} {w0 : World} {G : Ghost} {l : List (Nat × Value)} {L : List Asrt} {ν : Type}
variable {rest : List Oper} {d i j m Bm : Nat} {ty : TypeId} {pos : String} {after : Array Edge} {gd : Option (Nat × Bool)} {K T : TypeId} {f g : FuncId} {x : Operand} {ats : Array TypeId} {ve : ν → Value} {mv : List (Int × ν)}

theorem Mem.add {w w' : World} {A : Asrt} {F' : Nat → Prop} (h : Mem X w0 G w L) (hs : Since nX w w') (hA : A.holds w' F') (hF : ∀ b, F' b → w.heap.size ≤ b) : Mem X w0 G w' (A :: L) := by
  have h1 := h.call hs
  refine ⟨h1.since, h1.has, F', hA, fun b hb => ⟨.inl (Nat.le_trans h.since.size (hF b hb)), h.has.fresh (hF b hb)⟩, ?_⟩
  refine Sep.keep (h.sep.mono (fun b hb hu => ⟨hu, fun hf => ?_⟩)) (fun b hb _ => hs.block b hb id)
  have := hF b hf
  omega

theorem r_sorted (hw : Wt ops l gd) (hd : Nat.blt d N = true) (hf : Callable P f) (hv : evs l [x] = some [.func (.func g) #[] #[.pointer (some ⟨Bm, 0, none⟩)]]) (hL1 : L[i]? = some (mapA m kI ve mv)) (hL2 : L[j]? = some (box Bm 1 T (at_ [.map (some m)])))
    (hc : KeysC P f g K) (hK : P.underlying K = some (.int .i64)) (hwf : ∀ p ∈ mv, (Lit.int .i64 p.1).wf = true) (hlen : mv.length * 8 ≤ 140737488355328)
    (h : ∀ v, Runs P ops Q N X w0 G rest ((d, v) :: l) (rowA v K 1 (sortI (mv.map Prod.fst)).length ((sortI (mv.map Prod.fst)).flatMap cI) :: L)) : Runs P ops Q N X w0 G (⟨some d, .call ⟨.value (.func f), #[x], ats⟩, ty, pos, after, gd⟩ :: rest) l L := by
  refine Runs.step hw (fun a w hS => ?_)
  show Oper.upon P _ a _ Q _
  have hm : mv.length ≤ maxLen := by simp only [maxLen]; omega
  rw [show (#[x] : Array Operand) = [x].toArray from rfl, run_call hS.fr hv hf, Oper.upon_enter]
  obtain ⟨F1, ⟨⟨es, clock, hM⟩, _⟩, _, _⟩ := hS.mem.take hL1
  obtain ⟨F2, ⟨⟨c, hc1, hc2⟩, _⟩, _, _⟩ := hS.mem.take hL2
  obtain ⟨D0, hown, hperm, hsize⟩ := ownsMap_of (P := P) (K := K) hM hK hwf hm
  have hcell : w.cell? ⟨Bm, 0, none⟩ = some (.map (some m)) := by
    rw [cell_of_row w Bm 0 c T (0, 0) hc1]; exact hc2.get 0 (by decide)
  refine (hc Bm m _ D0 w hcell (lt_of_heap hc1) hown (by omega) (by omega)).mono (fun e w' hR => ?_)
  obtain ⟨v, ss, rfl, hss, hrow, hb⟩ := hR
  have hs : Since nX w w' := ⟨hb.os, hb.tape, hb.output, hb.size, fun k hk _ => hb.block k hk⟩
  have e1 : (ss.mergeSort fun x y => decide (x ≤ y)) = sortI (mv.map Prod.fst) := sortI_perm (hss.trans hperm)
  have e2 : ss.length = (sortI (mv.map Prod.fst)).length := by rw [← e1]; exact (List.length_mergeSort ss).symm
  rw [e1, e2, ← cells_ints] at hrow
  have hl1 : (sortI (mv.map Prod.fst)).length ≤ maxLen := by
    have : (sortI (mv.map Prod.fst)).length = mv.length := by unfold sortI; rw [List.length_mergeSort]; simp
    omega
  obtain ⟨h1, h2⟩ := hrow
  refine h v _ _ ⟨hS.fr.put (by simpa using hd) _, hS.mem.add (F' := fun b => v.ownBlock = some b) hs ⟨⟨h1, ?_⟩, fun _ => Iff.rfl, hl1⟩ ?_⟩
  · rcases h2 with h2 | ⟨g', cap, cur, e, hb', r⟩
    · exact .inl h2
    · exact .inr ⟨g', cap, cur, e, Nat.zero_le _, r⟩
  · intro b hb'
    rcases h2 with ⟨rfl, _⟩ | ⟨g', cap, cur, rfl, hb2, _⟩
    · cases hb'
    · simp [Value.ownBlock] at hb'; omega
end
end Go.Gx

/-
  GX: a method that keeps (or changes) its object and hands back memory that stays. Generic in the program.
-/
namespace Go.Gx
open Go.RowKit

theorem Sep.takeU {w : World} : ∀ {L : List Asrt} {U : Nat → Prop} {k : Nat} {A : Asrt}, Sep w L U → L[k]? = some A →
    ∃ F, A.holds w F ∧ (∀ b, F b → U b) ∧
      ∀ (U' : Nat → Prop) (w' : World) (A' : Asrt) (F' : Nat → Prop), (∀ b, b < w.heap.size → U b → ¬ F b → U' b) → A'.holds w' F' → (∀ b, F' b → U' b ∧ (F b ∨ w.heap.size ≤ b)) →
        (∀ b, b < w.heap.size → U b → ¬ F b → w'.heap[b]? = w.heap[b]?) → Sep w' (L.set k A') U'
  | [], _, _, _, _, h => by simp at h
  | A :: L, U, 0, A', ⟨F, h, hs, hL⟩, e => by
    simp at e; subst e
    refine ⟨F, h, hs, fun U' w' A'' F' hu h' hF' hk => ⟨F', h', fun b hb => (hF' b hb).1, ?_⟩⟩
    have hL1 : Sep w L (fun b => (U b ∧ ¬ F b) ∧ (U' b ∧ ¬ F' b)) := Sep.mono hL (fun b hb hub => ⟨hub, hu b hb hub.1 hub.2, fun hf => by
      rcases (hF' b hf).2 with h1 | h1
      · exact hub.2 h1
      · omega⟩)
    have hL3 := Sep.keep (w' := w') hL1 (fun b hb hu => hk b hb hu.1.1 hu.1.2)
    exact Sep.mono hL3 (fun b _ hu => hu.2)
  | A :: L, U, k + 1, A', ⟨F, h, hs, hL⟩, e => by
    simp at e
    obtain ⟨G, hg, hgs, hput⟩ := Sep.takeU hL e
    refine ⟨G, hg, fun b hb => (hgs b hb).1, fun U' w' A'' F' hu h' hF' hk => ?_⟩
    refine ⟨F, A.frame h (fun b hb => hk b (A.dom h hb) (hs b hb) (fun hg' => (hgs b hg').2 hb)), fun b hb => hu b (A.dom h hb) (hs b hb) (fun hg' => (hgs b hg').2 hb), ?_⟩
    exact hput (fun b => U' b ∧ ¬ F b) w' A'' F' (fun b hb hub hng => ⟨hu b hb hub.1 hng, hub.2⟩) h' (fun b hb => by
      obtain ⟨h0, h1⟩ := hF' b hb
      refine ⟨⟨h0, fun hf => ?_⟩, h1⟩
      rcases h1 with h1 | h1
      · exact (hgs b h1).2 hf
      · have := A.dom h hf; omega) (fun b hb hu hg' => hk b hb hu.1 hg')

def KeptG (A : Asrt) (F : Nat → Prop) (G' : Ghost) (w w' : World) : Prop := Since F w w' ∧ ∃ F', A.holds w' F' ∧ (∀ b, F' b → F b ∨ w.heap.size ≤ b) ∧ ∀ b, F' b → G' b = none

section
variable {P : Program} {ops : Array Oper} {Q : Exit → Act → World → Prop} {N : Nat} {X : Nat → Prop} {w0 : World} {G : Ghost} {l : List (Nat × Value)} {L : List Asrt}
variable {rest : List Oper} {d k : Nat} {ty : TypeId} {pos : String} {after : Array Edge} {gd : Option (Nat × Bool)}

theorem Mem.keptG {w : World} {F : Nat → Prop} {Ls : List Asrt} (h : Mem F w0 G w Ls) (Ls' : List Asrt) (hI : Imp Ls Ls') (B : Asrt) (hB : ∀ F', (starL Ls').holds w F' → B.holds w F') : KeptG B F G w0 w := by
  refine ⟨h.since, ?_⟩
  have h1 := (h.imp hI).sep
  rw [show Ls' = Ls' ++ [] by simp] at h1
  obtain ⟨F', h2, h3, _⟩ := Sep.packL Ls' h1
  exact ⟨F', hB F' h2, fun b hb => (h3 b hb).1.symm, fun b hb => (h3 b hb).2⟩

/-- A call that changes one object and hands back memory that stays. -/
theorem r_callom {f : FuncId} {xs : List Operand} {vs : List Value} {ats : Array TypeId} {A B : Asrt} {S : Ghost → Value → Prop} (hw : Wt ops l gd) (hd : Nat.blt d N = true) (hf : Callable P f) (hv : evs l xs = some vs) (hL : L[k]? = some A)
    (hc : ∀ w F, Has G w → A.holds w F → (∀ b, F b → G b = none) → Calls P f vs.toArray w (Ret fun r w' => ∃ G', GNew w F G G' ∧ Has G' w' ∧ S G' r ∧ KeptG B F G' w w'))
    (h : ∀ G' r, GNew w0 X G G' → S G' r → Runs P ops Q N X w0 G' rest ((d, r) :: l) (L.set k B)) : Runs P ops Q N X w0 G (⟨some d, .call ⟨.value (.func f), xs.toArray, ats⟩, ty, pos, after, gd⟩ :: rest) l L := by
  refine Runs.step hw (fun a w hS => ?_)
  show Oper.upon P _ a _ Q _
  rw [run_call hS.fr hv hf, Oper.upon_enter]
  obtain ⟨F, hA, hsub, hput⟩ := hS.mem.sep.takeU hL
  refine (hc w F hS.mem.has hA (fun b hb => (hsub b hb).2)).mono (fun e w' hR => ?_)
  cases e with
  | returned r =>
    obtain ⟨G', hn, hh, hr, hs, F', hB, hF', hFG'⟩ := hR
    have hn' : GNew w0 X G G' := ⟨hn.le, fun b h1 h2 => by
      rcases hn.new b h1 h2 with h3 | h3
      · exact .inl (Nat.le_trans hS.mem.since.size h3)
      · exact (hsub b h3).1⟩
    refine h G' r hn' hr _ _ ⟨hS.fr.put (by simpa using hd) _, ?_, hh, ?_⟩
    · refine ⟨hs.os.trans hS.mem.since.os, hs.tape.trans hS.mem.since.tape, hs.output.trans hS.mem.since.output, Nat.le_trans hS.mem.since.size hs.size, fun i hi hx => ?_⟩
      rw [hs.block i (Nat.lt_of_lt_of_le hi hS.mem.since.size) (fun hf => Or.elim (hsub i hf).1 (fun h1 => by omega) (fun h1 => hx h1))]
      exact hS.mem.since.block i hi hx
    · refine hput (fun b => (w0.heap.size ≤ b ∨ X b) ∧ G' b = none) w' B F' (fun b hb hu hf => ⟨hu.1, ?_⟩) hB (fun b hb => ⟨⟨?_, hFG' b hb⟩, hF' b hb⟩) (fun b hb _ hf => hs.block b hb hf)
      · cases e : G' b with
        | none => rfl
        | some o => rcases hn.new b hu.2 (by rw [e]; simp) with h3 | h3
                    · omega
                    · exact (hf h3).elim
      · rcases hF' b hb with h1 | h1
        · exact (hsub b h1).1
        · exact .inl (Nat.le_trans hS.mem.since.size h1)
  | panicked c => exact hR.elim
  | outgrown => exact hR.elim
end
end Go.Gx

/-
  GX: function values: they are made, and called. Generic in the program.
-/
namespace Go.Gx
open Go.RowKit

section
variable {P : Program} {ops : Array Oper} {Q : Exit → Act → World → Prop} {N : Nat} {X : Nat → Prop} {w0 : World} {G : Ghost} {l : List (Nat × Value)} {L : List Asrt}
variable {rest : List Oper} {ty : TypeId} {pos : String} {after : Array Edge} {gd : Option (Nat × Bool)}

theorem p_mkfunc {f : FuncId} {d : Nat} {xs : List Operand} {vs : List Value} (hv : evs l xs = some vs) : PV P N X w0 G l L ⟨some d, .makeFunc (.func f) #[] xs.toArray, ty, pos, after, gd⟩ (.func (.func f) #[] vs.toArray) := by
  intro a w hS
  have e := evs_eq hS.fr hv
  have h1 : xs.toArray.map a.eval = vs.toArray := by rw [← e]; simp
  simp only [execOp]
  rw [h1]
  simp [Go.Instr.makeFunc]

theorem fun_same {f : FuncId} {dst : Option Nat} {y : Operand} {xs : List Operand} {cs : List Value} {ats : Array TypeId} {a : Act} (hF : Fr N a l) (hy : ev l y = some (.func (.func f) #[] cs.toArray)) :
    execOp a.eval ⟨dst, .call ⟨.value y, xs.toArray, ats⟩, ty, pos, after, gd⟩ = execOp a.eval ⟨dst, .call ⟨.value (.func f), (xs ++ cs.map Operand.const).toArray, ats⟩, ty, pos, after, gd⟩ := by
  have h2 : execOp a.eval ⟨dst, .call ⟨.value (.func f), (xs ++ cs.map Operand.const).toArray, ats⟩, ty, pos, after, gd⟩ = callFunc f (#[] ++ (xs ++ cs.map Operand.const).toArray.map a.eval ++ #[]) := rfl
  have h3 : (Deferred.ofValue (.func (.func f) #[] cs.toArray) (xs.toArray.map a.eval) >>= fun t => invoke t.target t.args) = callFunc f ((#[] ++ xs.toArray.map a.eval) ++ cs.toArray) := rfl
  have h4 : execOp a.eval ⟨dst, .call ⟨.value y, xs.toArray, ats⟩, ty, pos, after, gd⟩ = (Deferred.ofValue (a.eval y) (xs.toArray.map a.eval) >>= fun t => invoke t.target t.args) := rfl
  rw [h2, h4, hF.eval hy, h3]
  have h5 : (List.map a.eval (cs.map Operand.const)) = cs := by
    rw [List.map_map]
    exact (List.map_congr_left (fun x _ => rfl)).trans (List.map_id cs)
  congr 1
  apply Array.toList_inj.1
  simp only [Array.toList_append, List.append_toArray, Array.toList_map, List.map_append, h5]
  simp

/-- A call of a function value is a call of its function with what it has caught behind the arguments. -/
theorem r_fun {f : FuncId} {dst : Option Nat} {y : Operand} {xs : List Operand} {cs : List Value} {ats : Array TypeId} (hw : Wt ops l gd) (hy : ev l y = some (.func (.func f) #[] cs.toArray))
    (h : Runs P ops Q N X w0 G (⟨dst, .call ⟨.value (.func f), (xs ++ cs.map Operand.const).toArray, ats⟩, ty, pos, after, gd⟩ :: rest) l L) :
    Runs P ops Q N X w0 G (⟨dst, .call ⟨.value y, xs.toArray, ats⟩, ty, pos, after, gd⟩ :: rest) l L := by
  intro a w hS
  have h1 := h a w hS
  unfold wpList at h1 ⊢
  rw [if_pos (hw.wanted hS.fr)] at h1 ⊢
  have e := fun_same (ty := ty) (pos := pos) (after := after) (gd := gd) (dst := dst) (xs := xs) (ats := ats) hS.fr hy
  rcases h1 with h1 | ⟨h1, h2⟩
  · left
    show Oper.upon P _ a _ Q _
    rw [e]
    exact h1
  · right
    refine ⟨?_, h2⟩
    simp only [Oper.asks] at h1 ⊢
    rw [e]
    exact h1
end
end Go.Gx
