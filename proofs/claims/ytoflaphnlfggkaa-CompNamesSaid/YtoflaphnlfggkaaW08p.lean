/- Walks: what Go functions of this chapter come to, each as a function on plain data; no condition but those that each theorem names. Printed by a program of this work (gen.py). -/
import Derived.Test.YtoflaphnlfggkaaW06f
import Derived.Test.YtoflaphnlfggkaaPl08d
import Derived.Test.YtoflaphnlfggkaaRows
namespace Go.Proofs.Ytoflaphnlfggkaa
open Go.Gx Go.Gx.T4 Go.Gx.T3 Go.Gx.T6 Go.Gx.T8 Go.Gx.T4 Go.Gx.T3 Go.Gx.T8 Go.Gx.T4 Go.Gx.T3 Go.Gx.T8 Go.Gx.T6 Go.Gx.T4 Go.Gx.T3
theorem sz61 : SzIs Try.prog 61 3 := by
  unfold SzIs
  kernel_rfl
theorem sz92 : SzIs Try.prog 92 3 := by
  unfold SzIs
  kernel_rfl
theorem zr61 : ZeroIs Try.prog 61 (Value.agg #[Value.int .i64 0, Value.int .i64 0, Value.int .i64 0]) := by
  unfold ZeroIs
  kernel_rfl
theorem zr92 : ZeroIs Try.prog 92 (Value.agg #[Value.int .i64 0, Value.int .i64 0, Value.int .i64 0]) := by
  unfold ZeroIs
  kernel_rfl
theorem lf35 : leafT Try.prog 9 35 = some [4, 3] := by
  kernel_rfl
theorem ef35 : eqT Try.prog 9 35 = true := by
  kernel_rfl
theorem eg35 : Try.prog.eqGuardType Try.prog.depth 35 = false := by
  kernel_rfl
theorem cl67 : Callable Try.prog 67 := callable Try.func67 (by kernel_rfl) rfl
theorem cl68 : Callable Try.prog 68 := callable Try.func68 (by kernel_rfl) rfl
theorem cl74 : Callable Try.prog 74 := callable Try.func74 (by kernel_rfl) rfl
theorem c_keyof (hh : Hd)  (w : World)  :
    Calls Try.prog 52 #[Value.agg #[Value.bool hh.v0, Value.int .i64 hh.n0, Value.bool hh.v1, Value.int .i64 hh.n1, Value.bool hh.v2, Value.int .i64 hh.n2]] w (Ret fun r w' => r = Value.agg #[Value.int .i64 (keyTo hh 3 0), Value.int .i64 (keyTo hh 3 1), Value.int .i64 (keyTo hh 3 2)] ∧ Since nX w w') := by
  refine enter (args := [_]) (X := nX) (G := (fun _ => none)) (l := [(0, Value.agg #[Value.bool hh.v0, Value.int .i64 hh.n0, Value.bool hh.v1, Value.int .i64 hh.n1, Value.bool hh.v2, Value.int .i64 hh.n2])]) Try.func52 rfl Try.ntmps52 (fun _ _ h => by cases h) ⟨rfl, trivial⟩ (Nat.le_of_ble_eq_true rfl) ?_
  refine c_seq ?_
  refine c_region ?_
  refine r_box .none rfl rfl (IsRow.lit _) (fun b_1 => ?_)
  refine r_alloc .none rfl zr61 (IsRow.lit _) (fun b_2 => ?_)
  refine r_nil ?_
  refine e_next ?_
  refine c_seq ?_
  refine c_region ?_
  refine r_alloc .none rfl zr61 (IsRow.lit _) (fun b_3 => ?_)
  refine r_nil ?_
  refine e_next ?_
  refine c_seq ?_
  refine c_seq ?_
  refine c_region ?_
  refine r_val .none rfl (p_ldw (k := 2) Try.underlying36 rfl sz36 rfl rfl (rfl : _ = Value.agg #[_, _, _, _, _, _])) ?_
  refine r_val .none rfl (p_move rfl) ?_
  refine r_nil ?_
  refine e_next ?_
  refine c_block ?_
  refine c_name (d := 2) rfl (fun u_1 hu_1 => ?_)
  refine c_name (d := 3) rfl (fun u_2 hu_2 => ?_)
  refine c_name (d := 6) rfl (fun u_3 hu_3 => ?_)
  refine c_nameL (k := 1) rfl (fun A_4 hA_4 => ?_)
  refine c_nameL (k := 2) rfl (fun A_5 hA_5 => ?_)
  refine c_loop (σ := Nat) (fun f => [(7, Value.int .i64 (f : Nat)), (2, u_1), (3, u_2), (6, u_3)]) (fun f => [box b_3 3 61 (at_ [.int .i64 (keyTo hh f 0), .int .i64 (keyTo hh f 1), .int .i64 (keyTo hh f 2)]), A_4, A_5]) (fun _ => _) (fun f => f ≤ 3) (fun f => 3 - f) (0) (Nat.zero_le _) rfl ⟨rfl, rfl, rfl, rfl, trivial⟩ (.keep (fun _ _ h => box_congr (fun i hi => by match i, hi with | 0, _ => rfl | 1, _ => rfl | 2, _ => rfl) _ _ h) (.keep (fun _ _ h => h) (.keep (fun _ _ h => h) (.nil)))) (fun f hphi => ?_)
  subst hu_1
  subst hu_2
  subst hu_3
  subst hA_4
  subst hA_5
  obtain rfl | rfl | rfl | rfl : f = 0 ∨ f = 1 ∨ f = 2 ∨ f = 3 := by omega
  · skip
    refine c_seq ?_
    refine c_region ?_
    refine r_val .none rfl (p_lt rfl rfl) ?_
    refine r_say (d := 8) (v := Value.bool true) rfl ?_
    refine r_nil ?_
    refine e_next ?_
    refine c_seq ?_
    refine c_cond_t rfl ?_
    refine c_skip ?_
    refine e_next ?_
    refine c_seq ?_
    refine c_block ?_
    refine c_seq ?_
    refine c_region ?_
    refine r_val .none rfl (p_move rfl) ?_
    refine r_val .none rfl (p_indexa (k := 0) Try.underlying36 Try.underlying35 rfl sz35 rfl (IsRow.lit _) rfl rfl (by first | exact of_decide_eq_true rfl | omega) (rfl : _ = Value.agg #[_, _])) ?_
    refine r_alloc .none rfl zr35 (IsRow.lit _) (fun b_4 => ?_)
    refine r_val .none rfl (p_assign rfl) ?_
    refine r_stw (k := 0) .none sz35 rfl rfl (IsRow.lit _) (one_lit rfl rfl) rfl ?_
    refine r_nil ?_
    refine e_next ?_
    refine c_seq ?_
    refine c_region ?_
    refine r_val .none rfl (p_field Try.underlying35 rfl sz4 rfl) ?_
    refine r_val .none rfl (p_ld (k := 0) Try.underlying4 rfl rfl rfl (by first | exact of_decide_eq_true rfl | omega) (rfl : _ = Value.bool _)) ?_
    refine r_val .none rfl (p_not rfl) ?_
    refine r_nil ?_
    refine e_next ?_
    refine c_splitn (d := 13) rfl (fun h_6 => ?_) (fun h_6 => ?_)
    · skip
      have hv : vF hh 0 = false := h_6
      first
        | (exfalso; omega)
        | (
          refine c_cond_t rfl ?_
          refine c_region ?_
          refine r_val .none rfl (p_move rfl) ?_
          refine r_val .none rfl (p_field Try.underlying35 rfl sz3 rfl) ?_
          refine r_val .none rfl (p_ld (k := 0) Try.underlying3 rfl rfl rfl (by first | exact of_decide_eq_true rfl | omega) (rfl : _ = Value.int _ _)) ?_
          refine r_val .none rfl (p_iaddr (k := 0) Try.underlying61 sz3 rfl rfl (by first | exact of_decide_eq_true rfl | omega)) ?_
          refine r_st (k := 1) .none sz3 rfl rfl rfl rfl (by first | exact of_decide_eq_true rfl | omega) ?_
          refine r_nil ?_
          refine e_norm_block ?_
          refine e_next ?_
          refine c_region ?_
          refine r_val .none rfl (p_add rfl rfl (by omega)) ?_
          refine r_val .none rfl (p_move rfl) ?_
          refine r_nil ?_
          refine e_round (1) ⟨Nat.le_of_ble_eq_true rfl, Nat.le_of_ble_eq_true rfl⟩ rfl ⟨rfl, rfl, rfl, rfl, trivial⟩ (.drop (.keep (fun _ _ h => box_congr (fun i hi => by match i, hi with | 0, _ => exact (by first | exact congrArg (Value.int .i64) (key_set (h := hh) (f := 0) hv).symm | exact congrArg (Value.int .i64) ((show keyTo hh 0 0 = 0 by simp [keyTo]).trans (key_not (h := hh) (f := 0) hv).symm)) | 1, _ => exact congrArg (Value.int .i64) (key_else (h := hh) (f := 0) (i := 1) (by decide)).symm | 2, _ => exact congrArg (Value.int .i64) (key_else (h := hh) (f := 0) (i := 2) (by decide)).symm) _ _ h) (.keep (fun _ _ h => h) (.keep (fun _ _ h => h) (.nil)))))
          )
    · skip
      have hv : vF hh 0 = true := h_6
      first
        | (exfalso; omega)
        | (
          refine c_cond_f rfl ?_
          refine c_skip ?_
          refine e_norm_block ?_
          refine e_next ?_
          refine c_region ?_
          refine r_val .none rfl (p_add rfl rfl (by omega)) ?_
          refine r_val .none rfl (p_move rfl) ?_
          refine r_nil ?_
          refine e_round (1) ⟨Nat.le_of_ble_eq_true rfl, Nat.le_of_ble_eq_true rfl⟩ rfl ⟨rfl, rfl, rfl, rfl, trivial⟩ (.drop (.keep (fun _ _ h => box_congr (fun i hi => by match i, hi with | 0, _ => exact (by first | exact congrArg (Value.int .i64) (key_set (h := hh) (f := 0) hv).symm | exact congrArg (Value.int .i64) ((show keyTo hh 0 0 = 0 by simp [keyTo]).trans (key_not (h := hh) (f := 0) hv).symm)) | 1, _ => exact congrArg (Value.int .i64) (key_else (h := hh) (f := 0) (i := 1) (by decide)).symm | 2, _ => exact congrArg (Value.int .i64) (key_else (h := hh) (f := 0) (i := 2) (by decide)).symm) _ _ h) (.keep (fun _ _ h => h) (.keep (fun _ _ h => h) (.nil)))))
          )
  · skip
    refine c_seq ?_
    refine c_region ?_
    refine r_val .none rfl (p_lt rfl rfl) ?_
    refine r_say (d := 8) (v := Value.bool true) rfl ?_
    refine r_nil ?_
    refine e_next ?_
    refine c_seq ?_
    refine c_cond_t rfl ?_
    refine c_skip ?_
    refine e_next ?_
    refine c_seq ?_
    refine c_block ?_
    refine c_seq ?_
    refine c_region ?_
    refine r_val .none rfl (p_move rfl) ?_
    refine r_val .none rfl (p_indexa (k := 1) Try.underlying36 Try.underlying35 rfl sz35 rfl (IsRow.lit _) rfl rfl (by first | exact of_decide_eq_true rfl | omega) (rfl : _ = Value.agg #[_, _])) ?_
    refine r_alloc .none rfl zr35 (IsRow.lit _) (fun b_5 => ?_)
    refine r_val .none rfl (p_assign rfl) ?_
    refine r_stw (k := 0) .none sz35 rfl rfl (IsRow.lit _) (one_lit rfl rfl) rfl ?_
    refine r_nil ?_
    refine e_next ?_
    refine c_seq ?_
    refine c_region ?_
    refine r_val .none rfl (p_field Try.underlying35 rfl sz4 rfl) ?_
    refine r_val .none rfl (p_ld (k := 0) Try.underlying4 rfl rfl rfl (by first | exact of_decide_eq_true rfl | omega) (rfl : _ = Value.bool _)) ?_
    refine r_val .none rfl (p_not rfl) ?_
    refine r_nil ?_
    refine e_next ?_
    refine c_splitn (d := 13) rfl (fun h_7 => ?_) (fun h_7 => ?_)
    · skip
      have hv : vF hh 1 = false := h_7
      first
        | (exfalso; omega)
        | (
          refine c_cond_t rfl ?_
          refine c_region ?_
          refine r_val .none rfl (p_move rfl) ?_
          refine r_val .none rfl (p_field Try.underlying35 rfl sz3 rfl) ?_
          refine r_val .none rfl (p_ld (k := 0) Try.underlying3 rfl rfl rfl (by first | exact of_decide_eq_true rfl | omega) (rfl : _ = Value.int _ _)) ?_
          refine r_val .none rfl (p_iaddr (k := 1) Try.underlying61 sz3 rfl rfl (by first | exact of_decide_eq_true rfl | omega)) ?_
          refine r_st (k := 1) .none sz3 rfl rfl rfl rfl (by first | exact of_decide_eq_true rfl | omega) ?_
          refine r_nil ?_
          refine e_norm_block ?_
          refine e_next ?_
          refine c_region ?_
          refine r_val .none rfl (p_add rfl rfl (by omega)) ?_
          refine r_val .none rfl (p_move rfl) ?_
          refine r_nil ?_
          refine e_round (2) ⟨Nat.le_of_ble_eq_true rfl, Nat.le_of_ble_eq_true rfl⟩ rfl ⟨rfl, rfl, rfl, rfl, trivial⟩ (.drop (.keep (fun _ _ h => box_congr (fun i hi => by match i, hi with | 0, _ => exact congrArg (Value.int .i64) (key_else (h := hh) (f := 1) (i := 0) (by decide)).symm | 1, _ => exact (by first | exact congrArg (Value.int .i64) (key_set (h := hh) (f := 1) hv).symm | exact congrArg (Value.int .i64) ((show keyTo hh 1 1 = 0 by simp [keyTo]).trans (key_not (h := hh) (f := 1) hv).symm)) | 2, _ => exact congrArg (Value.int .i64) (key_else (h := hh) (f := 1) (i := 2) (by decide)).symm) _ _ h) (.keep (fun _ _ h => h) (.keep (fun _ _ h => h) (.nil)))))
          )
    · skip
      have hv : vF hh 1 = true := h_7
      first
        | (exfalso; omega)
        | (
          refine c_cond_f rfl ?_
          refine c_skip ?_
          refine e_norm_block ?_
          refine e_next ?_
          refine c_region ?_
          refine r_val .none rfl (p_add rfl rfl (by omega)) ?_
          refine r_val .none rfl (p_move rfl) ?_
          refine r_nil ?_
          refine e_round (2) ⟨Nat.le_of_ble_eq_true rfl, Nat.le_of_ble_eq_true rfl⟩ rfl ⟨rfl, rfl, rfl, rfl, trivial⟩ (.drop (.keep (fun _ _ h => box_congr (fun i hi => by match i, hi with | 0, _ => exact congrArg (Value.int .i64) (key_else (h := hh) (f := 1) (i := 0) (by decide)).symm | 1, _ => exact (by first | exact congrArg (Value.int .i64) (key_set (h := hh) (f := 1) hv).symm | exact congrArg (Value.int .i64) ((show keyTo hh 1 1 = 0 by simp [keyTo]).trans (key_not (h := hh) (f := 1) hv).symm)) | 2, _ => exact congrArg (Value.int .i64) (key_else (h := hh) (f := 1) (i := 2) (by decide)).symm) _ _ h) (.keep (fun _ _ h => h) (.keep (fun _ _ h => h) (.nil)))))
          )
  · skip
    refine c_seq ?_
    refine c_region ?_
    refine r_val .none rfl (p_lt rfl rfl) ?_
    refine r_say (d := 8) (v := Value.bool true) rfl ?_
    refine r_nil ?_
    refine e_next ?_
    refine c_seq ?_
    refine c_cond_t rfl ?_
    refine c_skip ?_
    refine e_next ?_
    refine c_seq ?_
    refine c_block ?_
    refine c_seq ?_
    refine c_region ?_
    refine r_val .none rfl (p_move rfl) ?_
    refine r_val .none rfl (p_indexa (k := 2) Try.underlying36 Try.underlying35 rfl sz35 rfl (IsRow.lit _) rfl rfl (by first | exact of_decide_eq_true rfl | omega) (rfl : _ = Value.agg #[_, _])) ?_
    refine r_alloc .none rfl zr35 (IsRow.lit _) (fun b_6 => ?_)
    refine r_val .none rfl (p_assign rfl) ?_
    refine r_stw (k := 0) .none sz35 rfl rfl (IsRow.lit _) (one_lit rfl rfl) rfl ?_
    refine r_nil ?_
    refine e_next ?_
    refine c_seq ?_
    refine c_region ?_
    refine r_val .none rfl (p_field Try.underlying35 rfl sz4 rfl) ?_
    refine r_val .none rfl (p_ld (k := 0) Try.underlying4 rfl rfl rfl (by first | exact of_decide_eq_true rfl | omega) (rfl : _ = Value.bool _)) ?_
    refine r_val .none rfl (p_not rfl) ?_
    refine r_nil ?_
    refine e_next ?_
    refine c_splitn (d := 13) rfl (fun h_8 => ?_) (fun h_8 => ?_)
    · skip
      have hv : vF hh 2 = false := h_8
      first
        | (exfalso; omega)
        | (
          refine c_cond_t rfl ?_
          refine c_region ?_
          refine r_val .none rfl (p_move rfl) ?_
          refine r_val .none rfl (p_field Try.underlying35 rfl sz3 rfl) ?_
          refine r_val .none rfl (p_ld (k := 0) Try.underlying3 rfl rfl rfl (by first | exact of_decide_eq_true rfl | omega) (rfl : _ = Value.int _ _)) ?_
          refine r_val .none rfl (p_iaddr (k := 2) Try.underlying61 sz3 rfl rfl (by first | exact of_decide_eq_true rfl | omega)) ?_
          refine r_st (k := 1) .none sz3 rfl rfl rfl rfl (by first | exact of_decide_eq_true rfl | omega) ?_
          refine r_nil ?_
          refine e_norm_block ?_
          refine e_next ?_
          refine c_region ?_
          refine r_val .none rfl (p_add rfl rfl (by omega)) ?_
          refine r_val .none rfl (p_move rfl) ?_
          refine r_nil ?_
          refine e_round (3) ⟨Nat.le_of_ble_eq_true rfl, Nat.le_of_ble_eq_true rfl⟩ rfl ⟨rfl, rfl, rfl, rfl, trivial⟩ (.drop (.keep (fun _ _ h => box_congr (fun i hi => by match i, hi with | 0, _ => exact congrArg (Value.int .i64) (key_else (h := hh) (f := 2) (i := 0) (by decide)).symm | 1, _ => exact congrArg (Value.int .i64) (key_else (h := hh) (f := 2) (i := 1) (by decide)).symm | 2, _ => exact (by first | exact congrArg (Value.int .i64) (key_set (h := hh) (f := 2) hv).symm | exact congrArg (Value.int .i64) ((show keyTo hh 2 2 = 0 by simp [keyTo]).trans (key_not (h := hh) (f := 2) hv).symm))) _ _ h) (.keep (fun _ _ h => h) (.keep (fun _ _ h => h) (.nil)))))
          )
    · skip
      have hv : vF hh 2 = true := h_8
      first
        | (exfalso; omega)
        | (
          refine c_cond_f rfl ?_
          refine c_skip ?_
          refine e_norm_block ?_
          refine e_next ?_
          refine c_region ?_
          refine r_val .none rfl (p_add rfl rfl (by omega)) ?_
          refine r_val .none rfl (p_move rfl) ?_
          refine r_nil ?_
          refine e_round (3) ⟨Nat.le_of_ble_eq_true rfl, Nat.le_of_ble_eq_true rfl⟩ rfl ⟨rfl, rfl, rfl, rfl, trivial⟩ (.drop (.keep (fun _ _ h => box_congr (fun i hi => by match i, hi with | 0, _ => exact congrArg (Value.int .i64) (key_else (h := hh) (f := 2) (i := 0) (by decide)).symm | 1, _ => exact congrArg (Value.int .i64) (key_else (h := hh) (f := 2) (i := 1) (by decide)).symm | 2, _ => exact (by first | exact congrArg (Value.int .i64) (key_set (h := hh) (f := 2) hv).symm | exact congrArg (Value.int .i64) ((show keyTo hh 2 2 = 0 by simp [keyTo]).trans (key_not (h := hh) (f := 2) hv).symm))) _ _ h) (.keep (fun _ _ h => h) (.keep (fun _ _ h => h) (.nil)))))
          )
  · skip
    refine c_seq ?_
    refine c_region ?_
    refine r_val .none rfl (p_lt rfl rfl) ?_
    refine r_say (d := 8) (v := Value.bool false) rfl ?_
    refine r_nil ?_
    refine e_next ?_
    refine c_seq ?_
    refine c_cond_f rfl ?_
    refine c_exit ?_
    refine e_exit_then ?_
    refine e_exit_then ?_
    refine e_exit_block ?_
    refine e_next ?_
    refine c_seq ?_
    refine c_region ?_
    refine r_val .none rfl (p_ldw (k := 0) Try.underlying61 rfl sz61 rfl rfl (rfl : _ = Value.agg #[_, _, _])) ?_
    refine r_stw (k := 1) .none sz61 rfl rfl (IsRow.lit _) (one_lit rfl rfl) rfl ?_
    refine r_nil ?_
    refine e_next ?_
    refine c_ret ?_
    refine e_ret1 Try.results52 (.cell (k := 1) rfl Try.underlying61 rfl sz61 rfl (rfl : _ = Value.agg #[_, _, _]) .nil) (fun w hm => ⟨?_, hm.since⟩)
    rfl
theorem c_idxT (v : Value) (zs : List TT) (t : TT) {G : Ghost} (hr : SlL G v 2 tmC tt0 zs) (w : World) (hG : Has G w) :
    Calls Try.prog 74 #[v, Value.agg #[Value.bool t.1, Value.int .i64 t.2]] w (Ret fun r w' => r = Value.int .i64 (idxF (sameT t) zs 0) ∧ Since nX w w') := by
  refine enter (args := [_, _]) (X := nX) (G := G) (l := [(0, v), (1, Value.agg #[Value.bool t.1, Value.int .i64 t.2])]) Try.func74 rfl Try.ntmps74 hG ⟨rfl, rfl, trivial⟩ (Nat.le_of_ble_eq_true rfl) ?_
  have hbd := hr.bound
  refine c_seq ?_
  refine c_region ?_
  refine r_box .none rfl rfl (IsRow.lit _) (fun b_1 => ?_)
  refine r_val .none rfl (p_assign rfl) ?_
  refine r_nil ?_
  refine e_next ?_
  refine c_seq ?_
  refine c_seq ?_
  refine c_region ?_
  refine r_val .none rfl (p_move rfl) ?_
  refine r_val .none rfl (p_leng Try.underlying124 rfl hr) ?_
  have bd_1 := (hr).bound
  refine r_val .none rfl (p_move rfl) ?_
  refine r_nil ?_
  refine e_next ?_
  refine c_block ?_
  refine c_name (d := 0) rfl (fun u_2 hu_2 => ?_)
  refine c_name (d := 3) rfl (fun u_3 hu_3 => ?_)
  refine c_name (d := 7) rfl (fun u_4 hu_4 => ?_)
  refine c_nameL (k := 0) rfl (fun A_5 hA_5 => ?_)
  refine c_loop (σ := Nat) (fun k => [(8, Value.int .i64 (k : Nat)), (0, u_2), (3, u_3), (7, u_4)]) (fun k => [A_5]) (fun _ => _) (fun k => k ≤ zs.length ∧ idxF (sameT t) (zs.drop k) k = idxF (sameT t) zs 0) (fun k => zs.length - k) (0) ⟨Nat.zero_le _, rfl⟩ rfl ⟨rfl, rfl, rfl, rfl, trivial⟩ (.keep (fun _ _ h => h) (.nil)) (fun k hphi => ?_)
  subst hu_2
  subst hu_3
  subst hu_4
  subst hA_5
  refine c_seq ?_
  refine c_region ?_
  refine r_val .none rfl (p_lt rfl rfl) ?_
  refine r_nil ?_
  refine e_next ?_
  refine c_seq ?_
  refine c_splitd (d := 9) rfl (fun h_6 => ?_) (fun h_6 => ?_)
  · skip
    first
      | (exfalso; omega)
      | (
        refine c_cond_t rfl ?_
        refine c_skip ?_
        refine e_next ?_
        refine c_seq ?_
        refine c_block ?_
        refine c_seq ?_
        refine c_region ?_
        refine r_val .none rfl (p_move rfl) ?_
        refine r_val .none rfl (p_assign rfl) ?_
        refine r_nil ?_
        refine e_next ?_
        refine c_seq ?_
        refine c_region_q mixed (by kernel_rfl) ?_
        refine q_val .none rfl (p_ldw (k := 0) Try.underlying35 rfl sz35 rfl rfl (rfl : _ = Value.agg #[_, _])) ?_
        refine q_val .none rfl (p_move rfl) ?_
        refine q_val .none rfl (p_move rfl) ?_
        refine q_iaddr_g .none rfl Try.underlying124 sz35 rfl hr rfl (by first | exact of_decide_eq_true rfl | omega) (fun p_8 o_9 R_7 => ?_)
        refine q_val .none rfl (p_ldga0 Try.underlying35 rfl sz35 rfl R_7 (by first | exact of_decide_eq_true rfl | omega) (rfl : _ = Value.agg #[_, _])) ?_
        refine q_val .none rfl (p_eqa rfl rfl (eq_flat Try.underlying35 rfl lf35 ef35 eg35 (.cons (.bool Try.underlying4) (.cons (.int Try.underlying3) (.nil))) (.cons (.bool Try.underlying4) (.cons (.int Try.underlying3) (.nil))))) ?_
        refine q_nil ?_
        refine e_next ?_
        refine c_split (d := 16) rfl (fun h_10 => ?_) (fun h_10 => ?_)
        · skip
          have hE : sameT t (zs.getD k tt0) = true := h_10
          first
            | (exfalso; omega)
            | (
              refine c_cond_t rfl ?_
              refine c_seq ?_
              refine c_region ?_
              refine r_val .none rfl (p_move rfl) ?_
              refine r_val .none rfl (p_assign rfl) ?_
              refine r_nil ?_
              refine e_next ?_
              refine c_ret ?_
              refine e_ret_block ?_
              refine e_ret_then ?_
              refine e_ret_then ?_
              refine e_ret_block ?_
              refine e_ret_then ?_
              refine e_ret1 Try.results74 (.tmp rfl .nil) (fun w hm => ⟨?_, hm.since⟩)
              first
              | (rw [← hphi.2, idxF_yes (d := tt0) (by omega) hE])
              | (rw [← hphi.2, List.drop_eq_nil_of_le (by omega)]; rfl)
              )
        · skip
          have hE : sameT t (zs.getD k tt0) = false := h_10
          first
            | (exfalso; omega)
            | (
              refine c_cond_f rfl ?_
              refine c_skip ?_
              refine e_norm_block ?_
              refine e_next ?_
              refine c_region ?_
              refine r_val .none rfl (p_add rfl rfl (by omega)) ?_
              refine r_val .none rfl (p_move rfl) ?_
              refine r_nil ?_
              refine e_round (k + 1) ⟨⟨by omega, by rw [← hphi.2, idxF_no (d := tt0) (by omega) hE]⟩, by omega⟩ rfl ⟨rfl, rfl, rfl, rfl, trivial⟩ (.keep (fun _ _ h => h) (.nil))
              )
        )
  · skip
    first
      | (exfalso; omega)
      | (
        refine c_cond_f rfl ?_
        refine c_exit ?_
        refine e_exit_then ?_
        refine e_exit_then ?_
        refine e_exit_block ?_
        refine e_next ?_
        refine c_seq ?_
        refine c_region ?_
        refine r_val .none rfl (p_assign rfl) ?_
        refine r_nil ?_
        refine e_next ?_
        refine c_ret ?_
        refine e_ret1 Try.results74 (.tmp rfl .nil) (fun w hm => ⟨?_, hm.since⟩)
        first
        | (rw [← hphi.2, idxF_yes (d := tt0) (by omega) hE])
        | (rw [← hphi.2, List.drop_eq_nil_of_le (by omega)]; rfl)
        )
theorem c_own8 (c : CT) (sv : Value) (f : Nat) (hf : f < 3) (h1 : sv.oneCell' = true) (w : World)  :
    Calls Try.prog 68 #[Value.agg #[Value.int .i64 c.h.k, Value.bool c.h.v0, Value.int .i64 c.h.n0, Value.bool c.h.v1, Value.int .i64 c.h.n1, Value.bool c.h.v2, Value.int .i64 c.h.n2, sv], Value.int .i64 (f : Nat)] w (Ret fun r w' => r = Value.tuple #[Value.agg #[Value.int .i64 (f : Nat), Value.int .i64 (-1), Value.int .i64 (ownG c.h f)], Value.bool (decide (0 ≤ ownG c.h f))] ∧ Since nX w w') := by
  refine enter (args := [_, _]) (X := nX) (G := (fun _ => none)) (l := [(0, Value.agg #[Value.int .i64 c.h.k, Value.bool c.h.v0, Value.int .i64 c.h.n0, Value.bool c.h.v1, Value.int .i64 c.h.n1, Value.bool c.h.v2, Value.int .i64 c.h.n2, sv]), (1, Value.int .i64 (f : Nat))]) Try.func68 rfl Try.ntmps68 (fun _ _ h => by cases h) ⟨rfl, rfl, trivial⟩ (Nat.le_of_ble_eq_true rfl) ?_
  refine c_seq ?_
  refine c_region ?_
  refine r_box .none rfl rfl (IsRow.lit _) (fun b_1 => ?_)
  refine r_alloc .none rfl zr92 (IsRow.lit _) (fun b_2 => ?_)
  refine r_val .none rfl (p_assign rfl) ?_
  refine r_freezeX (k := 1) rfl (fun G_1 hn_2 hR_3 => ?_)
  have hR_4 : RowAt G_1 b_1 0 8 (at_ [Value.int .i64 c.h.k, Value.bool c.h.v0, Value.int .i64 c.h.n0, Value.bool c.h.v1, Value.int .i64 c.h.n1, Value.bool c.h.v2, Value.int .i64 c.h.n2, sv]) := RowAt.congr hR_3 (fun i hi => by match i, hi with | 0, _ => rfl | 1, _ => rfl | 2, _ => rfl | 3, _ => rfl | 4, _ => rfl | 5, _ => rfl | 6, _ => rfl | 7, _ => rfl)
  refine r_nil ?_
  refine e_next ?_
  refine c_seq ?_
  refine c_region_q mixed (by kernel_rfl) ?_
  refine q_val .none rfl (p_field Try.underlying38 rfl sz36 rfl) ?_
  refine q_val .none rfl (p_move rfl) ?_
  refine q_val .none rfl (p_slarr (m := f) Try.underlying36 sz35 rfl rfl (by first | exact of_decide_eq_true rfl | omega) (by decide)) ?_
  have hs_5 := slarr_g (n := 3) (m := f) (sz := 2) (RowAt.sub (j := 1) (m := 6) hR_4 (by decide)) (by first | exact of_decide_eq_true rfl | omega) (by decide)
  have hsl := terms_sl (h := c.h) hf hs_5
  refine q_val .none rfl (p_move rfl) ?_
  refine q_val .none rfl (p_field Try.underlying38 rfl sz36 rfl) ?_
  refine q_val .none rfl (p_iaddr (k := f) Try.underlying36 sz35 rfl rfl (by first | exact of_decide_eq_true rfl | omega)) ?_
  have R_6 := RowAt.sub (j := f * 2) (m := 2) (RowAt.sub (j := 1) (m := 6) hR_4 (by decide)) (by omega)
  refine q_val .none rfl (p_ldga0 Try.underlying35 rfl sz35 rfl R_6 (by first | exact of_decide_eq_true rfl | omega) (term_at hf)) ?_
  refine q_call (vs := [_, _]) .none rfl cl74 rfl (fun w hw => c_idxT _ _ (vF c.h f, nF c.h f) hsl w hw) ?_
  refine q_val .none rfl (p_assign rfl) ?_
  refine q_nil ?_
  refine e_next ?_
  refine c_seq ?_
  refine c_region ?_
  refine r_val .none rfl (p_move rfl) ?_
  refine r_val .none rfl (p_move rfl) ?_
  refine r_val .none rfl (p_build (vs := [(0, Value.int _ _), (1, Value.int _ _), (2, Value.int _ _)]) rfl (bl92_0i1_1i1_2i1 _ _ _)) ?_
  refine r_val .none rfl (p_move rfl) ?_
  refine r_val .none rfl (p_ge rfl rfl) ?_
  refine r_stw (k := 0) .none sz92 rfl rfl (IsRow.lit _) (one_lit rfl rfl) rfl ?_
  refine r_val .none rfl (p_assign rfl) ?_
  refine r_nil ?_
  refine e_next ?_
  refine c_ret ?_
  refine e_retn Try.results68 (.cell (k := 0) rfl Try.underlying92 rfl sz92 rfl (rfl : _ = Value.agg #[_, _, _]) (.tmp rfl .nil)) rfl (fun w hm => ⟨?_, hm.since⟩)
  rfl
theorem c_tst1 (x : PL) (b : Bool) (n : Int) (p : Nat) {G : Ghost} (hR : RowAt G p 0 2 (at_ [Value.bool b, Value.int .i64 n])) (w : World) (hG : Has G w) :
    Calls Try.prog 67 #[Value.agg #[Value.int .i64 x.1, Value.int .i64 x.2.1, Value.int .i64 x.2.2], Value.pointer (some ⟨p, 0, none⟩)] w (Ret fun r w' => r = Value.bool (isV n x) ∧ Since nX w w') := by
  refine enter (args := [_, _]) (X := nX) (G := G) (l := [(0, Value.agg #[Value.int .i64 x.1, Value.int .i64 x.2.1, Value.int .i64 x.2.2]), (1, Value.pointer (some ⟨p, 0, none⟩))]) Try.func67 rfl Try.ntmps67 hG ⟨rfl, rfl, trivial⟩ (Nat.le_of_ble_eq_true rfl) ?_
  refine c_seq ?_
  refine c_region ?_
  refine r_box .none rfl rfl (IsRow.lit _) (fun b_1 => ?_)
  refine r_val .none rfl (p_assign rfl) ?_
  refine r_nil ?_
  refine e_next ?_
  refine c_seq ?_
  refine c_region ?_
  refine r_val .none rfl (p_field Try.underlying84 rfl sz3 rfl) ?_
  refine r_val .none rfl (p_ld (k := 0) Try.underlying3 rfl rfl rfl (by first | exact of_decide_eq_true rfl | omega) (rfl : _ = Value.int _ _)) ?_
  refine r_val .none rfl (p_field Try.underlying35 rfl sz3 rfl) ?_
  refine r_val .none rfl (p_ldg (j := 1) Try.underlying3 rfl rfl hR (by first | exact of_decide_eq_true rfl | omega) (rfl : _ = Value.int _ _)) ?_
  refine r_val .none rfl (p_eq rfl rfl) ?_
  refine r_val .none rfl (p_assign rfl) ?_
  refine r_nil ?_
  refine e_next ?_
  refine c_ret ?_
  refine e_ret1 Try.results67 (.tmp rfl .nil) (fun w hm => ⟨?_, hm.since⟩)
  rfl
theorem c_tests8 (va : Value) (l : List CT) (c : CT) (sv : Value) {G : Ghost} (hlen : l.length ≤ 1000) (hs : Cs G va l) (h1 : sv.oneCell' = true) (w : World) (hG : Has G w) :
    Calls Try.prog 53 #[va, Value.agg #[Value.int .i64 c.h.k, Value.bool c.h.v0, Value.int .i64 c.h.n0, Value.bool c.h.v1, Value.int .i64 c.h.n1, Value.bool c.h.v2, Value.int .i64 c.h.n2, sv]] w (Ret fun r w' => ∃ H : Ghost, (∀ b, H b ≠ none → w.heap.size ≤ b) ∧ Has H w' ∧ SlL H r 3 tC t0 (testsTo l c.h 3) ∧ Since nX w w') := by
  refine enter (args := [_, _]) (X := nX) (G := G) (l := [(0, va), (1, Value.agg #[Value.int .i64 c.h.k, Value.bool c.h.v0, Value.int .i64 c.h.n0, Value.bool c.h.v1, Value.int .i64 c.h.n1, Value.bool c.h.v2, Value.int .i64 c.h.n2, sv])]) Try.func53 rfl Try.ntmps53 hG ⟨rfl, rfl, trivial⟩ (Nat.le_of_ble_eq_true rfl) ?_
  refine c_seq ?_
  refine c_region ?_
  refine r_box .none rfl rfl (IsRow.lit _) (fun b_1 => ?_)
  refine r_val .none rfl (p_assign rfl) ?_
  refine r_nil ?_
  refine e_next ?_
  refine c_seq ?_
  refine c_region ?_
  refine r_val .none rfl (p_move rfl) ?_
  refine r_callm (vs := [_]) .none rfl cl41 rfl (fun w hw => c_bnd _ _ hlen hs w hw) (fun G_1 v_4 hn_2 hr_3 => ?_)
  replace hs := hs.mono hn_2.le
  obtain ⟨zs, hzp, hzs, hzq⟩ := hr_3
  refine r_val .none rfl (p_assign rfl) ?_
  refine r_nil ?_
  refine e_next ?_
  refine c_seq ?_
  refine c_region ?_
  refine r_val .none rfl (p_assign rfl) ?_
  refine r_nil ?_
  refine e_next ?_
  refine c_seq ?_
  refine c_seq ?_
  refine c_region ?_
  refine r_val .none rfl (p_field Try.underlying38 rfl sz36 rfl) ?_
  refine r_val .none rfl (p_lda (k := 0) Try.underlying36 rfl sz36 rfl rfl (by first | exact of_decide_eq_true rfl | omega) (rfl : _ = Value.agg #[_, _, _, _, _, _])) ?_
  refine r_val .none rfl (p_move rfl) ?_
  refine r_nil ?_
  refine e_next ?_
  refine c_block ?_
  refine c_nilrow 92 3 ?_
  refine c_name (d := 3) rfl (fun u_6 hu_6 => ?_)
  refine c_name (d := 4) rfl (fun u_7 hu_7 => ?_)
  refine c_name (d := 5) rfl (fun u_8 hu_8 => ?_)
  refine c_name (d := 15) rfl (fun u_9 hu_9 => ?_)
  refine c_nameL (k := 1) rfl (fun A_10 hA_10 => ?_)
  refine c_loop (σ := Nat × Value × Ghost) (fun s => [(16, Value.int .i64 (s.1 : Nat)), (6, s.2.1), (3, u_6), (4, u_7), (5, u_8), (15, u_9)]) (fun s => [rowA (s.2.1) 92 3 ((testsTo l c.h s.1)).length (((testsTo l c.h s.1)).flatMap tC), A_10]) (fun s => s.2.2) (fun s => s.1 ≤ 3 ∧ GNew w nX G_1 s.2.2) (fun s => 3 - s.1) ((0, _, _)) ⟨Nat.zero_le _, GNew.refl _ _ _⟩ rfl ⟨rfl, rfl, rfl, rfl, rfl, rfl, trivial⟩ (.keep (fun _ _ h => rowA_nil rfl _ _ h) (.keep (fun _ _ h => h) (.nil))) (fun s hphi => ?_)
  subst hu_6
  subst hu_7
  subst hu_8
  subst hu_9
  subst hA_10
  obtain ⟨f, v, H⟩ := s
  obtain ⟨hf, hgn⟩ := hphi
  dsimp only at hf hgn ⊢
  refine c_row1 (k := 0) rfl (fun ov => ?_)
  refine c_rowlen (k := 0) rfl (fun l63 => ?_)
  replace hs := hs.mono hgn.le
  replace hzq := hzq.mono hgn.le
  obtain rfl | rfl | rfl | rfl : f = 0 ∨ f = 1 ∨ f = 2 ∨ f = 3 := by omega
  · skip
    refine c_seq ?_
    refine c_region ?_
    refine r_val .none rfl (p_lt rfl rfl) ?_
    refine r_say (d := 17) (v := Value.bool true) rfl ?_
    refine r_nil ?_
    refine e_next ?_
    refine c_seq ?_
    refine c_cond_t rfl ?_
    refine c_skip ?_
    refine e_next ?_
    refine c_seq ?_
    refine c_block ?_
    refine c_seq ?_
    refine c_region ?_
    refine r_val .none rfl (p_move rfl) ?_
    refine r_val .none rfl (p_indexa (k := 0) Try.underlying36 Try.underlying35 rfl sz35 rfl (IsRow.lit _) rfl rfl (by first | exact of_decide_eq_true rfl | omega) (rfl : _ = Value.agg #[_, _])) ?_
    refine r_alloc .none rfl zr35 (IsRow.lit _) (fun b_2 => ?_)
    refine r_val .none rfl (p_assign rfl) ?_
    refine r_stw (k := 0) .none sz35 rfl rfl (IsRow.lit _) (one_lit rfl rfl) rfl ?_
    refine r_nil ?_
    refine e_next ?_
    refine c_seq ?_
    refine c_seq ?_
    refine c_region ?_
    refine r_freezeX (k := 0) rfl (fun G_11 hn_12 hR_13 => ?_)
    replace hs := hs.mono hn_12.le
    replace hzq := hzq.mono hn_12.le
    have hR_14 : RowAt G_11 b_2 0 2 (at_ [Value.bool (vF c.h 0), Value.int .i64 (nF c.h 0)]) := RowAt.congr hR_13 (fun i hi => by match i, hi with | 0, _ => rfl | 1, _ => rfl)
    refine r_val .none rfl (p_field Try.underlying35 rfl sz4 rfl) ?_
    refine r_val .none rfl (p_ldg (j := 0) Try.underlying4 rfl rfl hR_14 (by first | exact of_decide_eq_true rfl | omega) (rfl : _ = Value.bool _)) ?_
    refine r_val .none rfl (p_not rfl) ?_
    refine r_nil ?_
    refine e_next ?_
    refine c_splitn (d := 22) rfl (fun h_15 => ?_) (fun h_15 => ?_)
    · skip
      have hv : vF c.h 0 = false := h_15
      first
        | (exfalso; omega)
        | (
          refine c_cond_t rfl ?_
          refine c_exit ?_
          refine e_exit_then ?_
          refine e_exit_block ?_
          refine e_next ?_
          refine c_region ?_
          refine r_val .none rfl (p_add rfl rfl (by omega)) ?_
          refine r_val .none rfl (p_move rfl) ?_
          refine r_nil ?_
          refine e_round ((1, _, _)) ⟨⟨Nat.le_of_ble_eq_true rfl, (hgn.trans hn_12)⟩, Nat.le_of_ble_eq_true rfl⟩ rfl ⟨rfl, rfl, rfl, rfl, rfl, rfl, trivial⟩ (.keep (fun _ _ h => rowA_same (by show testsTo l c.h (0 + 1) = _; rw [testsTo_succ, (by first | exact T1 hv | exact testF_n hv hbn hdn : testF l c.h 0 = []), List.append_nil]) _ _ h) (.keep (fun _ _ h => h) (.nil)))
          )
    · skip
      have hv : vF c.h 0 = true := h_15
      first
        | (exfalso; omega)
        | (
          refine c_cond_f rfl ?_
          refine c_skip ?_
          refine e_next ?_
          refine c_seq ?_
          refine c_region ?_
          refine r_val .none rfl (p_move rfl) ?_
          refine r_val .none rfl (p_mkfunc (vs := [_]) rfl) ?_
          refine r_call (vs := [_, _]) .none rfl cl66 rfl (fun w hw => c_idxP _ _ _ _ _ hzq cl67 (fun x w hw => c_tst1 x _ _ _ hR_14 w hw) w hw) ?_
          refine r_val .none rfl (p_assign rfl) ?_
          refine r_nil ?_
          refine e_next ?_
          refine c_seq ?_
          refine c_region ?_
          refine r_val .none rfl (p_move rfl) ?_
          refine r_val .none rfl (p_ge rfl rfl) ?_
          refine r_nil ?_
          refine e_next ?_
          refine c_splitd (d := 27) rfl (fun h_16 => ?_) (fun h_16 => ?_)
          · skip
            obtain ⟨i, hi1, hi2, hi3⟩ := idxF_some t0 (Int.le_refl 0) (h_16)
            rw [Int.zero_add] at hi1
            have hbd := found_bound hzp hi2 hi3
            first
              | (exfalso; omega)
              | (
                refine c_cond_t rfl ?_
                refine c_region_d (fun j => [14, 15].contains j) _ mixed (.keep (fun _ _ h => h) (.keep (fun _ _ h => h) (.nil))) ?_
                refine d_val1 0 rfl rfl (by kernel_rfl) (fun j hj => by have h : 15 < j := (Nat.lt_of_lt_of_le (by decide : 15 < 16) hj); simp; omega) .none rfl (p_move rfl) ?_
                refine d_val1 1 rfl rfl (by kernel_rfl) (fun j hj => by have h : 15 < j := (Nat.lt_of_lt_of_le (by decide : 15 < 16) hj); simp; omega) .none rfl (p_move rfl) ?_
                refine d_val1 2 rfl rfl (by kernel_rfl) (fun j hj => by have h : 15 < j := (Nat.lt_of_lt_of_le (by decide : 15 < 16) hj); simp; omega) .none rfl (p_move rfl) ?_
                refine d_val1 3 rfl rfl (by kernel_rfl) (fun j hj => by have h : 15 < j := (Nat.lt_of_lt_of_le (by decide : 15 < 16) hj); simp; omega) .none rfl (p_move rfl) ?_
                refine d_say (d := 31) (v := Value.int .i64 ((i : Nat) : Int)) (congrArg (fun x => some (Value.int .i64 x)) (by first | exact hi1 | omega)) ?_
                refine d_iaddr_g 4 rfl rfl (by kernel_rfl) (fun j hj => by have h : 15 < j := (Nat.lt_of_lt_of_le (by decide : 15 < 16) hj); simp; omega) .none rfl Try.underlying81 sz84 rfl hzq rfl (by first | exact of_decide_eq_true rfl | omega) (fun p_18 o_19 R_17 => ?_)
                refine d_val1 5 rfl rfl (by kernel_rfl) (fun j hj => by have h : 15 < j := (Nat.lt_of_lt_of_le (by decide : 15 < 16) hj); simp; omega) .none rfl (p_field Try.underlying84 rfl sz3 rfl) ?_
                refine d_val1 6 rfl rfl (by kernel_rfl) (fun j hj => by have h : 15 < j := (Nat.lt_of_lt_of_le (by decide : 15 < 16) hj); simp; omega) .none rfl (p_ldg (j := 1) Try.underlying3 rfl rfl R_17 (by first | exact of_decide_eq_true rfl | omega) (rfl : _ = Value.int _ _)) ?_
                refine d_val1 7 rfl rfl (by kernel_rfl) (fun j hj => by have h : 15 < j := (Nat.lt_of_lt_of_le (by decide : 15 < 16) hj); simp; omega) .none rfl (p_move rfl) ?_
                refine d_val1 8 rfl rfl (by kernel_rfl) (fun j hj => by have h : 15 < j := (Nat.lt_of_lt_of_le (by decide : 15 < 16) hj); simp; omega) .none rfl (p_move rfl) ?_
                refine d_say (d := 36) (v := Value.int .i64 ((i : Nat) : Int)) (congrArg (fun x => some (Value.int .i64 x)) (by first | exact hi1 | omega)) ?_
                refine d_iaddr_g 9 rfl rfl (by kernel_rfl) (fun j hj => by have h : 15 < j := (Nat.lt_of_lt_of_le (by decide : 15 < 16) hj); simp; omega) .none rfl Try.underlying81 sz84 rfl hzq rfl (by first | exact of_decide_eq_true rfl | omega) (fun p_21 o_22 R_20 => ?_)
                refine d_val1 10 rfl rfl (by kernel_rfl) (fun j hj => by have h : 15 < j := (Nat.lt_of_lt_of_le (by decide : 15 < 16) hj); simp; omega) .none rfl (p_field Try.underlying84 rfl sz3 rfl) ?_
                refine d_val1 11 rfl rfl (by kernel_rfl) (fun j hj => by have h : 15 < j := (Nat.lt_of_lt_of_le (by decide : 15 < 16) hj); simp; omega) .none rfl (p_ldg (j := 2) Try.underlying3 rfl rfl R_20 (by first | exact of_decide_eq_true rfl | omega) (rfl : _ = Value.int _ _)) ?_
                refine d_val1 12 rfl rfl (by kernel_rfl) (fun j hj => by have h : 15 < j := (Nat.lt_of_lt_of_le (by decide : 15 < 16) hj); simp; omega) .none rfl (p_build (vs := [(0, Value.int _ _), (1, Value.int _ _), (2, Value.int _ _)]) rfl (bl92_0i1_1i1_2i1 _ _ _)) ?_
                refine d_eff 13 rfl (by kernel_rfl) (fun K_23 hKK_23 hcK_23 => ?_)
                refine r_bslice (vs := [(0, Value.agg #[_, _, _])]) (c := #[_, _, _]) .none rfl Try.underlying62 el92 rfl rfl rfl (bs92_10a3 _ _ _) (IsRow.lit _) (fun b_3 => ?_)
                refine r_nil (e_d (i := 13) (brk := (fun j => [14, 15].contains j)) (ph' := true) hKK_23 hcK_23 rfl (fun _ => GLe.refl _) (fun _ => .drop (.keep (fun _ _ h => h) (.keep (fun _ _ h => h) (.nil)))) ?_)
                clear hKK_23 hcK_23 K_23
                refine d_eff 14 rfl (by kernel_rfl) (fun K_24 hKK_24 hcK_24 => ?_)
                refine r_append (k := 1) (k2 := 0) .none rfl Try.underlying62 el92 rfl (by decide) rfl rfl rfl rfl rfl (one_lit rfl rfl) (by have q0 := testsTo_len l c.h 0; have q1 := testsTo_len l c.h 1; have q2 := testsTo_len l c.h 2; simp only [maxLen]; omega) (by have q0 := testsTo_len l c.h 0; have q1 := testsTo_len l c.h 1; have q2 := testsTo_len l c.h 2; omega) (fun v_25 => ?_)
                refine r_row1 (k := 1) rfl (fun o_26 => ?_)
                refine r_nil (e_d (i := 14) (brk := (fun j => [14, 15].contains j)) (ph' := false) hKK_24 hcK_24 rfl (fun h => by cases h) (fun h => by cases h) ?_)
                clear hKK_24 hcK_24 K_24
                refine d_val2 15 rfl rfl (by kernel_rfl) .none rfl (fun _ => p_assign rfl) ?_
                refine d_nil (by kernel_rfl) ?_
                refine e_norm_block ?_
                refine e_next ?_
                refine c_region ?_
                refine r_val .none rfl (p_add rfl rfl (by omega)) ?_
                refine r_val .none rfl (p_move rfl) ?_
                refine r_nil ?_
                refine e_round ((1, _, _)) ⟨⟨Nat.le_of_ble_eq_true rfl, (hgn.trans hn_12)⟩, Nat.le_of_ble_eq_true rfl⟩ rfl ⟨rfl, rfl, rfl, rfl, rfl, rfl, trivial⟩ (.drop (.keep (fun _ _ h => rowA_snoc (l := testsTo l c.h 0) (x := (((0 : Nat) : Int), (zs.getD i t0).2.1, (zs.getD i t0).2.2)) (by show testsTo l c.h (0 + 1) = _; rw [testsTo_succ, testF_b hv hbd]) rfl rfl rfl _ _ h) (.keep (fun _ _ h => h) (.nil))))
                )
          · skip
            have hbn := found_none hzp (h_16)
            first
              | (exfalso; omega)
              | (
                refine c_cond_f rfl ?_
                refine c_seq ?_
                refine c_region ?_
                refine r_val .none rfl (p_ldw (k := 1) Try.underlying38 rfl sz38 rfl rfl (rfl : _ = Value.agg #[_, _, _, _, _, _, _, _])) ?_
                refine r_val .none rfl (p_move rfl) ?_
                refine r_call (vs := [_, _]) .none rfl cl68 rfl (fun w hw => c_own8 c sv 0 (by decide) h1 w) ?_
                refine r_val .none rfl (p_move rfl) ?_
                refine r_val .none rfl (p_extract rfl rfl) ?_
                refine r_val .none rfl (p_extract rfl rfl) ?_
                refine r_alloc .none rfl zr92 (IsRow.lit _) (fun b_4 => ?_)
                refine r_stw (k := 0) .none sz92 rfl rfl (IsRow.lit _) (one_lit rfl rfl) rfl ?_
                refine r_val .none rfl (p_assign rfl) ?_
                refine r_nil ?_
                refine e_next ?_
                refine c_seq ?_
                refine c_region ?_
                refine r_val .none rfl (p_move rfl) ?_
                refine r_nil ?_
                refine e_next ?_
                refine c_splitd (d := 49) rfl (fun h_27 => ?_) (fun h_27 => ?_)
                · skip
                  have hdp := dup_some (h := c.h) (f := 0) (by decide) (h_27)
                  first
                    | (exfalso; omega)
                    | (
                      refine c_cond_t rfl ?_
                      refine c_region ?_
                      refine r_val .none rfl (p_move rfl) ?_
                      refine r_val .none rfl (p_ldw (k := 0) Try.underlying92 rfl sz92 rfl rfl (rfl : _ = Value.agg #[_, _, _])) ?_
                      refine r_bslice (vs := [(0, Value.agg #[_, _, _])]) (c := #[_, _, _]) .none rfl Try.underlying62 el92 rfl rfl rfl (bs92_10a3 _ _ _) (IsRow.lit _) (fun b_5 => ?_)
                      refine r_append (k := 2) (k2 := 0) .none rfl Try.underlying62 el92 rfl (by decide) rfl rfl rfl rfl rfl (one_lit rfl rfl) (by have q0 := testsTo_len l c.h 0; have q1 := testsTo_len l c.h 1; have q2 := testsTo_len l c.h 2; simp only [maxLen]; omega) (by have q0 := testsTo_len l c.h 0; have q1 := testsTo_len l c.h 1; have q2 := testsTo_len l c.h 2; omega) (fun v_28 => ?_)
                      refine r_row1 (k := 2) rfl (fun o_29 => ?_)
                      refine r_val .none rfl (p_assign rfl) ?_
                      refine r_nil ?_
                      refine e_norm_block ?_
                      refine e_next ?_
                      refine c_region ?_
                      refine r_val .none rfl (p_add rfl rfl (by omega)) ?_
                      refine r_val .none rfl (p_move rfl) ?_
                      refine r_nil ?_
                      refine e_round ((1, _, _)) ⟨⟨Nat.le_of_ble_eq_true rfl, (hgn.trans hn_12)⟩, Nat.le_of_ble_eq_true rfl⟩ rfl ⟨rfl, rfl, rfl, rfl, rfl, rfl, trivial⟩ (.drop (.drop (.keep (fun _ _ h => rowA_snoc (l := testsTo l c.h 0) (x := (((0 : Nat) : Int), -1, ownG c.h 0)) (by show testsTo l c.h (0 + 1) = _; rw [testsTo_succ, testF_d hv hbn hdp]) rfl rfl rfl _ _ h) (.keep (fun _ _ h => h) (.nil)))))
                      )
                · skip
                  have hdn := dup_none (h := c.h) (f := 0) (by decide) (h_27)
                  first
                    | (exfalso; omega)
                    | (
                      refine c_cond_f rfl ?_
                      refine c_skip ?_
                      refine e_norm_block ?_
                      refine e_next ?_
                      refine c_region ?_
                      refine r_val .none rfl (p_add rfl rfl (by omega)) ?_
                      refine r_val .none rfl (p_move rfl) ?_
                      refine r_nil ?_
                      refine e_round ((1, _, _)) ⟨⟨Nat.le_of_ble_eq_true rfl, (hgn.trans hn_12)⟩, Nat.le_of_ble_eq_true rfl⟩ rfl ⟨rfl, rfl, rfl, rfl, rfl, rfl, trivial⟩ (.drop (.keep (fun _ _ h => rowA_same (by show testsTo l c.h (0 + 1) = _; rw [testsTo_succ, (by first | exact T1 hv | exact testF_n hv hbn hdn : testF l c.h 0 = []), List.append_nil]) _ _ h) (.keep (fun _ _ h => h) (.nil))))
                      )
                )
          )
  · skip
    refine c_seq ?_
    refine c_region ?_
    refine r_val .none rfl (p_lt rfl rfl) ?_
    refine r_say (d := 17) (v := Value.bool true) rfl ?_
    refine r_nil ?_
    refine e_next ?_
    refine c_seq ?_
    refine c_cond_t rfl ?_
    refine c_skip ?_
    refine e_next ?_
    refine c_seq ?_
    refine c_block ?_
    refine c_seq ?_
    refine c_region ?_
    refine r_val .none rfl (p_move rfl) ?_
    refine r_val .none rfl (p_indexa (k := 1) Try.underlying36 Try.underlying35 rfl sz35 rfl (IsRow.lit _) rfl rfl (by first | exact of_decide_eq_true rfl | omega) (rfl : _ = Value.agg #[_, _])) ?_
    refine r_alloc .none rfl zr35 (IsRow.lit _) (fun b_6 => ?_)
    refine r_val .none rfl (p_assign rfl) ?_
    refine r_stw (k := 0) .none sz35 rfl rfl (IsRow.lit _) (one_lit rfl rfl) rfl ?_
    refine r_nil ?_
    refine e_next ?_
    refine c_seq ?_
    refine c_seq ?_
    refine c_region ?_
    refine r_freezeX (k := 0) rfl (fun G_30 hn_31 hR_32 => ?_)
    replace hs := hs.mono hn_31.le
    replace hzq := hzq.mono hn_31.le
    have hR_33 : RowAt G_30 b_6 0 2 (at_ [Value.bool (vF c.h 1), Value.int .i64 (nF c.h 1)]) := RowAt.congr hR_32 (fun i hi => by match i, hi with | 0, _ => rfl | 1, _ => rfl)
    refine r_val .none rfl (p_field Try.underlying35 rfl sz4 rfl) ?_
    refine r_val .none rfl (p_ldg (j := 0) Try.underlying4 rfl rfl hR_33 (by first | exact of_decide_eq_true rfl | omega) (rfl : _ = Value.bool _)) ?_
    refine r_val .none rfl (p_not rfl) ?_
    refine r_nil ?_
    refine e_next ?_
    refine c_splitn (d := 22) rfl (fun h_34 => ?_) (fun h_34 => ?_)
    · skip
      have hv : vF c.h 1 = false := h_34
      first
        | (exfalso; omega)
        | (
          refine c_cond_t rfl ?_
          refine c_exit ?_
          refine e_exit_then ?_
          refine e_exit_block ?_
          refine e_next ?_
          refine c_region ?_
          refine r_val .none rfl (p_add rfl rfl (by omega)) ?_
          refine r_val .none rfl (p_move rfl) ?_
          refine r_nil ?_
          refine e_round ((2, _, _)) ⟨⟨Nat.le_of_ble_eq_true rfl, (hgn.trans hn_31)⟩, Nat.le_of_ble_eq_true rfl⟩ rfl ⟨rfl, rfl, rfl, rfl, rfl, rfl, trivial⟩ (.keep (fun _ _ h => rowA_same (by show testsTo l c.h (1 + 1) = _; rw [testsTo_succ, (by first | exact T1 hv | exact testF_n hv hbn hdn : testF l c.h 1 = []), List.append_nil]) _ _ h) (.keep (fun _ _ h => h) (.nil)))
          )
    · skip
      have hv : vF c.h 1 = true := h_34
      first
        | (exfalso; omega)
        | (
          refine c_cond_f rfl ?_
          refine c_skip ?_
          refine e_next ?_
          refine c_seq ?_
          refine c_region ?_
          refine r_val .none rfl (p_move rfl) ?_
          refine r_val .none rfl (p_mkfunc (vs := [_]) rfl) ?_
          refine r_call (vs := [_, _]) .none rfl cl66 rfl (fun w hw => c_idxP _ _ _ _ _ hzq cl67 (fun x w hw => c_tst1 x _ _ _ hR_33 w hw) w hw) ?_
          refine r_val .none rfl (p_assign rfl) ?_
          refine r_nil ?_
          refine e_next ?_
          refine c_seq ?_
          refine c_region ?_
          refine r_val .none rfl (p_move rfl) ?_
          refine r_val .none rfl (p_ge rfl rfl) ?_
          refine r_nil ?_
          refine e_next ?_
          refine c_splitd (d := 27) rfl (fun h_35 => ?_) (fun h_35 => ?_)
          · skip
            obtain ⟨i, hi1, hi2, hi3⟩ := idxF_some t0 (Int.le_refl 0) (h_35)
            rw [Int.zero_add] at hi1
            have hbd := found_bound hzp hi2 hi3
            first
              | (exfalso; omega)
              | (
                refine c_cond_t rfl ?_
                refine c_region_d (fun j => [14, 15].contains j) _ mixed (.keep (fun _ _ h => h) (.keep (fun _ _ h => h) (.nil))) ?_
                refine d_val1 0 rfl rfl (by kernel_rfl) (fun j hj => by have h : 15 < j := (Nat.lt_of_lt_of_le (by decide : 15 < 16) hj); simp; omega) .none rfl (p_move rfl) ?_
                refine d_val1 1 rfl rfl (by kernel_rfl) (fun j hj => by have h : 15 < j := (Nat.lt_of_lt_of_le (by decide : 15 < 16) hj); simp; omega) .none rfl (p_move rfl) ?_
                refine d_val1 2 rfl rfl (by kernel_rfl) (fun j hj => by have h : 15 < j := (Nat.lt_of_lt_of_le (by decide : 15 < 16) hj); simp; omega) .none rfl (p_move rfl) ?_
                refine d_val1 3 rfl rfl (by kernel_rfl) (fun j hj => by have h : 15 < j := (Nat.lt_of_lt_of_le (by decide : 15 < 16) hj); simp; omega) .none rfl (p_move rfl) ?_
                refine d_say (d := 31) (v := Value.int .i64 ((i : Nat) : Int)) (congrArg (fun x => some (Value.int .i64 x)) (by first | exact hi1 | omega)) ?_
                refine d_iaddr_g 4 rfl rfl (by kernel_rfl) (fun j hj => by have h : 15 < j := (Nat.lt_of_lt_of_le (by decide : 15 < 16) hj); simp; omega) .none rfl Try.underlying81 sz84 rfl hzq rfl (by first | exact of_decide_eq_true rfl | omega) (fun p_37 o_38 R_36 => ?_)
                refine d_val1 5 rfl rfl (by kernel_rfl) (fun j hj => by have h : 15 < j := (Nat.lt_of_lt_of_le (by decide : 15 < 16) hj); simp; omega) .none rfl (p_field Try.underlying84 rfl sz3 rfl) ?_
                refine d_val1 6 rfl rfl (by kernel_rfl) (fun j hj => by have h : 15 < j := (Nat.lt_of_lt_of_le (by decide : 15 < 16) hj); simp; omega) .none rfl (p_ldg (j := 1) Try.underlying3 rfl rfl R_36 (by first | exact of_decide_eq_true rfl | omega) (rfl : _ = Value.int _ _)) ?_
                refine d_val1 7 rfl rfl (by kernel_rfl) (fun j hj => by have h : 15 < j := (Nat.lt_of_lt_of_le (by decide : 15 < 16) hj); simp; omega) .none rfl (p_move rfl) ?_
                refine d_val1 8 rfl rfl (by kernel_rfl) (fun j hj => by have h : 15 < j := (Nat.lt_of_lt_of_le (by decide : 15 < 16) hj); simp; omega) .none rfl (p_move rfl) ?_
                refine d_say (d := 36) (v := Value.int .i64 ((i : Nat) : Int)) (congrArg (fun x => some (Value.int .i64 x)) (by first | exact hi1 | omega)) ?_
                refine d_iaddr_g 9 rfl rfl (by kernel_rfl) (fun j hj => by have h : 15 < j := (Nat.lt_of_lt_of_le (by decide : 15 < 16) hj); simp; omega) .none rfl Try.underlying81 sz84 rfl hzq rfl (by first | exact of_decide_eq_true rfl | omega) (fun p_40 o_41 R_39 => ?_)
                refine d_val1 10 rfl rfl (by kernel_rfl) (fun j hj => by have h : 15 < j := (Nat.lt_of_lt_of_le (by decide : 15 < 16) hj); simp; omega) .none rfl (p_field Try.underlying84 rfl sz3 rfl) ?_
                refine d_val1 11 rfl rfl (by kernel_rfl) (fun j hj => by have h : 15 < j := (Nat.lt_of_lt_of_le (by decide : 15 < 16) hj); simp; omega) .none rfl (p_ldg (j := 2) Try.underlying3 rfl rfl R_39 (by first | exact of_decide_eq_true rfl | omega) (rfl : _ = Value.int _ _)) ?_
                refine d_val1 12 rfl rfl (by kernel_rfl) (fun j hj => by have h : 15 < j := (Nat.lt_of_lt_of_le (by decide : 15 < 16) hj); simp; omega) .none rfl (p_build (vs := [(0, Value.int _ _), (1, Value.int _ _), (2, Value.int _ _)]) rfl (bl92_0i1_1i1_2i1 _ _ _)) ?_
                refine d_eff 13 rfl (by kernel_rfl) (fun K_42 hKK_42 hcK_42 => ?_)
                refine r_bslice (vs := [(0, Value.agg #[_, _, _])]) (c := #[_, _, _]) .none rfl Try.underlying62 el92 rfl rfl rfl (bs92_10a3 _ _ _) (IsRow.lit _) (fun b_7 => ?_)
                refine r_nil (e_d (i := 13) (brk := (fun j => [14, 15].contains j)) (ph' := true) hKK_42 hcK_42 rfl (fun _ => GLe.refl _) (fun _ => .drop (.keep (fun _ _ h => h) (.keep (fun _ _ h => h) (.nil)))) ?_)
                clear hKK_42 hcK_42 K_42
                refine d_eff 14 rfl (by kernel_rfl) (fun K_43 hKK_43 hcK_43 => ?_)
                refine r_append (k := 1) (k2 := 0) .none rfl Try.underlying62 el92 rfl (by decide) rfl rfl rfl rfl rfl (one_lit rfl rfl) (by have q0 := testsTo_len l c.h 0; have q1 := testsTo_len l c.h 1; have q2 := testsTo_len l c.h 2; simp only [maxLen]; omega) (by have q0 := testsTo_len l c.h 0; have q1 := testsTo_len l c.h 1; have q2 := testsTo_len l c.h 2; omega) (fun v_44 => ?_)
                refine r_row1 (k := 1) rfl (fun o_45 => ?_)
                refine r_nil (e_d (i := 14) (brk := (fun j => [14, 15].contains j)) (ph' := false) hKK_43 hcK_43 rfl (fun h => by cases h) (fun h => by cases h) ?_)
                clear hKK_43 hcK_43 K_43
                refine d_val2 15 rfl rfl (by kernel_rfl) .none rfl (fun _ => p_assign rfl) ?_
                refine d_nil (by kernel_rfl) ?_
                refine e_norm_block ?_
                refine e_next ?_
                refine c_region ?_
                refine r_val .none rfl (p_add rfl rfl (by omega)) ?_
                refine r_val .none rfl (p_move rfl) ?_
                refine r_nil ?_
                refine e_round ((2, _, _)) ⟨⟨Nat.le_of_ble_eq_true rfl, (hgn.trans hn_31)⟩, Nat.le_of_ble_eq_true rfl⟩ rfl ⟨rfl, rfl, rfl, rfl, rfl, rfl, trivial⟩ (.drop (.keep (fun _ _ h => rowA_snoc (l := testsTo l c.h 1) (x := (((1 : Nat) : Int), (zs.getD i t0).2.1, (zs.getD i t0).2.2)) (by show testsTo l c.h (1 + 1) = _; rw [testsTo_succ, testF_b hv hbd]) rfl rfl rfl _ _ h) (.keep (fun _ _ h => h) (.nil))))
                )
          · skip
            have hbn := found_none hzp (h_35)
            first
              | (exfalso; omega)
              | (
                refine c_cond_f rfl ?_
                refine c_seq ?_
                refine c_region ?_
                refine r_val .none rfl (p_ldw (k := 1) Try.underlying38 rfl sz38 rfl rfl (rfl : _ = Value.agg #[_, _, _, _, _, _, _, _])) ?_
                refine r_val .none rfl (p_move rfl) ?_
                refine r_call (vs := [_, _]) .none rfl cl68 rfl (fun w hw => c_own8 c sv 1 (by decide) h1 w) ?_
                refine r_val .none rfl (p_move rfl) ?_
                refine r_val .none rfl (p_extract rfl rfl) ?_
                refine r_val .none rfl (p_extract rfl rfl) ?_
                refine r_alloc .none rfl zr92 (IsRow.lit _) (fun b_8 => ?_)
                refine r_stw (k := 0) .none sz92 rfl rfl (IsRow.lit _) (one_lit rfl rfl) rfl ?_
                refine r_val .none rfl (p_assign rfl) ?_
                refine r_nil ?_
                refine e_next ?_
                refine c_seq ?_
                refine c_region ?_
                refine r_val .none rfl (p_move rfl) ?_
                refine r_nil ?_
                refine e_next ?_
                refine c_splitd (d := 49) rfl (fun h_46 => ?_) (fun h_46 => ?_)
                · skip
                  have hdp := dup_some (h := c.h) (f := 1) (by decide) (h_46)
                  first
                    | (exfalso; omega)
                    | (
                      refine c_cond_t rfl ?_
                      refine c_region ?_
                      refine r_val .none rfl (p_move rfl) ?_
                      refine r_val .none rfl (p_ldw (k := 0) Try.underlying92 rfl sz92 rfl rfl (rfl : _ = Value.agg #[_, _, _])) ?_
                      refine r_bslice (vs := [(0, Value.agg #[_, _, _])]) (c := #[_, _, _]) .none rfl Try.underlying62 el92 rfl rfl rfl (bs92_10a3 _ _ _) (IsRow.lit _) (fun b_9 => ?_)
                      refine r_append (k := 2) (k2 := 0) .none rfl Try.underlying62 el92 rfl (by decide) rfl rfl rfl rfl rfl (one_lit rfl rfl) (by have q0 := testsTo_len l c.h 0; have q1 := testsTo_len l c.h 1; have q2 := testsTo_len l c.h 2; simp only [maxLen]; omega) (by have q0 := testsTo_len l c.h 0; have q1 := testsTo_len l c.h 1; have q2 := testsTo_len l c.h 2; omega) (fun v_47 => ?_)
                      refine r_row1 (k := 2) rfl (fun o_48 => ?_)
                      refine r_val .none rfl (p_assign rfl) ?_
                      refine r_nil ?_
                      refine e_norm_block ?_
                      refine e_next ?_
                      refine c_region ?_
                      refine r_val .none rfl (p_add rfl rfl (by omega)) ?_
                      refine r_val .none rfl (p_move rfl) ?_
                      refine r_nil ?_
                      refine e_round ((2, _, _)) ⟨⟨Nat.le_of_ble_eq_true rfl, (hgn.trans hn_31)⟩, Nat.le_of_ble_eq_true rfl⟩ rfl ⟨rfl, rfl, rfl, rfl, rfl, rfl, trivial⟩ (.drop (.drop (.keep (fun _ _ h => rowA_snoc (l := testsTo l c.h 1) (x := (((1 : Nat) : Int), -1, ownG c.h 1)) (by show testsTo l c.h (1 + 1) = _; rw [testsTo_succ, testF_d hv hbn hdp]) rfl rfl rfl _ _ h) (.keep (fun _ _ h => h) (.nil)))))
                      )
                · skip
                  have hdn := dup_none (h := c.h) (f := 1) (by decide) (h_46)
                  first
                    | (exfalso; omega)
                    | (
                      refine c_cond_f rfl ?_
                      refine c_skip ?_
                      refine e_norm_block ?_
                      refine e_next ?_
                      refine c_region ?_
                      refine r_val .none rfl (p_add rfl rfl (by omega)) ?_
                      refine r_val .none rfl (p_move rfl) ?_
                      refine r_nil ?_
                      refine e_round ((2, _, _)) ⟨⟨Nat.le_of_ble_eq_true rfl, (hgn.trans hn_31)⟩, Nat.le_of_ble_eq_true rfl⟩ rfl ⟨rfl, rfl, rfl, rfl, rfl, rfl, trivial⟩ (.drop (.keep (fun _ _ h => rowA_same (by show testsTo l c.h (1 + 1) = _; rw [testsTo_succ, (by first | exact T1 hv | exact testF_n hv hbn hdn : testF l c.h 1 = []), List.append_nil]) _ _ h) (.keep (fun _ _ h => h) (.nil))))
                      )
                )
          )
  · skip
    refine c_seq ?_
    refine c_region ?_
    refine r_val .none rfl (p_lt rfl rfl) ?_
    refine r_say (d := 17) (v := Value.bool true) rfl ?_
    refine r_nil ?_
    refine e_next ?_
    refine c_seq ?_
    refine c_cond_t rfl ?_
    refine c_skip ?_
    refine e_next ?_
    refine c_seq ?_
    refine c_block ?_
    refine c_seq ?_
    refine c_region ?_
    refine r_val .none rfl (p_move rfl) ?_
    refine r_val .none rfl (p_indexa (k := 2) Try.underlying36 Try.underlying35 rfl sz35 rfl (IsRow.lit _) rfl rfl (by first | exact of_decide_eq_true rfl | omega) (rfl : _ = Value.agg #[_, _])) ?_
    refine r_alloc .none rfl zr35 (IsRow.lit _) (fun b_10 => ?_)
    refine r_val .none rfl (p_assign rfl) ?_
    refine r_stw (k := 0) .none sz35 rfl rfl (IsRow.lit _) (one_lit rfl rfl) rfl ?_
    refine r_nil ?_
    refine e_next ?_
    refine c_seq ?_
    refine c_seq ?_
    refine c_region ?_
    refine r_freezeX (k := 0) rfl (fun G_49 hn_50 hR_51 => ?_)
    replace hs := hs.mono hn_50.le
    replace hzq := hzq.mono hn_50.le
    have hR_52 : RowAt G_49 b_10 0 2 (at_ [Value.bool (vF c.h 2), Value.int .i64 (nF c.h 2)]) := RowAt.congr hR_51 (fun i hi => by match i, hi with | 0, _ => rfl | 1, _ => rfl)
    refine r_val .none rfl (p_field Try.underlying35 rfl sz4 rfl) ?_
    refine r_val .none rfl (p_ldg (j := 0) Try.underlying4 rfl rfl hR_52 (by first | exact of_decide_eq_true rfl | omega) (rfl : _ = Value.bool _)) ?_
    refine r_val .none rfl (p_not rfl) ?_
    refine r_nil ?_
    refine e_next ?_
    refine c_splitn (d := 22) rfl (fun h_53 => ?_) (fun h_53 => ?_)
    · skip
      have hv : vF c.h 2 = false := h_53
      first
        | (exfalso; omega)
        | (
          refine c_cond_t rfl ?_
          refine c_exit ?_
          refine e_exit_then ?_
          refine e_exit_block ?_
          refine e_next ?_
          refine c_region ?_
          refine r_val .none rfl (p_add rfl rfl (by omega)) ?_
          refine r_val .none rfl (p_move rfl) ?_
          refine r_nil ?_
          refine e_round ((3, _, _)) ⟨⟨Nat.le_of_ble_eq_true rfl, (hgn.trans hn_50)⟩, Nat.le_of_ble_eq_true rfl⟩ rfl ⟨rfl, rfl, rfl, rfl, rfl, rfl, trivial⟩ (.keep (fun _ _ h => rowA_same (by show testsTo l c.h (2 + 1) = _; rw [testsTo_succ, (by first | exact T1 hv | exact testF_n hv hbn hdn : testF l c.h 2 = []), List.append_nil]) _ _ h) (.keep (fun _ _ h => h) (.nil)))
          )
    · skip
      have hv : vF c.h 2 = true := h_53
      first
        | (exfalso; omega)
        | (
          refine c_cond_f rfl ?_
          refine c_skip ?_
          refine e_next ?_
          refine c_seq ?_
          refine c_region ?_
          refine r_val .none rfl (p_move rfl) ?_
          refine r_val .none rfl (p_mkfunc (vs := [_]) rfl) ?_
          refine r_call (vs := [_, _]) .none rfl cl66 rfl (fun w hw => c_idxP _ _ _ _ _ hzq cl67 (fun x w hw => c_tst1 x _ _ _ hR_52 w hw) w hw) ?_
          refine r_val .none rfl (p_assign rfl) ?_
          refine r_nil ?_
          refine e_next ?_
          refine c_seq ?_
          refine c_region ?_
          refine r_val .none rfl (p_move rfl) ?_
          refine r_val .none rfl (p_ge rfl rfl) ?_
          refine r_nil ?_
          refine e_next ?_
          refine c_splitd (d := 27) rfl (fun h_54 => ?_) (fun h_54 => ?_)
          · skip
            obtain ⟨i, hi1, hi2, hi3⟩ := idxF_some t0 (Int.le_refl 0) (h_54)
            rw [Int.zero_add] at hi1
            have hbd := found_bound hzp hi2 hi3
            first
              | (exfalso; omega)
              | (
                refine c_cond_t rfl ?_
                refine c_region_d (fun j => [14, 15].contains j) _ mixed (.keep (fun _ _ h => h) (.keep (fun _ _ h => h) (.nil))) ?_
                refine d_val1 0 rfl rfl (by kernel_rfl) (fun j hj => by have h : 15 < j := (Nat.lt_of_lt_of_le (by decide : 15 < 16) hj); simp; omega) .none rfl (p_move rfl) ?_
                refine d_val1 1 rfl rfl (by kernel_rfl) (fun j hj => by have h : 15 < j := (Nat.lt_of_lt_of_le (by decide : 15 < 16) hj); simp; omega) .none rfl (p_move rfl) ?_
                refine d_val1 2 rfl rfl (by kernel_rfl) (fun j hj => by have h : 15 < j := (Nat.lt_of_lt_of_le (by decide : 15 < 16) hj); simp; omega) .none rfl (p_move rfl) ?_
                refine d_val1 3 rfl rfl (by kernel_rfl) (fun j hj => by have h : 15 < j := (Nat.lt_of_lt_of_le (by decide : 15 < 16) hj); simp; omega) .none rfl (p_move rfl) ?_
                refine d_say (d := 31) (v := Value.int .i64 ((i : Nat) : Int)) (congrArg (fun x => some (Value.int .i64 x)) (by first | exact hi1 | omega)) ?_
                refine d_iaddr_g 4 rfl rfl (by kernel_rfl) (fun j hj => by have h : 15 < j := (Nat.lt_of_lt_of_le (by decide : 15 < 16) hj); simp; omega) .none rfl Try.underlying81 sz84 rfl hzq rfl (by first | exact of_decide_eq_true rfl | omega) (fun p_56 o_57 R_55 => ?_)
                refine d_val1 5 rfl rfl (by kernel_rfl) (fun j hj => by have h : 15 < j := (Nat.lt_of_lt_of_le (by decide : 15 < 16) hj); simp; omega) .none rfl (p_field Try.underlying84 rfl sz3 rfl) ?_
                refine d_val1 6 rfl rfl (by kernel_rfl) (fun j hj => by have h : 15 < j := (Nat.lt_of_lt_of_le (by decide : 15 < 16) hj); simp; omega) .none rfl (p_ldg (j := 1) Try.underlying3 rfl rfl R_55 (by first | exact of_decide_eq_true rfl | omega) (rfl : _ = Value.int _ _)) ?_
                refine d_val1 7 rfl rfl (by kernel_rfl) (fun j hj => by have h : 15 < j := (Nat.lt_of_lt_of_le (by decide : 15 < 16) hj); simp; omega) .none rfl (p_move rfl) ?_
                refine d_val1 8 rfl rfl (by kernel_rfl) (fun j hj => by have h : 15 < j := (Nat.lt_of_lt_of_le (by decide : 15 < 16) hj); simp; omega) .none rfl (p_move rfl) ?_
                refine d_say (d := 36) (v := Value.int .i64 ((i : Nat) : Int)) (congrArg (fun x => some (Value.int .i64 x)) (by first | exact hi1 | omega)) ?_
                refine d_iaddr_g 9 rfl rfl (by kernel_rfl) (fun j hj => by have h : 15 < j := (Nat.lt_of_lt_of_le (by decide : 15 < 16) hj); simp; omega) .none rfl Try.underlying81 sz84 rfl hzq rfl (by first | exact of_decide_eq_true rfl | omega) (fun p_59 o_60 R_58 => ?_)
                refine d_val1 10 rfl rfl (by kernel_rfl) (fun j hj => by have h : 15 < j := (Nat.lt_of_lt_of_le (by decide : 15 < 16) hj); simp; omega) .none rfl (p_field Try.underlying84 rfl sz3 rfl) ?_
                refine d_val1 11 rfl rfl (by kernel_rfl) (fun j hj => by have h : 15 < j := (Nat.lt_of_lt_of_le (by decide : 15 < 16) hj); simp; omega) .none rfl (p_ldg (j := 2) Try.underlying3 rfl rfl R_58 (by first | exact of_decide_eq_true rfl | omega) (rfl : _ = Value.int _ _)) ?_
                refine d_val1 12 rfl rfl (by kernel_rfl) (fun j hj => by have h : 15 < j := (Nat.lt_of_lt_of_le (by decide : 15 < 16) hj); simp; omega) .none rfl (p_build (vs := [(0, Value.int _ _), (1, Value.int _ _), (2, Value.int _ _)]) rfl (bl92_0i1_1i1_2i1 _ _ _)) ?_
                refine d_eff 13 rfl (by kernel_rfl) (fun K_61 hKK_61 hcK_61 => ?_)
                refine r_bslice (vs := [(0, Value.agg #[_, _, _])]) (c := #[_, _, _]) .none rfl Try.underlying62 el92 rfl rfl rfl (bs92_10a3 _ _ _) (IsRow.lit _) (fun b_11 => ?_)
                refine r_nil (e_d (i := 13) (brk := (fun j => [14, 15].contains j)) (ph' := true) hKK_61 hcK_61 rfl (fun _ => GLe.refl _) (fun _ => .drop (.keep (fun _ _ h => h) (.keep (fun _ _ h => h) (.nil)))) ?_)
                clear hKK_61 hcK_61 K_61
                refine d_eff 14 rfl (by kernel_rfl) (fun K_62 hKK_62 hcK_62 => ?_)
                refine r_append (k := 1) (k2 := 0) .none rfl Try.underlying62 el92 rfl (by decide) rfl rfl rfl rfl rfl (one_lit rfl rfl) (by have q0 := testsTo_len l c.h 0; have q1 := testsTo_len l c.h 1; have q2 := testsTo_len l c.h 2; simp only [maxLen]; omega) (by have q0 := testsTo_len l c.h 0; have q1 := testsTo_len l c.h 1; have q2 := testsTo_len l c.h 2; omega) (fun v_63 => ?_)
                refine r_row1 (k := 1) rfl (fun o_64 => ?_)
                refine r_nil (e_d (i := 14) (brk := (fun j => [14, 15].contains j)) (ph' := false) hKK_62 hcK_62 rfl (fun h => by cases h) (fun h => by cases h) ?_)
                clear hKK_62 hcK_62 K_62
                refine d_val2 15 rfl rfl (by kernel_rfl) .none rfl (fun _ => p_assign rfl) ?_
                refine d_nil (by kernel_rfl) ?_
                refine e_norm_block ?_
                refine e_next ?_
                refine c_region ?_
                refine r_val .none rfl (p_add rfl rfl (by omega)) ?_
                refine r_val .none rfl (p_move rfl) ?_
                refine r_nil ?_
                refine e_round ((3, _, _)) ⟨⟨Nat.le_of_ble_eq_true rfl, (hgn.trans hn_50)⟩, Nat.le_of_ble_eq_true rfl⟩ rfl ⟨rfl, rfl, rfl, rfl, rfl, rfl, trivial⟩ (.drop (.keep (fun _ _ h => rowA_snoc (l := testsTo l c.h 2) (x := (((2 : Nat) : Int), (zs.getD i t0).2.1, (zs.getD i t0).2.2)) (by show testsTo l c.h (2 + 1) = _; rw [testsTo_succ, testF_b hv hbd]) rfl rfl rfl _ _ h) (.keep (fun _ _ h => h) (.nil))))
                )
          · skip
            have hbn := found_none hzp (h_54)
            first
              | (exfalso; omega)
              | (
                refine c_cond_f rfl ?_
                refine c_seq ?_
                refine c_region ?_
                refine r_val .none rfl (p_ldw (k := 1) Try.underlying38 rfl sz38 rfl rfl (rfl : _ = Value.agg #[_, _, _, _, _, _, _, _])) ?_
                refine r_val .none rfl (p_move rfl) ?_
                refine r_call (vs := [_, _]) .none rfl cl68 rfl (fun w hw => c_own8 c sv 2 (by decide) h1 w) ?_
                refine r_val .none rfl (p_move rfl) ?_
                refine r_val .none rfl (p_extract rfl rfl) ?_
                refine r_val .none rfl (p_extract rfl rfl) ?_
                refine r_alloc .none rfl zr92 (IsRow.lit _) (fun b_12 => ?_)
                refine r_stw (k := 0) .none sz92 rfl rfl (IsRow.lit _) (one_lit rfl rfl) rfl ?_
                refine r_val .none rfl (p_assign rfl) ?_
                refine r_nil ?_
                refine e_next ?_
                refine c_seq ?_
                refine c_region ?_
                refine r_val .none rfl (p_move rfl) ?_
                refine r_nil ?_
                refine e_next ?_
                refine c_splitd (d := 49) rfl (fun h_65 => ?_) (fun h_65 => ?_)
                · skip
                  have hdp := dup_some (h := c.h) (f := 2) (by decide) (h_65)
                  first
                    | (exfalso; omega)
                    | (
                      refine c_cond_t rfl ?_
                      refine c_region ?_
                      refine r_val .none rfl (p_move rfl) ?_
                      refine r_val .none rfl (p_ldw (k := 0) Try.underlying92 rfl sz92 rfl rfl (rfl : _ = Value.agg #[_, _, _])) ?_
                      refine r_bslice (vs := [(0, Value.agg #[_, _, _])]) (c := #[_, _, _]) .none rfl Try.underlying62 el92 rfl rfl rfl (bs92_10a3 _ _ _) (IsRow.lit _) (fun b_13 => ?_)
                      refine r_append (k := 2) (k2 := 0) .none rfl Try.underlying62 el92 rfl (by decide) rfl rfl rfl rfl rfl (one_lit rfl rfl) (by have q0 := testsTo_len l c.h 0; have q1 := testsTo_len l c.h 1; have q2 := testsTo_len l c.h 2; simp only [maxLen]; omega) (by have q0 := testsTo_len l c.h 0; have q1 := testsTo_len l c.h 1; have q2 := testsTo_len l c.h 2; omega) (fun v_66 => ?_)
                      refine r_row1 (k := 2) rfl (fun o_67 => ?_)
                      refine r_val .none rfl (p_assign rfl) ?_
                      refine r_nil ?_
                      refine e_norm_block ?_
                      refine e_next ?_
                      refine c_region ?_
                      refine r_val .none rfl (p_add rfl rfl (by omega)) ?_
                      refine r_val .none rfl (p_move rfl) ?_
                      refine r_nil ?_
                      refine e_round ((3, _, _)) ⟨⟨Nat.le_of_ble_eq_true rfl, (hgn.trans hn_50)⟩, Nat.le_of_ble_eq_true rfl⟩ rfl ⟨rfl, rfl, rfl, rfl, rfl, rfl, trivial⟩ (.drop (.drop (.keep (fun _ _ h => rowA_snoc (l := testsTo l c.h 2) (x := (((2 : Nat) : Int), -1, ownG c.h 2)) (by show testsTo l c.h (2 + 1) = _; rw [testsTo_succ, testF_d hv hbn hdp]) rfl rfl rfl _ _ h) (.keep (fun _ _ h => h) (.nil)))))
                      )
                · skip
                  have hdn := dup_none (h := c.h) (f := 2) (by decide) (h_65)
                  first
                    | (exfalso; omega)
                    | (
                      refine c_cond_f rfl ?_
                      refine c_skip ?_
                      refine e_norm_block ?_
                      refine e_next ?_
                      refine c_region ?_
                      refine r_val .none rfl (p_add rfl rfl (by omega)) ?_
                      refine r_val .none rfl (p_move rfl) ?_
                      refine r_nil ?_
                      refine e_round ((3, _, _)) ⟨⟨Nat.le_of_ble_eq_true rfl, (hgn.trans hn_50)⟩, Nat.le_of_ble_eq_true rfl⟩ rfl ⟨rfl, rfl, rfl, rfl, rfl, rfl, trivial⟩ (.drop (.keep (fun _ _ h => rowA_same (by show testsTo l c.h (2 + 1) = _; rw [testsTo_succ, (by first | exact T1 hv | exact testF_n hv hbn hdn : testF l c.h 2 = []), List.append_nil]) _ _ h) (.keep (fun _ _ h => h) (.nil))))
                      )
                )
          )
  · skip
    refine c_seq ?_
    refine c_region ?_
    refine r_val .none rfl (p_lt rfl rfl) ?_
    refine r_say (d := 17) (v := Value.bool false) rfl ?_
    refine r_nil ?_
    refine e_next ?_
    refine c_seq ?_
    refine c_cond_f rfl ?_
    refine c_exit ?_
    refine e_exit_then ?_
    refine e_exit_then ?_
    refine e_exit_block ?_
    refine e_next ?_
    refine c_seq ?_
    refine c_region ?_
    refine r_val .none rfl (p_move rfl) ?_
    refine r_val .none rfl (p_assign rfl) ?_
    refine r_nil ?_
    refine e_next ?_
    refine c_ret ?_
    refine e_freezeF (k := 0) rfl (fun G_68 hn_69 hs_70 => ?_)
    replace hs := hs.mono hn_69.le
    replace hzq := hzq.mono hn_69.le
    refine e_ret1 Try.results53 (.tmp rfl .nil) (fun w hm => ⟨fr _ _, fr_new _ _, fun b o e => hm.has b o (fr_le _ _ b o e), ?_, hm.since⟩)
    exact SlL.of t0 (fun _ => rfl) rfl hs_70
end Go.Proofs.Ytoflaphnlfggkaa
