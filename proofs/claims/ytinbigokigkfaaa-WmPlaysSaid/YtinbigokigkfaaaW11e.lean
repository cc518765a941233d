/- Walks: what Go functions of this chapter come to, each as a function on plain data; no condition but those that each theorem names. Printed by a program of this work (gen.py). -/
import Derived.Test.YtinbigokigkfaaaW11d
import Derived.Test.YtinbigokigkfaaaPl11c
import Derived.Test.YtinbigokigkfaaaGxTree
import Derived.Test.YtinbigokigkfaaaRows
namespace Go.Proofs.Ytinbigokigkfaaa
open Go.Gx Go.Gx.T11
theorem sz25 : SzIs Try.prog 25 3 := by
  unfold SzIs
  kernel_rfl
theorem sz69 : SzIs Try.prog 69 1 := by
  unfold SzIs
  kernel_rfl
theorem sz110 : SzIs Try.prog 110 1 := by
  unfold SzIs
  kernel_rfl
theorem sz112 : SzIs Try.prog 112 3 := by
  unfold SzIs
  kernel_rfl
theorem sz161 : SzIs Try.prog 161 4 := by
  unfold SzIs
  kernel_rfl
theorem zr25 : ZeroIs Try.prog 25 (Value.agg #[Value.int .i64 0, Value.int .i64 0, Value.int .i64 0]) := by
  unfold ZeroIs
  kernel_rfl
theorem zr112 : ZeroIs Try.prog 112 (Value.agg #[Value.slice none 0 0, Value.slice none 0 0, Value.int .i64 0]) := by
  unfold ZeroIs
  kernel_rfl
theorem zr161 : ZeroIs Try.prog 161 (Value.agg #[Value.int .i64 0, Value.int .i64 0, Value.int .i64 0, Value.int .i64 0]) := by
  unfold ZeroIs
  kernel_rfl
theorem lf161 : leafT Try.prog 9 161 = some [3, 3, 3, 3] := by
  kernel_rfl
theorem ef161 : eqT Try.prog 9 161 = true := by
  kernel_rfl
theorem eg161 : Try.prog.eqGuardType Try.prog.depth 161 = false := by
  kernel_rfl
theorem cl28 : Callable Try.prog 28 := callable Try.func28 (by kernel_rfl) rfl
theorem cl58 : Callable Try.prog 58 := callable Try.func58 (by kernel_rfl) rfl
theorem cl61 : Callable Try.prog 61 := callable Try.func61 (by kernel_rfl) rfl
theorem cl78 : Callable Try.prog 78 := callable Try.func78 (by kernel_rfl) rfl
theorem bl25_  : Program.built Try.prog 25 [] = some #[Value.int .i64 0, Value.int .i64 0, Value.int .i64 0] := by
  kernel_rfl
theorem bl112_0s3_1s3_2i1 (x0 : Option Addr) (x1 : Nat) (x2 : Nat) (x3 : Option Addr) (x4 : Nat) (x5 : Nat) (x6 : Int) : Program.built Try.prog 112 [(0, Value.slice x0 x1 x2), (1, Value.slice x3 x4 x5), (2, Value.int .i64 x6)] = some #[Value.slice x0 x1 x2, Value.slice x3 x4 x5, Value.int .i64 x6] := by
  kernel_rfl
theorem bl161_0i1_1a3 (x0 : Int) (x1 : Value) (x2 : Value) (x3 : Value) : Program.built Try.prog 161 [(0, Value.int .i64 x0), (1, Value.agg #[x1, x2, x3])] = some #[Value.int .i64 x0, x1, x2, x3] := by
  kernel_rfl
theorem bs161_10a4 (a0 a1 a2 a3 : Value) : Instr.fill (fun i => some (i * 4, 4)) ((Array.range (1 * 4)).map ((Value.agg #[Value.int .i64 0, Value.int .i64 0, Value.int .i64 0, Value.int .i64 0]).cells[· % (Value.agg #[Value.int .i64 0, Value.int .i64 0, Value.int .i64 0, Value.int .i64 0]).cells.size]!)) [(0, Value.agg #[a0, a1, a2, a3])] = some #[a0, a1, a2, a3] := by
  kernel_rfl
theorem bs3_10i2 (a0 : IntKind) (a1 : Int) : Instr.fill (fun i => some (i * 1, 1)) ((Array.range (1 * 1)).map ((Value.int .i64 0).cells[· % (Value.int .i64 0).cells.size]!)) [(0, Value.int a0 a1)] = some #[Value.int a0 a1] := by
  kernel_rfl
theorem el3 : ElemIs Try.prog 3 1 8 (Value.int .i64 0) := by
  unfold ElemIs
  kernel_rfl
theorem el161 : ElemIs Try.prog 161 4 32 (Value.agg #[Value.int .i64 0, Value.int .i64 0, Value.int .i64 0, Value.int .i64 0]) := by
  unfold ElemIs
  kernel_rfl
theorem c_rtri (t : Tri)  (w : World)  :
    Calls Try.prog 28 #[kT t] w (Ret fun r w' => r = Value.bool (triRight t) ∧ Since nX w w') := by
  refine enter (args := [_]) (X := nX) (G := (fun _ => none)) (l := [(0, kT t)]) Try.func28 rfl Try.ntmps28 (fun _ _ h => by cases h) ⟨rfl, trivial⟩ (Nat.le_of_ble_eq_true rfl) ?_
  refine c_seq ?_
  refine c_region ?_
  refine r_box .none rfl rfl (IsRow.lit _) (fun b_1 => ?_)
  refine r_val .none rfl (p_assign rfl) ?_
  refine r_nil ?_
  refine e_next ?_
  refine c_seq ?_
  refine c_seq ?_
  refine c_region ?_
  refine r_val .none rfl (p_assign rfl) ?_
  refine r_nil ?_
  refine e_next ?_
  refine c_block ?_
  refine c_unroll 4 ?_
  refine l_round (n := 3) ?_
  refine c_seq ?_
  refine c_seq ?_
  refine c_region ?_
  refine r_val .none rfl (p_move rfl) ?_
  refine r_val .none rfl (p_lt rfl rfl) ?_
  refine r_say (d := 5) (v := Value.bool true) rfl ?_
  refine r_nil ?_
  refine e_next ?_
  refine c_cond_t rfl ?_
  refine c_skip ?_
  refine e_next ?_
  refine c_seq ?_
  refine c_block ?_
  refine c_seq ?_
  refine c_region ?_
  refine r_val .none rfl (p_move rfl) ?_
  refine r_val .none rfl (p_iaddr (k := 0) Try.underlying25 sz3 rfl rfl (by first | exact of_decide_eq_true rfl | omega)) ?_
  refine r_val .none rfl (p_ld (k := 0) Try.underlying3 rfl rfl rfl (by first | exact of_decide_eq_true rfl | omega) (rfl : _ = Value.int _ _)) ?_
  refine r_val .none rfl (p_lt rfl rfl) ?_
  refine r_val .none rfl (p_move rfl) ?_
  refine r_splitd (d := 12) rfl (fun h_1 => ?_) (fun h_1 => ?_)
  · skip
    first
      | (exfalso; omega)
      | (
        refine r_skip rfl (.no rfl rfl) ?_
        refine r_skip rfl (.no rfl rfl) ?_
        refine r_skip rfl (.no rfl rfl) ?_
        refine r_skip rfl (.no rfl rfl) ?_
        refine r_val .none rfl (p_pick_t rfl rfl) ?_
        refine r_nil ?_
        refine e_next ?_
        refine c_cond_t rfl ?_
        refine c_seq ?_
        refine c_region ?_
        refine r_val .none rfl (p_assign rfl) ?_
        refine r_nil ?_
        refine e_next ?_
        refine c_ret ?_
        refine e_ret_block ?_
        refine e_ret_then ?_
        refine e_ret_then ?_
        refine e_ret_block ?_
        refine e_ret_then ?_
        refine e_ret1 Try.results28 (.tmp rfl .nil) (fun w hm => ⟨?_, hm.since⟩)
        (simp [triRight, triL, at_] at *; try omega)
        )
  · skip
    first
      | (exfalso; omega)
      | (
        refine r_val (.some rfl rfl) rfl (p_move rfl) ?_
        refine r_val (.some rfl rfl) rfl (p_iaddr (k := 0) Try.underlying25 sz3 rfl rfl (by first | exact of_decide_eq_true rfl | omega)) ?_
        refine r_val (.some rfl rfl) rfl (p_ld (k := 0) Try.underlying3 rfl rfl rfl (by first | exact of_decide_eq_true rfl | omega) (rfl : _ = Value.int _ _)) ?_
        refine r_val (.some rfl rfl) rfl (p_gt rfl rfl) ?_
        refine r_val .none rfl (p_pick_f rfl rfl) ?_
        refine r_nil ?_
        refine e_next ?_
        refine c_splitd (d := 17) rfl (fun h_2 => ?_) (fun h_2 => ?_)
        · skip
          first
            | (exfalso; omega)
            | (
              refine c_cond_t rfl ?_
              refine c_seq ?_
              refine c_region ?_
              refine r_val .none rfl (p_assign rfl) ?_
              refine r_nil ?_
              refine e_next ?_
              refine c_ret ?_
              refine e_ret_block ?_
              refine e_ret_then ?_
              refine e_ret_then ?_
              refine e_ret_block ?_
              refine e_ret_then ?_
              refine e_ret1 Try.results28 (.tmp rfl .nil) (fun w hm => ⟨?_, hm.since⟩)
              (simp [triRight, triL, at_] at *; try omega)
              )
        · skip
          first
            | (exfalso; omega)
            | (
              refine c_cond_f rfl ?_
              refine c_skip ?_
              refine e_norm_block ?_
              refine e_next ?_
              refine c_region ?_
              refine r_val .none rfl (p_move rfl) ?_
              refine r_val .none rfl (p_add rfl rfl (by omega)) ?_
              refine r_val .none rfl (p_assign rfl) ?_
              refine r_nil ?_
              refine e_again ?_
              refine l_round (n := 2) ?_
              refine c_seq ?_
              refine c_seq ?_
              refine c_region ?_
              refine r_val .none rfl (p_move rfl) ?_
              refine r_val .none rfl (p_lt rfl rfl) ?_
              refine r_say (d := 5) (v := Value.bool true) rfl ?_
              refine r_nil ?_
              refine e_next ?_
              refine c_cond_t rfl ?_
              refine c_skip ?_
              refine e_next ?_
              refine c_seq ?_
              refine c_block ?_
              refine c_seq ?_
              refine c_region ?_
              refine r_val .none rfl (p_move rfl) ?_
              refine r_val .none rfl (p_iaddr (k := 1) Try.underlying25 sz3 rfl rfl (by first | exact of_decide_eq_true rfl | omega)) ?_
              refine r_val .none rfl (p_ld (k := 0) Try.underlying3 rfl rfl rfl (by first | exact of_decide_eq_true rfl | omega) (rfl : _ = Value.int _ _)) ?_
              refine r_val .none rfl (p_lt rfl rfl) ?_
              refine r_val .none rfl (p_move rfl) ?_
              refine r_splitd (d := 12) rfl (fun h_3 => ?_) (fun h_3 => ?_)
              · skip
                first
                  | (exfalso; omega)
                  | (
                    refine r_skip rfl (.no rfl rfl) ?_
                    refine r_skip rfl (.no rfl rfl) ?_
                    refine r_skip rfl (.no rfl rfl) ?_
                    refine r_skip rfl (.no rfl rfl) ?_
                    refine r_val .none rfl (p_pick_t rfl rfl) ?_
                    refine r_nil ?_
                    refine e_next ?_
                    refine c_cond_t rfl ?_
                    refine c_seq ?_
                    refine c_region ?_
                    refine r_val .none rfl (p_assign rfl) ?_
                    refine r_nil ?_
                    refine e_next ?_
                    refine c_ret ?_
                    refine e_ret_block ?_
                    refine e_ret_then ?_
                    refine e_ret_then ?_
                    refine e_ret_block ?_
                    refine e_ret_then ?_
                    refine e_ret1 Try.results28 (.tmp rfl .nil) (fun w hm => ⟨?_, hm.since⟩)
                    (simp [triRight, triL, at_] at *; try omega)
                    )
              · skip
                first
                  | (exfalso; omega)
                  | (
                    refine r_val (.some rfl rfl) rfl (p_move rfl) ?_
                    refine r_val (.some rfl rfl) rfl (p_iaddr (k := 1) Try.underlying25 sz3 rfl rfl (by first | exact of_decide_eq_true rfl | omega)) ?_
                    refine r_val (.some rfl rfl) rfl (p_ld (k := 0) Try.underlying3 rfl rfl rfl (by first | exact of_decide_eq_true rfl | omega) (rfl : _ = Value.int _ _)) ?_
                    refine r_val (.some rfl rfl) rfl (p_gt rfl rfl) ?_
                    refine r_val .none rfl (p_pick_f rfl rfl) ?_
                    refine r_nil ?_
                    refine e_next ?_
                    refine c_splitd (d := 17) rfl (fun h_4 => ?_) (fun h_4 => ?_)
                    · skip
                      first
                        | (exfalso; omega)
                        | (
                          refine c_cond_t rfl ?_
                          refine c_seq ?_
                          refine c_region ?_
                          refine r_val .none rfl (p_assign rfl) ?_
                          refine r_nil ?_
                          refine e_next ?_
                          refine c_ret ?_
                          refine e_ret_block ?_
                          refine e_ret_then ?_
                          refine e_ret_then ?_
                          refine e_ret_block ?_
                          refine e_ret_then ?_
                          refine e_ret1 Try.results28 (.tmp rfl .nil) (fun w hm => ⟨?_, hm.since⟩)
                          (simp [triRight, triL, at_] at *; try omega)
                          )
                    · skip
                      first
                        | (exfalso; omega)
                        | (
                          refine c_cond_f rfl ?_
                          refine c_skip ?_
                          refine e_norm_block ?_
                          refine e_next ?_
                          refine c_region ?_
                          refine r_val .none rfl (p_move rfl) ?_
                          refine r_val .none rfl (p_add rfl rfl (by omega)) ?_
                          refine r_val .none rfl (p_assign rfl) ?_
                          refine r_nil ?_
                          refine e_again ?_
                          refine l_round (n := 1) ?_
                          refine c_seq ?_
                          refine c_seq ?_
                          refine c_region ?_
                          refine r_val .none rfl (p_move rfl) ?_
                          refine r_val .none rfl (p_lt rfl rfl) ?_
                          refine r_say (d := 5) (v := Value.bool true) rfl ?_
                          refine r_nil ?_
                          refine e_next ?_
                          refine c_cond_t rfl ?_
                          refine c_skip ?_
                          refine e_next ?_
                          refine c_seq ?_
                          refine c_block ?_
                          refine c_seq ?_
                          refine c_region ?_
                          refine r_val .none rfl (p_move rfl) ?_
                          refine r_val .none rfl (p_iaddr (k := 2) Try.underlying25 sz3 rfl rfl (by first | exact of_decide_eq_true rfl | omega)) ?_
                          refine r_val .none rfl (p_ld (k := 0) Try.underlying3 rfl rfl rfl (by first | exact of_decide_eq_true rfl | omega) (rfl : _ = Value.int _ _)) ?_
                          refine r_val .none rfl (p_lt rfl rfl) ?_
                          refine r_val .none rfl (p_move rfl) ?_
                          refine r_splitd (d := 12) rfl (fun h_5 => ?_) (fun h_5 => ?_)
                          · skip
                            first
                              | (exfalso; omega)
                              | (
                                refine r_skip rfl (.no rfl rfl) ?_
                                refine r_skip rfl (.no rfl rfl) ?_
                                refine r_skip rfl (.no rfl rfl) ?_
                                refine r_skip rfl (.no rfl rfl) ?_
                                refine r_val .none rfl (p_pick_t rfl rfl) ?_
                                refine r_nil ?_
                                refine e_next ?_
                                refine c_cond_t rfl ?_
                                refine c_seq ?_
                                refine c_region ?_
                                refine r_val .none rfl (p_assign rfl) ?_
                                refine r_nil ?_
                                refine e_next ?_
                                refine c_ret ?_
                                refine e_ret_block ?_
                                refine e_ret_then ?_
                                refine e_ret_then ?_
                                refine e_ret_block ?_
                                refine e_ret_then ?_
                                refine e_ret1 Try.results28 (.tmp rfl .nil) (fun w hm => ⟨?_, hm.since⟩)
                                (simp [triRight, triL, at_] at *; try omega)
                                )
                          · skip
                            first
                              | (exfalso; omega)
                              | (
                                refine r_val (.some rfl rfl) rfl (p_move rfl) ?_
                                refine r_val (.some rfl rfl) rfl (p_iaddr (k := 2) Try.underlying25 sz3 rfl rfl (by first | exact of_decide_eq_true rfl | omega)) ?_
                                refine r_val (.some rfl rfl) rfl (p_ld (k := 0) Try.underlying3 rfl rfl rfl (by first | exact of_decide_eq_true rfl | omega) (rfl : _ = Value.int _ _)) ?_
                                refine r_val (.some rfl rfl) rfl (p_gt rfl rfl) ?_
                                refine r_val .none rfl (p_pick_f rfl rfl) ?_
                                refine r_nil ?_
                                refine e_next ?_
                                refine c_splitd (d := 17) rfl (fun h_6 => ?_) (fun h_6 => ?_)
                                · skip
                                  first
                                    | (exfalso; omega)
                                    | (
                                      refine c_cond_t rfl ?_
                                      refine c_seq ?_
                                      refine c_region ?_
                                      refine r_val .none rfl (p_assign rfl) ?_
                                      refine r_nil ?_
                                      refine e_next ?_
                                      refine c_ret ?_
                                      refine e_ret_block ?_
                                      refine e_ret_then ?_
                                      refine e_ret_then ?_
                                      refine e_ret_block ?_
                                      refine e_ret_then ?_
                                      refine e_ret1 Try.results28 (.tmp rfl .nil) (fun w hm => ⟨?_, hm.since⟩)
                                      (simp [triRight, triL, at_] at *; try omega)
                                      )
                                · skip
                                  first
                                    | (exfalso; omega)
                                    | (
                                      refine c_cond_f rfl ?_
                                      refine c_skip ?_
                                      refine e_norm_block ?_
                                      refine e_next ?_
                                      refine c_region ?_
                                      refine r_val .none rfl (p_move rfl) ?_
                                      refine r_val .none rfl (p_add rfl rfl (by omega)) ?_
                                      refine r_val .none rfl (p_assign rfl) ?_
                                      refine r_nil ?_
                                      refine e_again ?_
                                      refine l_round (n := 0) ?_
                                      refine c_seq ?_
                                      refine c_seq ?_
                                      refine c_region ?_
                                      refine r_val .none rfl (p_move rfl) ?_
                                      refine r_val .none rfl (p_lt rfl rfl) ?_
                                      refine r_say (d := 5) (v := Value.bool false) rfl ?_
                                      refine r_nil ?_
                                      refine e_next ?_
                                      refine c_cond_f rfl ?_
                                      refine c_exit ?_
                                      refine e_exit_then ?_
                                      refine e_exit_then ?_
                                      refine e_exit_block ?_
                                      refine e_next ?_
                                      refine c_seq ?_
                                      refine c_region ?_
                                      refine r_val .none rfl (p_assign rfl) ?_
                                      refine r_nil ?_
                                      refine e_next ?_
                                      refine c_ret ?_
                                      refine e_ret1 Try.results28 (.tmp rfl .nil) (fun w hm => ⟨?_, hm.since⟩)
                                      (simp [triRight, triL, at_] at *; try omega)
                                      )
                                )
                          )
                    )
              )
        )
theorem c_out (va vg : Value) (lim : Int) (all : List FD) (gone : List Int) (i : Int) {G : Ghost} (hla : all.length ≤ 2000) (hlg : gone.length ≤ 2000) (ha : SlL G va 4 fC (0, zT) all) (hg : SlL G vg 1 cI (0 : Int) gone) (w : World) (hG : Has G w) :
    Calls Try.prog 78 #[Value.agg #[va, vg, Value.int .i64 lim], Value.int .i64 i] w (Ret fun r w' => r = Value.bool (gone.contains i) ∧ Since nX w w') := by
  refine enter (args := [_, _]) (X := nX) (G := G) (l := [(0, Value.agg #[va, vg, Value.int .i64 lim]), (1, Value.int .i64 i)]) Try.func78 rfl Try.ntmps78 hG ⟨rfl, rfl, trivial⟩ (Nat.le_of_ble_eq_true rfl) ?_
  refine c_seq ?_
  refine c_region ?_
  refine r_box .none rfl rfl (IsRow.lit _) (fun b_1 => ?_)
  refine r_val .none rfl (p_assign rfl) ?_
  refine r_nil ?_
  refine e_next ?_
  refine c_seq ?_
  refine c_seq ?_
  refine c_region ?_
  refine r_val .none rfl (p_field Try.underlying112 rfl sz69 rfl) ?_
  refine r_val .none rfl (p_ld (k := 0) Try.underlying69 rfl rfl rfl (by first | exact of_decide_eq_true rfl | omega) rfl) ?_
  refine r_val .none rfl (p_leng Try.underlying69 rfl hg) ?_
  have bd_1 := (hg).bound
  refine r_val .none rfl (p_move rfl) ?_
  refine r_nil ?_
  refine e_next ?_
  refine c_block ?_
  refine c_name (d := 1) rfl (fun u_2 hu_2 => ?_)
  refine c_name (d := 8) rfl (fun u_3 hu_3 => ?_)
  refine c_name (d := 9) rfl (fun u_4 hu_4 => ?_)
  refine c_nameL (k := 0) rfl (fun A_5 hA_5 => ?_)
  refine c_loop (σ := Nat) (fun k => [(10, Value.int .i64 (k : Nat)), (1, u_2), (8, u_3), (9, u_4)]) (fun k => [A_5]) (fun _ => _) (fun k => k ≤ gone.length ∧ (gone.drop k).contains i = gone.contains i) (fun k => gone.length - k) (0) ⟨Nat.zero_le _, rfl⟩ rfl ⟨rfl, rfl, rfl, rfl, trivial⟩ (.keep (fun _ _ h => h) (.nil)) (fun k hphi => ?_)
  subst hu_2
  subst hu_3
  subst hu_4
  subst hA_5
  refine c_seq ?_
  refine c_region ?_
  refine r_val .none rfl (p_lt rfl rfl) ?_
  refine r_nil ?_
  refine e_next ?_
  refine c_seq ?_
  refine c_splitd (d := 11) rfl (fun h_6 => ?_) (fun h_6 => ?_)
  · skip
    first
      | (exfalso; omega)
      | (
        refine c_cond_t rfl ?_
        refine c_skip ?_
        refine e_next ?_
        refine c_seq ?_
        refine c_block ?_
        refine c_seq ?_
        refine c_region ?_
        refine r_iaddr_g .none rfl Try.underlying69 sz3 rfl hg rfl (by first | exact of_decide_eq_true rfl | omega) (fun p_8 o_9 R_7 => ?_)
        refine r_val .none rfl (p_ldg0 Try.underlying3 rfl rfl R_7 (by first | exact of_decide_eq_true rfl | omega) (rfl : _ = Value.int _ _)) ?_
        refine r_val .none rfl (p_assign rfl) ?_
        refine r_nil ?_
        refine e_next ?_
        refine c_seq ?_
        refine c_region ?_
        refine r_val .none rfl (p_move rfl) ?_
        refine r_val .none rfl (p_move rfl) ?_
        refine r_val .none rfl (p_eq rfl rfl) ?_
        refine r_nil ?_
        refine e_next ?_
        refine c_splitd (d := 16) rfl (fun h_10 => ?_) (fun h_10 => ?_)
        · skip
          first
            | (exfalso; omega)
            | (
              refine c_cond_t rfl ?_
              refine c_seq ?_
              refine c_region ?_
              refine r_val .none rfl (p_assign rfl) ?_
              refine r_nil ?_
              refine e_next ?_
              refine c_ret ?_
              refine e_ret_block ?_
              refine e_ret_then ?_
              refine e_ret_then ?_
              refine e_ret_block ?_
              refine e_ret_then ?_
              refine e_ret1 Try.results78 (.tmp rfl .nil) (fun w hm => ⟨?_, hm.since⟩)
              first
              | (rw [← hphi.2, has_drop (k := k) (by omega), decide_eq_true ‹gone.getD k 0 = i›, Bool.true_or]; done)
              | (rw [← hphi.2, List.drop_eq_nil_of_le (by omega)]; rfl)
              )
        · skip
          first
            | (exfalso; omega)
            | (
              refine c_cond_f rfl ?_
              refine c_skip ?_
              refine e_norm_block ?_
              refine e_next ?_
              refine c_region ?_
              refine r_val .none rfl (p_add rfl rfl (by omega)) ?_
              refine r_val .none rfl (p_move rfl) ?_
              refine r_nil ?_
              refine e_round (k + 1) ⟨⟨by omega, by rw [← hphi.2, has_drop (k := k) (by omega), decide_eq_false ‹¬ gone.getD k 0 = i›, Bool.false_or]⟩, by omega⟩ rfl ⟨rfl, rfl, rfl, rfl, trivial⟩ (.keep (fun _ _ h => h) (.nil))
              )
        )
  · skip
    first
      | (exfalso; omega)
      | (
        refine c_cond_f rfl ?_
        refine c_exit ?_
        refine e_exit_then ?_
        refine e_exit_then ?_
        refine e_exit_block ?_
        refine e_next ?_
        refine c_seq ?_
        refine c_region ?_
        refine r_val .none rfl (p_assign rfl) ?_
        refine r_nil ?_
        refine e_next ?_
        refine c_ret ?_
        refine e_ret1 Try.results78 (.tmp rfl .nil) (fun w hm => ⟨?_, hm.since⟩)
        first
        | (rw [← hphi.2, has_drop (k := k) (by omega), decide_eq_true ‹gone.getD k 0 = i›, Bool.true_or]; done)
        | (rw [← hphi.2, List.drop_eq_nil_of_le (by omega)]; rfl)
        )
theorem c_rfacts (va vg : Value) (lim : Int) (all : List FD) (gone : List Int)  {G : Ghost} (hla : all.length ≤ 2000) (hlg : gone.length ≤ 2000) (ha : SlL G va 4 fC (0, zT) all) (hg : SlL G vg 1 cI (0 : Int) gone) (w : World) (hG : Has G w) :
    Calls Try.prog 61 #[Value.agg #[va, vg, Value.int .i64 lim]] w (Ret fun r w' => ∃ G', GNew w nX G G' ∧ Has G' w' ∧ SlL G' r 4 fC (0, zT) (rf all gone) ∧ Since nX w w') := by
  refine enter (args := [_]) (X := nX) (G := G) (l := [(0, Value.agg #[va, vg, Value.int .i64 lim])]) Try.func61 rfl Try.ntmps61 hG ⟨rfl, trivial⟩ (Nat.le_of_ble_eq_true rfl) ?_
  refine c_seq ?_
  refine c_region ?_
  refine r_box .none rfl rfl (IsRow.lit _) (fun b_1 => ?_)
  refine r_val .none rfl (p_assign rfl) ?_
  refine r_nil ?_
  refine e_next ?_
  refine c_seq ?_
  refine c_region ?_
  refine r_val .none rfl (p_assign rfl) ?_
  refine r_nil ?_
  refine e_next ?_
  refine c_seq ?_
  refine c_seq ?_
  refine c_region ?_
  refine r_val .none rfl (p_field Try.underlying112 rfl sz110 rfl) ?_
  refine r_val .none rfl (p_ld (k := 0) Try.underlying110 rfl rfl rfl (by first | exact of_decide_eq_true rfl | omega) rfl) ?_
  refine r_val .none rfl (p_leng Try.underlying110 rfl ha) ?_
  have bd_1 := (ha).bound
  refine r_val .none rfl (p_move rfl) ?_
  refine r_nil ?_
  refine e_next ?_
  refine c_block ?_
  refine c_nilrow 161 4 ?_
  refine c_name (d := 1) rfl (fun u_2 hu_2 => ?_)
  refine c_name (d := 2) rfl (fun u_3 hu_3 => ?_)
  refine c_name (d := 7) rfl (fun u_4 hu_4 => ?_)
  refine c_name (d := 8) rfl (fun u_5 hu_5 => ?_)
  refine c_nameL (k := 1) rfl (fun A_6 hA_6 => ?_)
  refine c_loop (σ := Nat × Value) (fun s => [(9, Value.int .i64 (s.1 : Nat)), (3, s.2), (1, u_2), (2, u_3), (7, u_4), (8, u_5)]) (fun s => [rowA (s.2) 161 4 ((rf (all.take s.1) gone)).length (((rf (all.take s.1) gone)).flatMap fC), A_6]) (fun _ => _) (fun s => s.1 ≤ all.length) (fun s => all.length - s.1) ((0, _)) (Nat.zero_le _) rfl ⟨rfl, rfl, rfl, rfl, rfl, rfl, trivial⟩ (.keep (fun _ _ h => rowA_nil rfl _ _ h) (.keep (fun _ _ h => h) (.nil))) (fun s hphi => ?_)
  subst hu_2
  subst hu_3
  subst hu_4
  subst hu_5
  subst hA_6
  obtain ⟨k, v⟩ := s
  dsimp only at hphi ⊢
  have hrl := rf_len (all.take k) gone
  rw [List.length_take] at hrl
  refine c_seq ?_
  refine c_region ?_
  refine r_val .none rfl (p_lt rfl rfl) ?_
  refine r_nil ?_
  refine e_next ?_
  refine c_seq ?_
  refine c_splitd (d := 10) rfl (fun h_7 => ?_) (fun h_7 => ?_)
  · skip
    first
      | (exfalso; omega)
      | (
        refine c_cond_t rfl ?_
        refine c_skip ?_
        refine e_next ?_
        refine c_seq ?_
        refine c_block ?_
        refine c_seq ?_
        refine c_region ?_
        refine r_iaddr_g .none rfl Try.underlying110 sz161 rfl ha rfl (by first | exact of_decide_eq_true rfl | omega) (fun p_9 o_10 R_8 => ?_)
        refine r_val .none rfl (p_ldga0 Try.underlying161 rfl sz161 rfl R_8 (by first | exact of_decide_eq_true rfl | omega) (rfl : _ = Value.agg #[_, _, _, _])) ?_
        refine r_alloc .none rfl zr161 (IsRow.lit _) (fun b_2 => ?_)
        refine r_stw (k := 0) .none sz161 rfl rfl (IsRow.lit _) (one_lit rfl rfl) rfl ?_
        refine r_nil ?_
        refine e_next ?_
        refine c_seq ?_
        refine c_region ?_
        refine r_val .none rfl (p_ldw (k := 2) Try.underlying112 rfl sz112 rfl rfl (rfl : _ = Value.agg #[_, _, _])) ?_
        refine r_val .none rfl (p_field Try.underlying161 rfl sz3 rfl) ?_
        refine r_val .none rfl (p_ld (k := 0) Try.underlying3 rfl rfl rfl (by first | exact of_decide_eq_true rfl | omega) (rfl : _ = Value.int _ _)) ?_
        refine r_call (vs := [_, _]) .none rfl cl78 rfl (fun w hw => c_out _ _ _ _ _ _ (by omega) (by omega) ha hg w hw) ?_
        refine r_val .none rfl (p_not rfl) ?_
        refine r_nil ?_
        refine e_next ?_
        refine c_splitn (d := 17) rfl (fun h_11 => ?_) (fun h_11 => ?_)
        · skip
          first
            | (exfalso; omega)
            | (
              refine c_cond_t rfl ?_
              refine c_region ?_
              refine r_val .none rfl (p_move rfl) ?_
              refine r_val .none rfl (p_ldw (k := 0) Try.underlying161 rfl sz161 rfl rfl (rfl : _ = Value.agg #[_, _, _, _])) ?_
              refine r_bslice (vs := [(0, Value.agg #[_, _, _, _])]) (c := #[_, _, _, _]) .none rfl Try.underlying110 el161 rfl rfl rfl (bs161_10a4 _ _ _ _) (IsRow.lit _) (fun b_3 => ?_)
              refine r_append (k := 2) (k2 := 0) .none rfl Try.underlying110 el161 rfl (by decide) rfl rfl rfl rfl rfl (one_lit rfl rfl) (by simp only [maxLen]; omega) (by omega) (fun v_12 => ?_)
              refine r_row1 (k := 2) rfl (fun o_13 => ?_)
              refine r_val .none rfl (p_assign rfl) ?_
              refine r_nil ?_
              refine e_norm_block ?_
              refine e_next ?_
              refine c_region ?_
              refine r_val .none rfl (p_add rfl rfl (by omega)) ?_
              refine r_val .none rfl (p_move rfl) ?_
              refine r_nil ?_
              refine e_round ((k + 1, _)) ⟨by dsimp only; omega, by dsimp only; omega⟩ rfl ⟨rfl, rfl, rfl, rfl, rfl, rfl, trivial⟩ (.drop (.drop (.keep (fun _ _ h => rowA_snoc (rf_yes (by omega) (by assumption)) rfl rfl rfl _ _ h) (.keep (fun _ _ h => h) (.nil)))))
              )
        · skip
          first
            | (exfalso; omega)
            | (
              refine c_cond_f rfl ?_
              refine c_skip ?_
              refine e_norm_block ?_
              refine e_next ?_
              refine c_region ?_
              refine r_val .none rfl (p_add rfl rfl (by omega)) ?_
              refine r_val .none rfl (p_move rfl) ?_
              refine r_nil ?_
              refine e_round ((k + 1, _)) ⟨by dsimp only; omega, by dsimp only; omega⟩ rfl ⟨rfl, rfl, rfl, rfl, rfl, rfl, trivial⟩ (.drop (.keep (fun _ _ h => rowA_same (rf_no (by omega) (by assumption)) _ _ h) (.keep (fun _ _ h => h) (.nil))))
              )
        )
  · skip
    first
      | (exfalso; omega)
      | (
        refine c_cond_f rfl ?_
        refine c_exit ?_
        refine e_exit_then ?_
        refine e_exit_then ?_
        refine e_exit_block ?_
        refine e_next ?_
        refine c_seq ?_
        refine c_region ?_
        refine r_val .none rfl (p_move rfl) ?_
        refine r_val .none rfl (p_assign rfl) ?_
        refine r_nil ?_
        refine e_next ?_
        refine c_ret ?_
        refine e_freeze (k := 0) rfl (fun G_14 hn_15 hs_16 => ?_)
        replace ha := ha.mono hn_15.le
        replace hg := hg.mono hn_15.le
        refine e_ret1 Try.results61 (.tmp rfl .nil) (fun w hm => ⟨_, hn_15, hm.has, ?_, hm.since⟩)
        have hk : k = all.length := by omega
        have e : rf (all.take k) gone = rf all gone := by rw [List.take_of_length_le (by omega)]
        exact SlL.of2 (0, zT) (fun _ => rfl) (by rw [e]) (by rw [e]) hs_16
        )
theorem c_rget (va vg : Value) (lim : Int) (all : List FD) (gone : List Int) (i : Int) {G : Ghost} (hla : all.length ≤ 2000) (hlg : gone.length ≤ 2000) (ha : SlL G va 4 fC (0, zT) all) (hg : SlL G vg 1 cI (0 : Int) gone) (w : World) (hG : Has G w) :
    Calls Try.prog 58 #[Value.agg #[va, vg, Value.int .i64 lim], Value.int .i64 i] w (Ret fun r w' => r = Value.tuple #[kT ((lkp (rf all gone) i).getD zT), Value.bool (lkp (rf all gone) i).isSome] ∧ Since nX w w') := by
  refine enter (args := [_, _]) (X := nX) (G := G) (l := [(0, Value.agg #[va, vg, Value.int .i64 lim]), (1, Value.int .i64 i)]) Try.func58 rfl Try.ntmps58 hG ⟨rfl, rfl, trivial⟩ (Nat.le_of_ble_eq_true rfl) ?_
  refine c_seq ?_
  refine c_region ?_
  refine r_box .none rfl rfl (IsRow.lit _) (fun b_1 => ?_)
  refine r_alloc .none rfl zr25 (IsRow.lit _) (fun b_2 => ?_)
  refine r_val .none rfl (p_assign rfl) ?_
  refine r_nil ?_
  refine e_next ?_
  refine c_seq ?_
  refine c_seq ?_
  refine c_region ?_
  refine r_val .none rfl (p_ldw (k := 1) Try.underlying112 rfl sz112 rfl rfl (rfl : _ = Value.agg #[_, _, _])) ?_
  refine r_callm (vs := [_]) .none rfl cl61 rfl (fun w hw => c_rfacts _ _ _ _ _ (by omega) (by omega) ha hg w hw) (fun G_1 v_4 hn_2 hr_3 => ?_)
  replace ha := ha.mono hn_2.le
  replace hg := hg.mono hn_2.le
  have u_5 := hr_3
  refine r_val .none rfl (p_leng Try.underlying110 rfl u_5) ?_
  have bd_6 := (u_5).bound
  refine r_val .none rfl (p_move rfl) ?_
  refine r_nil ?_
  refine e_next ?_
  refine c_block ?_
  refine c_name (d := 1) rfl (fun u_7 hu_7 => ?_)
  refine c_name (d := 4) rfl (fun u_8 hu_8 => ?_)
  refine c_name (d := 9) rfl (fun u_9 hu_9 => ?_)
  refine c_name (d := 10) rfl (fun u_10 hu_10 => ?_)
  refine c_nameL (k := 0) rfl (fun A_11 hA_11 => ?_)
  refine c_nameL (k := 1) rfl (fun A_12 hA_12 => ?_)
  refine c_loop (σ := Nat) (fun k => [(11, Value.int .i64 (k : Nat)), (1, u_7), (4, u_8), (9, u_9), (10, u_10)]) (fun k => [A_11, A_12]) (fun _ => _) (fun k => k ≤ (rf all gone).length ∧ lkp ((rf all gone).drop k) i = lkp (rf all gone) i) (fun k => (rf all gone).length - k) (0) ⟨Nat.zero_le _, rfl⟩ rfl ⟨rfl, rfl, rfl, rfl, rfl, trivial⟩ (.keep (fun _ _ h => h) (.keep (fun _ _ h => h) (.nil))) (fun k hphi => ?_)
  subst hu_7
  subst hu_8
  subst hu_9
  subst hu_10
  subst hA_11
  subst hA_12
  refine c_seq ?_
  refine c_region ?_
  refine r_val .none rfl (p_lt rfl rfl) ?_
  refine r_nil ?_
  refine e_next ?_
  refine c_seq ?_
  refine c_splitd (d := 12) rfl (fun h_13 => ?_) (fun h_13 => ?_)
  · skip
    first
      | (exfalso; omega)
      | (
        refine c_cond_t rfl ?_
        refine c_skip ?_
        refine e_next ?_
        refine c_seq ?_
        refine c_block ?_
        refine c_seq ?_
        refine c_region ?_
        refine r_iaddr_g .none rfl Try.underlying110 sz161 rfl u_5 rfl (by first | exact of_decide_eq_true rfl | omega) (fun p_15 o_16 R_14 => ?_)
        refine r_val .none rfl (p_ldga0 Try.underlying161 rfl sz161 rfl R_14 (by first | exact of_decide_eq_true rfl | omega) (rfl : _ = Value.agg #[_, _, _, _])) ?_
        refine r_alloc .none rfl zr161 (IsRow.lit _) (fun b_3 => ?_)
        refine r_stw (k := 0) .none sz161 rfl rfl (IsRow.lit _) (one_lit rfl rfl) rfl ?_
        refine r_nil ?_
        refine e_next ?_
        refine c_seq ?_
        refine c_region ?_
        refine r_val .none rfl (p_field Try.underlying161 rfl sz3 rfl) ?_
        refine r_val .none rfl (p_ld (k := 0) Try.underlying3 rfl rfl rfl (by first | exact of_decide_eq_true rfl | omega) (rfl : _ = Value.int _ _)) ?_
        refine r_val .none rfl (p_move rfl) ?_
        refine r_val .none rfl (p_eq rfl rfl) ?_
        refine r_nil ?_
        refine e_next ?_
        refine c_splitd (d := 18) rfl (fun h_17 => ?_) (fun h_17 => ?_)
        · skip
          first
            | (exfalso; omega)
            | (
              refine c_cond_t rfl ?_
              refine c_seq ?_
              refine c_region ?_
              refine r_val .none rfl (p_field Try.underlying161 rfl sz25 rfl) ?_
              refine r_val .none rfl (p_lda (k := 0) Try.underlying25 rfl sz25 rfl rfl (by first | exact of_decide_eq_true rfl | omega) (rfl : _ = Value.agg #[_, _, _])) ?_
              refine r_stw (k := 1) .none sz25 rfl rfl (IsRow.lit _) (one_lit rfl rfl) rfl ?_
              refine r_val .none rfl (p_assign rfl) ?_
              refine r_nil ?_
              refine e_next ?_
              refine c_ret ?_
              refine e_ret_block ?_
              refine e_ret_then ?_
              refine e_ret_then ?_
              refine e_ret_block ?_
              refine e_ret_then ?_
              refine e_retn Try.results58 (.cell (k := 1) rfl Try.underlying25 rfl sz25 rfl (rfl : _ = Value.agg #[_, _, _]) (.tmp rfl .nil)) rfl (fun w hm => ⟨?_, hm.since⟩)
              first
              | (rw [← hphi.2, lkp_drop (k := k) (by omega), if_pos ‹((rf all gone).getD k (0, zT)).1 = i›]; rfl)
              | (rw [← hphi.2, List.drop_eq_nil_of_le (by omega)]; rfl)
              )
        · skip
          first
            | (exfalso; omega)
            | (
              refine c_cond_f rfl ?_
              refine c_skip ?_
              refine e_norm_block ?_
              refine e_next ?_
              refine c_region ?_
              refine r_val .none rfl (p_add rfl rfl (by omega)) ?_
              refine r_val .none rfl (p_move rfl) ?_
              refine r_nil ?_
              refine e_round (k + 1) ⟨⟨by omega, by rw [← hphi.2, lkp_drop (k := k) (by omega), if_neg ‹¬ ((rf all gone).getD k (0, zT)).1 = i›]⟩, by omega⟩ rfl ⟨rfl, rfl, rfl, rfl, rfl, trivial⟩ (.drop (.keep (fun _ _ h => h) (.keep (fun _ _ h => h) (.nil))))
              )
        )
  · skip
    first
      | (exfalso; omega)
      | (
        refine c_cond_f rfl ?_
        refine c_exit ?_
        refine e_exit_then ?_
        refine e_exit_then ?_
        refine e_exit_block ?_
        refine e_next ?_
        refine c_seq ?_
        refine c_region ?_
        refine r_val .none rfl (p_build (vs := []) rfl (bl25_ )) ?_
        refine r_stw (k := 0) .none sz25 rfl rfl (IsRow.lit _) (one_lit rfl rfl) rfl ?_
        refine r_val .none rfl (p_assign rfl) ?_
        refine r_nil ?_
        refine e_next ?_
        refine c_ret ?_
        refine e_retn Try.results58 (.cell (k := 0) rfl Try.underlying25 rfl sz25 rfl (rfl : _ = Value.agg #[_, _, _]) (.tmp rfl .nil)) rfl (fun w hm => ⟨?_, hm.since⟩)
        first
        | (rw [← hphi.2, lkp_drop (k := k) (by omega), if_pos ‹((rf all gone).getD k (0, zT)).1 = i›]; rfl)
        | (rw [← hphi.2, List.drop_eq_nil_of_le (by omega)]; rfl)
        )
theorem c_rrem (va vg : Value) (lim : Int) (all : List FD) (gone : List Int) (i : Int) {G : Ghost} (hla : all.length ≤ 2000) (hlg : gone.length ≤ 2000) (ha : SlL G va 4 fC (0, zT) all) (hg : SlL G vg 1 cI (0 : Int) gone) (w : World) (hG : Has G w) :
    Calls Try.prog 59 #[Value.agg #[va, vg, Value.int .i64 lim], Value.int .i64 i] w (Ret fun r w' => ∃ G', GNew w nX G G' ∧ Has G' w' ∧ (∃ va' vg', r = .tuple #[.agg #[va', vg', .int .i64 lim], .int .i64 (if (lkp (rf all gone) i).isSome = true then 0 else 10)] ∧ SlL G' va' 4 fC (0, zT) all ∧ SlL G' vg' 1 cI (0 : Int) (rGone all gone i)) ∧ Since nX w w') := by
  refine enter (args := [_, _]) (X := nX) (G := G) (l := [(0, Value.agg #[va, vg, Value.int .i64 lim]), (1, Value.int .i64 i)]) Try.func59 rfl Try.ntmps59 hG ⟨rfl, rfl, trivial⟩ (Nat.le_of_ble_eq_true rfl) ?_
  refine c_seq ?_
  refine c_region ?_
  refine r_box .none rfl rfl (IsRow.lit _) (fun b_1 => ?_)
  refine r_alloc .none rfl zr112 (IsRow.lit _) (fun b_2 => ?_)
  refine r_val .none rfl (p_assign rfl) ?_
  refine r_nil ?_
  refine e_next ?_
  refine c_seq ?_
  refine c_seq ?_
  refine c_region ?_
  refine r_val .none rfl (p_ldw (k := 1) Try.underlying112 rfl sz112 rfl rfl (rfl : _ = Value.agg #[_, _, _])) ?_
  refine r_val .none rfl (p_move rfl) ?_
  refine r_call (vs := [_, _]) .none rfl cl58 rfl (fun w hw => c_rget _ _ _ _ _ _ (by omega) (by omega) ha hg w hw) ?_
  refine r_val .none rfl (p_move rfl) ?_
  refine r_val .none rfl (p_extract rfl rfl) ?_
  refine r_val .none rfl (p_extract rfl rfl) ?_
  refine r_alloc .none rfl zr25 (IsRow.lit _) (fun b_3 => ?_)
  refine r_stw (k := 0) .none sz25 rfl rfl (IsRow.lit _) (one_lit rfl rfl) rfl ?_
  refine r_val .none rfl (p_assign rfl) ?_
  refine r_nil ?_
  refine e_next ?_
  refine c_seq ?_
  refine c_region ?_
  refine r_val .none rfl (p_move rfl) ?_
  refine r_val .none rfl (p_not rfl) ?_
  refine r_nil ?_
  refine e_next ?_
  refine c_splitn (d := 16) rfl (fun h_1 => ?_) (fun h_1 => ?_)
  · skip
    first
      | (exfalso; omega)
      | (
        refine c_cond_t rfl ?_
        refine c_seq ?_
        refine c_region ?_
        refine r_val .none rfl (p_ldw (k := 2) Try.underlying112 rfl sz112 rfl rfl (rfl : _ = Value.agg #[_, _, _])) ?_
        refine r_stw (k := 1) .none sz112 rfl rfl (IsRow.lit _) (one_lit rfl (all_cons (ha).one (all_cons (hg).one (all_cons rfl rfl)))) rfl ?_
        refine r_val .none rfl (p_assign rfl) ?_
        refine r_nil ?_
        refine e_next ?_
        refine c_ret ?_
        refine e_ret_then ?_
        refine e_retn Try.results59 (.cell (k := 1) rfl Try.underlying112 rfl sz112 rfl (rfl : _ = Value.agg #[_, _, _]) (.tmp rfl .nil)) rfl (fun w hm => ⟨_, (GNew.refl _ _ _), hm.has, ?_, hm.since⟩)
        have hN : ¬ (lkp (rf all gone) i).isSome = true := (by simp_all)
        rw [rGone, if_neg hN, if_neg hN]
        exact ⟨_, _, rfl, ha, hg⟩
        )
  · skip
    first
      | (exfalso; omega)
      | (
        refine c_cond_f rfl ?_
        refine c_skip ?_
        refine e_next ?_
        refine c_seq ?_
        refine c_region ?_
        refine r_val .none rfl (p_assign rfl) ?_
        refine r_nil ?_
        refine e_next ?_
        refine c_seq ?_
        refine c_region ?_
        refine r_val .none rfl (p_move rfl) ?_
        refine r_val .none rfl (p_field Try.underlying112 rfl sz69 rfl) ?_
        refine r_val .none rfl (p_ld (k := 2) Try.underlying69 rfl rfl rfl (by first | exact of_decide_eq_true rfl | omega) rfl) ?_
        refine r_nilrow 3 1 ?_
        refine r_append_g (k := 0) .none rfl Try.underlying69 el3 rfl (by decide) rfl rfl rfl hg (fun _ _ _ hj => one_lit rfl rfl _ hj) (by simp only [maxLen]; omega) (by omega) (fun v_2 => ?_)
        refine r_row1 (k := 0) rfl (fun o_3 => ?_)
        refine r_val .none rfl (p_assign rfl) ?_
        refine r_nil ?_
        refine e_next ?_
        refine c_seq ?_
        refine c_region ?_
        refine r_val .none rfl (p_move rfl) ?_
        refine r_val .none rfl (p_move rfl) ?_
        refine r_bslice (vs := [(0, Value.int _ _)]) (c := #[_]) .none rfl Try.underlying69 el3 rfl rfl rfl (bs3_10i2 _ _) (IsRow.lit _) (fun b_4 => ?_)
        refine r_append (k := 1) (k2 := 0) .none rfl Try.underlying69 el3 rfl (by decide) rfl rfl rfl rfl rfl (one_lit rfl rfl) (by simp only [maxLen]; omega) (by omega) (fun v_4 => ?_)
        refine r_row1 (k := 1) rfl (fun o_5 => ?_)
        refine r_val .none rfl (p_assign rfl) ?_
        refine r_nil ?_
        refine e_next ?_
        refine c_seq ?_
        refine c_region ?_
        refine r_val .none rfl (p_field Try.underlying112 rfl sz110 rfl) ?_
        refine r_val .none rfl (p_ld (k := 4) Try.underlying110 rfl rfl rfl (by first | exact of_decide_eq_true rfl | omega) rfl) ?_
        refine r_val .none rfl (p_move rfl) ?_
        refine r_val .none rfl (p_field Try.underlying112 rfl sz3 rfl) ?_
        refine r_val .none rfl (p_ld (k := 4) Try.underlying3 rfl rfl rfl (by first | exact of_decide_eq_true rfl | omega) (rfl : _ = Value.int _ _)) ?_
        obtain ⟨a_6, c_7, rfl⟩ := SlG.len ha
        refine r_rowsl (k := 1) rfl (fun a_8 c_9 e_10 => ?_)
        subst e_10
        refine r_val .none rfl (p_build (vs := [(0, Value.slice _ _ _), (1, Value.slice _ _ _), (2, Value.int _ _)]) rfl (bl112_0s3_1s3_2i1 _ _ _ _ _ _ _)) ?_
        refine r_stw (k := 3) .none sz112 rfl rfl (IsRow.lit _) (one_lit rfl (all_cons (ha).one (all_cons o_5 (all_cons rfl rfl)))) rfl ?_
        refine r_val .none rfl (p_assign rfl) ?_
        refine r_nil ?_
        refine e_next ?_
        refine c_ret ?_
        refine e_freeze (k := 1) rfl (fun G_11 hn_12 hs_13 => ?_)
        replace ha := ha.mono hn_12.le
        replace hg := hg.mono hn_12.le
        refine e_retn Try.results59 (.cell (k := 2) rfl Try.underlying112 rfl sz112 rfl (rfl : _ = Value.agg #[_, _, _]) (.tmp rfl .nil)) rfl (fun w hm => ⟨_, hn_12, hm.has, ?_, hm.since⟩)
        have hN : (lkp (rf all gone) i).isSome = true := (by simp_all)
        rw [rGone, if_pos hN, if_pos hN]
        exact ⟨_, _, rfl, ha, SlL.of2 (0 : Int) (fun _ => rfl) (by simp) (by rw [List.nil_append, flat_all (cells := cI) (fun _ => rfl)]; simp [row, at_, cI]) hs_13⟩
        )
theorem c_radd (va vg : Value) (lim : Int) (all : List FD) (gone : List Int) (t : Tri) {G : Ghost} (hla : all.length ≤ 2000) (hlg : gone.length ≤ 2000) (ha : SlL G va 4 fC (0, zT) all) (hg : SlL G vg 1 cI (0 : Int) gone) (w : World) (hG : Has G w) :
    Calls Try.prog 60 #[Value.agg #[va, vg, Value.int .i64 lim], kT t] w (Ret fun r w' => ∃ G', GNew w nX G G' ∧ Has G' w' ∧ (∃ va' vg', r = .tuple #[.agg #[va', vg', .int .i64 lim], .int .i64 (rAdd all gone lim t).2.1, .int .i64 (rAdd all gone lim t).2.2] ∧ SlL G' va' 4 fC (0, zT) (rAdd all gone lim t).1 ∧ SlL G' vg' 1 cI (0 : Int) gone) ∧ Since nX w w') := by
  refine enter (args := [_, _]) (X := nX) (G := G) (l := [(0, Value.agg #[va, vg, Value.int .i64 lim]), (1, kT t)]) Try.func60 rfl Try.ntmps60 hG ⟨rfl, rfl, trivial⟩ (Nat.le_of_ble_eq_true rfl) ?_
  refine c_seq ?_
  refine c_region ?_
  refine r_box .none rfl rfl (IsRow.lit _) (fun b_1 => ?_)
  refine r_box .none rfl rfl (IsRow.lit _) (fun b_2 => ?_)
  refine r_alloc .none rfl zr112 (IsRow.lit _) (fun b_3 => ?_)
  refine r_val .none rfl (p_assign rfl) ?_
  refine r_val .none rfl (p_assign rfl) ?_
  refine r_nil ?_
  refine e_next ?_
  refine c_seq ?_
  refine c_seq ?_
  refine c_region ?_
  refine r_val .none rfl (p_ldw (k := 1) Try.underlying25 rfl sz25 rfl rfl (rfl : _ = Value.agg #[_, _, _])) ?_
  refine r_call (vs := [_]) .none rfl cl28 rfl (fun w hw => c_rtri _ w) ?_
  refine r_val .none rfl (p_not rfl) ?_
  refine r_nil ?_
  refine e_next ?_
  refine c_splitn (d := 11) rfl (fun h_1 => ?_) (fun h_1 => ?_)
  · skip
    first
      | (exfalso; omega)
      | (
        refine c_cond_t rfl ?_
        refine c_seq ?_
        refine c_region ?_
        refine r_val .none rfl (p_ldw (k := 2) Try.underlying112 rfl sz112 rfl rfl (rfl : _ = Value.agg #[_, _, _])) ?_
        refine r_stw (k := 0) .none sz112 rfl rfl (IsRow.lit _) (one_lit rfl (all_cons (ha).one (all_cons (hg).one (all_cons rfl rfl)))) rfl ?_
        refine r_val .none rfl (p_assign rfl) ?_
        refine r_val .none rfl (p_assign rfl) ?_
        refine r_nil ?_
        refine e_next ?_
        refine c_ret ?_
        refine e_ret_then ?_
        refine e_retn Try.results60 (.cell (k := 0) rfl Try.underlying112 rfl sz112 rfl (rfl : _ = Value.agg #[_, _, _]) (.tmp rfl (.tmp rfl .nil))) rfl (fun w hm => ⟨_, (GNew.refl _ _ _), hm.has, ?_, hm.since⟩)
        rw [rAdd_bad ‹_›]
        exact ⟨_, _, rfl, ha, hg⟩
        )
  · skip
    first
      | (exfalso; omega)
      | (
        refine c_cond_f rfl ?_
        refine c_skip ?_
        refine e_next ?_
        refine c_seq ?_
        refine c_seq ?_
        refine c_region_d (fun _ => false) _ mixed (.keep (fun _ _ h => h) (.keep (fun _ _ h => h) (.keep (fun _ _ h => h) (.nil)))) ?_
        refine d_val1 0 rfl rfl (by kernel_rfl) (fun _ _ => rfl) .none rfl (p_ldw (k := 2) Try.underlying112 rfl sz112 rfl rfl (rfl : _ = Value.agg #[_, _, _])) ?_
        refine d_val1 3 rfl rfl (by kernel_rfl) (fun _ _ => rfl) .none rfl (p_field Try.underlying112 rfl sz3 rfl) ?_
        refine d_val1 4 rfl rfl (by kernel_rfl) (fun _ _ => rfl) .none rfl (p_ld (k := 2) Try.underlying3 rfl rfl rfl (by first | exact of_decide_eq_true rfl | omega) (rfl : _ = Value.int _ _)) ?_
        refine d_eff 1 rfl (by kernel_rfl) (fun K_2 hKK_2 hcK_2 => ?_)
        refine r_callm (vs := [_]) .none rfl cl61 rfl (fun w hw => c_rfacts _ _ _ _ _ (by omega) (by omega) ha hg w hw) (fun G_3 v_6 hn_4 hr_5 => ?_)
        replace ha := ha.mono hn_4.le
        replace hg := hg.mono hn_4.le
        have u_7 := hr_5
        refine r_nil (e_d (i := 1) (brk := (fun _ => false)) (ph' := true) hKK_2 hcK_2 rfl (fun _ => hn_4.le) (fun _ => .keep (fun _ _ h => h) (.keep (fun _ _ h => h) (.keep (fun _ _ h => h) (.nil)))) ?_)
        clear hKK_2 hcK_2 K_2
        refine d_val1 2 rfl rfl (by kernel_rfl) (fun _ _ => rfl) .none rfl (p_lengx Try.underlying110 rfl u_7) ?_
        have bd_8 := (u_7).bound
        refine d_val1 5 rfl rfl (by kernel_rfl) (fun _ _ => rfl) .none rfl (p_ge rfl rfl) ?_
        refine d_nil (by kernel_rfl) ?_
        refine e_next ?_
        refine c_splitd (d := 18) rfl (fun h_9 => ?_) (fun h_9 => ?_)
        · skip
          first
            | (exfalso; omega)
            | (
              refine c_cond_t rfl ?_
              refine c_seq ?_
              refine c_region ?_
              refine r_val .none rfl (p_ldw (k := 2) Try.underlying112 rfl sz112 rfl rfl (rfl : _ = Value.agg #[_, _, _])) ?_
              refine r_stw (k := 0) .none sz112 rfl rfl (IsRow.lit _) (one_lit rfl (all_cons (ha).one (all_cons (hg).one (all_cons rfl rfl)))) rfl ?_
              refine r_val .none rfl (p_assign rfl) ?_
              refine r_val .none rfl (p_assign rfl) ?_
              refine r_nil ?_
              refine e_next ?_
              refine c_ret ?_
              refine e_ret_then ?_
              refine e_retn Try.results60 (.cell (k := 0) rfl Try.underlying112 rfl sz112 rfl (rfl : _ = Value.agg #[_, _, _]) (.tmp rfl (.tmp rfl .nil))) rfl (fun w hm => ⟨_, hn_4, hm.has, ?_, hm.since⟩)
              rw [rAdd_full ‹_› ‹_›]
              exact ⟨_, _, rfl, ha, hg⟩
              )
        · skip
          first
            | (exfalso; omega)
            | (
              refine c_cond_f rfl ?_
              refine c_skip ?_
              refine e_next ?_
              refine c_seq ?_
              refine c_region ?_
              refine r_val .none rfl (p_field Try.underlying112 rfl sz110 rfl) ?_
              refine r_val .none rfl (p_ld (k := 2) Try.underlying110 rfl rfl rfl (by first | exact of_decide_eq_true rfl | omega) rfl) ?_
              refine r_val .none rfl (p_leng Try.underlying110 rfl ha) ?_
              have bd_10 := (ha).bound
              refine r_val .none rfl (p_add rfl rfl (by omega)) ?_
              refine r_val .none rfl (p_assign rfl) ?_
              refine r_nil ?_
              refine e_next ?_
              refine c_seq ?_
              refine c_region ?_
              refine r_val .none rfl (p_assign rfl) ?_
              refine r_nil ?_
              refine e_next ?_
              refine c_seq ?_
              refine c_region ?_
              refine r_val .none rfl (p_move rfl) ?_
              refine r_val .none rfl (p_field Try.underlying112 rfl sz110 rfl) ?_
              refine r_val .none rfl (p_ld (k := 2) Try.underlying110 rfl rfl rfl (by first | exact of_decide_eq_true rfl | omega) rfl) ?_
              refine r_nilrow 161 4 ?_
              refine r_append_g (k := 0) .none rfl Try.underlying110 el161 rfl (by decide) rfl rfl rfl ha (fun _ _ _ hj => one_lit rfl rfl _ hj) (by simp only [maxLen]; omega) (by omega) (fun v_11 => ?_)
              refine r_row1 (k := 0) rfl (fun o_12 => ?_)
              refine r_val .none rfl (p_assign rfl) ?_
              refine r_nil ?_
              refine e_next ?_
              refine c_seq ?_
              refine c_region ?_
              refine r_val .none rfl (p_move rfl) ?_
              refine r_val .none rfl (p_move rfl) ?_
              refine r_val .none rfl (p_ldw (k := 2) Try.underlying25 rfl sz25 rfl rfl (rfl : _ = Value.agg #[_, _, _])) ?_
              refine r_val .none rfl (p_build (vs := [(0, Value.int _ _), (1, Value.agg #[_, _, _])]) rfl (bl161_0i1_1a3 _ _ _ _)) ?_
              refine r_bslice (vs := [(0, Value.agg #[_, _, _, _])]) (c := #[_, _, _, _]) .none rfl Try.underlying110 el161 rfl rfl rfl (bs161_10a4 _ _ _ _) (IsRow.lit _) (fun b_4 => ?_)
              refine r_append (k := 1) (k2 := 0) .none rfl Try.underlying110 el161 rfl (by decide) rfl rfl rfl rfl rfl (one_lit rfl rfl) (by simp only [maxLen]; omega) (by omega) (fun v_13 => ?_)
              refine r_row1 (k := 1) rfl (fun o_14 => ?_)
              refine r_val .none rfl (p_assign rfl) ?_
              refine r_nil ?_
              refine e_next ?_
              refine c_seq ?_
              refine c_region ?_
              refine r_val .none rfl (p_move rfl) ?_
              refine r_val .none rfl (p_field Try.underlying112 rfl sz69 rfl) ?_
              refine r_val .none rfl (p_ld (k := 4) Try.underlying69 rfl rfl rfl (by first | exact of_decide_eq_true rfl | omega) rfl) ?_
              refine r_val .none rfl (p_field Try.underlying112 rfl sz3 rfl) ?_
              refine r_val .none rfl (p_ld (k := 4) Try.underlying3 rfl rfl rfl (by first | exact of_decide_eq_true rfl | omega) (rfl : _ = Value.int _ _)) ?_
              refine r_rowsl (k := 1) rfl (fun a_15 c_16 e_17 => ?_)
              subst e_17
              obtain ⟨a_18, c_19, rfl⟩ := SlG.len hg
              refine r_val .none rfl (p_build (vs := [(0, Value.slice _ _ _), (1, Value.slice _ _ _), (2, Value.int _ _)]) rfl (bl112_0s3_1s3_2i1 _ _ _ _ _ _ _)) ?_
              refine r_val .none rfl (p_move rfl) ?_
              refine r_stw (k := 2) .none sz112 rfl rfl (IsRow.lit _) (one_lit rfl (all_cons o_14 (all_cons (hg).one (all_cons rfl rfl)))) rfl ?_
              refine r_val .none rfl (p_assign rfl) ?_
              refine r_val .none rfl (p_assign rfl) ?_
              refine r_nil ?_
              refine e_next ?_
              refine c_ret ?_
              refine e_freeze (k := 1) rfl (fun G_20 hn_21 hs_22 => ?_)
              replace ha := ha.mono hn_21.le
              replace hg := hg.mono hn_21.le
              replace u_7 := u_7.mono hn_21.le
              refine e_retn Try.results60 (.cell (k := 1) rfl Try.underlying112 rfl sz112 rfl (rfl : _ = Value.agg #[_, _, _]) (.tmp rfl (.tmp rfl .nil))) rfl (fun w hm => ⟨_, (hn_4.trans hn_21), hm.has, ?_, hm.since⟩)
              rw [rAdd_ok ‹_› ‹_›]
              exact ⟨_, _, rfl, SlL.of2 (0, zT) (fun _ => rfl) (by simp) (by rw [List.nil_append, flat_all (cells := fC) (fun _ => rfl)]; simp [row, at_, fC, triL]) hs_22, hg⟩
              )
        )
theorem c_same11 (v u : Value) (l m : List FD) {G : Ghost} (hs : SlL G v 4 fC (0, zT) l) (hu : SlL G u 4 fC (0, zT) m) (w : World) (hG : Has G w) :
    Calls Try.prog 62 #[v, u] w (Ret fun r w' => r = Value.bool (decide (l = m)) ∧ Since nX w w') := by
  refine enter (args := [_, _]) (X := nX) (G := G) (l := [(0, v), (1, u)]) Try.func62 rfl Try.ntmps62 hG ⟨rfl, rfl, trivial⟩ (Nat.le_of_ble_eq_true rfl) ?_
  refine c_seq ?_
  refine c_region ?_
  refine r_val .none rfl (p_assign rfl) ?_
  refine r_nil ?_
  refine e_next ?_
  refine c_seq ?_
  refine c_seq ?_
  refine c_region ?_
  refine r_val .none rfl (p_move rfl) ?_
  refine r_val .none rfl (p_leng Try.underlying73 rfl hs) ?_
  have bd_1 := (hs).bound
  refine r_val .none rfl (p_move rfl) ?_
  refine r_val .none rfl (p_leng Try.underlying110 rfl hu) ?_
  have bd_2 := (hu).bound
  refine r_val .none rfl (p_ne rfl rfl) ?_
  refine r_nil ?_
  refine e_next ?_
  refine c_splitd (d := 11) rfl (fun h_3 => ?_) (fun h_3 => ?_)
  · skip
    have hL := h_3
    first
      | (exfalso; omega)
      | (
        refine c_cond_t rfl ?_
        refine c_seq ?_
        refine c_region ?_
        refine r_val .none rfl (p_assign rfl) ?_
        refine r_nil ?_
        refine e_next ?_
        refine c_ret ?_
        refine e_ret_then ?_
        refine e_ret1 Try.results62 (.tmp rfl .nil) (fun w hm => ⟨?_, hm.since⟩)
        first
        | (rw [decide_eq_false (fun e => hL (by rw [e]))]; done)
        | (rw [decide_eq_false (fun e => hF (by rw [e]))]; done)
        | (rw [decide_eq_true (same_all (by omega) (fun i hi => hphi.2 i (by omega)))]; done)
        )
  · skip
    have hL := Decidable.not_not.1 h_3
    first
      | (exfalso; omega)
      | (
        refine c_cond_f rfl ?_
        refine c_skip ?_
        refine e_next ?_
        refine c_seq ?_
        refine c_seq ?_
        refine c_region ?_
        refine r_val .none rfl (p_move rfl) ?_
        refine r_val .none rfl (p_leng Try.underlying73 rfl hs) ?_
        have bd_4 := (hs).bound
        refine r_val .none rfl (p_move rfl) ?_
        refine r_nil ?_
        refine e_next ?_
        refine c_block ?_
        refine c_name (d := 1) rfl (fun u_5 hu_5 => ?_)
        refine c_name (d := 12) rfl (fun u_6 hu_6 => ?_)
        refine c_name (d := 13) rfl (fun u_7 hu_7 => ?_)
        refine c_loop (σ := Nat) (fun k => [(14, Value.int .i64 (k : Nat)), (1, u_5), (12, u_6), (13, u_7)]) (fun k => []) (fun _ => _) (fun k => k ≤ l.length ∧ ∀ i, i < k → l.getD i (0, zT) = m.getD i (0, zT)) (fun k => l.length - k) (0) ⟨Nat.zero_le _, fun i h => absurd h (Nat.not_lt_zero _)⟩ rfl ⟨rfl, rfl, rfl, rfl, trivial⟩ (.nil) (fun k hphi => ?_)
        subst hu_5
        subst hu_6
        subst hu_7
        refine c_seq ?_
        refine c_region ?_
        refine r_val .none rfl (p_lt rfl rfl) ?_
        refine r_nil ?_
        refine e_next ?_
        refine c_seq ?_
        refine c_splitd (d := 15) rfl (fun h_8 => ?_) (fun h_8 => ?_)
        · skip
          first
            | (exfalso; omega)
            | (
              refine c_cond_t rfl ?_
              refine c_skip ?_
              refine e_next ?_
              refine c_seq ?_
              refine c_block ?_
              refine c_seq ?_
              refine c_region ?_
              refine r_val .none rfl (p_move rfl) ?_
              refine r_iaddr_g .none rfl Try.underlying73 sz72 rfl hs rfl (by first | exact of_decide_eq_true rfl | omega) (fun p_10 o_11 R_9 => ?_)
              refine r_val .none rfl (p_ldga0 Try.underlying72 rfl sz72 rfl R_9 (by first | exact of_decide_eq_true rfl | omega) (rfl : _ = Value.agg #[_, _, _, _])) ?_
              refine r_alloc .none rfl zr72 (IsRow.lit _) (fun b_1 => ?_)
              refine r_val .none rfl (p_assign rfl) ?_
              refine r_stw (k := 0) .none sz72 rfl rfl (IsRow.lit _) (one_lit rfl rfl) rfl ?_
              refine r_nil ?_
              refine e_next ?_
              refine c_seq ?_
              refine c_region_q mixed (by kernel_rfl) ?_
              refine q_val .none rfl (p_field Try.underlying72 rfl sz3 rfl) ?_
              refine q_val .none rfl (p_ld (k := 0) Try.underlying3 rfl rfl rfl (by first | exact of_decide_eq_true rfl | omega) (rfl : _ = Value.int _ _)) ?_
              refine q_val .none rfl (p_field Try.underlying72 rfl sz26 rfl) ?_
              refine q_val .none rfl (p_lda (k := 0) Try.underlying26 rfl sz26 rfl rfl (by first | exact of_decide_eq_true rfl | omega) (rfl : _ = Value.agg #[_, _, _])) ?_
              refine q_val .none rfl (p_build (vs := [(0, Value.int _ _), (1, Value.agg #[_, _, _])]) rfl (bl161_0i1_1a3 _ _ _ _)) ?_
              refine q_val .none rfl (p_move rfl) ?_
              refine q_val .none rfl (p_move rfl) ?_
              refine q_iaddr_g .none rfl Try.underlying110 sz161 rfl hu rfl (by first | exact of_decide_eq_true rfl | omega) (fun p_13 o_14 R_12 => ?_)
              refine q_val .none rfl (p_ldga0 Try.underlying161 rfl sz161 rfl R_12 (by first | exact of_decide_eq_true rfl | omega) (rfl : _ = Value.agg #[_, _, _, _])) ?_
              refine q_val .none rfl (p_nea rfl rfl (eq_flat Try.underlying161 rfl lf161 ef161 eg161 (.cons (.int Try.underlying3) (.cons (.int Try.underlying3) (.cons (.int Try.underlying3) (.cons (.int Try.underlying3) (.nil))))) (.cons (.int Try.underlying3) (.cons (.int Try.underlying3) (.cons (.int Try.underlying3) (.cons (.int Try.underlying3) (.nil))))))) ?_
              refine q_nil ?_
              refine e_next ?_
              refine c_splitn (d := 28) rfl (fun h_15 => ?_) (fun h_15 => ?_)
              · skip
                have hF : ¬ l.getD k (0, zT) = m.getD k (0, zT) := of_decide_eq_false ((csEq_fd _ _).symm.trans h_15)
                first
                  | (exfalso; omega)
                  | (
                    refine c_cond_t rfl ?_
                    refine c_seq ?_
                    refine c_region ?_
                    refine r_val .none rfl (p_assign rfl) ?_
                    refine r_nil ?_
                    refine e_next ?_
                    refine c_ret ?_
                    refine e_ret_block ?_
                    refine e_ret_then ?_
                    refine e_ret_then ?_
                    refine e_ret_block ?_
                    refine e_ret_then ?_
                    refine e_ret1 Try.results62 (.tmp rfl .nil) (fun w hm => ⟨?_, hm.since⟩)
                    first
                    | (rw [decide_eq_false (fun e => hL (by rw [e]))]; done)
                    | (rw [decide_eq_false (fun e => hF (by rw [e]))]; done)
                    | (rw [decide_eq_true (same_all (by omega) (fun i hi => hphi.2 i (by omega)))]; done)
                    )
              · skip
                have hF : l.getD k (0, zT) = m.getD k (0, zT) := of_decide_eq_true ((csEq_fd _ _).symm.trans h_15)
                first
                  | (exfalso; omega)
                  | (
                    refine c_cond_f rfl ?_
                    refine c_skip ?_
                    refine e_norm_block ?_
                    refine e_next ?_
                    refine c_region ?_
                    refine r_val .none rfl (p_add rfl rfl (by omega)) ?_
                    refine r_val .none rfl (p_move rfl) ?_
                    refine r_nil ?_
                    refine e_round (k + 1) ⟨⟨by omega, fun i hi => by by_cases e : i = k; (subst e; exact hF); exact hphi.2 i (by omega)⟩, by omega⟩ rfl ⟨rfl, rfl, rfl, rfl, trivial⟩ (.drop (.nil))
                    )
              )
        · skip
          first
            | (exfalso; omega)
            | (
              refine c_cond_f rfl ?_
              refine c_exit ?_
              refine e_exit_then ?_
              refine e_exit_then ?_
              refine e_exit_block ?_
              refine e_next ?_
              refine c_seq ?_
              refine c_region ?_
              refine r_val .none rfl (p_assign rfl) ?_
              refine r_nil ?_
              refine e_next ?_
              refine c_ret ?_
              refine e_ret1 Try.results62 (.tmp rfl .nil) (fun w hm => ⟨?_, hm.since⟩)
              first
              | (rw [decide_eq_false (fun e => hL (by rw [e]))]; done)
              | (rw [decide_eq_false (fun e => hF (by rw [e]))]; done)
              | (rw [decide_eq_true (same_all (by omega) (fun i hi => hphi.2 i (by omega)))]; done)
              )
        )
theorem c_mnew_bad (lim : Int) (hl : ¬ (1 ≤ lim ∧ lim ≤ 1024)) (w : World)  :
    Calls Try.prog 31 #[Value.int .i64 lim] w (Ret fun r w' => r = Value.tuple #[Value.pointer none, Value.int .i64 13] ∧ Since nX w w') := by
  refine enter (args := [_]) (X := nX) (G := (fun _ => none)) (l := [(0, Value.int .i64 lim)]) Try.func31 rfl Try.ntmps31 (fun _ _ h => by cases h) ⟨rfl, trivial⟩ (Nat.le_of_ble_eq_true rfl) ?_
  refine c_seq ?_
  refine c_region ?_
  refine r_val .none rfl (p_assign rfl) ?_
  refine r_val .none rfl (p_assign rfl) ?_
  refine r_nil ?_
  refine e_next ?_
  refine c_seq ?_
  refine c_seq ?_
  refine c_region ?_
  refine r_val .none rfl (p_move rfl) ?_
  refine r_val .none rfl (p_lt rfl rfl) ?_
  refine r_val .none rfl (p_move rfl) ?_
  refine' r_or (c := 6) (d := 9) [_, _, _] rfl (fun h_1 Q_2 hQ_3 => ?_) (fun h_1 Q_2 hQ_3 => ?_) ?_
  rotate_left 1
  · skip
    replace h_1 := of_decide_eq_false h_1
    refine r_val (.some rfl rfl) rfl (p_move rfl) ?_
    refine r_val (.some rfl rfl) rfl (p_gt rfl rfl) ?_
    refine r_val .none rfl (p_pick_f rfl rfl) ?_
    refine r_nil (e_fin (d := 9) hQ_3 rfl (by repeat (first | exact .refl | refine .put rfl ?_ | refine .say rfl ?_ | refine .say2 rfl (by first | assumption | simp_all) ?_)))
  · skip
    repeat (first | refine r_skip rfl (.no rfl rfl) ?_ | refine r_skip rfl (.un rfl rfl) ?_)
    refine r_val (by first | exact .none | exact .some rfl rfl) rfl (p_pick_t rfl rfl) ?_
    refine r_nil (e_fin (d := 9) hQ_3 rfl (by repeat (first | exact .refl | refine .put rfl ?_ | refine .say rfl ?_ | refine .say2 rfl (by first | assumption | simp_all) ?_)))
  refine r_nil ?_
  refine e_next ?_
  refine c_split (d := 9) rfl (fun h_5 => ?_) (fun h_5 => ?_)
  · skip
    try simp only [norms] at h_5
    first
      | (exfalso; omega)
      | (
        refine c_cond_t rfl ?_
        refine c_seq ?_
        refine c_region ?_
        refine r_val .none rfl (p_assign rfl) ?_
        refine r_val .none rfl (p_assign rfl) ?_
        refine r_nil ?_
        refine e_next ?_
        refine c_ret ?_
        refine e_ret_then ?_
        refine e_retn Try.results31 (.tmp rfl (.tmp rfl .nil)) rfl (fun w hm => ⟨?_, hm.since⟩)
        rfl
        )
  · skip
    try simp only [norms] at h_5
    first
      | (exfalso; omega)
      | (
        refine c_cond_f rfl ?_
        refine c_skip ?_
        refine e_next ?_
        refine c_seq ?_
        refine c_region ?_
        refine r_makemap .none rfl kI kT (fun m_6 => ?_)
        refine r_val .none rfl (p_move rfl) ?_
        refine r_val .none rfl (p_build (vs := [(0, Value.map _), (1, Value.int _ _)]) rfl (bl142_0m1_1i1 _ _)) ?_
        refine r_box .none rfl rfl (IsRow.lit _) (fun b_1 => ?_)
        refine r_val .none rfl (p_assign rfl) ?_
        refine r_val .none rfl (p_assign rfl) ?_
        refine r_nil ?_
        refine e_next ?_
        refine c_ret ?_
        refine e_retn Try.results31 (.tmp rfl (.tmp rfl .nil)) rfl (fun w hm => ⟨?_, hm.since⟩)
        rfl
        )
end Go.Proofs.Ytinbigokigkfaaa
