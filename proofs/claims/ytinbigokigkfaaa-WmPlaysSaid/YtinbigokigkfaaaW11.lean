/- Walks: what Go functions of this chapter come to, each as a function on plain data; no condition but those that each theorem names. Printed by a program of this work (gen.py). -/
import Derived.Test.YtinbigokigkfaaaPl11
import Derived.Test.YtinbigokigkfaaaRows
namespace Go.Proofs.Ytinbigokigkfaaa
open Go.Gx Go.Gx.T11
theorem mixed : Try.prog.follows .mixedOrders = true := by
  kernel_rfl
theorem sz3 : SzIs Try.prog 3 1 := by
  unfold SzIs
  kernel_rfl
theorem sz26 : SzIs Try.prog 26 3 := by
  unfold SzIs
  kernel_rfl
theorem sz106 : SzIs Try.prog 106 1 := by
  unfold SzIs
  kernel_rfl
theorem zr26 : ZeroIs Try.prog 26 (Value.agg #[Value.int .i64 0, Value.int .i64 0, Value.int .i64 0]) := by
  unfold ZeroIs
  kernel_rfl
theorem cl71 : Callable Try.prog 71 := callable Try.func71 (by kernel_rfl) rfl
theorem bl26_  : Program.built Try.prog 26 [] = some #[Value.int .i64 0, Value.int .i64 0, Value.int .i64 0] := by
  kernel_rfl
theorem bl142_0m1_1i1 (x0 : Option Nat) (x1 : Int) : Program.built Try.prog 142 [(0, Value.map x0), (1, Value.int .i64 x1)] = some #[Value.map x0, Value.int .i64 x1, Value.int .i64 0] := by
  kernel_rfl
def memA (p : Nat) (l : List (Int × Tri)) (lim last : Int) : Asrt := exA fun m : Nat => starL [box p 3 142 (at_ [.map (some m), .int .i64 lim, .int .i64 last]), mapA m kI kT l]
theorem c_triRight (t : Tri)  (w : World)  :
    Calls Try.prog 71 #[kT t] w (Ret fun r w' => r = Value.bool (triRight t) ∧ Since nX w w') := by
  refine enter (args := [_]) (X := nX) (G := (fun _ => none)) (l := [(0, kT t)]) Try.func71 rfl Try.ntmps71 (fun _ _ h => by cases h) ⟨rfl, trivial⟩ (Nat.le_of_ble_eq_true rfl) ?_
  refine c_seq ?_
  refine c_region ?_
  refine r_box .none rfl rfl (IsRow.lit _) (fun b_1 => ?_)
  refine r_val .none rfl (p_assign rfl) ?_
  refine r_nil ?_
  refine e_next ?_
  refine c_seq ?_
  refine c_seq ?_
  refine c_region ?_
  refine r_val .none rfl (p_ldw (k := 0) Try.underlying26 rfl sz26 rfl rfl (rfl : _ = Value.agg #[_, _, _])) ?_
  refine r_val .none rfl (p_move rfl) ?_
  refine r_nil ?_
  refine e_next ?_
  refine c_block ?_
  refine c_unroll 4 ?_
  refine l_round (n := 3) ?_
  refine c_seq ?_
  refine c_region ?_
  refine r_val .none rfl (p_lt rfl rfl) ?_
  refine r_say (d := 7) (v := Value.bool true) rfl ?_
  refine r_nil ?_
  refine e_next ?_
  refine c_seq ?_
  refine c_cond_t rfl ?_
  refine c_skip ?_
  refine e_next ?_
  refine c_seq ?_
  refine c_block ?_
  refine c_seq ?_
  refine c_region ?_
  refine r_val .none rfl (p_index (k := 0) Try.underlying26 Try.underlying3 rfl sz3 rfl (IsRow.lit _) rfl (by first | exact of_decide_eq_true rfl | omega) (rfl : _ = Value.int _ _)) ?_
  refine r_val .none rfl (p_assign rfl) ?_
  refine r_nil ?_
  refine e_next ?_
  refine c_seq ?_
  refine c_region ?_
  refine r_val .none rfl (p_move rfl) ?_
  refine r_val .none rfl (p_lt rfl rfl) ?_
  refine r_val .none rfl (p_move rfl) ?_
  refine r_splitd (d := 11) rfl (fun h_1 => ?_) (fun h_1 => ?_)
  · skip
    first
      | (exfalso; omega)
      | (
        refine r_skip rfl (.no rfl rfl) ?_
        refine r_skip rfl (.no rfl rfl) ?_
        refine r_val .none rfl (p_pick_t rfl rfl) ?_
        refine r_nil ?_
        refine e_next ?_
        refine c_cond_t rfl ?_
        refine c_seq ?_
        refine c_region ?_
        refine r_val .none rfl (p_assign rfl) ?_
        refine r_nil ?_
        refine e_next ?_
        refine c_ret ?_
        refine e_ret_block ?_
        refine e_ret_then ?_
        refine e_ret_then ?_
        refine e_ret_block ?_
        refine e_ret_then ?_
        refine e_ret1 Try.results71 (.tmp rfl .nil) (fun w hm => ⟨?_, hm.since⟩)
        (simp [triRight, triL, at_] at *; try omega)
        )
  · skip
    first
      | (exfalso; omega)
      | (
        refine r_val (.some rfl rfl) rfl (p_move rfl) ?_
        refine r_val (.some rfl rfl) rfl (p_gt rfl rfl) ?_
        refine r_val .none rfl (p_pick_f rfl rfl) ?_
        refine r_nil ?_
        refine e_next ?_
        refine c_splitd (d := 14) rfl (fun h_2 => ?_) (fun h_2 => ?_)
        · skip
          first
            | (exfalso; omega)
            | (
              refine c_cond_t rfl ?_
              refine c_seq ?_
              refine c_region ?_
              refine r_val .none rfl (p_assign rfl) ?_
              refine r_nil ?_
              refine e_next ?_
              refine c_ret ?_
              refine e_ret_block ?_
              refine e_ret_then ?_
              refine e_ret_then ?_
              refine e_ret_block ?_
              refine e_ret_then ?_
              refine e_ret1 Try.results71 (.tmp rfl .nil) (fun w hm => ⟨?_, hm.since⟩)
              (simp [triRight, triL, at_] at *; try omega)
              )
        · skip
          first
            | (exfalso; omega)
            | (
              refine c_cond_f rfl ?_
              refine c_skip ?_
              refine e_norm_block ?_
              refine e_next ?_
              refine c_region ?_
              refine r_val .none rfl (p_add rfl rfl (by omega)) ?_
              refine r_val .none rfl (p_move rfl) ?_
              refine r_nil ?_
              refine e_again ?_
              refine l_round (n := 2) ?_
              refine c_seq ?_
              refine c_region ?_
              refine r_val .none rfl (p_lt rfl rfl) ?_
              refine r_say (d := 7) (v := Value.bool true) rfl ?_
              refine r_nil ?_
              refine e_next ?_
              refine c_seq ?_
              refine c_cond_t rfl ?_
              refine c_skip ?_
              refine e_next ?_
              refine c_seq ?_
              refine c_block ?_
              refine c_seq ?_
              refine c_region ?_
              refine r_val .none rfl (p_index (k := 1) Try.underlying26 Try.underlying3 rfl sz3 rfl (IsRow.lit _) rfl (by first | exact of_decide_eq_true rfl | omega) (rfl : _ = Value.int _ _)) ?_
              refine r_val .none rfl (p_assign rfl) ?_
              refine r_nil ?_
              refine e_next ?_
              refine c_seq ?_
              refine c_region ?_
              refine r_val .none rfl (p_move rfl) ?_
              refine r_val .none rfl (p_lt rfl rfl) ?_
              refine r_val .none rfl (p_move rfl) ?_
              refine r_splitd (d := 11) rfl (fun h_3 => ?_) (fun h_3 => ?_)
              · skip
                first
                  | (exfalso; omega)
                  | (
                    refine r_skip rfl (.no rfl rfl) ?_
                    refine r_skip rfl (.no rfl rfl) ?_
                    refine r_val .none rfl (p_pick_t rfl rfl) ?_
                    refine r_nil ?_
                    refine e_next ?_
                    refine c_cond_t rfl ?_
                    refine c_seq ?_
                    refine c_region ?_
                    refine r_val .none rfl (p_assign rfl) ?_
                    refine r_nil ?_
                    refine e_next ?_
                    refine c_ret ?_
                    refine e_ret_block ?_
                    refine e_ret_then ?_
                    refine e_ret_then ?_
                    refine e_ret_block ?_
                    refine e_ret_then ?_
                    refine e_ret1 Try.results71 (.tmp rfl .nil) (fun w hm => ⟨?_, hm.since⟩)
                    (simp [triRight, triL, at_] at *; try omega)
                    )
              · skip
                first
                  | (exfalso; omega)
                  | (
                    refine r_val (.some rfl rfl) rfl (p_move rfl) ?_
                    refine r_val (.some rfl rfl) rfl (p_gt rfl rfl) ?_
                    refine r_val .none rfl (p_pick_f rfl rfl) ?_
                    refine r_nil ?_
                    refine e_next ?_
                    refine c_splitd (d := 14) rfl (fun h_4 => ?_) (fun h_4 => ?_)
                    · skip
                      first
                        | (exfalso; omega)
                        | (
                          refine c_cond_t rfl ?_
                          refine c_seq ?_
                          refine c_region ?_
                          refine r_val .none rfl (p_assign rfl) ?_
                          refine r_nil ?_
                          refine e_next ?_
                          refine c_ret ?_
                          refine e_ret_block ?_
                          refine e_ret_then ?_
                          refine e_ret_then ?_
                          refine e_ret_block ?_
                          refine e_ret_then ?_
                          refine e_ret1 Try.results71 (.tmp rfl .nil) (fun w hm => ⟨?_, hm.since⟩)
                          (simp [triRight, triL, at_] at *; try omega)
                          )
                    · skip
                      first
                        | (exfalso; omega)
                        | (
                          refine c_cond_f rfl ?_
                          refine c_skip ?_
                          refine e_norm_block ?_
                          refine e_next ?_
                          refine c_region ?_
                          refine r_val .none rfl (p_add rfl rfl (by omega)) ?_
                          refine r_val .none rfl (p_move rfl) ?_
                          refine r_nil ?_
                          refine e_again ?_
                          refine l_round (n := 1) ?_
                          refine c_seq ?_
                          refine c_region ?_
                          refine r_val .none rfl (p_lt rfl rfl) ?_
                          refine r_say (d := 7) (v := Value.bool true) rfl ?_
                          refine r_nil ?_
                          refine e_next ?_
                          refine c_seq ?_
                          refine c_cond_t rfl ?_
                          refine c_skip ?_
                          refine e_next ?_
                          refine c_seq ?_
                          refine c_block ?_
                          refine c_seq ?_
                          refine c_region ?_
                          refine r_val .none rfl (p_index (k := 2) Try.underlying26 Try.underlying3 rfl sz3 rfl (IsRow.lit _) rfl (by first | exact of_decide_eq_true rfl | omega) (rfl : _ = Value.int _ _)) ?_
                          refine r_val .none rfl (p_assign rfl) ?_
                          refine r_nil ?_
                          refine e_next ?_
                          refine c_seq ?_
                          refine c_region ?_
                          refine r_val .none rfl (p_move rfl) ?_
                          refine r_val .none rfl (p_lt rfl rfl) ?_
                          refine r_val .none rfl (p_move rfl) ?_
                          refine r_splitd (d := 11) rfl (fun h_5 => ?_) (fun h_5 => ?_)
                          · skip
                            first
                              | (exfalso; omega)
                              | (
                                refine r_skip rfl (.no rfl rfl) ?_
                                refine r_skip rfl (.no rfl rfl) ?_
                                refine r_val .none rfl (p_pick_t rfl rfl) ?_
                                refine r_nil ?_
                                refine e_next ?_
                                refine c_cond_t rfl ?_
                                refine c_seq ?_
                                refine c_region ?_
                                refine r_val .none rfl (p_assign rfl) ?_
                                refine r_nil ?_
                                refine e_next ?_
                                refine c_ret ?_
                                refine e_ret_block ?_
                                refine e_ret_then ?_
                                refine e_ret_then ?_
                                refine e_ret_block ?_
                                refine e_ret_then ?_
                                refine e_ret1 Try.results71 (.tmp rfl .nil) (fun w hm => ⟨?_, hm.since⟩)
                                (simp [triRight, triL, at_] at *; try omega)
                                )
                          · skip
                            first
                              | (exfalso; omega)
                              | (
                                refine r_val (.some rfl rfl) rfl (p_move rfl) ?_
                                refine r_val (.some rfl rfl) rfl (p_gt rfl rfl) ?_
                                refine r_val .none rfl (p_pick_f rfl rfl) ?_
                                refine r_nil ?_
                                refine e_next ?_
                                refine c_splitd (d := 14) rfl (fun h_6 => ?_) (fun h_6 => ?_)
                                · skip
                                  first
                                    | (exfalso; omega)
                                    | (
                                      refine c_cond_t rfl ?_
                                      refine c_seq ?_
                                      refine c_region ?_
                                      refine r_val .none rfl (p_assign rfl) ?_
                                      refine r_nil ?_
                                      refine e_next ?_
                                      refine c_ret ?_
                                      refine e_ret_block ?_
                                      refine e_ret_then ?_
                                      refine e_ret_then ?_
                                      refine e_ret_block ?_
                                      refine e_ret_then ?_
                                      refine e_ret1 Try.results71 (.tmp rfl .nil) (fun w hm => ⟨?_, hm.since⟩)
                                      (simp [triRight, triL, at_] at *; try omega)
                                      )
                                · skip
                                  first
                                    | (exfalso; omega)
                                    | (
                                      refine c_cond_f rfl ?_
                                      refine c_skip ?_
                                      refine e_norm_block ?_
                                      refine e_next ?_
                                      refine c_region ?_
                                      refine r_val .none rfl (p_add rfl rfl (by omega)) ?_
                                      refine r_val .none rfl (p_move rfl) ?_
                                      refine r_nil ?_
                                      refine e_again ?_
                                      refine l_round (n := 0) ?_
                                      refine c_seq ?_
                                      refine c_region ?_
                                      refine r_val .none rfl (p_lt rfl rfl) ?_
                                      refine r_say (d := 7) (v := Value.bool false) rfl ?_
                                      refine r_nil ?_
                                      refine e_next ?_
                                      refine c_seq ?_
                                      refine c_cond_f rfl ?_
                                      refine c_exit ?_
                                      refine e_exit_then ?_
                                      refine e_exit_then ?_
                                      refine e_exit_block ?_
                                      refine e_next ?_
                                      refine c_seq ?_
                                      refine c_region ?_
                                      refine r_val .none rfl (p_assign rfl) ?_
                                      refine r_nil ?_
                                      refine e_next ?_
                                      refine c_ret ?_
                                      refine e_ret1 Try.results71 (.tmp rfl .nil) (fun w hm => ⟨?_, hm.since⟩)
                                      (simp [triRight, triL, at_] at *; try omega)
                                      )
                                )
                          )
                    )
              )
        )
theorem c_mlen {F : Nat → Prop} {G : Ghost} (p : Nat)  (l : List (Int × Tri)) (lim last : Int)  (w : World) (hG : Has G w) (hA : (memA p l lim last).holds w F) (hFG : ∀ b, F b → G b = none) :
    Calls Try.prog 35 #[Value.pointer (some ⟨p, 0, none⟩)] w (Ret fun r w' => r = Value.int .i64 (l.length : Nat) ∧ Kept (memA p (l) lim (last)) F w w') := by
  refine enterO (args := [_]) (G := G) (A := memA p l lim last) (l := [(0, Value.pointer (some ⟨p, 0, none⟩))]) Try.func35 rfl Try.ntmps35 hG hA hFG ⟨rfl, trivial⟩ (Nat.le_of_ble_eq_true rfl) ?_
  refine c_unex (fun m => ?_)
  refine c_unpack ?_
  refine c_seq ?_
  refine c_region ?_
  refine r_val .none rfl (p_assign rfl) ?_
  refine r_nil ?_
  refine e_next ?_
  refine c_seq ?_
  refine c_region ?_
  refine r_val .none rfl (p_move rfl) ?_
  refine r_val .none rfl (p_nilcheck rfl) ?_
  refine r_val .none rfl (p_field Try.underlying142 rfl sz106 rfl) ?_
  refine r_val .none rfl (p_ld (k := 0) Try.underlying106 rfl rfl rfl (by first | exact of_decide_eq_true rfl | omega) (rfl : _ = Value.map _)) ?_
  refine r_val .none rfl (p_len_map (i := 1) Try.underlying106 rfl rfl) ?_
  refine r_val .none rfl (p_assign rfl) ?_
  refine r_nil ?_
  refine e_next ?_
  refine c_ret ?_
  refine e_ret1 Try.results35 (.tmp rfl .nil) (fun w hm => ⟨?_, hm.kept [box p 3 142 (at_ [.map (some m), .int .i64 lim, .int .i64 (last)]), mapA m kI kT (l)] (.keep (fun _ _ h => h) (.keep (fun _ _ h => h) (.nil))) (memA p (l) lim (last)) (fun F' h => ⟨m, h⟩)⟩)
  rfl
theorem c_mlast {F : Nat → Prop} {G : Ghost} (p : Nat)  (l : List (Int × Tri)) (lim last : Int)  (w : World) (hG : Has G w) (hA : (memA p l lim last).holds w F) (hFG : ∀ b, F b → G b = none) :
    Calls Try.prog 36 #[Value.pointer (some ⟨p, 0, none⟩)] w (Ret fun r w' => r = Value.int .i64 last ∧ Kept (memA p (l) lim (last)) F w w') := by
  refine enterO (args := [_]) (G := G) (A := memA p l lim last) (l := [(0, Value.pointer (some ⟨p, 0, none⟩))]) Try.func36 rfl Try.ntmps36 hG hA hFG ⟨rfl, trivial⟩ (Nat.le_of_ble_eq_true rfl) ?_
  refine c_unex (fun m => ?_)
  refine c_unpack ?_
  refine c_seq ?_
  refine c_region ?_
  refine r_val .none rfl (p_assign rfl) ?_
  refine r_nil ?_
  refine e_next ?_
  refine c_seq ?_
  refine c_region ?_
  refine r_val .none rfl (p_move rfl) ?_
  refine r_val .none rfl (p_nilcheck rfl) ?_
  refine r_val .none rfl (p_field Try.underlying142 rfl sz3 rfl) ?_
  refine r_val .none rfl (p_ld (k := 0) Try.underlying3 rfl rfl rfl (by first | exact of_decide_eq_true rfl | omega) (rfl : _ = Value.int _ _)) ?_
  refine r_val .none rfl (p_assign rfl) ?_
  refine r_nil ?_
  refine e_next ?_
  refine c_ret ?_
  refine e_ret1 Try.results36 (.tmp rfl .nil) (fun w hm => ⟨?_, hm.kept [box p 3 142 (at_ [.map (some m), .int .i64 lim, .int .i64 (last)]), mapA m kI kT (l)] (.keep (fun _ _ h => h) (.keep (fun _ _ h => h) (.nil))) (memA p (l) lim (last)) (fun F' h => ⟨m, h⟩)⟩)
  rfl
theorem c_mget {F : Nat → Prop} {G : Ghost} (p : Nat) (i : Int) (l : List (Int × Tri)) (lim last : Int)  (w : World) (hG : Has G w) (hA : (memA p l lim last).holds w F) (hFG : ∀ b, F b → G b = none) :
    Calls Try.prog 34 #[Value.pointer (some ⟨p, 0, none⟩), Value.int .i64 i] w (Ret fun r w' => r = Value.tuple #[kT ((lkp l i).getD zT), Value.bool (lkp l i).isSome] ∧ Kept (memA p (l) lim (last)) F w w') := by
  refine enterO (args := [_, _]) (G := G) (A := memA p l lim last) (l := [(0, Value.pointer (some ⟨p, 0, none⟩)), (1, Value.int .i64 i)]) Try.func34 rfl Try.ntmps34 hG hA hFG ⟨rfl, rfl, trivial⟩ (Nat.le_of_ble_eq_true rfl) ?_
  refine c_unex (fun m => ?_)
  refine c_unpack ?_
  refine c_seq ?_
  refine c_region ?_
  refine r_alloc .none rfl zr26 (IsRow.lit _) (fun b_1 => ?_)
  refine r_val .none rfl (p_assign rfl) ?_
  refine r_nil ?_
  refine e_next ?_
  refine c_seq ?_
  refine c_region ?_
  refine r_val .none rfl (p_move rfl) ?_
  refine r_val .none rfl (p_nilcheck rfl) ?_
  refine r_val .none rfl (p_field Try.underlying142 rfl sz106 rfl) ?_
  refine r_val .none rfl (p_ld (k := 1) Try.underlying106 rfl rfl rfl (by first | exact of_decide_eq_true rfl | omega) (rfl : _ = Value.map _)) ?_
  refine r_val .none rfl (p_move rfl) ?_
  refine r_val .none rfl (p_lookup2 (i := 2) (z0 := zT) Try.underlying106 (KeyT.int Try.underlying3) zr26 rfl rfl rfl) ?_
  refine r_val .none rfl (p_move rfl) ?_
  refine r_val .none rfl (p_extract rfl rfl) ?_
  refine r_val .none rfl (p_extract rfl rfl) ?_
  refine r_alloc .none rfl zr26 (IsRow.lit _) (fun b_2 => ?_)
  refine r_stw (k := 0) .none sz26 rfl rfl (IsRow.lit _) (one_lit rfl rfl) rfl ?_
  refine r_val .none rfl (p_assign rfl) ?_
  refine r_nil ?_
  refine e_next ?_
  refine c_seq ?_
  refine c_region ?_
  refine r_val .none rfl (p_ldw (k := 0) Try.underlying26 rfl sz26 rfl rfl (rfl : _ = Value.agg #[_, _, _])) ?_
  refine r_val .none rfl (p_move rfl) ?_
  refine r_stw (k := 1) .none sz26 rfl rfl (IsRow.lit _) (one_lit rfl rfl) rfl ?_
  refine r_val .none rfl (p_assign rfl) ?_
  refine r_nil ?_
  refine e_next ?_
  refine c_ret ?_
  refine e_retn Try.results34 (.cell (k := 1) rfl Try.underlying26 rfl sz26 rfl (rfl : _ = Value.agg #[_, _, _]) (.tmp rfl .nil)) rfl (fun w hm => ⟨?_, hm.kept [box p 3 142 (at_ [.map (some m), .int .i64 lim, .int .i64 (last)]), mapA m kI kT (l)] (.drop (.drop (.keep (fun _ _ h => h) (.keep (fun _ _ h => h) (.nil))))) (memA p (l) lim (last)) (fun F' h => ⟨m, h⟩)⟩)
  rfl
theorem c_mrem {F : Nat → Prop} {G : Ghost} (p : Nat) (i : Int) (l : List (Int × Tri)) (lim last : Int)  (w : World) (hG : Has G w) (hA : (memA p l lim last).holds w F) (hFG : ∀ b, F b → G b = none) :
    Calls Try.prog 33 #[Value.pointer (some ⟨p, 0, none⟩), Value.int .i64 i] w (Ret fun r w' => r = Value.tuple #[kT ((lkp l i).getD zT), Value.int .i64 (if (lkp l i).isSome = true then 0 else 10)] ∧ Kept (memA p (mdel l i) lim (last)) F w w') := by
  refine enterO (args := [_, _]) (G := G) (A := memA p l lim last) (l := [(0, Value.pointer (some ⟨p, 0, none⟩)), (1, Value.int .i64 i)]) Try.func33 rfl Try.ntmps33 hG hA hFG ⟨rfl, rfl, trivial⟩ (Nat.le_of_ble_eq_true rfl) ?_
  refine c_unex (fun m => ?_)
  refine c_unpack ?_
  refine c_seq ?_
  refine c_region ?_
  refine r_alloc .none rfl zr26 (IsRow.lit _) (fun b_1 => ?_)
  refine r_val .none rfl (p_assign rfl) ?_
  refine r_nil ?_
  refine e_next ?_
  refine c_seq ?_
  refine c_region ?_
  refine r_val .none rfl (p_move rfl) ?_
  refine r_val .none rfl (p_nilcheck rfl) ?_
  refine r_val .none rfl (p_field Try.underlying142 rfl sz106 rfl) ?_
  refine r_val .none rfl (p_ld (k := 1) Try.underlying106 rfl rfl rfl (by first | exact of_decide_eq_true rfl | omega) (rfl : _ = Value.map _)) ?_
  refine r_val .none rfl (p_move rfl) ?_
  refine r_val .none rfl (p_lookup2 (i := 2) (z0 := zT) Try.underlying106 (KeyT.int Try.underlying3) zr26 rfl rfl rfl) ?_
  refine r_val .none rfl (p_move rfl) ?_
  refine r_val .none rfl (p_extract rfl rfl) ?_
  refine r_val .none rfl (p_extract rfl rfl) ?_
  refine r_alloc .none rfl zr26 (IsRow.lit _) (fun b_2 => ?_)
  refine r_stw (k := 0) .none sz26 rfl rfl (IsRow.lit _) (one_lit rfl rfl) rfl ?_
  refine r_val .none rfl (p_assign rfl) ?_
  refine r_nil ?_
  refine e_next ?_
  refine c_seq ?_
  refine c_seq ?_
  refine c_region ?_
  refine r_val .none rfl (p_move rfl) ?_
  refine r_val .none rfl (p_not rfl) ?_
  refine r_nil ?_
  refine e_next ?_
  refine c_splitn (d := 18) rfl (fun h_1 => ?_) (fun h_1 => ?_)
  · skip
    first
      | (exfalso; omega)
      | (
        refine c_cond_t rfl ?_
        refine c_seq ?_
        refine c_region ?_
        refine r_val .none rfl (p_build (vs := []) rfl (bl26_ )) ?_
        refine r_stw (k := 1) .none sz26 rfl rfl (IsRow.lit _) (one_lit rfl rfl) rfl ?_
        refine r_val .none rfl (p_assign rfl) ?_
        refine r_nil ?_
        refine e_next ?_
        refine c_ret ?_
        refine e_ret_then ?_
        refine e_retn Try.results33 (.cell (k := 1) rfl Try.underlying26 rfl sz26 rfl (rfl : _ = Value.agg #[_, _, _]) (.tmp rfl .nil)) rfl (fun w hm => ?_)
        rw [if_neg (by simp_all), mdel_none (by simp_all)]
        refine ⟨?_, hm.kept [box p 3 142 (at_ [.map (some m), .int .i64 lim, .int .i64 (last)]), mapA m kI kT (l)] (.drop (.drop (.keep (fun _ _ h => h) (.keep (fun _ _ h => h) (.nil))))) (memA p (l) lim (last)) (fun F' h => ⟨m, h⟩)⟩
        rw [show lkp l i = none from by simp_all]
        rfl
        )
  · skip
    first
      | (exfalso; omega)
      | (
        refine c_cond_f rfl ?_
        refine c_skip ?_
        refine e_next ?_
        refine c_seq ?_
        refine c_region ?_
        refine r_val .none rfl (p_move rfl) ?_
        refine r_val .none rfl (p_nilcheck rfl) ?_
        refine r_val .none rfl (p_field Try.underlying142 rfl sz106 rfl) ?_
        refine r_val .none rfl (p_ld (k := 2) Try.underlying106 rfl rfl rfl (by first | exact of_decide_eq_true rfl | omega) (rfl : _ = Value.map _)) ?_
        refine r_val .none rfl (p_move rfl) ?_
        refine r_delete (i := 3) .none Try.underlying106 (KeyT.int Try.underlying3) rfl rfl rfl rfl ?_
        refine r_nil ?_
        refine e_next ?_
        refine c_seq ?_
        refine c_region ?_
        refine r_val .none rfl (p_ldw (k := 0) Try.underlying26 rfl sz26 rfl rfl (rfl : _ = Value.agg #[_, _, _])) ?_
        refine r_stw (k := 1) .none sz26 rfl rfl (IsRow.lit _) (one_lit rfl rfl) rfl ?_
        refine r_val .none rfl (p_assign rfl) ?_
        refine r_nil ?_
        refine e_next ?_
        refine c_ret ?_
        refine e_retn Try.results33 (.cell (k := 1) rfl Try.underlying26 rfl sz26 rfl (rfl : _ = Value.agg #[_, _, _]) (.tmp rfl .nil)) rfl (fun w hm => ?_)
        rw [if_pos (by simp_all)]
        refine ⟨?_, hm.kept [box p 3 142 (at_ [.map (some m), .int .i64 lim, .int .i64 (last)]), mapA m kI kT (mdel l i)] (.drop (.drop (.keep (fun _ _ h => h) (.keep (fun _ _ h => h) (.nil))))) (memA p (mdel l i) lim (last)) (fun F' h => ⟨m, h⟩)⟩
        rfl
        )
theorem c_madd {F : Nat → Prop} {G : Ghost} (p : Nat) (t : Tri) (l : List (Int × Tri)) (lim last : Int) (hb : 0 ≤ last ∧ last ≤ 4611686018427387904) (w : World) (hG : Has G w) (hA : (memA p l lim last).holds w F) (hFG : ∀ b, F b → G b = none) :
    Calls Try.prog 32 #[Value.pointer (some ⟨p, 0, none⟩), kT t] w (Ret fun r w' => r = Value.tuple #[Value.int .i64 (wAdd l lim last t).2.1, Value.int .i64 (wAdd l lim last t).2.2] ∧ Kept (memA p ((wAdd l lim last t).1.1) lim ((wAdd l lim last t).1.2)) F w w') := by
  refine enterO (args := [_, _]) (G := G) (A := memA p l lim last) (l := [(0, Value.pointer (some ⟨p, 0, none⟩)), (1, kT t)]) Try.func32 rfl Try.ntmps32 hG hA hFG ⟨rfl, rfl, trivial⟩ (Nat.le_of_ble_eq_true rfl) ?_
  refine c_unex (fun m => ?_)
  refine c_unpack ?_
  refine c_seq ?_
  refine c_region ?_
  refine r_box .none rfl rfl (IsRow.lit _) (fun b_1 => ?_)
  refine r_val .none rfl (p_assign rfl) ?_
  refine r_val .none rfl (p_assign rfl) ?_
  refine r_nil ?_
  refine e_next ?_
  refine c_seq ?_
  refine c_block ?_
  refine c_seq ?_
  refine c_region ?_
  refine r_val .none rfl (p_ldw (k := 0) Try.underlying26 rfl sz26 rfl rfl (rfl : _ = Value.agg #[_, _, _])) ?_
  refine r_call (vs := [_]) .none rfl cl71 rfl (fun w hw => c_triRight _ w) ?_
  refine r_val .none rfl (p_not rfl) ?_
  refine r_val .none rfl (p_assign rfl) ?_
  refine r_nil ?_
  refine e_next ?_
  refine c_splitn (d := 6) rfl (fun h_1 => ?_) (fun h_1 => ?_)
  · skip
    first
      | (exfalso; omega)
      | (
        refine c_cond_t rfl ?_
        refine c_seq ?_
        refine c_region ?_
        refine r_val .none rfl (p_assign rfl) ?_
        refine r_val .none rfl (p_assign rfl) ?_
        refine r_nil ?_
        refine e_next ?_
        refine c_ret ?_
        refine e_ret_block ?_
        refine e_ret_then ?_
        refine e_retn Try.results32 (.tmp rfl (.tmp rfl .nil)) rfl (fun w hm => ?_)
        rw [wAdd_bad ‹_›]
        refine ⟨?_, hm.kept [box p 3 142 (at_ [.map (some m), .int .i64 lim, .int .i64 (last)]), mapA m kI kT (l)] (.drop (.keep (fun _ _ h => h) (.keep (fun _ _ h => h) (.nil)))) (memA p (l) lim (last)) (fun F' h => ⟨m, h⟩)⟩
        rfl
        )
  · skip
    first
      | (exfalso; omega)
      | (
        refine c_cond_f rfl ?_
        refine c_seq ?_
        refine c_region_q mixed (by kernel_rfl) ?_
        refine q_val .none rfl (p_move rfl) ?_
        refine q_val .none rfl (p_nilcheck rfl) ?_
        refine q_val .none rfl (p_field Try.underlying142 rfl sz106 rfl) ?_
        refine q_val .none rfl (p_ld (k := 1) Try.underlying106 rfl rfl rfl (by first | exact of_decide_eq_true rfl | omega) (rfl : _ = Value.map _)) ?_
        refine q_val .none rfl (p_len_map (i := 2) Try.underlying106 rfl rfl) ?_
        refine q_val .none rfl (p_move rfl) ?_
        refine q_val .none rfl (p_nilcheck rfl) ?_
        refine q_val .none rfl (p_field Try.underlying142 rfl sz3 rfl) ?_
        refine q_val .none rfl (p_ld (k := 1) Try.underlying3 rfl rfl rfl (by first | exact of_decide_eq_true rfl | omega) (rfl : _ = Value.int _ _)) ?_
        refine q_val .none rfl (p_ge rfl rfl) ?_
        refine q_val .none rfl (p_assign rfl) ?_
        refine q_nil ?_
        refine e_next ?_
        refine c_splitd (d := 10) rfl (fun h_2 => ?_) (fun h_2 => ?_)
        · skip
          first
            | (exfalso; omega)
            | (
              refine c_cond_t rfl ?_
              refine c_seq ?_
              refine c_region ?_
              refine r_val .none rfl (p_assign rfl) ?_
              refine r_val .none rfl (p_assign rfl) ?_
              refine r_nil ?_
              refine e_next ?_
              refine c_ret ?_
              refine e_ret_block ?_
              refine e_ret_then ?_
              refine e_retn Try.results32 (.tmp rfl (.tmp rfl .nil)) rfl (fun w hm => ?_)
              rw [wAdd_full ‹_› ‹_›]
              refine ⟨?_, hm.kept [box p 3 142 (at_ [.map (some m), .int .i64 lim, .int .i64 (last)]), mapA m kI kT (l)] (.drop (.keep (fun _ _ h => h) (.keep (fun _ _ h => h) (.nil)))) (memA p (l) lim (last)) (fun F' h => ⟨m, h⟩)⟩
              rfl
              )
        · skip
          first
            | (exfalso; omega)
            | (
              refine c_cond_f rfl ?_
              refine c_skip ?_
              refine e_norm_block ?_
              refine e_next ?_
              refine c_seq ?_
              refine c_region ?_
              refine r_val .none rfl (p_move rfl) ?_
              refine r_val .none rfl (p_nilcheck rfl) ?_
              refine r_val .none rfl (p_field Try.underlying142 rfl sz3 rfl) ?_
              refine r_val .none rfl (p_ld (k := 1) Try.underlying3 rfl rfl rfl (by first | exact of_decide_eq_true rfl | omega) (rfl : _ = Value.int _ _)) ?_
              refine r_val .none rfl (p_add rfl rfl (by omega)) ?_
              refine r_val .none rfl (p_nilcheck rfl) ?_
              refine r_val .none rfl (p_field Try.underlying142 rfl sz3 rfl) ?_
              refine r_st (k := 1) .none sz3 rfl rfl rfl rfl (by first | exact of_decide_eq_true rfl | omega) ?_
              refine r_nil ?_
              refine e_next ?_
              refine c_seq ?_
              refine c_region_d (fun _ => false) _ mixed (.keep (fun _ _ h => h) (.keep (fun _ _ h => h) (.drop (.nil)))) ?_
              refine d_val1 0 rfl rfl (by kernel_rfl) (fun _ _ => rfl) .none rfl (p_move rfl) ?_
              refine d_val1 1 rfl rfl (by kernel_rfl) (fun _ _ => rfl) .none rfl (p_nilcheck rfl) ?_
              refine d_val1 2 rfl rfl (by kernel_rfl) (fun _ _ => rfl) .none rfl (p_field Try.underlying142 rfl sz106 rfl) ?_
              refine d_val1 3 rfl rfl (by kernel_rfl) (fun _ _ => rfl) .none rfl (p_ld (k := 1) Try.underlying106 rfl rfl rfl (by first | exact of_decide_eq_true rfl | omega) (rfl : _ = Value.map _)) ?_
              refine d_val1 4 rfl rfl (by kernel_rfl) (fun _ _ => rfl) .none rfl (p_move rfl) ?_
              refine d_val1 5 rfl rfl (by kernel_rfl) (fun _ _ => rfl) .none rfl (p_nilcheck rfl) ?_
              refine d_val1 6 rfl rfl (by kernel_rfl) (fun _ _ => rfl) .none rfl (p_field Try.underlying142 rfl sz3 rfl) ?_
              refine d_val1 7 rfl rfl (by kernel_rfl) (fun _ _ => rfl) .none rfl (p_ld (k := 1) Try.underlying3 rfl rfl rfl (by first | exact of_decide_eq_true rfl | omega) (rfl : _ = Value.int _ _)) ?_
              refine d_val1 8 rfl rfl (by kernel_rfl) (fun _ _ => rfl) .none rfl (p_ldw (k := 0) Try.underlying26 rfl sz26 rfl rfl (rfl : _ = Value.agg #[_, _, _])) ?_
              refine d_eff 9 rfl (by kernel_rfl) (fun K_3 hKK_3 hcK_3 => ?_)
              refine r_mapup (i := 2) (a := t) .none Try.underlying106 (KeyT.int Try.underlying3) rfl rfl rfl rfl ?_
              refine r_nil (e_d (i := 9) (brk := (fun _ => false)) (ph' := true) hKK_3 hcK_3 rfl (fun _ => GLe.refl _) (fun _ => .keep (fun _ _ h => h) (.keep (fun _ _ h => h) (.drop (.nil)))) ?_)
              clear hKK_3 hcK_3 K_3
              refine d_nil (by kernel_rfl) ?_
              refine e_next ?_
              refine c_seq ?_
              refine c_region ?_
              refine r_val .none rfl (p_move rfl) ?_
              refine r_val .none rfl (p_nilcheck rfl) ?_
              refine r_val .none rfl (p_field Try.underlying142 rfl sz3 rfl) ?_
              refine r_val .none rfl (p_ld (k := 1) Try.underlying3 rfl rfl rfl (by first | exact of_decide_eq_true rfl | omega) (rfl : _ = Value.int _ _)) ?_
              refine r_val .none rfl (p_assign rfl) ?_
              refine r_val .none rfl (p_assign rfl) ?_
              refine r_nil ?_
              refine e_next ?_
              refine c_ret ?_
              refine e_retn Try.results32 (.tmp rfl (.tmp rfl .nil)) rfl (fun w hm => ?_)
              rw [wAdd_ok ‹_› ‹_›]
              refine ⟨?_, hm.kept [box p 3 142 (at_ [.map (some m), .int .i64 lim, .int .i64 (last + 1)]), mapA m kI kT (mput l (last + 1) t)] (.drop (.keep (fun _ _ h => box_congr (fun i hi => by match i, hi with | 0, _ => rfl | 1, _ => rfl | 2, _ => rfl) _ _ h) (.keep (fun _ _ h => h) (.nil)))) (memA p (mput l (last + 1) t) lim (last + 1)) (fun F' h => ⟨m, h⟩)⟩
              rfl
              )
        )
theorem c_mnew (lim : Int) {G : Ghost} (hl : 1 ≤ lim ∧ lim ≤ 1024) (w : World) (hG : Has G w) :
    Calls Try.prog 31 #[Value.int .i64 lim] w (Ret fun r w' => ∃ p, r = Value.tuple #[Value.pointer (some ⟨p, 0, none⟩), Value.int .i64 0] ∧ Since nX w w' ∧ ∃ F', (memA p [] lim 0).holds w' F' ∧ ∀ b, F' b → w.heap.size ≤ b) := by
  refine enter (args := [_]) (X := nX) (G := G) (l := [(0, Value.int .i64 lim)]) Try.func31 rfl Try.ntmps31 hG ⟨rfl, trivial⟩ (Nat.le_of_ble_eq_true rfl) ?_
  refine c_seq ?_
  refine c_region ?_
  refine r_val .none rfl (p_assign rfl) ?_
  refine r_val .none rfl (p_assign rfl) ?_
  refine r_nil ?_
  refine e_next ?_
  refine c_seq ?_
  refine c_seq ?_
  refine c_region ?_
  refine r_val .none rfl (p_move rfl) ?_
  refine r_val .none rfl (p_lt rfl rfl) ?_
  refine r_val .none rfl (p_move rfl) ?_
  refine' r_or (c := 6) (d := 9) [_, _, _] rfl (fun h_1 Q_2 hQ_3 => ?_) (fun h_1 Q_2 hQ_3 => ?_) ?_
  rotate_left 1
  · skip
    replace h_1 := of_decide_eq_false h_1
    refine r_val (.some rfl rfl) rfl (p_move rfl) ?_
    refine r_val (.some rfl rfl) rfl (p_gt rfl rfl) ?_
    refine r_val .none rfl (p_pick_f rfl rfl) ?_
    refine r_nil (e_fin (d := 9) hQ_3 rfl (by repeat (first | exact .refl | refine .put rfl ?_ | refine .say rfl ?_ | refine .say2 rfl (by first | assumption | simp_all) ?_)))
  · skip
    repeat (first | refine r_skip rfl (.no rfl rfl) ?_ | refine r_skip rfl (.un rfl rfl) ?_)
    refine r_val (by first | exact .none | exact .some rfl rfl) rfl (p_pick_t rfl rfl) ?_
    refine r_nil (e_fin (d := 9) hQ_3 rfl (by repeat (first | exact .refl | refine .put rfl ?_ | refine .say rfl ?_ | refine .say2 rfl (by first | assumption | simp_all) ?_)))
  refine r_nil ?_
  refine e_next ?_
  refine c_split (d := 9) rfl (fun h_5 => ?_) (fun h_5 => ?_)
  · skip
    try simp only [norms] at h_5
    first
      | (exfalso; omega)
      | (
        refine c_cond_t rfl ?_
        refine c_seq ?_
        refine c_region ?_
        refine r_val .none rfl (p_assign rfl) ?_
        refine r_val .none rfl (p_assign rfl) ?_
        refine r_nil ?_
        refine e_next ?_
        refine c_ret ?_
        refine e_ret_then ?_
        refine e_retn Try.results31 (.tmp rfl (.tmp rfl .nil)) rfl (fun w hm => ?_)
        )
  · skip
    try simp only [norms] at h_5
    first
      | (exfalso; omega)
      | (
        refine c_cond_f rfl ?_
        refine c_skip ?_
        refine e_next ?_
        refine c_seq ?_
        refine c_region ?_
        refine r_makemap .none rfl kI kT (fun m_6 => ?_)
        refine r_val .none rfl (p_move rfl) ?_
        refine r_val .none rfl (p_build (vs := [(0, Value.map _), (1, Value.int _ _)]) rfl (bl142_0m1_1i1 _ _)) ?_
        refine r_box .none rfl rfl (IsRow.lit _) (fun b_1 => ?_)
        refine r_val .none rfl (p_assign rfl) ?_
        refine r_val .none rfl (p_assign rfl) ?_
        refine r_nil ?_
        refine e_next ?_
        refine c_ret ?_
        refine e_retn Try.results31 (.tmp rfl (.tmp rfl .nil)) rfl (fun w hm => ⟨_, rfl, hm.made [box b_1 3 142 (at_ [.map (some m_6), .int .i64 lim, .int .i64 0]), mapA m_6 kI kT []] (.keep (fun _ _ h => box_congr (fun i hi => by match i, hi with | 0, _ => rfl | 1, _ => rfl | 2, _ => rfl) _ _ h) (.keep (fun _ _ h => h) .nil)) (memA _ [] lim 0) (fun F' h => ⟨m_6, h⟩)⟩)
        )
end Go.Proofs.Ytinbigokigkfaaa
