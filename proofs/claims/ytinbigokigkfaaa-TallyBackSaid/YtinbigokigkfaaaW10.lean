/- Walks: what Go functions of this chapter come to, each as a function on plain data; no condition but those that each theorem names. Printed by a program of this work (gen.py). -/
import Derived.Test.YtinbigokigkfaaaPl10
import Derived.Test.YtinbigokigkfaaaRows
namespace Go.Proofs.Ytinbigokigkfaaa
open Go.Gx Go.Gx.T10
theorem mixed : Try.prog.follows .mixedOrders = true := by
  kernel_rfl
theorem sz3 : SzIs Try.prog 3 1 := by
  unfold SzIs
  kernel_rfl
theorem sz26 : SzIs Try.prog 26 3 := by
  unfold SzIs
  kernel_rfl
theorem sz124 : SzIs Try.prog 124 1 := by
  unfold SzIs
  kernel_rfl
theorem zr3 : ZeroIs Try.prog 3 (Value.int .i64 0) := by
  unfold ZeroIs
  kernel_rfl
theorem lf26 : leafT Try.prog 9 26 = some [3, 3, 3] := by
  kernel_rfl
theorem ef26 : eqT Try.prog 9 26 = true := by
  kernel_rfl
theorem eg26 : Try.prog.eqGuardType Try.prog.depth 26 = false := by
  kernel_rfl
theorem bl126_0m1 (x0 : Option Nat) : Program.built Try.prog 126 [(0, Value.map x0)] = some #[Value.map x0, Value.int .i64 0] := by
  kernel_rfl
def tallyT (p : Nat) (l : List (Tri × Int)) (t : Int) : Asrt := exA fun m : Nat => starL [box p 2 126 (at_ [.map (some m), .int .i64 t]), mapA m kT kI l]
def tallyS (p : Nat) (l : List (ByteArray × Int)) (t : Int) : Asrt := exA fun m : Nat => starL [box p 2 146 (at_ [.map (some m), .int .i64 t]), mapA m kS kI l]
def tallyI (p : Nat) (l : List (Int × Int)) (t : Int) : Asrt := exA fun m : Nat => starL [box p 2 153 (at_ [.map (some m), .int .i64 t]), mapA m kI kI l]
theorem c_countT {F : Nat → Prop} {G : Ghost} (p : Nat) (k : Tri) (l : List (Tri × Int)) (t : Int)  (w : World) (hG : Has G w) (hA : (tallyT p l t).holds w F) (hFG : ∀ b, F b → G b = none) :
    Calls Try.prog 15 #[Value.pointer (some ⟨p, 0, none⟩), kT k] w (Ret fun r w' => r = Value.int .i64 (cnt l k) ∧ Kept (tallyT p (l) (t)) F w w') := by
  refine enterO (args := [_, _]) (G := G) (A := tallyT p l t) (l := [(0, Value.pointer (some ⟨p, 0, none⟩)), (1, kT k)]) Try.func15 rfl Try.ntmps15 hG hA hFG ⟨rfl, rfl, trivial⟩ (Nat.le_of_ble_eq_true rfl) ?_
  refine c_unex (fun m => ?_)
  refine c_unpack ?_
  refine c_seq ?_
  refine c_region ?_
  refine r_box .none rfl rfl (IsRow.lit _) (fun b_1 => ?_)
  refine r_val .none rfl (p_assign rfl) ?_
  refine r_nil ?_
  refine e_next ?_
  refine c_seq ?_
  refine c_region_q mixed (by kernel_rfl) ?_
  refine q_val .none rfl (p_move rfl) ?_
  refine q_val .none rfl (p_nilcheck rfl) ?_
  refine q_val .none rfl (p_field Try.underlying126 rfl sz124 rfl) ?_
  refine q_val .none rfl (p_ld (k := 1) Try.underlying124 rfl rfl rfl (by first | exact of_decide_eq_true rfl | omega) (rfl : _ = Value.map _)) ?_
  refine q_val .none rfl (p_ldw (k := 0) Try.underlying26 rfl sz26 rfl rfl (rfl : _ = Value.agg #[_, _, _])) ?_
  refine q_val .none rfl (p_lookup (i := 2) (z0 := (0 : Int)) (k := k) Try.underlying124 (KeyT.tri (l := []) Try.underlying26 Try.underlying3 sz3 lf26 ef26 eg26) zr3 rfl rfl rfl) ?_
  refine q_val .none rfl (p_assign rfl) ?_
  refine q_nil ?_
  refine e_next ?_
  refine c_ret ?_
  refine e_ret1 Try.results15 (.tmp rfl .nil) (fun w hm => ⟨?_, hm.kept [box p 2 126 (at_ [.map (some m), .int .i64 (t)]), mapA m kT kI (l)] (.drop (.keep (fun _ _ h => h) (.keep (fun _ _ h => h) (.nil)))) (tallyT p (l) (t)) (fun F' h => ⟨m, h⟩)⟩)
  rfl
theorem c_lenT {F : Nat → Prop} {G : Ghost} (p : Nat) (l : List (Tri × Int)) (t : Int)  (w : World) (hG : Has G w) (hA : (tallyT p l t).holds w F) (hFG : ∀ b, F b → G b = none) :
    Calls Try.prog 17 #[Value.pointer (some ⟨p, 0, none⟩)] w (Ret fun r w' => r = Value.int .i64 (l.length : Nat) ∧ Kept (tallyT p (l) (t)) F w w') := by
  refine enterO (args := [_]) (G := G) (A := tallyT p l t) (l := [(0, Value.pointer (some ⟨p, 0, none⟩))]) Try.func17 rfl Try.ntmps17 hG hA hFG ⟨rfl, trivial⟩ (Nat.le_of_ble_eq_true rfl) ?_
  refine c_unex (fun m => ?_)
  refine c_unpack ?_
  refine c_seq ?_
  refine c_region ?_
  refine r_val .none rfl (p_assign rfl) ?_
  refine r_nil ?_
  refine e_next ?_
  refine c_seq ?_
  refine c_region ?_
  refine r_val .none rfl (p_move rfl) ?_
  refine r_val .none rfl (p_nilcheck rfl) ?_
  refine r_val .none rfl (p_field Try.underlying126 rfl sz124 rfl) ?_
  refine r_val .none rfl (p_ld (k := 0) Try.underlying124 rfl rfl rfl (by first | exact of_decide_eq_true rfl | omega) (rfl : _ = Value.map _)) ?_
  refine r_val .none rfl (p_len_map (i := 1) Try.underlying124 rfl rfl) ?_
  refine r_val .none rfl (p_assign rfl) ?_
  refine r_nil ?_
  refine e_next ?_
  refine c_ret ?_
  refine e_ret1 Try.results17 (.tmp rfl .nil) (fun w hm => ⟨?_, hm.kept [box p 2 126 (at_ [.map (some m), .int .i64 (t)]), mapA m kT kI (l)] (.keep (fun _ _ h => h) (.keep (fun _ _ h => h) (.nil))) (tallyT p (l) (t)) (fun F' h => ⟨m, h⟩)⟩)
  rfl
theorem c_totalT {F : Nat → Prop} {G : Ghost} (p : Nat) (l : List (Tri × Int)) (t : Int)  (w : World) (hG : Has G w) (hA : (tallyT p l t).holds w F) (hFG : ∀ b, F b → G b = none) :
    Calls Try.prog 18 #[Value.pointer (some ⟨p, 0, none⟩)] w (Ret fun r w' => r = Value.int .i64 t ∧ Kept (tallyT p (l) (t)) F w w') := by
  refine enterO (args := [_]) (G := G) (A := tallyT p l t) (l := [(0, Value.pointer (some ⟨p, 0, none⟩))]) Try.func18 rfl Try.ntmps18 hG hA hFG ⟨rfl, trivial⟩ (Nat.le_of_ble_eq_true rfl) ?_
  refine c_unex (fun m => ?_)
  refine c_unpack ?_
  refine c_seq ?_
  refine c_region ?_
  refine r_val .none rfl (p_assign rfl) ?_
  refine r_nil ?_
  refine e_next ?_
  refine c_seq ?_
  refine c_region ?_
  refine r_val .none rfl (p_move rfl) ?_
  refine r_val .none rfl (p_nilcheck rfl) ?_
  refine r_val .none rfl (p_field Try.underlying126 rfl sz3 rfl) ?_
  refine r_val .none rfl (p_ld (k := 0) Try.underlying3 rfl rfl rfl (by first | exact of_decide_eq_true rfl | omega) (rfl : _ = Value.int _ _)) ?_
  refine r_val .none rfl (p_assign rfl) ?_
  refine r_nil ?_
  refine e_next ?_
  refine c_ret ?_
  refine e_ret1 Try.results18 (.tmp rfl .nil) (fun w hm => ⟨?_, hm.kept [box p 2 126 (at_ [.map (some m), .int .i64 (t)]), mapA m kT kI (l)] (.keep (fun _ _ h => h) (.keep (fun _ _ h => h) (.nil))) (tallyT p (l) (t)) (fun F' h => ⟨m, h⟩)⟩)
  rfl
theorem c_taddT {F : Nat → Prop} {G : Ghost} (p : Nat) (k : Tri) (l : List (Tri × Int)) (t : Int) (hc : 0 ≤ cnt l k ∧ cnt l k ≤ 4611686018427387904) (ht : -4611686018427387904 ≤ t ∧ t ≤ 4611686018427387904) (w : World) (hG : Has G w) (hA : (tallyT p l t).holds w F) (hFG : ∀ b, F b → G b = none) :
    Calls Try.prog 14 #[Value.pointer (some ⟨p, 0, none⟩), kT k] w (Ret fun r w' => r = Value.int .i64 (cnt l k + 1) ∧ Kept (tallyT p (tAdd l k) (t + 1)) F w w') := by
  refine enterO (args := [_, _]) (G := G) (A := tallyT p l t) (l := [(0, Value.pointer (some ⟨p, 0, none⟩)), (1, kT k)]) Try.func14 rfl Try.ntmps14 hG hA hFG ⟨rfl, rfl, trivial⟩ (Nat.le_of_ble_eq_true rfl) ?_
  refine c_unex (fun m => ?_)
  refine c_unpack ?_
  refine c_seq ?_
  refine c_region ?_
  refine r_box .none rfl rfl (IsRow.lit _) (fun b_1 => ?_)
  refine r_val .none rfl (p_assign rfl) ?_
  refine r_nil ?_
  refine e_next ?_
  refine c_seq ?_
  refine c_region_d (fun j => [9].contains j) _ mixed (.keep (fun _ _ h => h) (.keep (fun _ _ h => h) (.keep (A' := mapW m kT kI k (cnt l k) 0) (fun _ _ h => mapA_W h) (.nil)))) ?_
  refine d_val1 0 rfl rfl (by kernel_rfl) (fun j hj => by have h : 9 < j := (Nat.lt_of_lt_of_le (by decide : 9 < 10) hj); simp; omega) .none rfl (p_move rfl) ?_
  refine d_val1 1 rfl rfl (by kernel_rfl) (fun j hj => by have h : 9 < j := (Nat.lt_of_lt_of_le (by decide : 9 < 10) hj); simp; omega) .none rfl (p_nilcheck rfl) ?_
  refine d_val1 2 rfl rfl (by kernel_rfl) (fun j hj => by have h : 9 < j := (Nat.lt_of_lt_of_le (by decide : 9 < 10) hj); simp; omega) .none rfl (p_field Try.underlying126 rfl sz124 rfl) ?_
  refine d_val1 3 rfl rfl (by kernel_rfl) (fun j hj => by have h : 9 < j := (Nat.lt_of_lt_of_le (by decide : 9 < 10) hj); simp; omega) .none rfl (p_ld (k := 1) Try.underlying124 rfl rfl rfl (by first | exact of_decide_eq_true rfl | omega) (rfl : _ = Value.map _)) ?_
  refine d_val1 4 rfl rfl (by kernel_rfl) (fun j hj => by have h : 9 < j := (Nat.lt_of_lt_of_le (by decide : 9 < 10) hj); simp; omega) .none rfl (p_ldw (k := 0) Try.underlying26 rfl sz26 rfl rfl (rfl : _ = Value.agg #[_, _, _])) ?_
  refine d_val1 5 rfl rfl (by kernel_rfl) (fun j hj => by have h : 9 < j := (Nat.lt_of_lt_of_le (by decide : 9 < 10) hj); simp; omega) .none rfl (p_lookupw (i := 2) (z0 := (0 : Int)) (k := k) Try.underlying124 (KeyT.tri (l := []) Try.underlying26 Try.underlying3 sz3 lf26 ef26 eg26) zr3 rfl rfl rfl) ?_
  refine d_val1 6 rfl rfl (by kernel_rfl) (fun j hj => by have h : 9 < j := (Nat.lt_of_lt_of_le (by decide : 9 < 10) hj); simp; omega) .none rfl (p_add rfl rfl (by show -9223372036854775808 ≤ cnt l k + 1 ∧ cnt l k + 1 ≤ 9223372036854775807; omega)) ?_
  refine d_eff 7 rfl (by kernel_rfl) (fun K_1 hKK_1 hcK_1 => ?_)
  refine r_mapentry (i := 2) (z0 := (0 : Int)) (k := k) .none rfl Try.underlying124 (KeyT.tri (l := []) Try.underlying26 Try.underlying3 sz3 lf26 ef26 eg26) zr3 rfl rfl rfl (fun s_2 => ?_)
  refine r_nil (e_d (i := 7) (brk := (fun j => [9].contains j)) (ph' := true) hKK_1 hcK_1 rfl (fun _ => GLe.refl _) (fun _ => .keep (fun _ _ h => h) (.keep (fun _ _ h => h) (.keep (fun _ _ h => mapE_W h) (.nil)))) ?_)
  clear hKK_1 hcK_1 K_1
  refine d_val1 8 rfl rfl (by kernel_rfl) (fun j hj => by have h : 9 < j := (Nat.lt_of_lt_of_le (by decide : 9 < 10) hj); simp; omega) .none rfl (p_extract rfl rfl) ?_
  refine d_eff 9 rfl (by kernel_rfl) (fun K_3 hKK_3 hcK_3 => ?_)
  refine r_entrystore (i := 2) .none (KeyT.tri (l := []) Try.underlying26 Try.underlying3 sz3 lf26 ef26 eg26).inj rfl rfl rfl rfl ?_
  refine r_nil (e_d (i := 9) (brk := (fun j => [9].contains j)) (ph' := false) hKK_3 hcK_3 rfl (fun h => by cases h) (fun h => by cases h) ?_)
  clear hKK_3 hcK_3 K_3
  refine d_nil (by kernel_rfl) ?_
  refine e_next ?_
  refine c_seq ?_
  refine c_region ?_
  refine r_val .none rfl (p_move rfl) ?_
  refine r_val .none rfl (p_nilcheck rfl) ?_
  refine r_val .none rfl (p_field Try.underlying126 rfl sz3 rfl) ?_
  refine r_val .none rfl (p_ld (k := 1) Try.underlying3 rfl rfl rfl (by first | exact of_decide_eq_true rfl | omega) (rfl : _ = Value.int _ _)) ?_
  refine r_val .none rfl (p_add rfl rfl (by omega)) ?_
  refine r_val .none rfl (p_nilcheck rfl) ?_
  refine r_val .none rfl (p_field Try.underlying126 rfl sz3 rfl) ?_
  refine r_st (k := 1) .none sz3 rfl rfl rfl rfl (by first | exact of_decide_eq_true rfl | omega) ?_
  refine r_nil ?_
  refine e_next ?_
  refine c_seq ?_
  refine c_region_q mixed (by kernel_rfl) ?_
  refine q_val .none rfl (p_move rfl) ?_
  refine q_val .none rfl (p_nilcheck rfl) ?_
  refine q_val .none rfl (p_field Try.underlying126 rfl sz124 rfl) ?_
  refine q_val .none rfl (p_ld (k := 1) Try.underlying124 rfl rfl rfl (by first | exact of_decide_eq_true rfl | omega) (rfl : _ = Value.map _)) ?_
  refine q_val .none rfl (p_ldw (k := 0) Try.underlying26 rfl sz26 rfl rfl (rfl : _ = Value.agg #[_, _, _])) ?_
  refine q_val .none rfl (p_lookup (i := 2) (z0 := (0 : Int)) (k := k) Try.underlying124 (KeyT.tri (l := []) Try.underlying26 Try.underlying3 sz3 lf26 ef26 eg26) zr3 rfl rfl rfl) ?_
  refine q_val .none rfl (p_assign rfl) ?_
  refine q_nil ?_
  refine e_next ?_
  refine c_ret ?_
  refine e_ret1 Try.results14 (.tmp rfl .nil) (fun w hm => ⟨?_, hm.kept [box p 2 126 (at_ [.map (some m), .int .i64 (t + 1)]), mapA m kT kI (tAdd l k)] (.drop (.keep (fun _ _ h => box_congr (fun i hi => by match i, hi with | 0, _ => rfl | 1, _ => rfl) _ _ h) (.keep (fun _ _ h => mapA_congr (mput_mput _ _ _ _) _ _ h) (.nil)))) (tallyT p (tAdd l k) (t + 1)) (fun F' h => ⟨m, h⟩)⟩)
  try simp only [mput_mput]
  exact congrArg (Value.int .i64) ((cnt_mput l k k _).trans (if_pos rfl))
theorem c_dropT {F : Nat → Prop} {G : Ghost} (p : Nat) (k : Tri) (l : List (Tri × Int)) (t : Int) (hc : 0 ≤ cnt l k ∧ cnt l k ≤ 4611686018427387904) (ht : -4611686018427387904 ≤ t ∧ t ≤ 4611686018427387904) (w : World) (hG : Has G w) (hA : (tallyT p l t).holds w F) (hFG : ∀ b, F b → G b = none) :
    Calls Try.prog 16 #[Value.pointer (some ⟨p, 0, none⟩), kT k] w (Ret fun r w' => r = Value.tuple #[Value.int .i64 (if cnt l k = 0 then 0 else cnt l k - 1), Value.int .i64 (if cnt l k = 0 then 16 else 0)] ∧ Kept (tallyT p (tDrop l k) (if cnt l k = 0 then t else t - 1)) F w w') := by
  refine enterO (args := [_, _]) (G := G) (A := tallyT p l t) (l := [(0, Value.pointer (some ⟨p, 0, none⟩)), (1, kT k)]) Try.func16 rfl Try.ntmps16 hG hA hFG ⟨rfl, rfl, trivial⟩ (Nat.le_of_ble_eq_true rfl) ?_
  refine c_unex (fun m => ?_)
  refine c_unpack ?_
  refine c_seq ?_
  refine c_region ?_
  refine r_box .none rfl rfl (IsRow.lit _) (fun b_1 => ?_)
  refine r_val .none rfl (p_assign rfl) ?_
  refine r_val .none rfl (p_assign rfl) ?_
  refine r_nil ?_
  refine e_next ?_
  refine c_seq ?_
  refine c_region_q mixed (by kernel_rfl) ?_
  refine q_val .none rfl (p_move rfl) ?_
  refine q_val .none rfl (p_nilcheck rfl) ?_
  refine q_val .none rfl (p_field Try.underlying126 rfl sz124 rfl) ?_
  refine q_val .none rfl (p_ld (k := 1) Try.underlying124 rfl rfl rfl (by first | exact of_decide_eq_true rfl | omega) (rfl : _ = Value.map _)) ?_
  refine q_val .none rfl (p_ldw (k := 0) Try.underlying26 rfl sz26 rfl rfl (rfl : _ = Value.agg #[_, _, _])) ?_
  refine q_val .none rfl (p_lookup (i := 2) (z0 := (0 : Int)) (k := k) Try.underlying124 (KeyT.tri (l := []) Try.underlying26 Try.underlying3 sz3 lf26 ef26 eg26) zr3 rfl rfl rfl) ?_
  refine q_val .none rfl (p_assign rfl) ?_
  refine q_nil ?_
  refine e_next ?_
  refine c_seq ?_
  refine c_seq ?_
  refine c_region ?_
  refine r_val .none rfl (p_move rfl) ?_
  refine r_val .none rfl (p_eq rfl rfl) ?_
  refine r_nil ?_
  refine e_next ?_
  refine c_splitd (d := 14) rfl (fun h_1 => ?_) (fun h_1 => ?_)
  · skip
    have h0 : cnt l k = 0 := h_1
    first
      | (exfalso; omega)
      | (
        refine c_cond_t rfl ?_
        refine c_seq ?_
        refine c_region ?_
        refine r_val .none rfl (p_assign rfl) ?_
        refine r_val .none rfl (p_assign rfl) ?_
        refine r_nil ?_
        refine e_next ?_
        refine c_ret ?_
        refine e_ret_then ?_
        refine e_retn Try.results16 (.tmp rfl (.tmp rfl .nil)) rfl (fun w hm => ?_)
        rw [drop_zero h0, if_pos h0, if_pos h0, if_pos h0]
        refine ⟨?_, hm.kept [box p 2 126 (at_ [.map (some m), .int .i64 (t)]), mapA m kT kI (l)] (.drop (.keep (fun _ _ h => h) (.keep (fun _ _ h => h) (.nil)))) (tallyT p (l) (t)) (fun F' h => ⟨m, h⟩)⟩
        rfl
        )
  · skip
    have h0 : ¬ cnt l k = 0 := h_1
    first
      | (exfalso; omega)
      | (
        refine c_cond_f rfl ?_
        refine c_skip ?_
        refine e_next ?_
        refine c_seq ?_
        refine c_region ?_
        refine r_val .none rfl (p_move rfl) ?_
        refine r_val .none rfl (p_nilcheck rfl) ?_
        refine r_val .none rfl (p_field Try.underlying126 rfl sz3 rfl) ?_
        refine r_val .none rfl (p_ld (k := 1) Try.underlying3 rfl rfl rfl (by first | exact of_decide_eq_true rfl | omega) (rfl : _ = Value.int _ _)) ?_
        refine r_val .none rfl (p_sub rfl rfl (by omega)) ?_
        refine r_val .none rfl (p_nilcheck rfl) ?_
        refine r_val .none rfl (p_field Try.underlying126 rfl sz3 rfl) ?_
        refine r_st (k := 1) .none sz3 rfl rfl rfl rfl (by first | exact of_decide_eq_true rfl | omega) ?_
        refine r_nil ?_
        refine e_next ?_
        refine c_seq ?_
        refine c_seq ?_
        refine c_region_d (fun _ => false) _ mixed (.keep (fun _ _ h => h) (.keep (fun _ _ h => h) (.drop (.nil)))) ?_
        refine d_val1 0 rfl rfl (by kernel_rfl) (fun _ _ => rfl) .none rfl (p_move rfl) ?_
        refine d_val1 1 rfl rfl (by kernel_rfl) (fun _ _ => rfl) .none rfl (p_nilcheck rfl) ?_
        refine d_val1 2 rfl rfl (by kernel_rfl) (fun _ _ => rfl) .none rfl (p_field Try.underlying126 rfl sz124 rfl) ?_
        refine d_val1 3 rfl rfl (by kernel_rfl) (fun _ _ => rfl) .none rfl (p_ld (k := 1) Try.underlying124 rfl rfl rfl (by first | exact of_decide_eq_true rfl | omega) (rfl : _ = Value.map _)) ?_
        refine d_val1 4 rfl rfl (by kernel_rfl) (fun _ _ => rfl) .none rfl (p_ldw (k := 0) Try.underlying26 rfl sz26 rfl rfl (rfl : _ = Value.agg #[_, _, _])) ?_
        refine d_val1 5 rfl rfl (by kernel_rfl) (fun _ _ => rfl) .none rfl (p_move rfl) ?_
        refine d_val1 6 rfl rfl (by kernel_rfl) (fun _ _ => rfl) .none rfl (p_sub rfl rfl (by show -9223372036854775808 ≤ cnt l k - 1 ∧ cnt l k - 1 ≤ 9223372036854775807; omega)) ?_
        refine d_eff 7 rfl (by kernel_rfl) (fun K_2 hKK_2 hcK_2 => ?_)
        refine r_mapup (i := 2) (k := k) .none Try.underlying124 (KeyT.tri (l := []) Try.underlying26 Try.underlying3 sz3 lf26 ef26 eg26) rfl rfl rfl rfl ?_
        refine r_nil (e_d (i := 7) (brk := (fun _ => false)) (ph' := true) hKK_2 hcK_2 rfl (fun _ => GLe.refl _) (fun _ => .keep (fun _ _ h => h) (.keep (fun _ _ h => h) (.drop (.nil)))) ?_)
        clear hKK_2 hcK_2 K_2
        refine d_nil (by kernel_rfl) ?_
        refine e_next ?_
        refine c_seq ?_
        refine c_region ?_
        refine r_val .none rfl (p_move rfl) ?_
        refine r_val .none rfl (p_eq rfl rfl) ?_
        refine r_nil ?_
        refine e_next ?_
        refine c_splitd (d := 30) rfl (fun h_3 => ?_) (fun h_3 => ?_)
        · skip
          have h1 : cnt l k = 1 := h_3
          first
            | (exfalso; omega)
            | (
              refine c_cond_t rfl ?_
              refine c_region_d (fun _ => false) _ mixed (.keep (fun _ _ h => h) (.keep (fun _ _ h => h) (.drop (.nil)))) ?_
              refine d_val1 0 rfl rfl (by kernel_rfl) (fun _ _ => rfl) .none rfl (p_move rfl) ?_
              refine d_val1 1 rfl rfl (by kernel_rfl) (fun _ _ => rfl) .none rfl (p_nilcheck rfl) ?_
              refine d_val1 2 rfl rfl (by kernel_rfl) (fun _ _ => rfl) .none rfl (p_field Try.underlying126 rfl sz124 rfl) ?_
              refine d_val1 3 rfl rfl (by kernel_rfl) (fun _ _ => rfl) .none rfl (p_ld (k := 1) Try.underlying124 rfl rfl rfl (by first | exact of_decide_eq_true rfl | omega) (rfl : _ = Value.map _)) ?_
              refine d_val1 4 rfl rfl (by kernel_rfl) (fun _ _ => rfl) .none rfl (p_ldw (k := 0) Try.underlying26 rfl sz26 rfl rfl (rfl : _ = Value.agg #[_, _, _])) ?_
              refine d_eff 5 rfl (by kernel_rfl) (fun K_4 hKK_4 hcK_4 => ?_)
              refine r_delete (i := 2) (k := k) .none Try.underlying124 (KeyT.tri (l := []) Try.underlying26 Try.underlying3 sz3 lf26 ef26 eg26) rfl rfl rfl rfl ?_
              refine r_nil (e_d (i := 5) (brk := (fun _ => false)) (ph' := true) hKK_4 hcK_4 rfl (fun _ => GLe.refl _) (fun _ => .keep (fun _ _ h => h) (.keep (fun _ _ h => h) (.drop (.nil)))) ?_)
              clear hKK_4 hcK_4 K_4
              refine d_nil (by kernel_rfl) ?_
              refine e_next ?_
              refine c_seq ?_
              refine c_region ?_
              refine r_val .none rfl (p_move rfl) ?_
              refine r_val .none rfl (p_sub rfl rfl (by show -9223372036854775808 ≤ cnt l k - 1 ∧ cnt l k - 1 ≤ 9223372036854775807; omega)) ?_
              refine r_val .none rfl (p_assign rfl) ?_
              refine r_val .none rfl (p_assign rfl) ?_
              refine r_nil ?_
              refine e_next ?_
              refine c_ret ?_
              refine e_retn Try.results16 (.tmp rfl (.tmp rfl .nil)) rfl (fun w hm => ?_)
              rw [drop_one h1, if_neg h0, if_neg h0, if_neg h0]
              refine ⟨?_, hm.kept [box p 2 126 (at_ [.map (some m), .int .i64 (t - 1)]), mapA m kT kI (mdel l k)] (.drop (.keep (fun _ _ h => box_congr (fun i hi => by match i, hi with | 0, _ => rfl | 1, _ => rfl) _ _ h) (.keep (fun _ _ h => mapA_congr (mdel_mput _ _ _) _ _ h) (.nil)))) (tallyT p (mdel l k) (t - 1)) (fun F' h => ⟨m, h⟩)⟩
              rfl
              )
        · skip
          have h1 : ¬ cnt l k = 1 := h_3
          first
            | (exfalso; omega)
            | (
              refine c_cond_f rfl ?_
              refine c_skip ?_
              refine e_next ?_
              refine c_seq ?_
              refine c_region ?_
              refine r_val .none rfl (p_move rfl) ?_
              refine r_val .none rfl (p_sub rfl rfl (by show -9223372036854775808 ≤ cnt l k - 1 ∧ cnt l k - 1 ≤ 9223372036854775807; omega)) ?_
              refine r_val .none rfl (p_assign rfl) ?_
              refine r_val .none rfl (p_assign rfl) ?_
              refine r_nil ?_
              refine e_next ?_
              refine c_ret ?_
              refine e_retn Try.results16 (.tmp rfl (.tmp rfl .nil)) rfl (fun w hm => ?_)
              rw [drop_more h0 h1, if_neg h0, if_neg h0, if_neg h0]
              refine ⟨?_, hm.kept [box p 2 126 (at_ [.map (some m), .int .i64 (t - 1)]), mapA m kT kI (mput l k (cnt l k - 1))] (.drop (.keep (fun _ _ h => box_congr (fun i hi => by match i, hi with | 0, _ => rfl | 1, _ => rfl) _ _ h) (.keep (fun _ _ h => h) (.nil)))) (tallyT p (mput l k (cnt l k - 1)) (t - 1)) (fun F' h => ⟨m, h⟩)⟩
              rfl
              )
        )
theorem c_tnewT {G : Ghost}  (w : World) (hG : Has G w) :
    Calls Try.prog 12 #[] w (Ret fun r w' => ∃ p, r = Value.pointer (some ⟨p, 0, none⟩) ∧ Since nX w w' ∧ ∃ F', (tallyT p [] 0).holds w' F' ∧ ∀ b, F' b → w.heap.size ≤ b) := by
  refine enter (args := []) (X := nX) (G := G) (l := []) Try.func12 rfl Try.ntmps12 hG trivial (Nat.le_of_ble_eq_true rfl) ?_
  refine c_seq ?_
  refine c_region ?_
  refine r_val .none rfl (p_assign rfl) ?_
  refine r_nil ?_
  refine e_next ?_
  refine c_seq ?_
  refine c_region ?_
  refine r_makemap .none rfl kT kI (fun m_1 => ?_)
  refine r_val .none rfl (p_build (vs := [(0, Value.map _)]) rfl (bl126_0m1 _)) ?_
  refine r_box .none rfl rfl (IsRow.lit _) (fun b_1 => ?_)
  refine r_val .none rfl (p_assign rfl) ?_
  refine r_nil ?_
  refine e_next ?_
  refine c_ret ?_
  refine e_ret1 Try.results12 (.tmp rfl .nil) (fun w hm => ⟨_, rfl, hm.made [box b_1 2 126 (at_ [.map (some m_1), .int .i64 0]), mapA m_1 kT kI []] (.keep (fun _ _ h => box_congr (fun i hi => by match i, hi with | 0, _ => rfl | 1, _ => rfl) _ _ h) (.keep (fun _ _ h => h) .nil)) (tallyT _ [] 0) (fun F' h => ⟨m_1, h⟩)⟩)
end Go.Proofs.Ytinbigokigkfaaa
