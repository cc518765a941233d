/- Walks: what Go functions of this chapter come to, each as a function on plain data; no condition but those that each theorem names. Printed by a program of this work (gen.py). -/
import Derived.Test.YtinbigokigkfaaaW10b
import Derived.Test.YtinbigokigkfaaaRows
namespace Go.Proofs.Ytinbigokigkfaaa
open Go.Gx Go.Gx.T10
theorem sz151 : SzIs Try.prog 151 1 := by
  unfold SzIs
  kernel_rfl
theorem bl153_0m1 (x0 : Option Nat) : Program.built Try.prog 153 [(0, Value.map x0)] = some #[Value.map x0, Value.int .i64 0] := by
  kernel_rfl
theorem c_countI {F : Nat → Prop} {G : Ghost} (p : Nat) (k : Int) (l : List (Int × Int)) (t : Int)  (w : World) (hG : Has G w) (hA : (tallyI p l t).holds w F) (hFG : ∀ b, F b → G b = none) :
    Calls Try.prog 53 #[Value.pointer (some ⟨p, 0, none⟩), Value.int .i64 k] w (Ret fun r w' => r = Value.int .i64 (cnt l k) ∧ Kept (tallyI p (l) (t)) F w w') := by
  refine enterO (args := [_, _]) (G := G) (A := tallyI p l t) (l := [(0, Value.pointer (some ⟨p, 0, none⟩)), (1, Value.int .i64 k)]) Try.func53 rfl Try.ntmps53 hG hA hFG ⟨rfl, rfl, trivial⟩ (Nat.le_of_ble_eq_true rfl) ?_
  refine c_unex (fun m => ?_)
  refine c_unpack ?_
  refine c_seq ?_
  refine c_region ?_
  refine r_val .none rfl (p_assign rfl) ?_
  refine r_nil ?_
  refine e_next ?_
  refine c_seq ?_
  refine c_region ?_
  refine r_val .none rfl (p_move rfl) ?_
  refine r_val .none rfl (p_nilcheck rfl) ?_
  refine r_val .none rfl (p_field Try.underlying153 rfl sz151 rfl) ?_
  refine r_val .none rfl (p_ld (k := 0) Try.underlying151 rfl rfl rfl (by first | exact of_decide_eq_true rfl | omega) (rfl : _ = Value.map _)) ?_
  refine r_val .none rfl (p_move rfl) ?_
  refine r_val .none rfl (p_lookup (i := 1) (z0 := (0 : Int)) Try.underlying151 (KeyT.int Try.underlying3) zr3 rfl rfl rfl) ?_
  refine r_val .none rfl (p_assign rfl) ?_
  refine r_nil ?_
  refine e_next ?_
  refine c_ret ?_
  refine e_ret1 Try.results53 (.tmp rfl .nil) (fun w hm => ⟨?_, hm.kept [box p 2 153 (at_ [.map (some m), .int .i64 (t)]), mapA m kI kI (l)] (.keep (fun _ _ h => h) (.keep (fun _ _ h => h) (.nil))) (tallyI p (l) (t)) (fun F' h => ⟨m, h⟩)⟩)
  rfl
theorem c_lenI {F : Nat → Prop} {G : Ghost} (p : Nat) (l : List (Int × Int)) (t : Int)  (w : World) (hG : Has G w) (hA : (tallyI p l t).holds w F) (hFG : ∀ b, F b → G b = none) :
    Calls Try.prog 52 #[Value.pointer (some ⟨p, 0, none⟩)] w (Ret fun r w' => r = Value.int .i64 (l.length : Nat) ∧ Kept (tallyI p (l) (t)) F w w') := by
  refine enterO (args := [_]) (G := G) (A := tallyI p l t) (l := [(0, Value.pointer (some ⟨p, 0, none⟩))]) Try.func52 rfl Try.ntmps52 hG hA hFG ⟨rfl, trivial⟩ (Nat.le_of_ble_eq_true rfl) ?_
  refine c_unex (fun m => ?_)
  refine c_unpack ?_
  refine c_seq ?_
  refine c_region ?_
  refine r_val .none rfl (p_assign rfl) ?_
  refine r_nil ?_
  refine e_next ?_
  refine c_seq ?_
  refine c_region ?_
  refine r_val .none rfl (p_move rfl) ?_
  refine r_val .none rfl (p_nilcheck rfl) ?_
  refine r_val .none rfl (p_field Try.underlying153 rfl sz151 rfl) ?_
  refine r_val .none rfl (p_ld (k := 0) Try.underlying151 rfl rfl rfl (by first | exact of_decide_eq_true rfl | omega) (rfl : _ = Value.map _)) ?_
  refine r_val .none rfl (p_len_map (i := 1) Try.underlying151 rfl rfl) ?_
  refine r_val .none rfl (p_assign rfl) ?_
  refine r_nil ?_
  refine e_next ?_
  refine c_ret ?_
  refine e_ret1 Try.results52 (.tmp rfl .nil) (fun w hm => ⟨?_, hm.kept [box p 2 153 (at_ [.map (some m), .int .i64 (t)]), mapA m kI kI (l)] (.keep (fun _ _ h => h) (.keep (fun _ _ h => h) (.nil))) (tallyI p (l) (t)) (fun F' h => ⟨m, h⟩)⟩)
  rfl
theorem c_totalI {F : Nat → Prop} {G : Ghost} (p : Nat) (l : List (Int × Int)) (t : Int)  (w : World) (hG : Has G w) (hA : (tallyI p l t).holds w F) (hFG : ∀ b, F b → G b = none) :
    Calls Try.prog 51 #[Value.pointer (some ⟨p, 0, none⟩)] w (Ret fun r w' => r = Value.int .i64 t ∧ Kept (tallyI p (l) (t)) F w w') := by
  refine enterO (args := [_]) (G := G) (A := tallyI p l t) (l := [(0, Value.pointer (some ⟨p, 0, none⟩))]) Try.func51 rfl Try.ntmps51 hG hA hFG ⟨rfl, trivial⟩ (Nat.le_of_ble_eq_true rfl) ?_
  refine c_unex (fun m => ?_)
  refine c_unpack ?_
  refine c_seq ?_
  refine c_region ?_
  refine r_val .none rfl (p_assign rfl) ?_
  refine r_nil ?_
  refine e_next ?_
  refine c_seq ?_
  refine c_region ?_
  refine r_val .none rfl (p_move rfl) ?_
  refine r_val .none rfl (p_nilcheck rfl) ?_
  refine r_val .none rfl (p_field Try.underlying153 rfl sz3 rfl) ?_
  refine r_val .none rfl (p_ld (k := 0) Try.underlying3 rfl rfl rfl (by first | exact of_decide_eq_true rfl | omega) (rfl : _ = Value.int _ _)) ?_
  refine r_val .none rfl (p_assign rfl) ?_
  refine r_nil ?_
  refine e_next ?_
  refine c_ret ?_
  refine e_ret1 Try.results51 (.tmp rfl .nil) (fun w hm => ⟨?_, hm.kept [box p 2 153 (at_ [.map (some m), .int .i64 (t)]), mapA m kI kI (l)] (.keep (fun _ _ h => h) (.keep (fun _ _ h => h) (.nil))) (tallyI p (l) (t)) (fun F' h => ⟨m, h⟩)⟩)
  rfl
theorem c_taddI {F : Nat → Prop} {G : Ghost} (p : Nat) (k : Int) (l : List (Int × Int)) (t : Int) (hc : 0 ≤ cnt l k ∧ cnt l k ≤ 4611686018427387904) (ht : -4611686018427387904 ≤ t ∧ t ≤ 4611686018427387904) (w : World) (hG : Has G w) (hA : (tallyI p l t).holds w F) (hFG : ∀ b, F b → G b = none) :
    Calls Try.prog 50 #[Value.pointer (some ⟨p, 0, none⟩), Value.int .i64 k] w (Ret fun r w' => r = Value.int .i64 (cnt l k + 1) ∧ Kept (tallyI p (tAdd l k) (t + 1)) F w w') := by
  refine enterO (args := [_, _]) (G := G) (A := tallyI p l t) (l := [(0, Value.pointer (some ⟨p, 0, none⟩)), (1, Value.int .i64 k)]) Try.func50 rfl Try.ntmps50 hG hA hFG ⟨rfl, rfl, trivial⟩ (Nat.le_of_ble_eq_true rfl) ?_
  refine c_unex (fun m => ?_)
  refine c_unpack ?_
  refine c_seq ?_
  refine c_region ?_
  refine r_val .none rfl (p_assign rfl) ?_
  refine r_nil ?_
  refine e_next ?_
  refine c_seq ?_
  refine c_region ?_
  refine r_val .none rfl (p_move rfl) ?_
  refine r_val .none rfl (p_nilcheck rfl) ?_
  refine r_val .none rfl (p_field Try.underlying153 rfl sz151 rfl) ?_
  refine r_val .none rfl (p_ld (k := 0) Try.underlying151 rfl rfl rfl (by first | exact of_decide_eq_true rfl | omega) (rfl : _ = Value.map _)) ?_
  refine r_val .none rfl (p_move rfl) ?_
  refine r_val .none rfl (p_lookup (i := 1) (z0 := (0 : Int)) Try.underlying151 (KeyT.int Try.underlying3) zr3 rfl rfl rfl) ?_
  refine r_val .none rfl (p_add rfl rfl (by show -9223372036854775808 ≤ cnt l k + 1 ∧ cnt l k + 1 ≤ 9223372036854775807; omega)) ?_
  refine r_mapup (i := 1) .none Try.underlying151 (KeyT.int Try.underlying3) rfl rfl rfl rfl ?_
  refine r_nil ?_
  refine e_next ?_
  refine c_seq ?_
  refine c_region ?_
  refine r_val .none rfl (p_move rfl) ?_
  refine r_val .none rfl (p_nilcheck rfl) ?_
  refine r_val .none rfl (p_field Try.underlying153 rfl sz3 rfl) ?_
  refine r_val .none rfl (p_ld (k := 0) Try.underlying3 rfl rfl rfl (by first | exact of_decide_eq_true rfl | omega) (rfl : _ = Value.int _ _)) ?_
  refine r_val .none rfl (p_add rfl rfl (by omega)) ?_
  refine r_val .none rfl (p_nilcheck rfl) ?_
  refine r_val .none rfl (p_field Try.underlying153 rfl sz3 rfl) ?_
  refine r_st (k := 0) .none sz3 rfl rfl rfl rfl (by first | exact of_decide_eq_true rfl | omega) ?_
  refine r_nil ?_
  refine e_next ?_
  refine c_seq ?_
  refine c_region ?_
  refine r_val .none rfl (p_move rfl) ?_
  refine r_val .none rfl (p_nilcheck rfl) ?_
  refine r_val .none rfl (p_field Try.underlying153 rfl sz151 rfl) ?_
  refine r_val .none rfl (p_ld (k := 0) Try.underlying151 rfl rfl rfl (by first | exact of_decide_eq_true rfl | omega) (rfl : _ = Value.map _)) ?_
  refine r_val .none rfl (p_move rfl) ?_
  refine r_val .none rfl (p_lookup (i := 1) (z0 := (0 : Int)) Try.underlying151 (KeyT.int Try.underlying3) zr3 rfl rfl rfl) ?_
  refine r_val .none rfl (p_assign rfl) ?_
  refine r_nil ?_
  refine e_next ?_
  refine c_ret ?_
  refine e_ret1 Try.results50 (.tmp rfl .nil) (fun w hm => ⟨?_, hm.kept [box p 2 153 (at_ [.map (some m), .int .i64 (t + 1)]), mapA m kI kI (tAdd l k)] (.keep (fun _ _ h => box_congr (fun i hi => by match i, hi with | 0, _ => rfl | 1, _ => rfl) _ _ h) (.keep (fun _ _ h => h) (.nil))) (tallyI p (tAdd l k) (t + 1)) (fun F' h => ⟨m, h⟩)⟩)
  try simp only [mput_mput]
  exact congrArg (Value.int .i64) ((cnt_mput l k k _).trans (if_pos rfl))
theorem c_dropI {F : Nat → Prop} {G : Ghost} (p : Nat) (k : Int) (l : List (Int × Int)) (t : Int) (hc : 0 ≤ cnt l k ∧ cnt l k ≤ 4611686018427387904) (ht : -4611686018427387904 ≤ t ∧ t ≤ 4611686018427387904) (w : World) (hG : Has G w) (hA : (tallyI p l t).holds w F) (hFG : ∀ b, F b → G b = none) :
    Calls Try.prog 54 #[Value.pointer (some ⟨p, 0, none⟩), Value.int .i64 k] w (Ret fun r w' => r = Value.tuple #[Value.int .i64 (if cnt l k = 0 then 0 else cnt l k - 1), Value.int .i64 (if cnt l k = 0 then 16 else 0)] ∧ Kept (tallyI p (tDrop l k) (if cnt l k = 0 then t else t - 1)) F w w') := by
  refine enterO (args := [_, _]) (G := G) (A := tallyI p l t) (l := [(0, Value.pointer (some ⟨p, 0, none⟩)), (1, Value.int .i64 k)]) Try.func54 rfl Try.ntmps54 hG hA hFG ⟨rfl, rfl, trivial⟩ (Nat.le_of_ble_eq_true rfl) ?_
  refine c_unex (fun m => ?_)
  refine c_unpack ?_
  refine c_seq ?_
  refine c_region ?_
  refine r_val .none rfl (p_assign rfl) ?_
  refine r_val .none rfl (p_assign rfl) ?_
  refine r_nil ?_
  refine e_next ?_
  refine c_seq ?_
  refine c_region ?_
  refine r_val .none rfl (p_move rfl) ?_
  refine r_val .none rfl (p_nilcheck rfl) ?_
  refine r_val .none rfl (p_field Try.underlying153 rfl sz151 rfl) ?_
  refine r_val .none rfl (p_ld (k := 0) Try.underlying151 rfl rfl rfl (by first | exact of_decide_eq_true rfl | omega) (rfl : _ = Value.map _)) ?_
  refine r_val .none rfl (p_move rfl) ?_
  refine r_val .none rfl (p_lookup (i := 1) (z0 := (0 : Int)) Try.underlying151 (KeyT.int Try.underlying3) zr3 rfl rfl rfl) ?_
  refine r_val .none rfl (p_assign rfl) ?_
  refine r_nil ?_
  refine e_next ?_
  refine c_seq ?_
  refine c_seq ?_
  refine c_region ?_
  refine r_val .none rfl (p_move rfl) ?_
  refine r_val .none rfl (p_eq rfl rfl) ?_
  refine r_nil ?_
  refine e_next ?_
  refine c_splitd (d := 14) rfl (fun h_1 => ?_) (fun h_1 => ?_)
  · skip
    have h0 : cnt l k = 0 := h_1
    first
      | (exfalso; omega)
      | (
        refine c_cond_t rfl ?_
        refine c_seq ?_
        refine c_region ?_
        refine r_val .none rfl (p_assign rfl) ?_
        refine r_val .none rfl (p_assign rfl) ?_
        refine r_nil ?_
        refine e_next ?_
        refine c_ret ?_
        refine e_ret_then ?_
        refine e_retn Try.results54 (.tmp rfl (.tmp rfl .nil)) rfl (fun w hm => ?_)
        rw [drop_zero h0, if_pos h0, if_pos h0, if_pos h0]
        refine ⟨?_, hm.kept [box p 2 153 (at_ [.map (some m), .int .i64 (t)]), mapA m kI kI (l)] (.keep (fun _ _ h => h) (.keep (fun _ _ h => h) (.nil))) (tallyI p (l) (t)) (fun F' h => ⟨m, h⟩)⟩
        rfl
        )
  · skip
    have h0 : ¬ cnt l k = 0 := h_1
    first
      | (exfalso; omega)
      | (
        refine c_cond_f rfl ?_
        refine c_skip ?_
        refine e_next ?_
        refine c_seq ?_
        refine c_region ?_
        refine r_val .none rfl (p_move rfl) ?_
        refine r_val .none rfl (p_nilcheck rfl) ?_
        refine r_val .none rfl (p_field Try.underlying153 rfl sz3 rfl) ?_
        refine r_val .none rfl (p_ld (k := 0) Try.underlying3 rfl rfl rfl (by first | exact of_decide_eq_true rfl | omega) (rfl : _ = Value.int _ _)) ?_
        refine r_val .none rfl (p_sub rfl rfl (by omega)) ?_
        refine r_val .none rfl (p_nilcheck rfl) ?_
        refine r_val .none rfl (p_field Try.underlying153 rfl sz3 rfl) ?_
        refine r_st (k := 0) .none sz3 rfl rfl rfl rfl (by first | exact of_decide_eq_true rfl | omega) ?_
        refine r_nil ?_
        refine e_next ?_
        refine c_seq ?_
        refine c_seq ?_
        refine c_region ?_
        refine r_val .none rfl (p_move rfl) ?_
        refine r_val .none rfl (p_nilcheck rfl) ?_
        refine r_val .none rfl (p_field Try.underlying153 rfl sz151 rfl) ?_
        refine r_val .none rfl (p_ld (k := 0) Try.underlying151 rfl rfl rfl (by first | exact of_decide_eq_true rfl | omega) (rfl : _ = Value.map _)) ?_
        refine r_val .none rfl (p_move rfl) ?_
        refine r_val .none rfl (p_move rfl) ?_
        refine r_val .none rfl (p_sub rfl rfl (by show -9223372036854775808 ≤ cnt l k - 1 ∧ cnt l k - 1 ≤ 9223372036854775807; omega)) ?_
        refine r_mapup (i := 1) .none Try.underlying151 (KeyT.int Try.underlying3) rfl rfl rfl rfl ?_
        refine r_nil ?_
        refine e_next ?_
        refine c_seq ?_
        refine c_region ?_
        refine r_val .none rfl (p_move rfl) ?_
        refine r_val .none rfl (p_eq rfl rfl) ?_
        refine r_nil ?_
        refine e_next ?_
        refine c_splitd (d := 30) rfl (fun h_2 => ?_) (fun h_2 => ?_)
        · skip
          have h1 : cnt l k = 1 := h_2
          first
            | (exfalso; omega)
            | (
              refine c_cond_t rfl ?_
              refine c_region ?_
              refine r_val .none rfl (p_move rfl) ?_
              refine r_val .none rfl (p_nilcheck rfl) ?_
              refine r_val .none rfl (p_field Try.underlying153 rfl sz151 rfl) ?_
              refine r_val .none rfl (p_ld (k := 0) Try.underlying151 rfl rfl rfl (by first | exact of_decide_eq_true rfl | omega) (rfl : _ = Value.map _)) ?_
              refine r_val .none rfl (p_move rfl) ?_
              refine r_delete (i := 1) .none Try.underlying151 (KeyT.int Try.underlying3) rfl rfl rfl rfl ?_
              refine r_nil ?_
              refine e_next ?_
              refine c_seq ?_
              refine c_region ?_
              refine r_val .none rfl (p_move rfl) ?_
              refine r_val .none rfl (p_sub rfl rfl (by show -9223372036854775808 ≤ cnt l k - 1 ∧ cnt l k - 1 ≤ 9223372036854775807; omega)) ?_
              refine r_val .none rfl (p_assign rfl) ?_
              refine r_val .none rfl (p_assign rfl) ?_
              refine r_nil ?_
              refine e_next ?_
              refine c_ret ?_
              refine e_retn Try.results54 (.tmp rfl (.tmp rfl .nil)) rfl (fun w hm => ?_)
              rw [drop_one h1, if_neg h0, if_neg h0, if_neg h0]
              refine ⟨?_, hm.kept [box p 2 153 (at_ [.map (some m), .int .i64 (t - 1)]), mapA m kI kI (mdel l k)] (.keep (fun _ _ h => box_congr (fun i hi => by match i, hi with | 0, _ => rfl | 1, _ => rfl) _ _ h) (.keep (fun _ _ h => mapA_congr (mdel_mput _ _ _) _ _ h) (.nil))) (tallyI p (mdel l k) (t - 1)) (fun F' h => ⟨m, h⟩)⟩
              rfl
              )
        · skip
          have h1 : ¬ cnt l k = 1 := h_2
          first
            | (exfalso; omega)
            | (
              refine c_cond_f rfl ?_
              refine c_skip ?_
              refine e_next ?_
              refine c_seq ?_
              refine c_region ?_
              refine r_val .none rfl (p_move rfl) ?_
              refine r_val .none rfl (p_sub rfl rfl (by show -9223372036854775808 ≤ cnt l k - 1 ∧ cnt l k - 1 ≤ 9223372036854775807; omega)) ?_
              refine r_val .none rfl (p_assign rfl) ?_
              refine r_val .none rfl (p_assign rfl) ?_
              refine r_nil ?_
              refine e_next ?_
              refine c_ret ?_
              refine e_retn Try.results54 (.tmp rfl (.tmp rfl .nil)) rfl (fun w hm => ?_)
              rw [drop_more h0 h1, if_neg h0, if_neg h0, if_neg h0]
              refine ⟨?_, hm.kept [box p 2 153 (at_ [.map (some m), .int .i64 (t - 1)]), mapA m kI kI (mput l k (cnt l k - 1))] (.keep (fun _ _ h => box_congr (fun i hi => by match i, hi with | 0, _ => rfl | 1, _ => rfl) _ _ h) (.keep (fun _ _ h => h) (.nil))) (tallyI p (mput l k (cnt l k - 1)) (t - 1)) (fun F' h => ⟨m, h⟩)⟩
              rfl
              )
        )
theorem c_tnewI {G : Ghost}  (w : World) (hG : Has G w) :
    Calls Try.prog 49 #[] w (Ret fun r w' => ∃ p, r = Value.pointer (some ⟨p, 0, none⟩) ∧ Since nX w w' ∧ ∃ F', (tallyI p [] 0).holds w' F' ∧ ∀ b, F' b → w.heap.size ≤ b) := by
  refine enter (args := []) (X := nX) (G := G) (l := []) Try.func49 rfl Try.ntmps49 hG trivial (Nat.le_of_ble_eq_true rfl) ?_
  refine c_seq ?_
  refine c_region ?_
  refine r_val .none rfl (p_assign rfl) ?_
  refine r_nil ?_
  refine e_next ?_
  refine c_seq ?_
  refine c_region ?_
  refine r_makemap .none rfl kI kI (fun m_1 => ?_)
  refine r_val .none rfl (p_build (vs := [(0, Value.map _)]) rfl (bl153_0m1 _)) ?_
  refine r_box .none rfl rfl (IsRow.lit _) (fun b_1 => ?_)
  refine r_val .none rfl (p_assign rfl) ?_
  refine r_nil ?_
  refine e_next ?_
  refine c_ret ?_
  refine e_ret1 Try.results49 (.tmp rfl .nil) (fun w hm => ⟨_, rfl, hm.made [box b_1 2 153 (at_ [.map (some m_1), .int .i64 0]), mapA m_1 kI kI []] (.keep (fun _ _ h => box_congr (fun i hi => by match i, hi with | 0, _ => rfl | 1, _ => rfl) _ _ h) (.keep (fun _ _ h => h) .nil)) (tallyI _ [] 0) (fun F' h => ⟨m_1, h⟩)⟩)
end Go.Proofs.Ytinbigokigkfaaa
