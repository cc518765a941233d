/- Walks: what Go functions of this chapter come to, each as a function on plain data; no condition but those that each theorem names. Printed by a program of this work (gen.py). -/
import Derived.Test.YtinbigokigkfaaaW10
import Derived.Test.YtinbigokigkfaaaRows
namespace Go.Proofs.Ytinbigokigkfaaa
open Go.Gx Go.Gx.T10
theorem sz144 : SzIs Try.prog 144 1 := by
  unfold SzIs
  kernel_rfl
theorem zr26 : ZeroIs Try.prog 26 (Value.agg #[Value.int .i64 0, Value.int .i64 0, Value.int .i64 0]) := by
  unfold ZeroIs
  kernel_rfl
theorem cl12 : Callable Try.prog 12 := callable Try.func12 (by kernel_rfl) rfl
theorem cl13 : Callable Try.prog 13 := callable Try.func13 (by kernel_rfl) rfl
theorem cl14 : Callable Try.prog 14 := callable Try.func14 (by kernel_rfl) rfl
theorem cl15 : Callable Try.prog 15 := callable Try.func15 (by kernel_rfl) rfl
theorem cl16 : Callable Try.prog 16 := callable Try.func16 (by kernel_rfl) rfl
theorem cl17 : Callable Try.prog 17 := callable Try.func17 (by kernel_rfl) rfl
theorem cl18 : Callable Try.prog 18 := callable Try.func18 (by kernel_rfl) rfl
theorem cl38 : Callable Try.prog 38 := callable Try.func38 (by kernel_rfl) rfl
theorem cl41 : Callable Try.prog 41 := callable Try.func41 (by kernel_rfl) rfl
theorem cl43 : Callable Try.prog 43 := callable Try.func43 (by kernel_rfl) rfl
theorem cl48 : Callable Try.prog 48 := callable Try.func48 (by kernel_rfl) rfl
theorem bl146_0m1 (x0 : Option Nat) : Program.built Try.prog 146 [(0, Value.map x0)] = some #[Value.map x0, Value.int .i64 0] := by
  kernel_rfl
theorem c_countS {F : Nat → Prop} {G : Ghost} (p : Nat) (k : ByteArray) (l : List (ByteArray × Int)) (t : Int)  (w : World) (hG : Has G w) (hA : (tallyS p l t).holds w F) (hFG : ∀ b, F b → G b = none) :
    Calls Try.prog 40 #[Value.pointer (some ⟨p, 0, none⟩), Value.string k] w (Ret fun r w' => r = Value.int .i64 (cnt l k) ∧ Kept (tallyS p (l) (t)) F w w') := by
  refine enterO (args := [_, _]) (G := G) (A := tallyS p l t) (l := [(0, Value.pointer (some ⟨p, 0, none⟩)), (1, Value.string k)]) Try.func40 rfl Try.ntmps40 hG hA hFG ⟨rfl, rfl, trivial⟩ (Nat.le_of_ble_eq_true rfl) ?_
  refine c_unex (fun m => ?_)
  refine c_unpack ?_
  refine c_seq ?_
  refine c_region ?_
  refine r_val .none rfl (p_assign rfl) ?_
  refine r_nil ?_
  refine e_next ?_
  refine c_seq ?_
  refine c_region ?_
  refine r_val .none rfl (p_move rfl) ?_
  refine r_val .none rfl (p_nilcheck rfl) ?_
  refine r_val .none rfl (p_field Try.underlying146 rfl sz144 rfl) ?_
  refine r_val .none rfl (p_ld (k := 0) Try.underlying144 rfl rfl rfl (by first | exact of_decide_eq_true rfl | omega) (rfl : _ = Value.map _)) ?_
  refine r_val .none rfl (p_move rfl) ?_
  refine r_val .none rfl (p_lookup (i := 1) (z0 := (0 : Int)) Try.underlying144 (KeyT.string Try.underlying9) zr3 rfl rfl rfl) ?_
  refine r_val .none rfl (p_assign rfl) ?_
  refine r_nil ?_
  refine e_next ?_
  refine c_ret ?_
  refine e_ret1 Try.results40 (.tmp rfl .nil) (fun w hm => ⟨?_, hm.kept [box p 2 146 (at_ [.map (some m), .int .i64 (t)]), mapA m kS kI (l)] (.keep (fun _ _ h => h) (.keep (fun _ _ h => h) (.nil))) (tallyS p (l) (t)) (fun F' h => ⟨m, h⟩)⟩)
  rfl
theorem c_lenS {F : Nat → Prop} {G : Ghost} (p : Nat) (l : List (ByteArray × Int)) (t : Int)  (w : World) (hG : Has G w) (hA : (tallyS p l t).holds w F) (hFG : ∀ b, F b → G b = none) :
    Calls Try.prog 47 #[Value.pointer (some ⟨p, 0, none⟩)] w (Ret fun r w' => r = Value.int .i64 (l.length : Nat) ∧ Kept (tallyS p (l) (t)) F w w') := by
  refine enterO (args := [_]) (G := G) (A := tallyS p l t) (l := [(0, Value.pointer (some ⟨p, 0, none⟩))]) Try.func47 rfl Try.ntmps47 hG hA hFG ⟨rfl, trivial⟩ (Nat.le_of_ble_eq_true rfl) ?_
  refine c_unex (fun m => ?_)
  refine c_unpack ?_
  refine c_seq ?_
  refine c_region ?_
  refine r_val .none rfl (p_assign rfl) ?_
  refine r_nil ?_
  refine e_next ?_
  refine c_seq ?_
  refine c_region ?_
  refine r_val .none rfl (p_move rfl) ?_
  refine r_val .none rfl (p_nilcheck rfl) ?_
  refine r_val .none rfl (p_field Try.underlying146 rfl sz144 rfl) ?_
  refine r_val .none rfl (p_ld (k := 0) Try.underlying144 rfl rfl rfl (by first | exact of_decide_eq_true rfl | omega) (rfl : _ = Value.map _)) ?_
  refine r_val .none rfl (p_len_map (i := 1) Try.underlying144 rfl rfl) ?_
  refine r_val .none rfl (p_assign rfl) ?_
  refine r_nil ?_
  refine e_next ?_
  refine c_ret ?_
  refine e_ret1 Try.results47 (.tmp rfl .nil) (fun w hm => ⟨?_, hm.kept [box p 2 146 (at_ [.map (some m), .int .i64 (t)]), mapA m kS kI (l)] (.keep (fun _ _ h => h) (.keep (fun _ _ h => h) (.nil))) (tallyS p (l) (t)) (fun F' h => ⟨m, h⟩)⟩)
  rfl
theorem c_totalS {F : Nat → Prop} {G : Ghost} (p : Nat) (l : List (ByteArray × Int)) (t : Int)  (w : World) (hG : Has G w) (hA : (tallyS p l t).holds w F) (hFG : ∀ b, F b → G b = none) :
    Calls Try.prog 48 #[Value.pointer (some ⟨p, 0, none⟩)] w (Ret fun r w' => r = Value.int .i64 t ∧ Kept (tallyS p (l) (t)) F w w') := by
  refine enterO (args := [_]) (G := G) (A := tallyS p l t) (l := [(0, Value.pointer (some ⟨p, 0, none⟩))]) Try.func48 rfl Try.ntmps48 hG hA hFG ⟨rfl, trivial⟩ (Nat.le_of_ble_eq_true rfl) ?_
  refine c_unex (fun m => ?_)
  refine c_unpack ?_
  refine c_seq ?_
  refine c_region ?_
  refine r_val .none rfl (p_assign rfl) ?_
  refine r_nil ?_
  refine e_next ?_
  refine c_seq ?_
  refine c_region ?_
  refine r_val .none rfl (p_move rfl) ?_
  refine r_val .none rfl (p_nilcheck rfl) ?_
  refine r_val .none rfl (p_field Try.underlying146 rfl sz3 rfl) ?_
  refine r_val .none rfl (p_ld (k := 0) Try.underlying3 rfl rfl rfl (by first | exact of_decide_eq_true rfl | omega) (rfl : _ = Value.int _ _)) ?_
  refine r_val .none rfl (p_assign rfl) ?_
  refine r_nil ?_
  refine e_next ?_
  refine c_ret ?_
  refine e_ret1 Try.results48 (.tmp rfl .nil) (fun w hm => ⟨?_, hm.kept [box p 2 146 (at_ [.map (some m), .int .i64 (t)]), mapA m kS kI (l)] (.keep (fun _ _ h => h) (.keep (fun _ _ h => h) (.nil))) (tallyS p (l) (t)) (fun F' h => ⟨m, h⟩)⟩)
  rfl
theorem c_taddS {F : Nat → Prop} {G : Ghost} (p : Nat) (k : ByteArray) (l : List (ByteArray × Int)) (t : Int) (hc : 0 ≤ cnt l k ∧ cnt l k ≤ 4611686018427387904) (ht : -4611686018427387904 ≤ t ∧ t ≤ 4611686018427387904) (w : World) (hG : Has G w) (hA : (tallyS p l t).holds w F) (hFG : ∀ b, F b → G b = none) :
    Calls Try.prog 43 #[Value.pointer (some ⟨p, 0, none⟩), Value.string k] w (Ret fun r w' => r = Value.int .i64 (cnt l k + 1) ∧ Kept (tallyS p (tAdd l k) (t + 1)) F w w') := by
  refine enterO (args := [_, _]) (G := G) (A := tallyS p l t) (l := [(0, Value.pointer (some ⟨p, 0, none⟩)), (1, Value.string k)]) Try.func43 rfl Try.ntmps43 hG hA hFG ⟨rfl, rfl, trivial⟩ (Nat.le_of_ble_eq_true rfl) ?_
  refine c_unex (fun m => ?_)
  refine c_unpack ?_
  refine c_seq ?_
  refine c_region ?_
  refine r_val .none rfl (p_assign rfl) ?_
  refine r_nil ?_
  refine e_next ?_
  refine c_seq ?_
  refine c_region ?_
  refine r_val .none rfl (p_move rfl) ?_
  refine r_val .none rfl (p_nilcheck rfl) ?_
  refine r_val .none rfl (p_field Try.underlying146 rfl sz144 rfl) ?_
  refine r_val .none rfl (p_ld (k := 0) Try.underlying144 rfl rfl rfl (by first | exact of_decide_eq_true rfl | omega) (rfl : _ = Value.map _)) ?_
  refine r_val .none rfl (p_move rfl) ?_
  refine r_val .none rfl (p_lookup (i := 1) (z0 := (0 : Int)) Try.underlying144 (KeyT.string Try.underlying9) zr3 rfl rfl rfl) ?_
  refine r_val .none rfl (p_add rfl rfl (by show -9223372036854775808 ≤ cnt l k + 1 ∧ cnt l k + 1 ≤ 9223372036854775807; omega)) ?_
  refine r_mapup (i := 1) .none Try.underlying144 (KeyT.string Try.underlying9) rfl rfl rfl rfl ?_
  refine r_nil ?_
  refine e_next ?_
  refine c_seq ?_
  refine c_region ?_
  refine r_val .none rfl (p_move rfl) ?_
  refine r_val .none rfl (p_nilcheck rfl) ?_
  refine r_val .none rfl (p_field Try.underlying146 rfl sz3 rfl) ?_
  refine r_val .none rfl (p_ld (k := 0) Try.underlying3 rfl rfl rfl (by first | exact of_decide_eq_true rfl | omega) (rfl : _ = Value.int _ _)) ?_
  refine r_val .none rfl (p_add rfl rfl (by omega)) ?_
  refine r_val .none rfl (p_nilcheck rfl) ?_
  refine r_val .none rfl (p_field Try.underlying146 rfl sz3 rfl) ?_
  refine r_st (k := 0) .none sz3 rfl rfl rfl rfl (by first | exact of_decide_eq_true rfl | omega) ?_
  refine r_nil ?_
  refine e_next ?_
  refine c_seq ?_
  refine c_region ?_
  refine r_val .none rfl (p_move rfl) ?_
  refine r_val .none rfl (p_nilcheck rfl) ?_
  refine r_val .none rfl (p_field Try.underlying146 rfl sz144 rfl) ?_
  refine r_val .none rfl (p_ld (k := 0) Try.underlying144 rfl rfl rfl (by first | exact of_decide_eq_true rfl | omega) (rfl : _ = Value.map _)) ?_
  refine r_val .none rfl (p_move rfl) ?_
  refine r_val .none rfl (p_lookup (i := 1) (z0 := (0 : Int)) Try.underlying144 (KeyT.string Try.underlying9) zr3 rfl rfl rfl) ?_
  refine r_val .none rfl (p_assign rfl) ?_
  refine r_nil ?_
  refine e_next ?_
  refine c_ret ?_
  refine e_ret1 Try.results43 (.tmp rfl .nil) (fun w hm => ⟨?_, hm.kept [box p 2 146 (at_ [.map (some m), .int .i64 (t + 1)]), mapA m kS kI (tAdd l k)] (.keep (fun _ _ h => box_congr (fun i hi => by match i, hi with | 0, _ => rfl | 1, _ => rfl) _ _ h) (.keep (fun _ _ h => h) (.nil))) (tallyS p (tAdd l k) (t + 1)) (fun F' h => ⟨m, h⟩)⟩)
  try simp only [mput_mput]
  exact congrArg (Value.int .i64) ((cnt_mput l k k _).trans (if_pos rfl))
theorem c_dropS {F : Nat → Prop} {G : Ghost} (p : Nat) (k : ByteArray) (l : List (ByteArray × Int)) (t : Int) (hc : 0 ≤ cnt l k ∧ cnt l k ≤ 4611686018427387904) (ht : -4611686018427387904 ≤ t ∧ t ≤ 4611686018427387904) (w : World) (hG : Has G w) (hA : (tallyS p l t).holds w F) (hFG : ∀ b, F b → G b = none) :
    Calls Try.prog 41 #[Value.pointer (some ⟨p, 0, none⟩), Value.string k] w (Ret fun r w' => r = Value.tuple #[Value.int .i64 (if cnt l k = 0 then 0 else cnt l k - 1), Value.int .i64 (if cnt l k = 0 then 16 else 0)] ∧ Kept (tallyS p (tDrop l k) (if cnt l k = 0 then t else t - 1)) F w w') := by
  refine enterO (args := [_, _]) (G := G) (A := tallyS p l t) (l := [(0, Value.pointer (some ⟨p, 0, none⟩)), (1, Value.string k)]) Try.func41 rfl Try.ntmps41 hG hA hFG ⟨rfl, rfl, trivial⟩ (Nat.le_of_ble_eq_true rfl) ?_
  refine c_unex (fun m => ?_)
  refine c_unpack ?_
  refine c_seq ?_
  refine c_region ?_
  refine r_val .none rfl (p_assign rfl) ?_
  refine r_val .none rfl (p_assign rfl) ?_
  refine r_nil ?_
  refine e_next ?_
  refine c_seq ?_
  refine c_region ?_
  refine r_val .none rfl (p_move rfl) ?_
  refine r_val .none rfl (p_nilcheck rfl) ?_
  refine r_val .none rfl (p_field Try.underlying146 rfl sz144 rfl) ?_
  refine r_val .none rfl (p_ld (k := 0) Try.underlying144 rfl rfl rfl (by first | exact of_decide_eq_true rfl | omega) (rfl : _ = Value.map _)) ?_
  refine r_val .none rfl (p_move rfl) ?_
  refine r_val .none rfl (p_lookup (i := 1) (z0 := (0 : Int)) Try.underlying144 (KeyT.string Try.underlying9) zr3 rfl rfl rfl) ?_
  refine r_val .none rfl (p_assign rfl) ?_
  refine r_nil ?_
  refine e_next ?_
  refine c_seq ?_
  refine c_seq ?_
  refine c_region ?_
  refine r_val .none rfl (p_move rfl) ?_
  refine r_val .none rfl (p_eq rfl rfl) ?_
  refine r_nil ?_
  refine e_next ?_
  refine c_splitd (d := 14) rfl (fun h_1 => ?_) (fun h_1 => ?_)
  · skip
    have h0 : cnt l k = 0 := h_1
    first
      | (exfalso; omega)
      | (
        refine c_cond_t rfl ?_
        refine c_seq ?_
        refine c_region ?_
        refine r_val .none rfl (p_assign rfl) ?_
        refine r_val .none rfl (p_assign rfl) ?_
        refine r_nil ?_
        refine e_next ?_
        refine c_ret ?_
        refine e_ret_then ?_
        refine e_retn Try.results41 (.tmp rfl (.tmp rfl .nil)) rfl (fun w hm => ?_)
        rw [drop_zero h0, if_pos h0, if_pos h0, if_pos h0]
        refine ⟨?_, hm.kept [box p 2 146 (at_ [.map (some m), .int .i64 (t)]), mapA m kS kI (l)] (.keep (fun _ _ h => h) (.keep (fun _ _ h => h) (.nil))) (tallyS p (l) (t)) (fun F' h => ⟨m, h⟩)⟩
        rfl
        )
  · skip
    have h0 : ¬ cnt l k = 0 := h_1
    first
      | (exfalso; omega)
      | (
        refine c_cond_f rfl ?_
        refine c_skip ?_
        refine e_next ?_
        refine c_seq ?_
        refine c_region ?_
        refine r_val .none rfl (p_move rfl) ?_
        refine r_val .none rfl (p_nilcheck rfl) ?_
        refine r_val .none rfl (p_field Try.underlying146 rfl sz3 rfl) ?_
        refine r_val .none rfl (p_ld (k := 0) Try.underlying3 rfl rfl rfl (by first | exact of_decide_eq_true rfl | omega) (rfl : _ = Value.int _ _)) ?_
        refine r_val .none rfl (p_sub rfl rfl (by omega)) ?_
        refine r_val .none rfl (p_nilcheck rfl) ?_
        refine r_val .none rfl (p_field Try.underlying146 rfl sz3 rfl) ?_
        refine r_st (k := 0) .none sz3 rfl rfl rfl rfl (by first | exact of_decide_eq_true rfl | omega) ?_
        refine r_nil ?_
        refine e_next ?_
        refine c_seq ?_
        refine c_seq ?_
        refine c_region ?_
        refine r_val .none rfl (p_move rfl) ?_
        refine r_val .none rfl (p_nilcheck rfl) ?_
        refine r_val .none rfl (p_field Try.underlying146 rfl sz144 rfl) ?_
        refine r_val .none rfl (p_ld (k := 0) Try.underlying144 rfl rfl rfl (by first | exact of_decide_eq_true rfl | omega) (rfl : _ = Value.map _)) ?_
        refine r_val .none rfl (p_move rfl) ?_
        refine r_val .none rfl (p_move rfl) ?_
        refine r_val .none rfl (p_sub rfl rfl (by show -9223372036854775808 ≤ cnt l k - 1 ∧ cnt l k - 1 ≤ 9223372036854775807; omega)) ?_
        refine r_mapup (i := 1) .none Try.underlying144 (KeyT.string Try.underlying9) rfl rfl rfl rfl ?_
        refine r_nil ?_
        refine e_next ?_
        refine c_seq ?_
        refine c_region ?_
        refine r_val .none rfl (p_move rfl) ?_
        refine r_val .none rfl (p_eq rfl rfl) ?_
        refine r_nil ?_
        refine e_next ?_
        refine c_splitd (d := 30) rfl (fun h_2 => ?_) (fun h_2 => ?_)
        · skip
          have h1 : cnt l k = 1 := h_2
          first
            | (exfalso; omega)
            | (
              refine c_cond_t rfl ?_
              refine c_region ?_
              refine r_val .none rfl (p_move rfl) ?_
              refine r_val .none rfl (p_nilcheck rfl) ?_
              refine r_val .none rfl (p_field Try.underlying146 rfl sz144 rfl) ?_
              refine r_val .none rfl (p_ld (k := 0) Try.underlying144 rfl rfl rfl (by first | exact of_decide_eq_true rfl | omega) (rfl : _ = Value.map _)) ?_
              refine r_val .none rfl (p_move rfl) ?_
              refine r_delete (i := 1) .none Try.underlying144 (KeyT.string Try.underlying9) rfl rfl rfl rfl ?_
              refine r_nil ?_
              refine e_next ?_
              refine c_seq ?_
              refine c_region ?_
              refine r_val .none rfl (p_move rfl) ?_
              refine r_val .none rfl (p_sub rfl rfl (by show -9223372036854775808 ≤ cnt l k - 1 ∧ cnt l k - 1 ≤ 9223372036854775807; omega)) ?_
              refine r_val .none rfl (p_assign rfl) ?_
              refine r_val .none rfl (p_assign rfl) ?_
              refine r_nil ?_
              refine e_next ?_
              refine c_ret ?_
              refine e_retn Try.results41 (.tmp rfl (.tmp rfl .nil)) rfl (fun w hm => ?_)
              rw [drop_one h1, if_neg h0, if_neg h0, if_neg h0]
              refine ⟨?_, hm.kept [box p 2 146 (at_ [.map (some m), .int .i64 (t - 1)]), mapA m kS kI (mdel l k)] (.keep (fun _ _ h => box_congr (fun i hi => by match i, hi with | 0, _ => rfl | 1, _ => rfl) _ _ h) (.keep (fun _ _ h => mapA_congr (mdel_mput _ _ _) _ _ h) (.nil))) (tallyS p (mdel l k) (t - 1)) (fun F' h => ⟨m, h⟩)⟩
              rfl
              )
        · skip
          have h1 : ¬ cnt l k = 1 := h_2
          first
            | (exfalso; omega)
            | (
              refine c_cond_f rfl ?_
              refine c_skip ?_
              refine e_next ?_
              refine c_seq ?_
              refine c_region ?_
              refine r_val .none rfl (p_move rfl) ?_
              refine r_val .none rfl (p_sub rfl rfl (by show -9223372036854775808 ≤ cnt l k - 1 ∧ cnt l k - 1 ≤ 9223372036854775807; omega)) ?_
              refine r_val .none rfl (p_assign rfl) ?_
              refine r_val .none rfl (p_assign rfl) ?_
              refine r_nil ?_
              refine e_next ?_
              refine c_ret ?_
              refine e_retn Try.results41 (.tmp rfl (.tmp rfl .nil)) rfl (fun w hm => ?_)
              rw [drop_more h0 h1, if_neg h0, if_neg h0, if_neg h0]
              refine ⟨?_, hm.kept [box p 2 146 (at_ [.map (some m), .int .i64 (t - 1)]), mapA m kS kI (mput l k (cnt l k - 1))] (.keep (fun _ _ h => box_congr (fun i hi => by match i, hi with | 0, _ => rfl | 1, _ => rfl) _ _ h) (.keep (fun _ _ h => h) (.nil))) (tallyS p (mput l k (cnt l k - 1)) (t - 1)) (fun F' h => ⟨m, h⟩)⟩
              rfl
              )
        )
theorem c_tnewS {G : Ghost}  (w : World) (hG : Has G w) :
    Calls Try.prog 38 #[] w (Ret fun r w' => ∃ p, r = Value.pointer (some ⟨p, 0, none⟩) ∧ Since nX w w' ∧ ∃ F', (tallyS p [] 0).holds w' F' ∧ ∀ b, F' b → w.heap.size ≤ b) := by
  refine enter (args := []) (X := nX) (G := G) (l := []) Try.func38 rfl Try.ntmps38 hG trivial (Nat.le_of_ble_eq_true rfl) ?_
  refine c_seq ?_
  refine c_region ?_
  refine r_val .none rfl (p_assign rfl) ?_
  refine r_nil ?_
  refine e_next ?_
  refine c_seq ?_
  refine c_region ?_
  refine r_makemap .none rfl kS kI (fun m_1 => ?_)
  refine r_val .none rfl (p_build (vs := [(0, Value.map _)]) rfl (bl146_0m1 _)) ?_
  refine r_box .none rfl rfl (IsRow.lit _) (fun b_1 => ?_)
  refine r_val .none rfl (p_assign rfl) ?_
  refine r_nil ?_
  refine e_next ?_
  refine c_ret ?_
  refine e_ret1 Try.results38 (.tmp rfl .nil) (fun w hm => ⟨_, rfl, hm.made [box b_1 2 146 (at_ [.map (some m_1), .int .i64 0]), mapA m_1 kS kI []] (.keep (fun _ _ h => box_congr (fun i hi => by match i, hi with | 0, _ => rfl | 1, _ => rfl) _ _ h) (.keep (fun _ _ h => h) .nil)) (tallyS _ [] 0) (fun F' h => ⟨m_1, h⟩)⟩)
theorem c_awake10   (w : World)  :
    Calls Try.prog 13 #[] w (Ret fun r w' => r = Value.bool true ∧ Since nX w w') := by
  refine enter (args := []) (X := nX) (G := (fun _ => none)) (l := []) Try.func13 rfl Try.ntmps13 (fun _ _ h => by cases h) trivial (Nat.le_of_ble_eq_true rfl) ?_
  refine c_seq ?_
  refine c_region ?_
  refine r_val .none rfl (p_assign rfl) ?_
  refine r_nil ?_
  refine e_next ?_
  refine c_seq ?_
  refine c_region ?_
  refine r_callnew (vs := []) .none rfl cl38 rfl (fun w hw => c_tnewS w hw) (fun p_1 => ?_)
  refine r_val .none rfl (p_assign rfl) ?_
  refine r_nil ?_
  refine e_next ?_
  refine c_seq ?_
  refine c_seq ?_
  refine c_region ?_
  refine r_val .none rfl (p_move rfl) ?_
  refine r_val .none rfl (p_eq_ptr Try.underlying85 (by first | exact .inr rfl | exact .inl rfl) rfl rfl) ?_
  refine r_say (d := 8) (v := Value.bool false) rfl ?_
  refine r_nil ?_
  refine e_next ?_
  refine c_cond_f rfl ?_
  refine c_skip ?_
  refine e_next ?_
  refine c_seq ?_
  refine c_region ?_
  refine r_val .none rfl (p_move rfl) ?_
  refine r_callo (k := 0) (vs := [_, _]) .none rfl cl43 rfl rfl (fun w F hw hA hFG => c_taddS _ _ _ _ (by first | assumption | decide | omega) (by first | assumption | decide | omega) w hw hA hFG) ?_
  refine r_val .none rfl (p_move rfl) ?_
  refine r_callo (k := 0) (vs := [_, _]) .none rfl cl43 rfl rfl (fun w F hw hA hFG => c_taddS _ _ _ _ (by first | assumption | decide | omega) (by first | assumption | decide | omega) w hw hA hFG) ?_
  refine r_val .none rfl (p_assign rfl) ?_
  refine r_val .none rfl (p_assign rfl) ?_
  refine r_nil ?_
  refine e_next ?_
  refine c_seq ?_
  refine c_region ?_
  refine r_val .none rfl (p_move rfl) ?_
  refine r_callo (k := 0) (vs := [_, _]) .none rfl cl41 rfl rfl (fun w F hw hA hFG => c_dropS _ _ _ _ (by first | assumption | decide | omega) (by first | assumption | decide | omega) w hw hA hFG) ?_
  refine r_val .none rfl (p_move rfl) ?_
  refine r_val .none rfl (p_extract rfl rfl) ?_
  refine r_val .none rfl (p_extract rfl rfl) ?_
  refine r_val .none rfl (p_assign rfl) ?_
  refine r_val .none rfl (p_assign rfl) ?_
  refine r_nil ?_
  refine e_next ?_
  refine c_seq ?_
  refine c_region ?_
  refine r_val .none rfl (p_move rfl) ?_
  refine r_val .none rfl (p_eq rfl rfl) ?_
  refine r_val .none rfl (p_move rfl) ?_
  refine' r_and (c := 20) (d := 23) [_, _, _] rfl (fun h_2 Q_3 hQ_4 => ?_) (fun h_2 Q_3 hQ_4 => ?_) ?_
  rotate_left 1
  · skip
    replace h_2 := of_decide_eq_true h_2
    refine r_val (.some rfl rfl) rfl (p_move rfl) ?_
    refine r_val (.some rfl rfl) rfl (p_eq rfl rfl) ?_
    refine r_val .none rfl (p_pick_t rfl rfl) ?_
    refine r_nil (e_fin (d := 23) hQ_4 rfl (by repeat (first | exact .refl | refine .put rfl ?_ | refine .say rfl ?_ | refine .say2 rfl (by first | assumption | simp_all) ?_)))
  · skip
    repeat (first | refine r_skip rfl (.no rfl rfl) ?_ | refine r_skip rfl (.un rfl rfl) ?_)
    refine r_val (by first | exact .none | exact .some rfl rfl) rfl (p_pick_f rfl rfl) ?_
    refine r_nil (e_fin (d := 23) hQ_4 rfl (by repeat (first | exact .refl | refine .put rfl ?_ | refine .say rfl ?_ | refine .say2 rfl (by first | assumption | simp_all) ?_)))
  refine r_val .none rfl (p_move rfl) ?_
  refine' r_and (c := 24) (d := 27) [_, _, _] rfl (fun h_6 Q_7 hQ_8 => ?_) (fun h_6 Q_7 hQ_8 => ?_) ?_
  rotate_left 1
  · skip
    try simp only [norms] at h_6
    refine r_val (.some rfl rfl) rfl (p_move rfl) ?_
    refine r_val (.some rfl rfl) rfl (p_eq rfl rfl) ?_
    refine r_val .none rfl (p_pick_t rfl rfl) ?_
    refine r_nil (e_fin (d := 27) hQ_8 rfl (by repeat (first | exact .refl | refine .put rfl ?_ | refine .say rfl ?_ | refine .say2 rfl (by first | assumption | simp_all) ?_)))
  · skip
    repeat (first | refine r_skip rfl (.no rfl rfl) ?_ | refine r_skip rfl (.un rfl rfl) ?_)
    refine r_val (by first | exact .none | exact .some rfl rfl) rfl (p_pick_f rfl rfl) ?_
    refine r_nil (e_fin (d := 27) hQ_8 rfl (by repeat (first | exact .refl | refine .put rfl ?_ | refine .say rfl ?_ | refine .say2 rfl (by first | assumption | simp_all) ?_)))
  refine r_val .none rfl (p_move rfl) ?_
  refine' r_and (c := 28) (d := 31) [_, _, _] rfl (fun h_10 Q_11 hQ_12 => ?_) (fun h_10 Q_11 hQ_12 => ?_) ?_
  rotate_left 1
  · skip
    try simp only [norms] at h_10
    refine r_val (.some rfl rfl) rfl (p_move rfl) ?_
    refine r_val (.some rfl rfl) rfl (p_eq rfl rfl) ?_
    refine r_val .none rfl (p_pick_t rfl rfl) ?_
    refine r_nil (e_fin (d := 31) hQ_12 rfl (by repeat (first | exact .refl | refine .put rfl ?_ | refine .say rfl ?_ | refine .say2 rfl (by first | assumption | simp_all) ?_)))
  · skip
    repeat (first | refine r_skip rfl (.no rfl rfl) ?_ | refine r_skip rfl (.un rfl rfl) ?_)
    refine r_val (by first | exact .none | exact .some rfl rfl) rfl (p_pick_f rfl rfl) ?_
    refine r_nil (e_fin (d := 31) hQ_12 rfl (by repeat (first | exact .refl | refine .put rfl ?_ | refine .say rfl ?_ | refine .say2 rfl (by first | assumption | simp_all) ?_)))
  refine r_val .none rfl (p_move rfl) ?_
  refine' r_and (c := 32) (d := 36) [_, _, _, _] rfl (fun h_14 Q_15 hQ_16 => ?_) (fun h_14 Q_15 hQ_16 => ?_) ?_
  rotate_left 1
  · skip
    try simp only [norms] at h_14
    refine r_val (.some rfl rfl) rfl (p_move rfl) ?_
    refine r_callo (k := 0) (vs := [_]) (.some rfl rfl) rfl cl48 rfl rfl (fun w F hw hA hFG => c_totalS _ _ _ w hw hA hFG) ?_
    refine r_val (.some rfl rfl) rfl (p_eq rfl rfl) ?_
    refine r_val .none rfl (p_pick_t rfl rfl) ?_
    refine r_nil (e_fin (d := 36) hQ_16 rfl (by repeat (first | exact .refl | refine .put rfl ?_ | refine .say rfl ?_ | refine .say2 rfl (by first | assumption | simp_all) ?_)))
  · skip
    repeat (first | refine r_skip rfl (.no rfl rfl) ?_ | refine r_skip rfl (.un rfl rfl) ?_)
    refine r_val (by first | exact .none | exact .some rfl rfl) rfl (p_pick_f rfl rfl) ?_
    refine r_nil (e_fin (d := 36) hQ_16 rfl (by repeat (first | exact .refl | refine .put rfl ?_ | refine .say rfl ?_ | refine .say2 rfl (by first | assumption | simp_all) ?_)))
  refine r_val .none rfl (p_assign rfl) ?_
  refine r_nil ?_
  refine e_next ?_
  refine c_ret ?_
  refine e_ret1 Try.results13 (.tmp rfl .nil) (fun w hm => ⟨?_, hm.since⟩)
  first
  | rfl
  | exact congrArg Value.bool (by decide +kernel)
theorem c_TallyTypes (v : Value) (ns : List Tri) {G : Ghost} (hs : SlL G v 3 triL (0, 0, 0) ns) (w : World) (hG : Has G w) :
    Calls Try.prog 3 #[v] w (Ret fun r w' => r = Value.bool true ∧ Since nX w w') := by
  refine enter (args := [_]) (X := nX) (G := G) (l := [(0, v)]) Try.func3 rfl Try.ntmps3 hG ⟨rfl, trivial⟩ (Nat.le_of_ble_eq_true rfl) ?_
  refine c_seq ?_
  refine c_region ?_
  refine r_val .none rfl (p_assign rfl) ?_
  refine r_nil ?_
  refine e_next ?_
  refine c_seq ?_
  refine c_region ?_
  refine r_callnew (vs := []) .none rfl cl12 rfl (fun w hw => c_tnewT w hw) (fun p_1 => ?_)
  refine r_val .none rfl (p_assign rfl) ?_
  refine r_nil ?_
  refine e_next ?_
  refine c_seq ?_
  refine c_seq ?_
  refine c_region ?_
  refine r_val .none rfl (p_move rfl) ?_
  refine r_val .none rfl (p_leng Try.underlying22 rfl hs) ?_
  have bd_2 := (hs).bound
  refine r_val .none rfl (p_gt rfl rfl) ?_
  refine r_val .none rfl (p_move rfl) ?_
  refine' r_or (c := 18) (d := 21) [_, _, _] rfl (fun h_3 Q_4 hQ_5 => ?_) (fun h_3 Q_4 hQ_5 => ?_) ?_
  rotate_left 1
  · skip
    replace h_3 := of_decide_eq_false h_3
    refine r_val (.some rfl rfl) rfl (p_move rfl) ?_
    refine r_val (.some rfl rfl) rfl (p_eq_ptr Try.underlying23 (by first | exact .inr rfl | exact .inl rfl) rfl rfl) ?_
    refine r_say (d := 20) (v := Value.bool false) rfl ?_
    refine r_val .none rfl (p_pick_f rfl rfl) ?_
    refine r_nil (e_fin (d := 21) hQ_5 rfl (by repeat (first | exact .refl | refine .put rfl ?_ | refine .say rfl ?_ | refine .say2 rfl (by first | assumption | simp_all) ?_)))
  · skip
    repeat (first | refine r_skip rfl (.no rfl rfl) ?_ | refine r_skip rfl (.un rfl rfl) ?_)
    refine r_val (by first | exact .none | exact .some rfl rfl) rfl (p_pick_t rfl rfl) ?_
    refine r_nil (e_fin (d := 21) hQ_5 rfl (by repeat (first | exact .refl | refine .put rfl ?_ | refine .say rfl ?_ | refine .say2 rfl (by first | assumption | simp_all) ?_)))
  refine r_nil ?_
  refine e_next ?_
  refine c_split (d := 21) rfl (fun h_7 => ?_) (fun h_7 => ?_)
  · skip
    try simp only [norms] at h_7
    first
      | (exfalso; omega)
      | (
        refine c_cond_t rfl ?_
        refine c_seq ?_
        refine c_region ?_
        refine r_val .none rfl (p_move rfl) ?_
        refine r_val .none rfl (p_ne_ptr Try.underlying23 (by first | exact .inr rfl | exact .inl rfl) rfl rfl) ?_
        refine r_say (d := 23) (v := Value.bool true) rfl ?_
        refine r_val .none rfl (p_move rfl) ?_
        refine r_call (vs := []) (.some rfl rfl) rfl cl13 rfl (fun w hw => c_awake10 w) ?_
        refine r_val .none rfl (p_pick_t rfl rfl) ?_
        refine r_val .none rfl (p_assign rfl) ?_
        refine r_nil ?_
        refine e_next ?_
        refine c_ret ?_
        refine e_ret_then ?_
        refine e_ret1 Try.results3 (.tmp rfl .nil) (fun w hm => ⟨?_, hm.since⟩)
        first
        | rfl
        | (exfalso; exact hA (by have e : j = i := (by omega); rw [e, htal.eq]))
        | (exfalso; have hb := (htal.back (e := (0, 0, 0)) (by omega)).2; rw [if_neg (by omega), if_neg (by omega)] at hB; simp at hB; done)
        | (have e : i = ns.length := (by omega); subst e; have h0 : l = [] := Tal.empty (by simpa using htal); subst h0; simp; done)
        )
  · skip
    try simp only [norms] at h_7
    first
      | (exfalso; omega)
      | (
        refine c_cond_f rfl ?_
        refine c_skip ?_
        refine e_next ?_
        refine c_seq ?_
        refine c_seq ?_
        refine c_region ?_
        refine r_val .none rfl (p_move rfl) ?_
        refine r_val .none rfl (p_leng Try.underlying22 rfl hs) ?_
        have bd_8 := (hs).bound
        refine r_val .none rfl (p_move rfl) ?_
        refine r_nil ?_
        refine e_next ?_
        refine c_block ?_
        refine c_name (d := 0) rfl (fun u_9 hu_9 => ?_)
        refine c_name (d := 3) rfl (fun u_10 hu_10 => ?_)
        refine c_name (d := 27) rfl (fun u_11 hu_11 => ?_)
        refine c_name (d := 28) rfl (fun u_12 hu_12 => ?_)
        refine c_loop (σ := Nat × List (Tri × Int)) (fun s => [(29, Value.int .i64 (s.1 : Nat)), (0, u_9), (3, u_10), (27, u_11), (28, u_12)]) (fun s => [tallyT p_1 s.2 (s.1 : Nat)]) (fun _ => _) (fun s => s.1 ≤ ns.length ∧ Tal s.2 (ns.take s.1)) (fun s => ns.length - s.1) ((0, [])) ⟨Nat.zero_le _, Tal.nil⟩ rfl ⟨rfl, rfl, rfl, rfl, rfl, trivial⟩ (.keep (fun _ _ h => h) (.nil)) (fun s hphi => ?_)
        subst hu_9
        subst hu_10
        subst hu_11
        subst hu_12
        obtain ⟨i, l⟩ := s
        obtain ⟨hi, htal⟩ := hphi
        dsimp only at hi htal ⊢
        refine c_seq ?_
        refine c_region ?_
        refine r_val .none rfl (p_lt rfl rfl) ?_
        refine r_nil ?_
        refine e_next ?_
        refine c_seq ?_
        refine c_splitd (d := 30) rfl (fun h_13 => ?_) (fun h_13 => ?_)
        · skip
          first
            | (exfalso; omega)
            | (
              refine c_cond_t rfl ?_
              refine c_skip ?_
              refine e_next ?_
              refine c_seq ?_
              refine c_block ?_
              refine c_seq ?_
              refine c_region ?_
              refine r_val .none rfl (p_move rfl) ?_
              refine r_iaddr_g .none rfl Try.underlying22 sz26 rfl hs rfl (by first | exact of_decide_eq_true rfl | omega) (fun p_15 o_16 R_14 => ?_)
              refine r_val .none rfl (p_ldga0 Try.underlying26 rfl sz26 rfl R_14 (by first | exact of_decide_eq_true rfl | omega) (rfl : _ = Value.agg #[_, _, _])) ?_
              refine r_alloc .none rfl zr26 (IsRow.lit _) (fun b_1 => ?_)
              refine r_val .none rfl (p_assign rfl) ?_
              refine r_stw (k := 0) .none sz26 rfl rfl (IsRow.lit _) (one_lit rfl rfl) rfl ?_
              refine r_nil ?_
              refine e_next ?_
              refine c_seq ?_
              refine c_region ?_
              refine r_val .none rfl (p_assign rfl) ?_
              refine r_nil ?_
              refine e_next ?_
              refine c_seq ?_
              refine c_seq ?_
              refine c_region ?_
              refine r_val .none rfl (p_move rfl) ?_
              refine r_val .none rfl (p_move rfl) ?_
              refine r_slice0 (_) .none rfl Try.underlying22 sz26 rfl hs rfl (by first | exact of_decide_eq_true rfl | omega) (fun v_17 hs_18 => ?_)
              refine r_val .none rfl (p_leng Try.underlying22 rfl hs_18) ?_
              have bd_20 := (hs_18).bound
              refine r_val .none rfl (p_move rfl) ?_
              refine r_nil ?_
              refine e_next ?_
              refine c_block ?_
              refine c_name (d := 0) rfl (fun u_21 hu_21 => ?_)
              refine c_name (d := 3) rfl (fun u_22 hu_22 => ?_)
              refine c_name (d := 4) rfl (fun u_23 hu_23 => ?_)
              refine c_name (d := 5) rfl (fun u_24 hu_24 => ?_)
              refine c_name (d := 27) rfl (fun u_25 hu_25 => ?_)
              refine c_name (d := 28) rfl (fun u_26 hu_26 => ?_)
              refine c_name (d := 29) rfl (fun u_27 hu_27 => ?_)
              refine c_name (d := 30) rfl (fun u_28 hu_28 => ?_)
              refine c_name (d := 31) rfl (fun u_29 hu_29 => ?_)
              refine c_name (d := 32) rfl (fun u_30 hu_30 => ?_)
              refine c_name (d := 33) rfl (fun u_31 hu_31 => ?_)
              refine c_name (d := 34) rfl (fun u_32 hu_32 => ?_)
              refine c_name (d := 35) rfl (fun u_33 hu_33 => ?_)
              refine c_name (d := 36) rfl (fun u_34 hu_34 => ?_)
              refine c_name (d := 37) rfl (fun u_35 hu_35 => ?_)
              refine c_nameL (k := 0) rfl (fun A_36 hA_36 => ?_)
              refine c_nameL (k := 1) rfl (fun A_37 hA_37 => ?_)
              refine c_loop (σ := Nat) (fun j => [(38, Value.int .i64 (j : Nat)), (6, Value.int .i64 (num (ns.take j) (ns.getD i (0, 0, 0)) : Nat)), (0, u_21), (3, u_22), (4, u_23), (5, u_24), (27, u_25), (28, u_26), (29, u_27), (30, u_28), (31, u_29), (32, u_30), (33, u_31), (34, u_32), (35, u_33), (36, u_34), (37, u_35)]) (fun j => [A_36, A_37]) (fun _ => _) (fun j => j ≤ i) (fun j => i - j) (0) (by omega) rfl ⟨rfl, rfl, rfl, rfl, rfl, rfl, rfl, rfl, rfl, rfl, rfl, rfl, rfl, rfl, rfl, rfl, rfl, trivial⟩ (.keep (fun _ _ h => h) (.keep (fun _ _ h => h) (.nil))) (fun j hphi => ?_)
              subst hu_21
              subst hu_22
              subst hu_23
              subst hu_24
              subst hu_25
              subst hu_26
              subst hu_27
              subst hu_28
              subst hu_29
              subst hu_30
              subst hu_31
              subst hu_32
              subst hu_33
              subst hu_34
              subst hu_35
              subst hA_36
              subst hA_37
              have hcl := num_le (ns.take j) (ns.getD i (0, 0, 0))
              simp only [List.length_take] at hcl
              refine c_seq ?_
              refine c_region ?_
              refine r_val .none rfl (p_lt rfl rfl) ?_
              refine r_nil ?_
              refine e_next ?_
              refine c_seq ?_
              refine c_splitd (d := 39) rfl (fun h_38 => ?_) (fun h_38 => ?_)
              · skip
                first
                  | (exfalso; omega)
                  | (
                    refine c_cond_t rfl ?_
                    refine c_skip ?_
                    refine e_next ?_
                    refine c_seq ?_
                    refine c_block ?_
                    refine c_seq ?_
                    refine c_region ?_
                    refine r_iaddr_g .none rfl Try.underlying22 sz26 rfl hs_18 rfl (by first | exact of_decide_eq_true rfl | omega) (fun p_40 o_41 R_39 => ?_)
                    refine r_val .none rfl (p_ldga0 Try.underlying26 rfl sz26 rfl R_39 (by first | exact of_decide_eq_true rfl | omega) (rfl : _ = Value.agg #[_, _, _])) ?_
                    refine r_alloc .none rfl zr26 (IsRow.lit _) (fun b_2 => ?_)
                    refine r_stw (k := 0) .none sz26 rfl rfl (IsRow.lit _) (one_lit rfl rfl) rfl ?_
                    refine r_nil ?_
                    refine e_next ?_
                    refine c_seq ?_
                    refine c_region ?_
                    refine r_val .none rfl (p_ldw (k := 0) Try.underlying26 rfl sz26 rfl rfl (rfl : _ = Value.agg #[_, _, _])) ?_
                    refine r_val .none rfl (p_ldw (k := 1) Try.underlying26 rfl sz26 rfl rfl (rfl : _ = Value.agg #[_, _, _])) ?_
                    refine r_val .none rfl (p_eqa rfl rfl (eq_tri Try.underlying26 Try.underlying3 lf26 ef26 eg26 (ns.getD j (0, 0, 0)) (ns.getD i (0, 0, 0)))) ?_
                    refine r_nil ?_
                    refine e_next ?_
                    refine' c_join (c := 44) (D1 := [(6, .int .i64 _)]) (D2 := [(6, .int .i64 _)]) rfl (.cons .int (.nil)) (fun h_44 hQ_45 => ?_) (fun h_44 hQ_45 => ?_) ?_
                    rotate_left 2
                    · skip
                      refine c_region ?_
                      refine r_val .none rfl (p_move rfl) ?_
                      refine r_val .none rfl (p_add rfl rfl (by omega)) ?_
                      refine r_val .none rfl (p_assign rfl) ?_
                      refine r_nil ?_
                      refine e_finD hQ_45 ⟨rfl, trivial⟩ (by repeat (first | exact .refl | refine .put rfl ?_ | refine .say rfl (by first | assumption | simp_all) ?_))
                    · skip
                      refine c_skip ?_
                      refine e_finD hQ_45 ⟨rfl, trivial⟩ (by repeat (first | exact .refl | refine .put rfl ?_ | refine .say rfl (by first | assumption | simp_all) ?_))
                    refine e_norm_block ?_
                    refine e_next ?_
                    refine c_region ?_
                    refine r_val .none rfl (p_add rfl rfl (by omega)) ?_
                    refine r_val .none rfl (p_move rfl) ?_
                    refine r_nil ?_
                    refine e_round (j + 1) ⟨by omega, by omega⟩ rfl ⟨rfl, (congrArg (fun n => some (Value.int .i64 n)) (count_next (ns := ns) (j := j) (by omega))), rfl, rfl, rfl, rfl, rfl, rfl, rfl, rfl, rfl, rfl, rfl, rfl, rfl, rfl, rfl, trivial⟩ (.drop (.keep (fun _ _ h => h) (.keep (fun _ _ h => h) (.nil))))
                    )
              · skip
                first
                  | (exfalso; omega)
                  | (
                    refine c_cond_f rfl ?_
                    refine c_exit ?_
                    refine e_exit_then ?_
                    refine e_exit_then ?_
                    refine e_exit_block ?_
                    refine e_next ?_
                    refine c_seq ?_
                    refine c_region ?_
                    refine r_val .none rfl (p_move rfl) ?_
                    refine r_val .none rfl (p_ldw (k := 0) Try.underlying26 rfl sz26 rfl rfl (rfl : _ = Value.agg #[_, _, _])) ?_
                    refine r_callo (k := 1) (vs := [_, _]) .none rfl cl14 rfl rfl (fun w F hw hA hFG => c_taddT _ (ns.getD i (0, 0, 0)) l i (htal.bd (by simp; omega) _) (by omega) w hw hA hFG) ?_
                    refine r_val .none rfl (p_move rfl) ?_
                    refine r_val .none rfl (p_add rfl rfl (by omega)) ?_
                    refine r_val .none rfl (p_ne rfl rfl) ?_
                    refine r_nil ?_
                    refine e_next ?_
                    refine c_splitd (d := 53) rfl (fun h_46 => ?_) (fun h_46 => ?_)
                    · skip
                      have hA := h_46
                      first
                        | (exfalso; omega)
                        | (
                          refine c_cond_t rfl ?_
                          refine c_seq ?_
                          refine c_region ?_
                          refine r_val .none rfl (p_assign rfl) ?_
                          refine r_nil ?_
                          refine e_next ?_
                          refine c_ret ?_
                          refine e_ret_block ?_
                          refine e_ret_then ?_
                          refine e_ret_then ?_
                          refine e_ret_block ?_
                          refine e_ret_then ?_
                          refine e_ret1 Try.results3 (.tmp rfl .nil) (fun w hm => ⟨?_, hm.since⟩)
                          first
                          | rfl
                          | (exfalso; exact hA (by have e : j = i := (by omega); rw [e, htal.eq]))
                          | (exfalso; have hb := (htal.back (e := (0, 0, 0)) (by omega)).2; rw [if_neg (by omega), if_neg (by omega)] at hB; simp at hB; done)
                          | (have e : i = ns.length := (by omega); subst e; have h0 : l = [] := Tal.empty (by simpa using htal); subst h0; simp; done)
                          )
                    · skip
                      first
                        | (exfalso; omega)
                        | (
                          refine c_cond_f rfl ?_
                          refine c_skip ?_
                          refine e_norm_block ?_
                          refine e_next ?_
                          refine c_region ?_
                          refine r_val .none rfl (p_add rfl rfl (by omega)) ?_
                          refine r_val .none rfl (p_move rfl) ?_
                          refine r_nil ?_
                          refine e_round ((i + 1, tAdd l (ns.getD i (0, 0, 0)))) ⟨⟨by dsimp only; omega, htal.next (by omega)⟩, by dsimp only; omega⟩ rfl ⟨rfl, rfl, rfl, rfl, rfl, trivial⟩ (.drop (.keep (fun _ _ h => by have e : ((i + 1 : Nat) : Int) = (i : Int) + 1 := (by omega); show (tallyT _ _ ((i + 1 : Nat) : Int)).holds _ _; rw [e]; exact h) (.nil)))
                          )
                    )
              )
        · skip
          first
            | (exfalso; omega)
            | (
              refine c_cond_f rfl ?_
              refine c_exit ?_
              refine e_exit_then ?_
              refine e_exit_then ?_
              refine e_exit_block ?_
              refine e_next ?_
              refine c_seq ?_
              refine c_seq ?_
              refine c_region ?_
              refine r_val .none rfl (p_move rfl) ?_
              refine r_val .none rfl (p_leng Try.underlying22 rfl hs) ?_
              have bd_47 := (hs).bound
              refine r_val .none rfl (p_move rfl) ?_
              refine r_nil ?_
              refine e_next ?_
              refine c_block ?_
              refine c_name (d := 0) rfl (fun u_48 hu_48 => ?_)
              refine c_name (d := 3) rfl (fun u_49 hu_49 => ?_)
              refine c_name (d := 56) rfl (fun u_50 hu_50 => ?_)
              refine c_loop (σ := Nat × List (Tri × Int)) (fun s => [(57, Value.int .i64 (s.1 : Nat)), (0, u_48), (3, u_49), (56, u_50)]) (fun s => [tallyT p_1 s.2 (ns.length - s.1 : Nat)]) (fun _ => _) (fun s => s.1 ≤ ns.length ∧ Tal s.2 (ns.take (ns.length - s.1))) (fun s => ns.length - s.1) ((0, l)) ⟨Nat.zero_le _, by have e : i = ns.length := (by omega); subst e; simpa using htal⟩ rfl ⟨rfl, rfl, rfl, rfl, trivial⟩ (.keep (fun _ _ h => by have e : i = ns.length := (by omega); subst e; exact h) (.nil)) (fun s hphi => ?_)
              subst hu_48
              subst hu_49
              subst hu_50
              clear htal
              obtain ⟨i, l⟩ := s
              obtain ⟨hi, htal⟩ := hphi
              dsimp only at hi htal ⊢
              refine c_seq ?_
              refine c_region ?_
              refine r_val .none rfl (p_lt rfl rfl) ?_
              refine r_nil ?_
              refine e_next ?_
              refine c_seq ?_
              refine c_splitd (d := 58) rfl (fun h_51 => ?_) (fun h_51 => ?_)
              · skip
                first
                  | (exfalso; omega)
                  | (
                    refine c_cond_t rfl ?_
                    refine c_skip ?_
                    refine e_next ?_
                    refine c_seq ?_
                    refine c_block ?_
                    refine c_seq ?_
                    refine c_region ?_
                    refine r_val .none rfl (p_move rfl) ?_
                    refine r_val .none rfl (p_assign rfl) ?_
                    refine r_nil ?_
                    refine e_next ?_
                    refine c_seq ?_
                    refine c_region ?_
                    refine r_val .none rfl (p_move rfl) ?_
                    refine r_val .none rfl (p_move rfl) ?_
                    refine r_val .none rfl (p_leng Try.underlying22 rfl hs) ?_
                    have bd_52 := (hs).bound
                    refine r_val .none rfl (p_sub rfl rfl (by omega)) ?_
                    refine r_val .none rfl (p_move rfl) ?_
                    refine r_val .none rfl (p_sub rfl rfl (by omega)) ?_
                    refine r_say (d := 65) (v := Value.int .i64 ((ns.length - 1 - i : Nat) : Int)) (congrArg (fun x => some (Value.int .i64 x)) (by omega)) ?_
                    refine r_iaddr_g .none rfl Try.underlying22 sz26 rfl hs rfl (by first | exact of_decide_eq_true rfl | omega) (fun p_54 o_55 R_53 => ?_)
                    refine r_val .none rfl (p_ldga0 Try.underlying26 rfl sz26 rfl R_53 (by first | exact of_decide_eq_true rfl | omega) (rfl : _ = Value.agg #[_, _, _])) ?_
                    refine r_alloc .none rfl zr26 (IsRow.lit _) (fun b_3 => ?_)
                    refine r_stw (k := 0) .none sz26 rfl rfl (IsRow.lit _) (one_lit rfl rfl) rfl ?_
                    refine r_nil ?_
                    refine e_next ?_
                    refine c_seq ?_
                    refine c_region ?_
                    refine r_val .none rfl (p_move rfl) ?_
                    refine r_val .none rfl (p_ldw (k := 0) Try.underlying26 rfl sz26 rfl rfl (rfl : _ = Value.agg #[_, _, _])) ?_
                    refine r_callo (k := 1) (vs := [_, _]) .none rfl cl15 rfl rfl (fun w F hw hA hFG => c_countT _ (ns.getD (ns.length - 1 - i) (0, 0, 0)) _ _ w hw hA hFG) ?_
                    refine r_val .none rfl (p_assign rfl) ?_
                    refine r_nil ?_
                    refine e_next ?_
                    refine c_seq ?_
                    refine c_region ?_
                    refine r_val .none rfl (p_move rfl) ?_
                    refine r_val .none rfl (p_ldw (k := 0) Try.underlying26 rfl sz26 rfl rfl (rfl : _ = Value.agg #[_, _, _])) ?_
                    refine r_callo (k := 1) (vs := [_, _]) .none rfl cl16 rfl rfl (fun w F hw hA hFG => c_dropT _ (ns.getD (ns.length - 1 - i) (0, 0, 0)) l _ (htal.bd (by simp; omega) _) (by omega) w hw hA hFG) ?_
                    refine r_val .none rfl (p_move rfl) ?_
                    refine r_val .none rfl (p_extract rfl rfl) ?_
                    refine r_val .none rfl (p_extract rfl rfl) ?_
                    refine r_val .none rfl (p_assign rfl) ?_
                    refine r_val .none rfl (p_assign rfl) ?_
                    refine r_nil ?_
                    refine e_next ?_
                    refine c_seq ?_
                    refine c_region ?_
                    refine r_val .none rfl (p_move rfl) ?_
                    refine r_val .none rfl (p_move rfl) ?_
                    have hb2 := htal.bd (by simp; omega) (ns.getD (ns.length - 1 - i) (0, 0, 0))
                    refine r_val .none rfl (p_sub rfl rfl (by omega)) ?_
                    refine r_val .none rfl (p_ne rfl rfl) ?_
                    refine r_val .none rfl (p_move rfl) ?_
                    refine' r_or (c := 81) (d := 84) [_, _, _] rfl (fun h_56 Q_57 hQ_58 => ?_) (fun h_56 Q_57 hQ_58 => ?_) ?_
                    rotate_left 1
                    · skip
                      replace h_56 := of_decide_eq_false h_56
                      refine r_val (.some rfl rfl) rfl (p_move rfl) ?_
                      refine r_val (.some rfl rfl) rfl (p_ne rfl rfl) ?_
                      refine r_val .none rfl (p_pick_f rfl rfl) ?_
                      refine r_nil (e_fin (d := 84) hQ_58 rfl (by repeat (first | exact .refl | refine .put rfl ?_ | refine .say rfl ?_ | refine .say2 rfl (by first | assumption | simp_all) ?_)))
                    · skip
                      repeat (first | refine r_skip rfl (.no rfl rfl) ?_ | refine r_skip rfl (.un rfl rfl) ?_)
                      refine r_val (by first | exact .none | exact .some rfl rfl) rfl (p_pick_t rfl rfl) ?_
                      refine r_nil (e_fin (d := 84) hQ_58 rfl (by repeat (first | exact .refl | refine .put rfl ?_ | refine .say rfl ?_ | refine .say2 rfl (by first | assumption | simp_all) ?_)))
                    refine r_nil ?_
                    refine e_next ?_
                    refine c_split (d := 84) rfl (fun h_60 => ?_) (fun h_60 => ?_)
                    · skip
                      try simp only [norms] at h_60
                      have hB := h_60
                      first
                        | (exfalso; omega)
                        | (
                          refine c_cond_t rfl ?_
                          refine c_seq ?_
                          refine c_region ?_
                          refine r_val .none rfl (p_assign rfl) ?_
                          refine r_nil ?_
                          refine e_next ?_
                          refine c_ret ?_
                          refine e_ret_block ?_
                          refine e_ret_then ?_
                          refine e_ret_then ?_
                          refine e_ret_block ?_
                          refine e_ret_then ?_
                          refine e_ret1 Try.results3 (.tmp rfl .nil) (fun w hm => ⟨?_, hm.since⟩)
                          first
                          | rfl
                          | (exfalso; exact hA (by have e : j = i := (by omega); rw [e, htal.eq]))
                          | (exfalso; have hb := (htal.back (e := (0, 0, 0)) (by omega)).2; rw [if_neg (by omega), if_neg (by omega)] at hB; simp at hB; done)
                          | (have e : i = ns.length := (by omega); subst e; have h0 : l = [] := Tal.empty (by simpa using htal); subst h0; simp; done)
                          )
                    · skip
                      try simp only [norms] at h_60
                      first
                        | (exfalso; omega)
                        | (
                          refine c_cond_f rfl ?_
                          refine c_skip ?_
                          refine e_norm_block ?_
                          refine e_next ?_
                          refine c_region ?_
                          refine r_val .none rfl (p_add rfl rfl (by omega)) ?_
                          refine r_val .none rfl (p_move rfl) ?_
                          refine r_nil ?_
                          refine e_round ((i + 1, tDrop l (ns.getD (ns.length - 1 - i) (0, 0, 0)))) ⟨⟨by dsimp only; omega, (htal.back (by omega)).1⟩, by dsimp only; omega⟩ rfl ⟨rfl, rfl, rfl, rfl, trivial⟩ (.drop (.keep (fun _ _ h => by have hb := htal.back (e := (0, 0, 0)) (by omega); rw [if_neg (by omega)] at h; have e : ((ns.length - (i + 1) : Nat) : Int) = ((ns.length - i : Nat) : Int) - 1 := (by omega); show (tallyT _ _ ((ns.length - (i + 1) : Nat) : Int)).holds _ _; rw [e]; exact h) (.nil)))
                          )
                    )
              · skip
                first
                  | (exfalso; omega)
                  | (
                    refine c_cond_f rfl ?_
                    refine c_exit ?_
                    refine e_exit_then ?_
                    refine e_exit_then ?_
                    refine e_exit_block ?_
                    refine e_next ?_
                    refine c_seq ?_
                    refine c_region ?_
                    refine r_val .none rfl (p_move rfl) ?_
                    refine r_callo (k := 0) (vs := [_]) .none rfl cl17 rfl rfl (fun w F hw hA hFG => c_lenT _ _ _ w hw hA hFG) ?_
                    refine r_val .none rfl (p_eq rfl rfl) ?_
                    refine r_val .none rfl (p_move rfl) ?_
                    refine' r_and (c := 89) (d := 93) [_, _, _, _] rfl (fun h_61 Q_62 hQ_63 => ?_) (fun h_61 Q_62 hQ_63 => ?_) ?_
                    rotate_left 1
                    · skip
                      replace h_61 := of_decide_eq_true h_61
                      refine r_val (.some rfl rfl) rfl (p_move rfl) ?_
                      refine r_callo (k := 0) (vs := [_]) (.some rfl rfl) rfl cl18 rfl rfl (fun w F hw hA hFG => c_totalT _ _ _ w hw hA hFG) ?_
                      refine r_val (.some rfl rfl) rfl (p_eq rfl rfl) ?_
                      refine r_val .none rfl (p_pick_t rfl rfl) ?_
                      refine r_nil (e_fin (d := 93) hQ_63 rfl (by repeat (first | exact .refl | refine .put rfl ?_ | refine .say rfl ?_ | refine .say2 rfl (by first | assumption | simp_all) ?_)))
                    · skip
                      repeat (first | refine r_skip rfl (.no rfl rfl) ?_ | refine r_skip rfl (.un rfl rfl) ?_)
                      refine r_val (by first | exact .none | exact .some rfl rfl) rfl (p_pick_f rfl rfl) ?_
                      refine r_nil (e_fin (d := 93) hQ_63 rfl (by repeat (first | exact .refl | refine .put rfl ?_ | refine .say rfl ?_ | refine .say2 rfl (by first | assumption | simp_all) ?_)))
                    refine r_val .none rfl (p_move rfl) ?_
                    refine' r_and (c := 94) (d := 96) [_, _] rfl (fun h_65 Q_66 hQ_67 => ?_) (fun h_65 Q_66 hQ_67 => ?_) ?_
                    rotate_left 1
                    · skip
                      try simp only [norms] at h_65
                      refine r_call (vs := []) (.some rfl rfl) rfl cl13 rfl (fun w hw => c_awake10 w) ?_
                      refine r_val .none rfl (p_pick_t rfl rfl) ?_
                      refine r_nil (e_fin (d := 96) hQ_67 rfl (by repeat (first | exact .refl | refine .put rfl ?_ | refine .say rfl ?_ | refine .say2 rfl (by first | assumption | simp_all) ?_)))
                    · skip
                      repeat (first | refine r_skip rfl (.no rfl rfl) ?_ | refine r_skip rfl (.un rfl rfl) ?_)
                      refine r_val (by first | exact .none | exact .some rfl rfl) rfl (p_pick_f rfl rfl) ?_
                      refine r_nil (e_fin (d := 96) hQ_67 rfl (by repeat (first | exact .refl | refine .put rfl ?_ | refine .say rfl ?_ | refine .say2 rfl (by first | assumption | simp_all) ?_)))
                    refine r_val .none rfl (p_assign rfl) ?_
                    refine r_nil ?_
                    refine e_next ?_
                    refine c_ret ?_
                    refine e_ret1 Try.results3 (.tmp rfl .nil) (fun w hm => ⟨?_, hm.since⟩)
                    first
                    | rfl
                    | (exfalso; exact hA (by have e : j = i := (by omega); rw [e, htal.eq]))
                    | (exfalso; have hb := (htal.back (e := (0, 0, 0)) (by omega)).2; rw [if_neg (by omega), if_neg (by omega)] at hB; simp at hB; done)
                    | (have e : i = ns.length := (by omega); subst e; have h0 : l = [] := Tal.empty (by simpa using htal); subst h0; simp; done)
                    )
              )
        )
end Go.Proofs.Ytinbigokigkfaaa
