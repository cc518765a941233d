/- Walks: what Go functions of this chapter come to, each as a function on plain data; no condition but those that each theorem names. Printed by a program of this work (gen.py). -/
import Derived.Test.YtjgdkahblhpinaaW01
import Derived.Test.YtjgdkahblhpinaaGxOwn
import Derived.Test.YtjgdkahblhpinaaRows
namespace Go.Proofs.Ytjgdkahblhpinaa
open Go.Gx Go.Gx.T1
theorem sz9 : SzIs Try.prog 9 1 := by
  unfold SzIs
  kernel_rfl
theorem sz54 : SzIs Try.prog 54 1 := by
  unfold SzIs
  kernel_rfl
theorem sz75 : SzIs Try.prog 75 1 := by
  unfold SzIs
  kernel_rfl
theorem zr3 : ZeroIs Try.prog 3 (Value.int .i64 0) := by
  unfold ZeroIs
  kernel_rfl
theorem cl19 : Callable Try.prog 19 := callable Try.func19 (by kernel_rfl) rfl
theorem cl20 : Callable Try.prog 20 := callable Try.func20 (by kernel_rfl) rfl
theorem cl35 : Callable Try.prog 35 := callable Try.func35 (by kernel_rfl) rfl
theorem bl77_1m1 (x0 : Option Nat) : Program.built Try.prog 77 [(1, Value.map x0)] = some #[Value.slice none 0 0, Value.map x0] := by
  kernel_rfl
theorem bs9_10s1 (a0 : ByteArray) : Instr.fill (fun i => some (i * 1, 1)) ((Array.range (1 * 1)).map ((Value.string ⟨#[]⟩).cells[· % (Value.string ⟨#[]⟩).cells.size]!)) [(0, Value.string a0)] = some #[Value.string a0] := by
  kernel_rfl
theorem el9 : ElemIs Try.prog 9 1 16 (Value.string ⟨#[]⟩) := by
  unfold ElemIs
  kernel_rfl
theorem c_find {F : Nat → Prop} {G : Ghost} (p : Nat) (s : ByteArray) (l : List ByteArray)  (w : World) (hG : Has G w) (hA : (tabA p l).holds w F) (hFG : ∀ b, F b → G b = none) :
    Calls Try.prog 28 #[Value.pointer (some ⟨p, 0, none⟩), Value.string s] w (Ret fun r w' => r = Value.tuple #[Value.int .i64 (fnd l s 0 : Nat), Value.bool (decide (0 < fnd l s 0))] ∧ Kept (tabA p (l)) F w w') := by
  refine enterO (args := [_, _]) (G := G) (A := tabA p l) (l := [(0, Value.pointer (some ⟨p, 0, none⟩)), (1, Value.string s)]) Try.func28 rfl Try.ntmps28 hG hA hFG ⟨rfl, rfl, trivial⟩ (Nat.le_of_ble_eq_true rfl) ?_
  refine c_unex (fun z => ?_)
  obtain ⟨v, m⟩ := z
  refine c_unpack ?_
  refine c_row1 (k := 1) rfl (fun ov => ?_)
  refine c_rowlen (k := 1) rfl (fun l63 => ?_)
  refine c_seq ?_
  refine c_region ?_
  refine r_val .none rfl (p_assign rfl) ?_
  refine r_val .none rfl (p_assign rfl) ?_
  refine r_nil ?_
  refine e_next ?_
  refine c_seq ?_
  refine c_region ?_
  refine r_val .none rfl (p_move rfl) ?_
  refine r_val .none rfl (p_nilcheck rfl) ?_
  refine r_val .none rfl (p_field Try.underlying77 rfl sz75 rfl) ?_
  refine r_val .none rfl (p_ld (k := 0) Try.underlying75 rfl rfl rfl (by first | exact of_decide_eq_true rfl | omega) (rfl : _ = Value.map _)) ?_
  refine r_val .none rfl (p_move rfl) ?_
  refine r_val .none rfl (p_lookup2 (i := 2) (z0 := (0 : Int)) Try.underlying75 (KeyT.string Try.underlying9) zr3 rfl rfl rfl) ?_
  refine r_val .none rfl (p_move rfl) ?_
  refine r_val .none rfl (p_extract rfl rfl) ?_
  refine r_val .none rfl (p_extract rfl rfl) ?_
  refine r_val .none rfl (p_assign rfl) ?_
  refine r_val .none rfl (p_assign rfl) ?_
  refine r_nil ?_
  refine e_next ?_
  refine c_seq ?_
  refine c_region ?_
  refine r_val .none rfl (p_move rfl) ?_
  refine r_val .none rfl (p_move rfl) ?_
  refine r_val .none rfl (p_assign rfl) ?_
  refine r_val .none rfl (p_assign rfl) ?_
  refine r_nil ?_
  refine e_next ?_
  refine c_ret ?_
  refine e_retn Try.results28 (.tmp rfl (.tmp rfl .nil)) rfl (fun w hm => ⟨?_, hm.kept [box p 2 77 (at_ [v, .map (some m)]), rowA v 9 1 (l).length ((l).flatMap sc), mapA m kS kI (ix (l) 0)] (.keep (fun _ _ h => h) (.keep (fun _ _ h => h) (.keep (fun _ _ h => h) (.nil)))) (tabA p (l)) (fun F' h => ⟨(_, m), h⟩)⟩)
  rw [(lkp_ix s l 0).1, (lkp_ix s l 0).2]
  rfl
theorem c_tlen {F : Nat → Prop} {G : Ghost} (p : Nat)  (l : List ByteArray)  (w : World) (hG : Has G w) (hA : (tabA p l).holds w F) (hFG : ∀ b, F b → G b = none) :
    Calls Try.prog 29 #[Value.pointer (some ⟨p, 0, none⟩)] w (Ret fun r w' => r = Value.int .i64 (l.length : Nat) ∧ Kept (tabA p (l)) F w w') := by
  refine enterO (args := [_]) (G := G) (A := tabA p l) (l := [(0, Value.pointer (some ⟨p, 0, none⟩))]) Try.func29 rfl Try.ntmps29 hG hA hFG ⟨rfl, trivial⟩ (Nat.le_of_ble_eq_true rfl) ?_
  refine c_unex (fun z => ?_)
  obtain ⟨v, m⟩ := z
  refine c_unpack ?_
  refine c_row1 (k := 1) rfl (fun ov => ?_)
  refine c_rowlen (k := 1) rfl (fun l63 => ?_)
  refine c_seq ?_
  refine c_region ?_
  refine r_val .none rfl (p_assign rfl) ?_
  refine r_nil ?_
  refine e_next ?_
  refine c_seq ?_
  refine c_region ?_
  refine r_val .none rfl (p_move rfl) ?_
  refine r_val .none rfl (p_nilcheck rfl) ?_
  refine r_val .none rfl (p_field Try.underlying77 rfl sz54 rfl) ?_
  refine r_val .none rfl (p_ld (k := 0) Try.underlying54 rfl rfl rfl (by first | exact of_decide_eq_true rfl | omega) rfl) ?_
  refine r_val .none rfl (p_leno (k := 1) Try.underlying54 rfl rfl) ?_
  refine r_val .none rfl (p_assign rfl) ?_
  refine r_nil ?_
  refine e_next ?_
  refine c_ret ?_
  refine e_ret1 Try.results29 (.tmp rfl .nil) (fun w hm => ⟨?_, hm.kept [box p 2 77 (at_ [v, .map (some m)]), rowA v 9 1 (l).length ((l).flatMap sc), mapA m kS kI (ix (l) 0)] (.keep (fun _ _ h => h) (.keep (fun _ _ h => h) (.keep (fun _ _ h => h) (.nil)))) (tabA p (l)) (fun F' h => ⟨(_, m), h⟩)⟩)
  rfl
theorem c_intern {F : Nat → Prop} {G : Ghost} (p : Nat) (s : ByteArray) (l : List ByteArray)  (w : World) (hG : Has G w) (hA : (tabA p l).holds w F) (hFG : ∀ b, F b → G b = none) :
    Calls Try.prog 27 #[Value.pointer (some ⟨p, 0, none⟩), Value.string s] w (Ret fun r w' => r = Value.tuple #[Value.int .i64 ((intern l s).2.1 : Nat), Value.int .i64 ((intern l s).2.2 : Nat)] ∧ Kept (tabA p ((intern l s).1)) F w w') := by
  refine enterO (args := [_, _]) (G := G) (A := tabA p l) (l := [(0, Value.pointer (some ⟨p, 0, none⟩)), (1, Value.string s)]) Try.func27 rfl Try.ntmps27 hG hA hFG ⟨rfl, rfl, trivial⟩ (Nat.le_of_ble_eq_true rfl) ?_
  refine c_unex (fun z => ?_)
  obtain ⟨v, m⟩ := z
  refine c_unpack ?_
  refine c_row1 (k := 1) rfl (fun ov => ?_)
  refine c_rowlen (k := 1) rfl (fun l63 => ?_)
  refine c_seq ?_
  refine c_region ?_
  refine r_val .none rfl (p_assign rfl) ?_
  refine r_val .none rfl (p_assign rfl) ?_
  refine r_nil ?_
  refine e_next ?_
  refine c_seq ?_
  refine c_seq ?_
  refine c_region ?_
  refine r_val .none rfl (p_move rfl) ?_
  refine r_call (vs := [_]) .none rfl cl19 rfl (fun w hw => c_symRight _ w) ?_
  refine r_val .none rfl (p_not rfl) ?_
  refine r_nil ?_
  refine e_next ?_
  refine c_splitn (d := 10) rfl (fun h_1 => ?_) (fun h_1 => ?_)
  · skip
    first
      | (exfalso; omega)
      | (
        refine c_cond_t rfl ?_
        refine c_seq ?_
        refine c_region ?_
        refine r_val .none rfl (p_assign rfl) ?_
        refine r_val .none rfl (p_assign rfl) ?_
        refine r_nil ?_
        refine e_next ?_
        refine c_ret ?_
        refine e_ret_then ?_
        refine e_retn Try.results27 (.tmp rfl (.tmp rfl .nil)) rfl (fun w hm => ?_)
        rw [intern_1 ‹_›]
        refine ⟨?_, hm.kept [box p 2 77 (at_ [v, .map (some m)]), rowA v 9 1 (l).length ((l).flatMap sc), mapA m kS kI (ix (l) 0)] (.keep (fun _ _ h => h) (.keep (fun _ _ h => h) (.keep (fun _ _ h => h) (.nil)))) (tabA p (l)) (fun F' h => ⟨(_, m), h⟩)⟩
        rfl
        )
  · skip
    first
      | (exfalso; omega)
      | (
        refine c_cond_f rfl ?_
        refine c_skip ?_
        refine e_next ?_
        refine c_seq ?_
        refine c_seq ?_
        refine c_region ?_
        refine r_val .none rfl (p_move rfl) ?_
        refine r_val .none rfl (p_nilcheck rfl) ?_
        refine r_val .none rfl (p_field Try.underlying77 rfl sz75 rfl) ?_
        refine r_val .none rfl (p_ld (k := 0) Try.underlying75 rfl rfl rfl (by first | exact of_decide_eq_true rfl | omega) (rfl : _ = Value.map _)) ?_
        refine r_val .none rfl (p_move rfl) ?_
        refine r_val .none rfl (p_lookup2 (i := 2) (z0 := (0 : Int)) Try.underlying75 (KeyT.string Try.underlying9) zr3 rfl rfl rfl) ?_
        refine r_val .none rfl (p_move rfl) ?_
        refine r_val .none rfl (p_extract rfl rfl) ?_
        refine r_val .none rfl (p_extract rfl rfl) ?_
        refine r_val .none rfl (p_assign rfl) ?_
        refine r_val .none rfl (p_assign rfl) ?_
        refine r_nil ?_
        refine e_next ?_
        refine c_seq ?_
        refine c_region ?_
        refine r_val .none rfl (p_move rfl) ?_
        refine r_nil ?_
        refine e_next ?_
        refine c_split (d := 20) rfl (fun h_2 => ?_) (fun h_2 => ?_)
        · skip
          rw [(lkp_ix s l 0).2] at h_2
          replace h_2 := of_decide_eq_true h_2
          first
            | (exfalso; omega)
            | (
              refine c_cond_t rfl ?_
              refine c_seq ?_
              refine c_region ?_
              refine r_val .none rfl (p_move rfl) ?_
              refine r_val .none rfl (p_assign rfl) ?_
              refine r_val .none rfl (p_assign rfl) ?_
              refine r_nil ?_
              refine e_next ?_
              refine c_ret ?_
              refine e_ret_then ?_
              refine e_retn Try.results27 (.tmp rfl (.tmp rfl .nil)) rfl (fun w hm => ?_)
              rw [intern_2 ‹_› (by omega)]
              refine ⟨?_, hm.kept [box p 2 77 (at_ [v, .map (some m)]), rowA v 9 1 (l).length ((l).flatMap sc), mapA m kS kI (ix (l) 0)] (.keep (fun _ _ h => h) (.keep (fun _ _ h => h) (.keep (fun _ _ h => h) (.nil)))) (tabA p (l)) (fun F' h => ⟨(_, m), h⟩)⟩
              rw [(lkp_ix s l 0).1]
              rfl
              )
        · skip
          rw [(lkp_ix s l 0).2] at h_2
          replace h_2 := of_decide_eq_false h_2
          first
            | (exfalso; omega)
            | (
              refine c_cond_f rfl ?_
              refine c_skip ?_
              refine e_next ?_
              refine c_seq ?_
              refine c_seq ?_
              refine c_region ?_
              refine r_val .none rfl (p_move rfl) ?_
              refine r_val .none rfl (p_nilcheck rfl) ?_
              refine r_val .none rfl (p_field Try.underlying77 rfl sz54 rfl) ?_
              refine r_val .none rfl (p_ld (k := 0) Try.underlying54 rfl rfl rfl (by first | exact of_decide_eq_true rfl | omega) rfl) ?_
              refine r_val .none rfl (p_leno (k := 1) Try.underlying54 rfl rfl) ?_
              refine r_val .none rfl (p_ge rfl rfl) ?_
              refine r_nil ?_
              refine e_next ?_
              refine c_splitd (d := 27) rfl (fun h_3 => ?_) (fun h_3 => ?_)
              · skip
                first
                  | (exfalso; omega)
                  | (
                    refine c_cond_t rfl ?_
                    refine c_seq ?_
                    refine c_region ?_
                    refine r_val .none rfl (p_assign rfl) ?_
                    refine r_val .none rfl (p_assign rfl) ?_
                    refine r_nil ?_
                    refine e_next ?_
                    refine c_ret ?_
                    refine e_ret_then ?_
                    refine e_retn Try.results27 (.tmp rfl (.tmp rfl .nil)) rfl (fun w hm => ?_)
                    rw [intern_3 ‹_› (by omega) (by omega)]
                    refine ⟨?_, hm.kept [box p 2 77 (at_ [v, .map (some m)]), rowA v 9 1 (l).length ((l).flatMap sc), mapA m kS kI (ix (l) 0)] (.keep (fun _ _ h => h) (.keep (fun _ _ h => h) (.keep (fun _ _ h => h) (.nil)))) (tabA p (l)) (fun F' h => ⟨(_, m), h⟩)⟩
                    rfl
                    )
              · skip
                first
                  | (exfalso; omega)
                  | (
                    refine c_cond_f rfl ?_
                    refine c_skip ?_
                    refine e_next ?_
                    refine c_seq ?_
                    refine c_region ?_
                    refine r_val .none rfl (p_move rfl) ?_
                    refine r_val .none rfl (p_move rfl) ?_
                    refine r_val .none rfl (p_nilcheck rfl) ?_
                    refine r_val .none rfl (p_field Try.underlying77 rfl sz54 rfl) ?_
                    refine r_val .none rfl (p_ld (k := 0) Try.underlying54 rfl rfl rfl (by first | exact of_decide_eq_true rfl | omega) rfl) ?_
                    refine r_val .none rfl (p_move rfl) ?_
                    refine r_bslice (vs := [(0, Value.string _)]) (c := #[_]) .none rfl Try.underlying54 el9 rfl rfl rfl (bs9_10s1 _) (IsRow.lit _) (fun b_1 => ?_)
                    refine r_append (k := 2) (k2 := 0) .none rfl Try.underlying54 el9 rfl (by decide) rfl rfl rfl rfl rfl (one_lit rfl rfl) (by simp only [maxLen]; omega) (by omega) (fun v_4 => ?_)
                    refine r_row1 (k := 2) rfl (fun o_5 => ?_)
                    refine r_val .none rfl (p_nilcheck rfl) ?_
                    refine r_val .none rfl (p_field Try.underlying77 rfl sz54 rfl) ?_
                    refine r_st (k := 1) .none sz54 rfl rfl o_5 rfl (by first | exact of_decide_eq_true rfl | omega) ?_
                    refine r_nil ?_
                    refine e_next ?_
                    refine c_seq ?_
                    refine c_region_d (fun _ => false) _ mixed (.keep (fun _ _ h => h) (.keep (fun _ _ h => h) (.keep (fun _ _ h => h) (.drop (.nil))))) ?_
                    refine d_val1 0 rfl rfl (by kernel_rfl) (fun _ _ => rfl) .none rfl (p_move rfl) ?_
                    refine d_val1 1 rfl rfl (by kernel_rfl) (fun _ _ => rfl) .none rfl (p_nilcheck rfl) ?_
                    refine d_val1 2 rfl rfl (by kernel_rfl) (fun _ _ => rfl) .none rfl (p_field Try.underlying77 rfl sz75 rfl) ?_
                    refine d_val1 3 rfl rfl (by kernel_rfl) (fun _ _ => rfl) .none rfl (p_ld (k := 1) Try.underlying75 rfl rfl rfl (by first | exact of_decide_eq_true rfl | omega) (rfl : _ = Value.map _)) ?_
                    refine d_val1 4 rfl rfl (by kernel_rfl) (fun _ _ => rfl) .none rfl (p_move rfl) ?_
                    refine d_val1 5 rfl rfl (by kernel_rfl) (fun _ _ => rfl) .none rfl (p_move rfl) ?_
                    refine d_val1 6 rfl rfl (by kernel_rfl) (fun _ _ => rfl) .none rfl (p_nilcheck rfl) ?_
                    refine d_val1 7 rfl rfl (by kernel_rfl) (fun _ _ => rfl) .none rfl (p_field Try.underlying77 rfl sz54 rfl) ?_
                    refine d_val1 8 rfl rfl (by kernel_rfl) (fun _ _ => rfl) .none rfl (p_ld (k := 1) Try.underlying54 rfl rfl rfl (by first | exact of_decide_eq_true rfl | omega) rfl) ?_
                    refine d_val1 9 rfl rfl (by kernel_rfl) (fun _ _ => rfl) .none rfl (p_leno (k := 2) Try.underlying54 rfl rfl) ?_
                    refine d_eff 10 rfl (by kernel_rfl) (fun K_6 hKK_6 hcK_6 => ?_)
                    refine r_mapup (i := 3) .none Try.underlying75 (KeyT.string Try.underlying9) rfl rfl rfl rfl ?_
                    refine r_nil (e_d (i := 10) (brk := (fun _ => false)) (ph' := true) hKK_6 hcK_6 rfl (fun _ => GLe.refl _) (fun _ => .keep (fun _ _ h => h) (.keep (fun _ _ h => h) (.keep (fun _ _ h => h) (.drop (.nil))))) ?_)
                    clear hKK_6 hcK_6 K_6
                    refine d_nil (by kernel_rfl) ?_
                    refine e_next ?_
                    refine c_seq ?_
                    refine c_region ?_
                    refine r_val .none rfl (p_move rfl) ?_
                    refine r_val .none rfl (p_nilcheck rfl) ?_
                    refine r_val .none rfl (p_field Try.underlying77 rfl sz54 rfl) ?_
                    refine r_val .none rfl (p_ld (k := 1) Try.underlying54 rfl rfl rfl (by first | exact of_decide_eq_true rfl | omega) rfl) ?_
                    refine r_val .none rfl (p_leno (k := 2) Try.underlying54 rfl rfl) ?_
                    refine r_val .none rfl (p_assign rfl) ?_
                    refine r_val .none rfl (p_assign rfl) ?_
                    refine r_nil ?_
                    refine e_next ?_
                    refine c_ret ?_
                    refine e_retn Try.results27 (.tmp rfl (.tmp rfl .nil)) rfl (fun w hm => ?_)
                    rw [intern_4 ‹_› (by omega) (by omega)]
                    refine ⟨?_, hm.kept [box p 2 77 (at_ [v_4, .map (some m)]), rowA v_4 9 1 (l ++ [s]).length ((l ++ [s]).flatMap sc), mapA m kS kI (ix (l ++ [s]) 0)] (.drop (.keep (fun _ _ h => box_congr (fun i hi => by match i, hi with | 0, _ => rfl | 1, _ => rfl) _ _ h) (.keep (fun _ _ h => rowA_snoc (l := l) (x := s) rfl rfl rfl rfl _ _ h) (.keep (fun _ _ h => mapA_congr (ix_put (by omega)) _ _ h) (.nil))))) (tabA p (l ++ [s])) (fun F' h => ⟨(_, m), h⟩)⟩
                    rfl
                    )
              )
        )
theorem c_name1 {F : Nat → Prop} {G : Ghost} (p : Nat) (n : Int) (l : List ByteArray)  (w : World) (hG : Has G w) (hA : (tabA p l).holds w F) (hFG : ∀ b, F b → G b = none) :
    Calls Try.prog 37 #[Value.pointer (some ⟨p, 0, none⟩), Value.int .i64 n] w (Ret fun r w' => r = Value.tuple #[Value.string (nameAt l n), Value.bool (decide (1 ≤ n ∧ n ≤ (l.length : Int)))] ∧ Kept (tabA p (l)) F w w') := by
  refine enterO (args := [_, _]) (G := G) (A := tabA p l) (l := [(0, Value.pointer (some ⟨p, 0, none⟩)), (1, Value.int .i64 n)]) Try.func37 rfl Try.ntmps37 hG hA hFG ⟨rfl, rfl, trivial⟩ (Nat.le_of_ble_eq_true rfl) ?_
  refine c_unex (fun z => ?_)
  obtain ⟨v, m⟩ := z
  refine c_unpack ?_
  refine c_row1 (k := 1) rfl (fun ov => ?_)
  refine c_rowlen (k := 1) rfl (fun l63 => ?_)
  refine c_seq ?_
  refine c_region ?_
  refine r_val .none rfl (p_assign rfl) ?_
  refine r_val .none rfl (p_assign rfl) ?_
  refine r_nil ?_
  refine e_next ?_
  refine c_seq ?_
  refine c_seq ?_
  refine c_region ?_
  refine r_val .none rfl (p_move rfl) ?_
  refine r_val .none rfl (p_lt rfl rfl) ?_
  refine r_val .none rfl (p_move rfl) ?_
  refine' r_or (c := 8) (d := 16) [_, _, _, _, _, _, _, _] rfl (fun h_1 Q_2 hQ_3 => ?_) (fun h_1 Q_2 hQ_3 => ?_) ?_
  rotate_left 1
  · skip
    replace h_1 := of_decide_eq_false h_1
    refine r_val (.some rfl rfl) rfl (p_move rfl) ?_
    refine r_val (.some rfl rfl) rfl (p_move rfl) ?_
    refine r_val (.some rfl rfl) rfl (p_nilcheck rfl) ?_
    refine r_val (.some rfl rfl) rfl (p_field Try.underlying77 rfl sz54 rfl) ?_
    refine r_val (.some rfl rfl) rfl (p_ld (k := 0) Try.underlying54 rfl rfl rfl (by first | exact of_decide_eq_true rfl | omega) rfl) ?_
    refine r_val (.some rfl rfl) rfl (p_leno (k := 1) Try.underlying54 rfl rfl) ?_
    refine r_val (.some rfl rfl) rfl (p_gt rfl rfl) ?_
    refine r_val .none rfl (p_pick_f rfl rfl) ?_
    refine r_nil (e_fin (d := 16) hQ_3 rfl (by repeat (first | exact .refl | refine .put rfl ?_ | refine .say rfl ?_ | refine .say2 rfl (by first | assumption | simp_all) ?_)))
  · skip
    repeat (first | refine r_skip rfl (.no rfl rfl) ?_ | refine r_skip rfl (.un rfl rfl) ?_)
    refine r_val (by first | exact .none | exact .some rfl rfl) rfl (p_pick_t rfl rfl) ?_
    refine r_nil (e_fin (d := 16) hQ_3 rfl (by repeat (first | exact .refl | refine .put rfl ?_ | refine .say rfl ?_ | refine .say2 rfl (by first | assumption | simp_all) ?_)))
  refine r_nil ?_
  refine e_next ?_
  refine c_split (d := 16) rfl (fun h_5 => ?_) (fun h_5 => ?_)
  · skip
    try simp only [norms] at h_5
    first
      | (exfalso; omega)
      | (
        refine c_cond_t rfl ?_
        refine c_seq ?_
        refine c_region ?_
        refine r_val .none rfl (p_assign rfl) ?_
        refine r_val .none rfl (p_assign rfl) ?_
        refine r_nil ?_
        refine e_next ?_
        refine c_ret ?_
        refine e_ret_then ?_
        refine e_retn Try.results37 (.tmp rfl (.tmp rfl .nil)) rfl (fun w hm => ⟨?_, hm.kept [box p 2 77 (at_ [v, .map (some m)]), rowA v 9 1 (l).length ((l).flatMap sc), mapA m kS kI (ix (l) 0)] (.keep (fun _ _ h => h) (.keep (fun _ _ h => h) (.keep (fun _ _ h => h) (.nil)))) (tabA p (l)) (fun F' h => ⟨(_, m), h⟩)⟩)
        first
        | (rw [nameAt_no (by omega), decide_eq_false (by omega)] <;> rfl)
        | (rw [nameAt_yes (by omega), decide_eq_true (by omega)] <;> rfl)
        )
  · skip
    try simp only [norms] at h_5
    first
      | (exfalso; omega)
      | (
        refine c_cond_f rfl ?_
        refine c_skip ?_
        refine e_next ?_
        refine c_seq ?_
        refine c_region ?_
        refine r_val .none rfl (p_move rfl) ?_
        refine r_val .none rfl (p_nilcheck rfl) ?_
        refine r_val .none rfl (p_field Try.underlying77 rfl sz54 rfl) ?_
        refine r_val .none rfl (p_ld (k := 0) Try.underlying54 rfl rfl rfl (by first | exact of_decide_eq_true rfl | omega) rfl) ?_
        refine r_val .none rfl (p_move rfl) ?_
        refine r_val .none rfl (p_sub rfl rfl (by omega)) ?_
        obtain ⟨i, rfl⟩ : ∃ i : Nat, n = (i : Int) + 1 := ⟨(n - 1).toNat, by omega⟩
        refine r_say (d := 22) (v := Value.int .i64 (i : Nat)) (congrArg (fun x => some (Value.int .i64 x)) (by omega)) ?_
        refine r_iaddr_o (k := 1) .none rfl Try.underlying54 sz9 rfl rfl rfl (by first | exact of_decide_eq_true rfl | omega) (fun p_6 c_7 hv_8 => ?_)
        refine r_val .none rfl (p_ldo0 (k := 1) Try.underlying9 rfl rfl hv_8 rfl (by first | exact of_decide_eq_true rfl | omega) (by first | exact of_decide_eq_true rfl | omega) ((flatMap_get (cells := sc) (fun _ => rfl) ByteArray.empty _ _ _ (by first | exact of_decide_eq_true rfl | omega) (by first | exact of_decide_eq_true rfl | omega)).trans (rfl : _ = Value.string _))) ?_
        refine r_val .none rfl (p_assign rfl) ?_
        refine r_val .none rfl (p_assign rfl) ?_
        refine r_nil ?_
        refine e_next ?_
        refine c_ret ?_
        refine e_retn Try.results37 (.tmp rfl (.tmp rfl .nil)) rfl (fun w hm => ⟨?_, hm.kept [box p 2 77 (at_ [v, .map (some m)]), rowA v 9 1 (l).length ((l).flatMap sc), mapA m kS kI (ix (l) 0)] (.keep (fun _ _ h => h) (.keep (fun _ _ h => h) (.keep (fun _ _ h => h) (.nil)))) (tabA p (l)) (fun F' h => ⟨(_, m), h⟩)⟩)
        first
        | (rw [nameAt_no (by omega), decide_eq_false (by omega)] <;> rfl)
        | (rw [nameAt_yes (by omega), decide_eq_true (by omega)] <;> rfl)
        )
theorem c_tnew {G : Ghost}  (w : World) (hG : Has G w) :
    Calls Try.prog 26 #[] w (Ret fun r w' => ∃ p, r = Value.pointer (some ⟨p, 0, none⟩) ∧ Since nX w w' ∧ ∃ F', (tabA p []).holds w' F' ∧ ∀ b, F' b → w.heap.size ≤ b) := by
  refine enter (args := []) (X := nX) (G := G) (l := []) Try.func26 rfl Try.ntmps26 hG trivial (Nat.le_of_ble_eq_true rfl) ?_
  refine c_seq ?_
  refine c_region ?_
  refine r_val .none rfl (p_assign rfl) ?_
  refine r_nil ?_
  refine e_next ?_
  refine c_seq ?_
  refine c_region ?_
  refine r_makemap .none rfl kS kI (fun m_1 => ?_)
  refine r_val .none rfl (p_build (vs := [(1, Value.map _)]) rfl (bl77_1m1 _)) ?_
  refine r_box .none rfl rfl (IsRow.lit _) (fun b_1 => ?_)
  refine r_val .none rfl (p_assign rfl) ?_
  refine r_nil ?_
  refine e_next ?_
  refine c_ret ?_
  refine e_nilrow 1 9 1 ?_
  refine e_ret1 Try.results26 (.tmp rfl .nil) (fun w hm => ⟨_, rfl, hm.made [box b_1 2 77 (at_ [.slice none 0 0, .map (some m_1)]), rowA (.slice none 0 0) 9 1 0 [], mapA m_1 kS kI []] ?_ (tabA _ []) (fun F' h => ⟨(.slice none 0 0, m_1), h⟩)⟩)
  exact .keep (fun _ _ h => box_congr (fun i hi => by match i, hi with | 0, _ => rfl | 1, _ => rfl) _ _ h) (.keep (fun _ _ h => h) (.keep (fun _ _ h => h) .nil))
theorem c_rfind (v : Value) (s : ByteArray) (l : List ByteArray) {G : Ghost} (hs : SlL G v 1 sc .empty l) (w : World) (hG : Has G w) :
    Calls Try.prog 35 #[v, Value.string s] w (Ret fun r w' => r = Value.int .i64 (fnd l s 0 : Nat) ∧ Since nX w w') := by
  refine enter (args := [_, _]) (X := nX) (G := G) (l := [(0, v), (1, Value.string s)]) Try.func35 rfl Try.ntmps35 hG ⟨rfl, rfl, trivial⟩ (Nat.le_of_ble_eq_true rfl) ?_
  refine c_seq ?_
  refine c_region ?_
  refine r_val .none rfl (p_assign rfl) ?_
  refine r_nil ?_
  refine e_next ?_
  refine c_seq ?_
  refine c_seq ?_
  refine c_region ?_
  refine r_val .none rfl (p_move rfl) ?_
  refine r_val .none rfl (p_leng Try.underlying54 rfl hs) ?_
  have bd_1 := (hs).bound
  refine r_val .none rfl (p_move rfl) ?_
  refine r_nil ?_
  refine e_next ?_
  refine c_block ?_
  refine c_name (d := 1) rfl (fun u_2 hu_2 => ?_)
  refine c_name (d := 7) rfl (fun u_3 hu_3 => ?_)
  refine c_name (d := 8) rfl (fun u_4 hu_4 => ?_)
  refine c_loop (σ := Nat) (fun k => [(9, Value.int .i64 (k : Int)), (1, u_2), (7, u_3), (8, u_4)]) (fun k => []) (fun _ => _) (fun k => k ≤ l.length ∧ fnd (l.drop k) s k = fnd l s 0) (fun k => l.length - k) (0) ⟨Nat.zero_le _, rfl⟩ rfl ⟨rfl, rfl, rfl, rfl, trivial⟩ (.nil) (fun k hphi => ?_)
  subst hu_2
  subst hu_3
  subst hu_4
  refine c_seq ?_
  refine c_region ?_
  refine r_val .none rfl (p_lt rfl rfl) ?_
  refine r_nil ?_
  refine e_next ?_
  refine c_seq ?_
  refine c_splitd (d := 10) rfl (fun h_5 => ?_) (fun h_5 => ?_)
  · skip
    first
      | (exfalso; omega)
      | (
        refine c_cond_t rfl ?_
        refine c_skip ?_
        refine e_next ?_
        refine c_seq ?_
        refine c_block ?_
        refine c_seq ?_
        refine c_region ?_
        refine r_val .none rfl (p_move rfl) ?_
        refine r_iaddr_g .none rfl Try.underlying54 sz9 rfl hs rfl (by first | exact of_decide_eq_true rfl | omega) (fun p_7 o_8 R_6 => ?_)
        refine r_val .none rfl (p_ldg0 Try.underlying9 rfl rfl R_6 (by first | exact of_decide_eq_true rfl | omega) (rfl : _ = Value.string _)) ?_
        refine r_val .none rfl (p_assign rfl) ?_
        refine r_val .none rfl (p_assign rfl) ?_
        refine r_nil ?_
        refine e_next ?_
        refine c_seq ?_
        refine c_region ?_
        refine r_val .none rfl (p_move rfl) ?_
        refine r_val .none rfl (p_move rfl) ?_
        refine r_val .none rfl (p_eqs rfl rfl) ?_
        refine r_nil ?_
        refine e_next ?_
        refine c_splitd (d := 16) rfl (fun h_9 => ?_) (fun h_9 => ?_)
        · skip
          first
            | (exfalso; omega)
            | (
              refine c_cond_t rfl ?_
              refine c_seq ?_
              refine c_region ?_
              refine r_val .none rfl (p_move rfl) ?_
              refine r_val .none rfl (p_add rfl rfl (by omega)) ?_
              refine r_val .none rfl (p_assign rfl) ?_
              refine r_nil ?_
              refine e_next ?_
              refine c_ret ?_
              refine e_ret_block ?_
              refine e_ret_then ?_
              refine e_ret_then ?_
              refine e_ret_block ?_
              refine e_ret_then ?_
              refine e_ret1 Try.results35 (.tmp rfl .nil) (fun w hm => ⟨?_, hm.since⟩)
              first
              | (rw [← hphi.2, fnd_drop (k := k) (e := .empty) (by omega), if_pos ‹l.getD k .empty = s›]; rfl)
              | (rw [← hphi.2, List.drop_eq_nil_of_le (by omega)]; rfl)
              )
        · skip
          first
            | (exfalso; omega)
            | (
              refine c_cond_f rfl ?_
              refine c_skip ?_
              refine e_norm_block ?_
              refine e_next ?_
              refine c_region ?_
              refine r_val .none rfl (p_add rfl rfl (by omega)) ?_
              refine r_val .none rfl (p_move rfl) ?_
              refine r_nil ?_
              refine e_round (k + 1) ⟨⟨by omega, by rw [← hphi.2, fnd_drop (k := k) (e := .empty) (by omega), if_neg ‹¬ l.getD k .empty = s›]⟩, by omega⟩ rfl ⟨rfl, rfl, rfl, rfl, trivial⟩ (.nil)
              )
        )
  · skip
    first
      | (exfalso; omega)
      | (
        refine c_cond_f rfl ?_
        refine c_exit ?_
        refine e_exit_then ?_
        refine e_exit_then ?_
        refine e_exit_block ?_
        refine e_next ?_
        refine c_seq ?_
        refine c_region ?_
        refine r_val .none rfl (p_assign rfl) ?_
        refine r_nil ?_
        refine e_next ?_
        refine c_ret ?_
        refine e_ret1 Try.results35 (.tmp rfl .nil) (fun w hm => ⟨?_, hm.since⟩)
        first
        | (rw [← hphi.2, fnd_drop (k := k) (e := .empty) (by omega), if_pos ‹l.getD k .empty = s›]; rfl)
        | (rw [← hphi.2, List.drop_eq_nil_of_le (by omega)]; rfl)
        )
theorem c_rintern (v : Value) (s : ByteArray) (l : List ByteArray) {G : Ghost} (hs : SlL G v 1 sc .empty l) (w : World) (hG : Has G w) :
    Calls Try.prog 36 #[v, Value.string s] w (Ret fun r w' => ∃ G', GNew w nX G G' ∧ Has G' w' ∧ (∃ u, r = .tuple #[u, .int .i64 ((intern l s).2.1 : Nat), .int .i64 ((intern l s).2.2 : Nat)] ∧ SlL G' u 1 sc .empty (intern l s).1) ∧ Since nX w w') := by
  refine enter (args := [_, _]) (X := nX) (G := G) (l := [(0, v), (1, Value.string s)]) Try.func36 rfl Try.ntmps36 hG ⟨rfl, rfl, trivial⟩ (Nat.le_of_ble_eq_true rfl) ?_
  refine c_seq ?_
  refine c_region ?_
  refine r_val .none rfl (p_assign rfl) ?_
  refine r_val .none rfl (p_assign rfl) ?_
  refine r_val .none rfl (p_assign rfl) ?_
  refine r_nil ?_
  refine e_next ?_
  refine c_seq ?_
  refine c_seq ?_
  refine c_region ?_
  refine r_val .none rfl (p_move rfl) ?_
  refine r_call (vs := [_]) .none rfl cl20 rfl (fun w hw => c_rsymRight _ w) ?_
  refine r_val .none rfl (p_not rfl) ?_
  refine r_nil ?_
  refine e_next ?_
  refine c_splitn (d := 11) rfl (fun h_1 => ?_) (fun h_1 => ?_)
  · skip
    first
      | (exfalso; omega)
      | (
        refine c_cond_t rfl ?_
        refine c_seq ?_
        refine c_region ?_
        refine r_val .none rfl (p_move rfl) ?_
        refine r_val .none rfl (p_assign rfl) ?_
        refine r_val .none rfl (p_assign rfl) ?_
        refine r_val .none rfl (p_assign rfl) ?_
        refine r_nil ?_
        refine e_next ?_
        refine c_ret ?_
        refine e_ret_then ?_
        refine e_retn Try.results36 (.tmp rfl (.tmp rfl (.tmp rfl .nil))) rfl (fun w hm => ⟨_, (GNew.refl _ _ _), hm.has, ?_, hm.since⟩)
        rw [intern_1 ‹_›]
        exact ⟨_, rfl, hs⟩
        )
  · skip
    first
      | (exfalso; omega)
      | (
        refine c_cond_f rfl ?_
        refine c_skip ?_
        refine e_next ?_
        refine c_seq ?_
        refine c_seq ?_
        refine c_region ?_
        refine r_val .none rfl (p_move rfl) ?_
        refine r_val .none rfl (p_move rfl) ?_
        refine r_call (vs := [_, _]) .none rfl cl35 rfl (fun w hw => c_rfind _ _ _ hs w hw) ?_
        refine r_val .none rfl (p_assign rfl) ?_
        refine r_nil ?_
        refine e_next ?_
        refine c_seq ?_
        refine c_region ?_
        refine r_val .none rfl (p_move rfl) ?_
        refine r_val .none rfl (p_gt rfl rfl) ?_
        refine r_nil ?_
        refine e_next ?_
        refine c_splitd (d := 17) rfl (fun h_2 => ?_) (fun h_2 => ?_)
        · skip
          first
            | (exfalso; omega)
            | (
              refine c_cond_t rfl ?_
              refine c_seq ?_
              refine c_region ?_
              refine r_val .none rfl (p_move rfl) ?_
              refine r_val .none rfl (p_move rfl) ?_
              refine r_val .none rfl (p_assign rfl) ?_
              refine r_val .none rfl (p_assign rfl) ?_
              refine r_val .none rfl (p_assign rfl) ?_
              refine r_nil ?_
              refine e_next ?_
              refine c_ret ?_
              refine e_ret_then ?_
              refine e_retn Try.results36 (.tmp rfl (.tmp rfl (.tmp rfl .nil))) rfl (fun w hm => ⟨_, (GNew.refl _ _ _), hm.has, ?_, hm.since⟩)
              rw [intern_2 ‹_› (by omega)]
              exact ⟨_, rfl, hs⟩
              )
        · skip
          first
            | (exfalso; omega)
            | (
              refine c_cond_f rfl ?_
              refine c_skip ?_
              refine e_next ?_
              refine c_seq ?_
              refine c_seq ?_
              refine c_region ?_
              refine r_val .none rfl (p_move rfl) ?_
              refine r_val .none rfl (p_leng Try.underlying54 rfl hs) ?_
              have bd_3 := (hs).bound
              refine r_val .none rfl (p_ge rfl rfl) ?_
              refine r_nil ?_
              refine e_next ?_
              refine c_splitd (d := 22) rfl (fun h_4 => ?_) (fun h_4 => ?_)
              · skip
                first
                  | (exfalso; omega)
                  | (
                    refine c_cond_t rfl ?_
                    refine c_seq ?_
                    refine c_region ?_
                    refine r_val .none rfl (p_move rfl) ?_
                    refine r_val .none rfl (p_assign rfl) ?_
                    refine r_val .none rfl (p_assign rfl) ?_
                    refine r_val .none rfl (p_assign rfl) ?_
                    refine r_nil ?_
                    refine e_next ?_
                    refine c_ret ?_
                    refine e_ret_then ?_
                    refine e_retn Try.results36 (.tmp rfl (.tmp rfl (.tmp rfl .nil))) rfl (fun w hm => ⟨_, (GNew.refl _ _ _), hm.has, ?_, hm.since⟩)
                    rw [intern_3 ‹_› (by omega) (by omega)]
                    exact ⟨_, rfl, hs⟩
                    )
              · skip
                first
                  | (exfalso; omega)
                  | (
                    refine c_cond_f rfl ?_
                    refine c_skip ?_
                    refine e_next ?_
                    refine c_seq ?_
                    refine c_region ?_
                    refine r_val .none rfl (p_assign rfl) ?_
                    refine r_nil ?_
                    refine e_next ?_
                    refine c_seq ?_
                    refine c_region ?_
                    refine r_val .none rfl (p_move rfl) ?_
                    refine r_val .none rfl (p_move rfl) ?_
                    refine r_nilrow 9 1 ?_
                    refine r_append_g (k := 0) .none rfl Try.underlying54 el9 rfl (by decide) rfl rfl rfl hs (fun _ _ _ hj => one_lit rfl rfl _ hj) (by simp only [maxLen]; omega) (by omega) (fun v_5 => ?_)
                    refine r_row1 (k := 0) rfl (fun o_6 => ?_)
                    refine r_val .none rfl (p_assign rfl) ?_
                    refine r_nil ?_
                    refine e_next ?_
                    refine c_seq ?_
                    refine c_region ?_
                    refine r_val .none rfl (p_move rfl) ?_
                    refine r_val .none rfl (p_move rfl) ?_
                    refine r_bslice (vs := [(0, Value.string _)]) (c := #[_]) .none rfl Try.underlying54 el9 rfl rfl rfl (bs9_10s1 _) (IsRow.lit _) (fun b_1 => ?_)
                    refine r_append (k := 1) (k2 := 0) .none rfl Try.underlying54 el9 rfl (by decide) rfl rfl rfl rfl rfl (one_lit rfl rfl) (by simp only [maxLen]; omega) (by omega) (fun v_7 => ?_)
                    refine r_row1 (k := 1) rfl (fun o_8 => ?_)
                    refine r_val .none rfl (p_assign rfl) ?_
                    refine r_nil ?_
                    refine e_next ?_
                    refine c_seq ?_
                    refine c_region ?_
                    refine r_val .none rfl (p_move rfl) ?_
                    refine r_val .none rfl (p_move rfl) ?_
                    refine r_val .none rfl (p_leno (k := 1) Try.underlying54 rfl rfl) ?_
                    refine r_val .none rfl (p_assign rfl) ?_
                    refine r_val .none rfl (p_assign rfl) ?_
                    refine r_val .none rfl (p_assign rfl) ?_
                    refine r_nil ?_
                    refine e_next ?_
                    refine c_ret ?_
                    refine e_freeze (k := 1) rfl (fun G_9 hn_10 hs_11 => ?_)
                    replace hs := hs.mono hn_10.le
                    refine e_retn Try.results36 (.tmp rfl (.tmp rfl (.tmp rfl .nil))) rfl (fun w hm => ⟨_, hn_10, hm.has, ?_, hm.since⟩)
                    rw [intern_4 ‹_› (by omega) (by omega)]
                    refine ⟨_, ?_, SlL.of2 ByteArray.empty (fun _ => rfl) (by simp) (by rw [List.nil_append, flat_all (cells := sc) (fun _ => rfl)]; simp [row, at_, sc]) hs_11⟩
                    rw [Nat.zero_add] <;> rfl
                    )
              )
        )
end Go.Proofs.Ytjgdkahblhpinaa
