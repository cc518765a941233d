/- Walks: what Go functions of this chapter come to, each as a function on plain data; no condition but those that each theorem names. Printed by a program of this work (gen.py). -/
import Derived.Test.YtpcpbfajadgmpaaW04
import Derived.Test.YtpcpbfajadgmpaaRows
namespace Go.Proofs.Ytpcpbfajadgmpaa
open Go.Gx Go.Gx.T3 Go.Gx.T4 Go.Gx.T3
theorem zr3 : ZeroIs Try.prog 3 (Value.int .i64 0) := by
  unfold ZeroIs
  kernel_rfl
theorem cl34 : Callable Try.prog 34 := callable Try.func34 (by kernel_rfl) rfl
def SmallIs (n : Nat) : Prop := ∀ (c : CT) (sv : Value) (deep m x : Int) (p : Nat) (G : Ghost) (F : Nat → Prop) (w : World), SizeOf.sizeOf c ≤ n → 0 ≤ x ∧ x ≤ m ∧ m ≤ 1000 ∧ deep ≤ 5 ∧ -1 ≤ deep → Cs G sv c.subs → Has G w → (cntA 3 p x).holds w F → (∀ b, F b → G b = none) → Calls Try.prog 34 #[Value.agg #[Value.int .i64 c.h.k, Value.bool c.h.v0, Value.int .i64 c.h.n0, Value.bool c.h.v1, Value.int .i64 c.h.n1, Value.bool c.h.v2, Value.int .i64 c.h.n2, sv], Value.int .i64 deep, Value.int .i64 m, Value.pointer (some ⟨p, 0, none⟩)] w (Ret fun r w' => r = Value.bool (small m c deep x).1 ∧ Kept (cntA 3 p (small m c deep x).2) F w w')
theorem c_small_s (n : Nat) (ih : SmallIs n) (c : CT) (sv : Value) (deep m x : Int) (p : Nat) {F : Nat → Prop} {G : Ghost} (hz : SizeOf.sizeOf c ≤ n + 1) (hb : 0 ≤ x ∧ x ≤ m ∧ m ≤ 1000 ∧ deep ≤ 5 ∧ -1 ≤ deep) (hs : Cs G sv c.subs) (w : World) (hG : Has G w) (hA : (cntA 3 p x).holds w F) (hFG : ∀ b, F b → G b = none) :
    Calls Try.prog 34 #[Value.agg #[Value.int .i64 c.h.k, Value.bool c.h.v0, Value.int .i64 c.h.n0, Value.bool c.h.v1, Value.int .i64 c.h.n1, Value.bool c.h.v2, Value.int .i64 c.h.n2, sv], Value.int .i64 deep, Value.int .i64 m, Value.pointer (some ⟨p, 0, none⟩)] w (Ret fun r w' => r = Value.bool (small m c deep x).1 ∧ Kept (cntA 3 p (small m c deep x).2) F w w') := by
  refine enterO (args := [_, _, _, _]) (G := G) (A := cntA 3 p x) (l := [(0, Value.agg #[Value.int .i64 c.h.k, Value.bool c.h.v0, Value.int .i64 c.h.n0, Value.bool c.h.v1, Value.int .i64 c.h.n1, Value.bool c.h.v2, Value.int .i64 c.h.n2, sv]), (1, Value.int .i64 deep), (2, Value.int .i64 m), (3, Value.pointer (some ⟨p, 0, none⟩))]) Try.func34 rfl Try.ntmps34 hG hA hFG ⟨rfl, rfl, rfl, rfl, trivial⟩ (Nat.le_of_ble_eq_true rfl) ?_
  obtain ⟨rs, hr, hp, hl⟩ := hs.inv
  have hlen : c.subs.length = rs.length := by rw [hl]; simp
  have hbd := hr.bound
  refine c_seq ?_
  refine c_region ?_
  refine r_box .none rfl rfl (IsRow.lit _) (fun b_1 => ?_)
  refine r_val .none rfl (p_assign rfl) ?_
  refine r_nil ?_
  refine e_next ?_
  refine c_seq ?_
  refine c_seq ?_
  refine c_region ?_
  refine r_val .none rfl (p_move rfl) ?_
  refine r_val .none rfl (p_nilcheck rfl) ?_
  refine r_val .none rfl (p_ld (k := 1) Try.underlying3 rfl rfl rfl (by first | exact of_decide_eq_true rfl | omega) (rfl : _ = Value.int _ _)) ?_
  refine r_val .none rfl (p_add rfl rfl (by omega)) ?_
  refine r_val .none rfl (p_nilcheck rfl) ?_
  refine r_st (k := 1) .none sz3 rfl rfl rfl rfl (by first | exact of_decide_eq_true rfl | omega) ?_
  refine r_nil ?_
  refine e_next ?_
  refine c_seq ?_
  refine c_region ?_
  refine r_val .none rfl (p_move rfl) ?_
  refine r_val .none rfl (p_nilcheck rfl) ?_
  refine r_val .none rfl (p_ld (k := 1) Try.underlying3 rfl rfl rfl (by first | exact of_decide_eq_true rfl | omega) (rfl : _ = Value.int _ _)) ?_
  refine r_val .none rfl (p_move rfl) ?_
  refine r_val .none rfl (p_gt rfl rfl) ?_
  refine r_val .none rfl (p_move rfl) ?_
  refine' r_or (c := 21) (d := 24) [_, _, _] rfl (fun h_1 Q_2 hQ_3 => ?_) (fun h_1 Q_2 hQ_3 => ?_) ?_
  rotate_left 1
  · skip
    replace h_1 := of_decide_eq_false h_1
    refine r_val (.some rfl rfl) rfl (p_move rfl) ?_
    refine r_val (.some rfl rfl) rfl (p_lt rfl rfl) ?_
    refine r_val .none rfl (p_pick_f rfl rfl) ?_
    refine r_nil (e_fin (d := 24) hQ_3 rfl (by repeat (first | exact .refl | refine .put rfl ?_ | refine .say rfl ?_ | refine .say2 rfl (by first | assumption | simp_all) ?_)))
  · skip
    repeat (first | refine r_skip rfl (.no rfl rfl) ?_ | refine r_skip rfl (.un rfl rfl) ?_)
    refine r_val (by first | exact .none | exact .some rfl rfl) rfl (p_pick_t rfl rfl) ?_
    refine r_nil (e_fin (d := 24) hQ_3 rfl (by repeat (first | exact .refl | refine .put rfl ?_ | refine .say rfl ?_ | refine .say2 rfl (by first | assumption | simp_all) ?_)))
  refine r_nil ?_
  refine e_next ?_
  refine c_split (d := 24) rfl (fun h_5 => ?_) (fun h_5 => ?_)
  · skip
    try simp only [norms] at h_5
    first
      | (exfalso; omega)
      | (
        refine c_cond_t rfl ?_
        refine c_seq ?_
        refine c_region ?_
        refine r_val .none rfl (p_assign rfl) ?_
        refine r_nil ?_
        refine e_next ?_
        refine c_ret ?_
        refine e_ret_then ?_
        refine e_ret1 Try.results34 (.tmp rfl .nil) (fun w hm => ?_)
        first
        | (have he : small m c deep x = (false, x + 1) := (by rw [small_eq, if_pos (by omega)]); have he2 := congrArg Prod.snd he; refine ⟨?_, hm.kept [cntA 3 p ((small m c deep x).2)] (.drop (.keep (fun _ _ h => by first | exact h | (have e : (small m c deep x).2 = _ := he2; rw [e]; exact box_congr (fun i hi => by match i, hi with | 0, _ => rfl) _ _ h)) (.nil))) (cntA 3 p ((small m c deep x).2)) (fun F' h => starL_one h)⟩; rw [he]; done)
        | (have he : small m c deep x = (false, (small m (rs.getD k d0).1 (deep - 1) t).2) := (by rw [small_eq, if_neg (by omega), ← hs3, map_drop (i := k) (d := d0) (by omega), smallL_no hE]); have he2 := congrArg Prod.snd he; refine ⟨?_, hm.kept [cntA 3 p ((small m c deep x).2)] (.drop (.keep (fun _ _ h => by first | exact h | (have e : (small m c deep x).2 = _ := he2; rw [e]; exact box_congr (fun i hi => by match i, hi with | 0, _ => rfl) _ _ h)) (.nil))) (cntA 3 p ((small m c deep x).2)) (fun F' h => starL_one h)⟩; rw [he]; done)
        | (have he : small m c deep x = (true, t) := (by rw [small_eq, if_neg (by omega), ← hs3, List.drop_eq_nil_of_le (by simp; omega), smallL]); have he2 := congrArg Prod.snd he; refine ⟨?_, hm.kept [cntA 3 p ((small m c deep x).2)] (.drop (.keep (fun _ _ h => by first | exact h | (have e : (small m c deep x).2 = _ := he2; rw [e]; exact box_congr (fun i hi => by match i, hi with | 0, _ => rfl) _ _ h)) (.nil))) (cntA 3 p ((small m c deep x).2)) (fun F' h => starL_one h)⟩; rw [he]; done)
        )
  · skip
    try simp only [norms] at h_5
    first
      | (exfalso; omega)
      | (
        refine c_cond_f rfl ?_
        refine c_skip ?_
        refine e_next ?_
        refine c_seq ?_
        refine c_seq ?_
        refine c_region ?_
        refine r_val .none rfl (p_field Try.underlying27 rfl sz25 rfl) ?_
        refine r_val .none rfl (p_ld (k := 0) Try.underlying25 rfl rfl rfl (by first | exact of_decide_eq_true rfl | omega) rfl) ?_
        refine r_val .none rfl (p_leng Try.underlying25 rfl hr) ?_
        have bd_6 := (hr).bound
        refine r_val .none rfl (p_move rfl) ?_
        refine r_nil ?_
        refine e_next ?_
        refine c_block ?_
        refine c_name (d := 1) rfl (fun u_7 hu_7 => ?_)
        refine c_name (d := 2) rfl (fun u_8 hu_8 => ?_)
        refine c_name (d := 3) rfl (fun u_9 hu_9 => ?_)
        refine c_name (d := 26) rfl (fun u_10 hu_10 => ?_)
        refine c_name (d := 27) rfl (fun u_11 hu_11 => ?_)
        refine c_nameL (k := 0) rfl (fun A_12 hA_12 => ?_)
        refine c_loop (σ := Nat × Int) (fun s => [(28, Value.int .i64 (s.1 : Nat)), (1, u_7), (2, u_8), (3, u_9), (26, u_10), (27, u_11)]) (fun s => [A_12, box p 1 3 (at_ [.int .i64 s.2])]) (fun _ => _) (fun s => s.1 ≤ rs.length ∧ (0 ≤ s.2 ∧ s.2 ≤ m) ∧ smallL m ((rs.map Prod.fst).drop s.1) (deep - 1) s.2 = smallL m c.subs (deep - 1) (x + 1)) (fun s => rs.length - s.1) ((0, x + 1)) ⟨Nat.zero_le _, by dsimp only; omega, by rw [hl]; rfl⟩ rfl ⟨rfl, rfl, rfl, rfl, rfl, rfl, trivial⟩ (.keep (fun _ _ h => h) (.keep (fun _ _ h => box_congr (fun i hi => by match i, hi with | 0, _ => rfl) _ _ h) (.nil))) (fun s hphi => ?_)
        subst hu_7
        subst hu_8
        subst hu_9
        subst hu_10
        subst hu_11
        subst hA_12
        obtain ⟨k, t⟩ := s
        obtain ⟨hk, ht, hs3⟩ := hphi
        dsimp only at hk ht hs3 ⊢
        refine c_seq ?_
        refine c_region ?_
        refine r_val .none rfl (p_lt rfl rfl) ?_
        refine r_nil ?_
        refine e_next ?_
        refine c_seq ?_
        refine c_splitd (d := 29) rfl (fun h_13 => ?_) (fun h_13 => ?_)
        · skip
          first
            | (exfalso; omega)
            | (
              refine c_cond_t rfl ?_
              refine c_skip ?_
              refine e_next ?_
              refine c_seq ?_
              refine c_block ?_
              refine c_seq ?_
              refine c_region ?_
              refine r_iaddr_g .none rfl Try.underlying25 sz27 rfl hr rfl (by first | exact of_decide_eq_true rfl | omega) (fun p_15 o_16 R_14 => ?_)
              have hc_17 := hp _ (getD_mem (i := k) (d := d0) (by omega))
              refine r_val .none rfl (p_ldga0 Try.underlying27 rfl sz27 rfl R_14 (by first | exact of_decide_eq_true rfl | omega) (rfl : _ = Value.agg #[_, _, _, _, _, _, _, _])) ?_
              refine r_alloc .none rfl zr27 (IsRow.lit _) (fun b_2 => ?_)
              refine r_stw (k := 0) .none sz27 rfl rfl (IsRow.lit _) (one_lit rfl (all_cons rfl (all_cons rfl (all_cons rfl (all_cons rfl (all_cons rfl (all_cons rfl (all_cons rfl (all_cons (hc_17).one rfl))))))))) rfl ?_
              refine r_nil ?_
              refine e_next ?_
              refine c_seq ?_
              refine c_region ?_
              refine r_val .none rfl (p_ldw (k := 0) Try.underlying27 rfl sz27 rfl rfl (rfl : _ = Value.agg #[_, _, _, _, _, _, _, _])) ?_
              refine r_val .none rfl (p_move rfl) ?_
              refine r_val .none rfl (p_sub rfl rfl (by omega)) ?_
              refine r_val .none rfl (p_move rfl) ?_
              refine r_val .none rfl (p_move rfl) ?_
              refine r_callo (k := 2) (vs := [_, _, _, _]) .none rfl cl34 rfl rfl (fun w F hw hA hFG => ih (rs.getD k d0).1 _ _ _ _ _ _ _ w (size_at hl (by omega) hz) (by omega) hc_17 hw hA hFG) ?_
              refine r_val .none rfl (p_not rfl) ?_
              refine r_nil ?_
              refine e_next ?_
              refine c_splitn (d := 38) rfl (fun h_18 => ?_) (fun h_18 => ?_)
              · skip
                have hE := h_18
                first
                  | (exfalso; omega)
                  | (
                    refine c_cond_t rfl ?_
                    refine c_seq ?_
                    refine c_region ?_
                    refine r_val .none rfl (p_assign rfl) ?_
                    refine r_nil ?_
                    refine e_next ?_
                    refine c_ret ?_
                    refine e_ret_block ?_
                    refine e_ret_then ?_
                    refine e_ret_then ?_
                    refine e_ret_block ?_
                    refine e_ret_then ?_
                    refine e_ret1 Try.results34 (.tmp rfl .nil) (fun w hm => ?_)
                    first
                    | (have he : small m c deep x = (false, x + 1) := (by rw [small_eq, if_pos (by omega)]); have he2 := congrArg Prod.snd he; refine ⟨?_, hm.kept [cntA 3 p ((small m c deep x).2)] (.drop (.drop (.keep (fun _ _ h => by first | exact h | (have e : (small m c deep x).2 = _ := he2; rw [e]; exact box_congr (fun i hi => by match i, hi with | 0, _ => rfl) _ _ h)) (.nil)))) (cntA 3 p ((small m c deep x).2)) (fun F' h => starL_one h)⟩; rw [he]; done)
                    | (have he : small m c deep x = (false, (small m (rs.getD k d0).1 (deep - 1) t).2) := (by rw [small_eq, if_neg (by omega), ← hs3, map_drop (i := k) (d := d0) (by omega), smallL_no hE]); have he2 := congrArg Prod.snd he; refine ⟨?_, hm.kept [cntA 3 p ((small m c deep x).2)] (.drop (.drop (.keep (fun _ _ h => by first | exact h | (have e : (small m c deep x).2 = _ := he2; rw [e]; exact box_congr (fun i hi => by match i, hi with | 0, _ => rfl) _ _ h)) (.nil)))) (cntA 3 p ((small m c deep x).2)) (fun F' h => starL_one h)⟩; rw [he]; done)
                    | (have he : small m c deep x = (true, t) := (by rw [small_eq, if_neg (by omega), ← hs3, List.drop_eq_nil_of_le (by simp; omega), smallL]); have he2 := congrArg Prod.snd he; refine ⟨?_, hm.kept [cntA 3 p ((small m c deep x).2)] (.drop (.drop (.keep (fun _ _ h => by first | exact h | (have e : (small m c deep x).2 = _ := he2; rw [e]; exact box_congr (fun i hi => by match i, hi with | 0, _ => rfl) _ _ h)) (.nil)))) (cntA 3 p ((small m c deep x).2)) (fun F' h => starL_one h)⟩; rw [he]; done)
                    )
              · skip
                have hE := h_18
                first
                  | (exfalso; omega)
                  | (
                    refine c_cond_f rfl ?_
                    refine c_skip ?_
                    refine e_norm_block ?_
                    refine e_next ?_
                    refine c_region ?_
                    refine r_val .none rfl (p_add rfl rfl (by omega)) ?_
                    refine r_val .none rfl (p_move rfl) ?_
                    refine r_nil ?_
                    refine e_round ((k + 1, (small m (rs.getD k d0).1 (deep - 1) t).2)) ⟨⟨by dsimp only; omega, by have := small_lt m (rs.getD k d0).1 (deep - 1) t ht.1 ht.2; exact ⟨by dsimp only; omega, this.2.2 hE⟩, by rw [← hs3, map_drop (i := k) (d := d0) (by omega), smallL_yes hE]⟩, by dsimp only; omega⟩ rfl ⟨rfl, rfl, rfl, rfl, rfl, rfl, trivial⟩ (.drop (.keep (fun _ _ h => h) (.keep (fun _ _ h => h) (.nil))))
                    )
              )
        · skip
          first
            | (exfalso; omega)
            | (
              refine c_cond_f rfl ?_
              refine c_exit ?_
              refine e_exit_then ?_
              refine e_exit_then ?_
              refine e_exit_block ?_
              refine e_next ?_
              refine c_seq ?_
              refine c_region ?_
              refine r_val .none rfl (p_assign rfl) ?_
              refine r_nil ?_
              refine e_next ?_
              refine c_ret ?_
              refine e_ret1 Try.results34 (.tmp rfl .nil) (fun w hm => ?_)
              first
              | (have he : small m c deep x = (false, x + 1) := (by rw [small_eq, if_pos (by omega)]); have he2 := congrArg Prod.snd he; refine ⟨?_, hm.kept [cntA 3 p ((small m c deep x).2)] (.drop (.keep (fun _ _ h => by first | exact h | (have e : (small m c deep x).2 = _ := he2; rw [e]; exact box_congr (fun i hi => by match i, hi with | 0, _ => rfl) _ _ h)) (.nil))) (cntA 3 p ((small m c deep x).2)) (fun F' h => starL_one h)⟩; rw [he]; done)
              | (have he : small m c deep x = (false, (small m (rs.getD k d0).1 (deep - 1) t).2) := (by rw [small_eq, if_neg (by omega), ← hs3, map_drop (i := k) (d := d0) (by omega), smallL_no hE]); have he2 := congrArg Prod.snd he; refine ⟨?_, hm.kept [cntA 3 p ((small m c deep x).2)] (.drop (.keep (fun _ _ h => by first | exact h | (have e : (small m c deep x).2 = _ := he2; rw [e]; exact box_congr (fun i hi => by match i, hi with | 0, _ => rfl) _ _ h)) (.nil))) (cntA 3 p ((small m c deep x).2)) (fun F' h => starL_one h)⟩; rw [he]; done)
              | (have he : small m c deep x = (true, t) := (by rw [small_eq, if_neg (by omega), ← hs3, List.drop_eq_nil_of_le (by simp; omega), smallL]); have he2 := congrArg Prod.snd he; refine ⟨?_, hm.kept [cntA 3 p ((small m c deep x).2)] (.drop (.keep (fun _ _ h => by first | exact h | (have e : (small m c deep x).2 = _ := he2; rw [e]; exact box_congr (fun i hi => by match i, hi with | 0, _ => rfl) _ _ h)) (.nil))) (cntA 3 p ((small m c deep x).2)) (fun F' h => starL_one h)⟩; rw [he]; done)
              )
        )
theorem c_small_n : ∀ n, SmallIs n
  | 0 => fun c sv deep m x p G F w hz hb hs hG hA hFG => absurd hz (by have := size_subs c; omega)
  | n + 1 => fun c sv deep m x p G F w hz hb hs hG hA hFG => c_small_s n (c_small_n n) c sv deep m x p hz hb hs w hG hA hFG
theorem c_small (c : CT) (sv : Value) (deep m x : Int) (p : Nat) {G : Ghost} {F : Nat → Prop} (hb : 0 ≤ x ∧ x ≤ m ∧ m ≤ 1000 ∧ deep ≤ 5 ∧ -1 ≤ deep) (hs : Cs G sv c.subs) (w : World) (hG : Has G w) (hA : (cntA 3 p x).holds w F) (hFG : ∀ b, F b → G b = none) : Calls Try.prog 34 #[Value.agg #[Value.int .i64 c.h.k, Value.bool c.h.v0, Value.int .i64 c.h.n0, Value.bool c.h.v1, Value.int .i64 c.h.n1, Value.bool c.h.v2, Value.int .i64 c.h.n2, sv], Value.int .i64 deep, Value.int .i64 m, Value.pointer (some ⟨p, 0, none⟩)] w (Ret fun r w' => r = Value.bool (small m c deep x).1 ∧ Kept (cntA 3 p (small m c deep x).2) F w w') := c_small_n _ c sv deep m x p G F w (Nat.le_refl _) hb hs hG hA hFG
theorem c_Small (c : CT) (sv : Value) (m : Int) {G : Ghost} (hm : 0 ≤ m ∧ m ≤ 1000) (hs : Cs G sv c.subs) (w : World) (hG : Has G w) :
    Calls Try.prog 11 #[Value.agg #[Value.int .i64 c.h.k, Value.bool c.h.v0, Value.int .i64 c.h.n0, Value.bool c.h.v1, Value.int .i64 c.h.n1, Value.bool c.h.v2, Value.int .i64 c.h.n2, sv], Value.int .i64 m] w (Ret fun r w' => r = Value.bool (small m c 5 0).1 ∧ Since nX w w') := by
  refine enter (args := [_, _]) (X := nX) (G := G) (l := [(0, Value.agg #[Value.int .i64 c.h.k, Value.bool c.h.v0, Value.int .i64 c.h.n0, Value.bool c.h.v1, Value.int .i64 c.h.n1, Value.bool c.h.v2, Value.int .i64 c.h.n2, sv]), (1, Value.int .i64 m)]) Try.func11 rfl Try.ntmps11 hG ⟨rfl, rfl, trivial⟩ (Nat.le_of_ble_eq_true rfl) ?_
  refine c_seq ?_
  refine c_region ?_
  refine r_box .none rfl rfl (IsRow.lit _) (fun b_1 => ?_)
  refine r_val .none rfl (p_assign rfl) ?_
  refine r_nil ?_
  refine e_next ?_
  refine c_seq ?_
  refine c_region ?_
  refine r_alloc .none rfl zr3 (IsRow.lit [_]) (fun b_2 => ?_)
  refine r_st (k := 0) .none sz3 rfl rfl rfl rfl (by first | exact of_decide_eq_true rfl | omega) ?_
  refine r_nil ?_
  refine e_next ?_
  refine c_seq ?_
  refine c_region ?_
  refine r_val .none rfl (p_ldw (k := 1) Try.underlying27 rfl sz27 rfl rfl (rfl : _ = Value.agg #[_, _, _, _, _, _, _, _])) ?_
  refine r_val .none rfl (p_move rfl) ?_
  refine r_callo (k := 0) (vs := [_, _, _, _]) .none rfl cl34 rfl rfl (fun w F hw hA hFG => c_small c sv 5 m 0 _ (by omega) hs w hw (box_congr (fun i hi => by match i, hi with | 0, _ => rfl) _ _ hA) hFG) ?_
  refine r_val .none rfl (p_assign rfl) ?_
  refine r_nil ?_
  refine e_next ?_
  refine c_ret ?_
  refine e_ret1 Try.results11 (.tmp rfl .nil) (fun w hm => ⟨?_, hm.since⟩)
  rfl
end Go.Proofs.Ytpcpbfajadgmpaa
