/- Walks: what Go functions of this chapter come to, each as a function on plain data; no condition but those that each theorem names. Printed by a program of this work (gen.py). -/
import Derived.Test.YtjgdkahblhpinaaGxJoin
import Derived.Test.YtjgdkahblhpinaaW03
import Derived.Test.YtjgdkahblhpinaaPl03b
import Derived.Test.YtjgdkahblhpinaaRows
namespace Go.Proofs.Ytjgdkahblhpinaa
open Go.Gx Go.Gx.T3
theorem sz25 : SzIs Try.prog 25 3 := by
  unfold SzIs
  kernel_rfl
theorem sz79 : SzIs Try.prog 79 2 := by
  unfold SzIs
  kernel_rfl
theorem zr25 : ZeroIs Try.prog 25 (Value.agg #[Value.int .i64 0, Value.int .i64 0, Value.int .i64 0]) := by
  unfold ZeroIs
  kernel_rfl
theorem zr26 : ZeroIs Try.prog 26 (Value.agg #[Value.int .i64 0, Value.int .i64 0, Value.int .i64 0]) := by
  unfold ZeroIs
  kernel_rfl
theorem zr40 : ZeroIs Try.prog 40 (Value.agg #[Value.int .i64 0, Value.int .i64 0]) := by
  unfold ZeroIs
  kernel_rfl
theorem zr79 : ZeroIs Try.prog 79 (Value.agg #[Value.int .i64 0, Value.int .i64 0]) := by
  unfold ZeroIs
  kernel_rfl
theorem cl32 : Callable Try.prog 32 := callable Try.func32 (by kernel_rfl) rfl
theorem bl79_0i1_1i1 (x0 : Int) (x1 : Int) : Program.built Try.prog 79 [(0, Value.int .i64 x0), (1, Value.int .i64 x1)] = some #[Value.int .i64 x0, Value.int .i64 x1] := by
  kernel_rfl
theorem bl25_  : Program.built Try.prog 25 [] = some #[Value.int .i64 0, Value.int .i64 0, Value.int .i64 0] := by
  kernel_rfl
theorem bl26_  : Program.built Try.prog 26 [] = some #[Value.int .i64 0, Value.int .i64 0, Value.int .i64 0] := by
  kernel_rfl
theorem bs79_10a2 (a0 a1 : Value) : Instr.fill (fun i => some (i * 2, 2)) ((Array.range (1 * 2)).map ((Value.agg #[Value.int .i64 0, Value.int .i64 0]).cells[· % (Value.agg #[Value.int .i64 0, Value.int .i64 0]).cells.size]!)) [(0, Value.agg #[a0, a1])] = some #[a0, a1] := by
  kernel_rfl
theorem el79 : ElemIs Try.prog 79 2 16 (Value.agg #[Value.int .i64 0, Value.int .i64 0]) := by
  unfold ElemIs
  kernel_rfl
theorem c_pairs (B : Nat → Int) {G : Ghost}  (w : World) (hG : Has G w) :
    Calls Try.prog 31 #[aggF 33 (fun i => Value.int .i64 (B i))] w (Ret fun r w' => ∃ G', GNew w nX G G' ∧ Has G' w' ∧ SlL G' r 2 pr (0, 0) (prs B 33) ∧ Since nX w w') := by
  refine enter (args := [_]) (X := nX) (G := G) (l := [(0, aggF 33 (fun i => Value.int .i64 (B i)))]) Try.func31 rfl Try.ntmps31 hG ⟨rfl, trivial⟩ (Nat.le_of_ble_eq_true rfl) ?_
  refine c_seq ?_
  refine c_region ?_
  refine r_box .none rfl rfl (IsRow.fn _ _) (fun b_1 => ?_)
  refine r_val .none rfl (p_assign rfl) ?_
  refine r_nil ?_
  refine e_next ?_
  refine c_seq ?_
  refine c_region ?_
  refine r_val .none rfl (p_assign rfl) ?_
  refine r_nil ?_
  refine e_next ?_
  refine c_seq ?_
  refine c_seq ?_
  refine c_region ?_
  refine r_val .none rfl (p_ldw (k := 0) Try.underlying28 rfl sz28 rfl rfl rfl) ?_
  refine r_val .none rfl (p_move rfl) ?_
  refine r_nil ?_
  refine e_next ?_
  refine c_block ?_
  refine c_nilrow 79 2 ?_
  refine c_name (d := 2) rfl (fun u_1 hu_1 => ?_)
  refine c_name (d := 6) rfl (fun u_2 hu_2 => ?_)
  refine c_nameL (k := 1) rfl (fun A_3 hA_3 => ?_)
  refine c_loop (σ := Nat × Value) (fun s => [(7, Value.int .i64 (s.1 : Nat)), (3, s.2), (2, u_1), (6, u_2)]) (fun s => [rowA (s.2) 79 2 (prs B s.1).length ((prs B s.1).flatMap pr), A_3]) (fun _ => _) (fun s => s.1 ≤ 33) (fun s => 33 - s.1) ((0, _)) (by omega) rfl ⟨rfl, rfl, rfl, rfl, trivial⟩ (.keep (fun _ _ h => rowA_nil rfl _ _ h) (.keep (fun _ _ h => h) (.nil))) (fun s hphi => ?_)
  subst hu_1
  subst hu_2
  subst hA_3
  obtain ⟨k, v⟩ := s
  dsimp only at hphi ⊢
  refine c_seq ?_
  refine c_region ?_
  refine r_val .none rfl (p_lt rfl rfl) ?_
  refine r_nil ?_
  refine e_next ?_
  refine c_seq ?_
  refine c_splitd (d := 8) rfl (fun h_4 => ?_) (fun h_4 => ?_)
  · skip
    first
      | (exfalso; omega)
      | (
        refine c_cond_t rfl ?_
        refine c_skip ?_
        refine e_next ?_
        refine c_seq ?_
        refine c_block ?_
        refine c_seq ?_
        refine c_region ?_
        refine r_val .none rfl (p_move rfl) ?_
        refine r_val .none rfl (p_index Try.underlying28 Try.underlying3 rfl sz3 rfl (IsRow.fn _ _) rfl (by first | exact of_decide_eq_true rfl | omega) (rfl : _ = Value.int _ _)) ?_
        refine r_val .none rfl (p_assign rfl) ?_
        refine r_val .none rfl (p_assign rfl) ?_
        refine r_nil ?_
        refine e_next ?_
        refine c_seq ?_
        refine c_region ?_
        refine r_val .none rfl (p_move rfl) ?_
        refine r_val .none rfl (p_gt rfl rfl) ?_
        refine r_val .none rfl (p_move rfl) ?_
        refine' r_and (c := 13) (d := 16) [_, _, _] rfl (fun h_5 Q_6 hQ_7 => ?_) (fun h_5 Q_6 hQ_7 => ?_) ?_
        rotate_left 1
        · skip
          replace h_5 := of_decide_eq_true h_5
          refine r_val (.some rfl rfl) rfl (p_move rfl) ?_
          refine r_val (.some rfl rfl) rfl (p_gt rfl rfl) ?_
          refine r_val .none rfl (p_pick_t rfl rfl) ?_
          refine r_nil (e_fin (d := 16) hQ_7 rfl (by repeat (first | exact .refl | refine .put rfl ?_ | refine .say rfl ?_ | refine .say2 rfl (by first | assumption | simp_all) ?_)))
        · skip
          repeat (first | refine r_skip rfl (.no rfl rfl) ?_ | refine r_skip rfl (.un rfl rfl) ?_)
          refine r_val (by first | exact .none | exact .some rfl rfl) rfl (p_pick_f rfl rfl) ?_
          refine r_nil (e_fin (d := 16) hQ_7 rfl (by repeat (first | exact .refl | refine .put rfl ?_ | refine .say rfl ?_ | refine .say2 rfl (by first | assumption | simp_all) ?_)))
        refine r_nil ?_
        refine e_next ?_
        refine c_split (d := 16) rfl (fun h_9 => ?_) (fun h_9 => ?_)
        · skip
          try simp only [Bool.and_eq_true, Bool.or_eq_true, Bool.and_eq_false_iff, Bool.or_eq_false_iff, decide_eq_true_eq, decide_eq_false_iff_not, Bool.not_eq_true', Bool.not_eq_false', ne_eq, Decidable.not_not] at h_9
          first
            | (exfalso; omega)
            | (
              refine c_cond_t rfl ?_
              refine c_region ?_
              refine r_val .none rfl (p_move rfl) ?_
              refine r_val .none rfl (p_move rfl) ?_
              refine r_val .none rfl (p_move rfl) ?_
              refine r_val .none rfl (p_build (vs := [(0, Value.int _ _), (1, Value.int _ _)]) rfl (bl79_0i1_1i1 _ _)) ?_
              refine r_bslice (vs := [(0, Value.agg #[_, _])]) (c := #[_, _]) .none rfl Try.underlying56 el79 rfl rfl rfl (bs79_10a2 _ _) (IsRow.lit _) (fun b_2 => ?_)
              refine r_append (k := 1) (k2 := 0) .none rfl Try.underlying56 el79 rfl (by decide) rfl rfl rfl rfl rfl (one_lit rfl rfl) (by have := prs_len B k; simp only [maxLen]; omega) (by have := prs_len B k; omega) (fun v_10 => ?_)
              refine r_val .none rfl (p_assign rfl) ?_
              refine r_nil ?_
              refine e_norm_block ?_
              refine e_next ?_
              refine c_region ?_
              refine r_val .none rfl (p_add rfl rfl (by omega)) ?_
              refine r_val .none rfl (p_move rfl) ?_
              refine r_nil ?_
              refine e_round ((k + 1, _)) ⟨by show k + 1 ≤ 33; omega, by show 33 - (k + 1) < 33 - k; omega⟩ rfl ⟨rfl, rfl, rfl, rfl, trivial⟩ (.drop (.keep (fun _ _ h => rowA_snoc (prs_yes (by omega)) rfl rfl rfl _ _ h) (.keep (fun _ _ h => h) (.nil))))
              )
        · skip
          try simp only [Bool.and_eq_true, Bool.or_eq_true, Bool.and_eq_false_iff, Bool.or_eq_false_iff, decide_eq_true_eq, decide_eq_false_iff_not, Bool.not_eq_true', Bool.not_eq_false', ne_eq, Decidable.not_not] at h_9
          first
            | (exfalso; omega)
            | (
              refine c_cond_f rfl ?_
              refine c_skip ?_
              refine e_norm_block ?_
              refine e_next ?_
              refine c_region ?_
              refine r_val .none rfl (p_add rfl rfl (by omega)) ?_
              refine r_val .none rfl (p_move rfl) ?_
              refine r_nil ?_
              refine e_round ((k + 1, _)) ⟨by show k + 1 ≤ 33; omega, by show 33 - (k + 1) < 33 - k; omega⟩ rfl ⟨rfl, rfl, rfl, rfl, trivial⟩ (.keep (fun _ _ h => rowA_same (prs_no (by omega)) _ _ h) (.keep (fun _ _ h => h) (.nil)))
              )
        )
  · skip
    first
      | (exfalso; omega)
      | (
        refine c_cond_f rfl ?_
        refine c_exit ?_
        refine e_exit_then ?_
        refine e_exit_then ?_
        refine e_exit_block ?_
        refine e_next ?_
        refine c_seq ?_
        refine c_region ?_
        refine r_val .none rfl (p_move rfl) ?_
        refine r_val .none rfl (p_assign rfl) ?_
        refine r_nil ?_
        refine e_next ?_
        refine c_ret ?_
        refine e_freeze (k := 0) rfl (fun G_11 hn_12 hs_13 => ?_)
        refine e_ret1 Try.results31 (.tmp rfl .nil) (fun w hm => ⟨_, hn_12, hm.has, ?_, hm.since⟩)
        have hk : k = 33 := by omega
        subst hk
        exact SlL.of (0, 0) (fun _ => rfl) rfl hs_13
        )
theorem c_get (s : Value) (v : Int) (ps : List Pr) {G : Ghost} (hs : SlL G s 2 pr (0, 0) ps) (w : World) (hG : Has G w) :
    Calls Try.prog 32 #[s, Value.int .i64 v] w (Ret fun r w' => r = Value.int .i64 (getP ps v) ∧ Since nX w w') := by
  refine enter (args := [_, _]) (X := nX) (G := G) (l := [(0, s), (1, Value.int .i64 v)]) Try.func32 rfl Try.ntmps32 hG ⟨rfl, rfl, trivial⟩ (Nat.le_of_ble_eq_true rfl) ?_
  refine c_seq ?_
  refine c_region ?_
  refine r_val .none rfl (p_assign rfl) ?_
  refine r_nil ?_
  refine e_next ?_
  refine c_seq ?_
  refine c_seq ?_
  refine c_region ?_
  refine r_val .none rfl (p_move rfl) ?_
  refine r_val .none rfl (p_leng Try.underlying56 rfl hs) ?_
  have bd_1 := (hs).bound
  refine r_val .none rfl (p_move rfl) ?_
  refine r_nil ?_
  refine e_next ?_
  refine c_block ?_
  refine c_name (d := 1) rfl (fun u_2 hu_2 => ?_)
  refine c_name (d := 7) rfl (fun u_3 hu_3 => ?_)
  refine c_name (d := 8) rfl (fun u_4 hu_4 => ?_)
  refine c_loop (σ := Nat) (fun k => [(9, Value.int .i64 (k : Int)), (1, u_2), (7, u_3), (8, u_4)]) (fun k => []) (fun _ => _) (fun k => k ≤ ps.length ∧ getP (ps.drop k) v = getP ps v) (fun k => ps.length - k) (0) ⟨Nat.zero_le _, rfl⟩ rfl ⟨rfl, rfl, rfl, rfl, trivial⟩ (.nil) (fun k hphi => ?_)
  subst hu_2
  subst hu_3
  subst hu_4
  refine c_seq ?_
  refine c_region ?_
  refine r_val .none rfl (p_lt rfl rfl) ?_
  refine r_nil ?_
  refine e_next ?_
  refine c_seq ?_
  refine c_splitd (d := 10) rfl (fun h_5 => ?_) (fun h_5 => ?_)
  · skip
    first
      | (exfalso; omega)
      | (
        refine c_cond_t rfl ?_
        refine c_skip ?_
        refine e_next ?_
        refine c_seq ?_
        refine c_block ?_
        refine c_seq ?_
        refine c_region ?_
        refine r_iaddr_g .none rfl Try.underlying56 sz79 rfl hs rfl (by first | exact of_decide_eq_true rfl | omega) (fun p_7 o_8 R_6 => ?_)
        refine r_val .none rfl (p_ldga0 Try.underlying79 rfl sz79 rfl R_6 (by first | exact of_decide_eq_true rfl | omega) (rfl : _ = Value.agg #[_, _])) ?_
        refine r_alloc .none rfl zr79 (IsRow.lit _) (fun b_1 => ?_)
        refine r_stw (k := 0) .none sz79 rfl rfl (IsRow.lit _) (one_lit rfl rfl) rfl ?_
        refine r_nil ?_
        refine e_next ?_
        refine c_seq ?_
        refine c_region ?_
        refine r_val .none rfl (p_field Try.underlying79 rfl sz3 rfl) ?_
        refine r_val .none rfl (p_ld (k := 0) Try.underlying3 rfl rfl rfl (by first | exact of_decide_eq_true rfl | omega) (rfl : _ = Value.int _ _)) ?_
        refine r_val .none rfl (p_move rfl) ?_
        refine r_val .none rfl (p_eq rfl rfl) ?_
        refine r_nil ?_
        refine e_next ?_
        refine c_splitd (d := 16) rfl (fun h_9 => ?_) (fun h_9 => ?_)
        · skip
          first
            | (exfalso; omega)
            | (
              refine c_cond_t rfl ?_
              refine c_seq ?_
              refine c_region ?_
              refine r_val .none rfl (p_field Try.underlying79 rfl sz3 rfl) ?_
              refine r_val .none rfl (p_ld (k := 0) Try.underlying3 rfl rfl rfl (by first | exact of_decide_eq_true rfl | omega) (rfl : _ = Value.int _ _)) ?_
              refine r_val .none rfl (p_assign rfl) ?_
              refine r_nil ?_
              refine e_next ?_
              refine c_ret ?_
              refine e_ret_block ?_
              refine e_ret_then ?_
              refine e_ret_then ?_
              refine e_ret_block ?_
              refine e_ret_then ?_
              refine e_ret1 Try.results32 (.tmp rfl .nil) (fun w hm => ⟨?_, hm.since⟩)
              first
              | (rw [← hphi.2, getP_drop (i := k) (e := (0, 0)) (by omega), if_pos ‹(ps.getD k (0, 0)).1 = v›]; done)
              | (rw [← hphi.2, List.drop_eq_nil_of_le (by omega)]; rfl)
              )
        · skip
          first
            | (exfalso; omega)
            | (
              refine c_cond_f rfl ?_
              refine c_skip ?_
              refine e_norm_block ?_
              refine e_next ?_
              refine c_region ?_
              refine r_val .none rfl (p_add rfl rfl (by omega)) ?_
              refine r_val .none rfl (p_move rfl) ?_
              refine r_nil ?_
              refine e_round (k + 1) ⟨⟨by omega, by rw [← hphi.2, getP_drop (i := k) (e := (0, 0)) (by omega), if_neg ‹¬ (ps.getD k (0, 0)).1 = v›]⟩, by omega⟩ rfl ⟨rfl, rfl, rfl, rfl, trivial⟩ (.drop (.nil))
              )
        )
  · skip
    first
      | (exfalso; omega)
      | (
        refine c_cond_f rfl ?_
        refine c_exit ?_
        refine e_exit_then ?_
        refine e_exit_then ?_
        refine e_exit_block ?_
        refine e_next ?_
        refine c_seq ?_
        refine c_region ?_
        refine r_val .none rfl (p_assign rfl) ?_
        refine r_nil ?_
        refine e_next ?_
        refine c_ret ?_
        refine e_ret1 Try.results32 (.tmp rfl .nil) (fun w hm => ⟨?_, hm.since⟩)
        first
        | (rw [← hphi.2, getP_drop (i := k) (e := (0, 0)) (by omega), if_pos ‹(ps.getD k (0, 0)).1 = v›]; done)
        | (rw [← hphi.2, List.drop_eq_nil_of_le (by omega)]; rfl)
        )
theorem c_rput (v0 : Bool) (n0 : Int) (v1 : Bool) (n1 : Int) (v2 : Bool) (n2 : Int) (s : Value) (ps : List Pr) {G : Ghost} (hs : SlL G s 2 pr (0, 0) ps) (w : World) (hG : Has G w) :
    Calls Try.prog 34 #[Value.agg #[Value.int .i64 (vi v0), Value.int .i64 n0, Value.int .i64 (vi v1), Value.int .i64 n1, Value.int .i64 (vi v2), Value.int .i64 n2], s] w (Ret fun r w' => r = Value.tuple #[aggF 3 (fun i => Value.int .i64 (((put (rpv v0 n0 ps) (rpv v1 n1 ps) (rpv v2 n2 ps) 3).getD (fun _ => 0)) i)), Value.bool (put (rpv v0 n0 ps) (rpv v1 n1 ps) (rpv v2 n2 ps) 3).isSome] ∧ Since nX w w') := by
  refine enter (args := [_, _]) (X := nX) (G := G) (l := [(0, Value.agg #[Value.int .i64 (vi v0), Value.int .i64 n0, Value.int .i64 (vi v1), Value.int .i64 n1, Value.int .i64 (vi v2), Value.int .i64 n2]), (1, s)]) Try.func34 rfl Try.ntmps34 hG ⟨rfl, rfl, trivial⟩ (Nat.le_of_ble_eq_true rfl) ?_
  refine c_seq ?_
  refine c_region ?_
  refine r_box .none rfl rfl (IsRow.lit _) (fun b_1 => ?_)
  refine r_alloc .none rfl zr25 (IsRow.lit _) (fun b_2 => ?_)
  refine r_val .none rfl (p_assign rfl) ?_
  refine r_nil ?_
  refine e_next ?_
  refine c_seq ?_
  refine c_region ?_
  refine r_alloc .none rfl zr25 (IsRow.lit _) (fun b_3 => ?_)
  refine r_nil ?_
  refine e_next ?_
  refine c_seq ?_
  refine c_seq ?_
  refine c_region ?_
  refine r_val .none rfl (p_assign rfl) ?_
  refine r_nil ?_
  refine e_next ?_
  refine c_block ?_
  refine c_name (d := 1) rfl (fun u_1 hu_1 => ?_)
  refine c_name (d := 2) rfl (fun u_2 hu_2 => ?_)
  refine c_name (d := 4) rfl (fun u_3 hu_3 => ?_)
  refine c_name (d := 6) rfl (fun u_4 hu_4 => ?_)
  refine c_nameL (k := 1) rfl (fun A_5 hA_5 => ?_)
  refine c_nameL (k := 2) rfl (fun A_6 hA_6 => ?_)
  refine c_loop (σ := Nat × (Nat → Int)) (fun s => [(7, Value.int .i64 (s.1 : Int)), (1, u_1), (2, u_2), (4, u_3), (6, u_4)]) (fun s => [box b_3 3 25 (fun i => Value.int .i64 (s.2 i)), A_5, A_6]) (fun _ => _) (fun s => s.1 ≤ 3 ∧ put (rpv v0 n0 ps) (rpv v1 n1 ps) (rpv v2 n2 ps) s.1 = some s.2) (fun s => 3 - s.1) ((0, fun _ => 0)) ⟨by omega, rfl⟩ rfl ⟨rfl, rfl, rfl, rfl, rfl, trivial⟩ (.keep (fun _ _ h => box_congr (fun i hi => by match i, hi with | 0, _ => rfl | 1, _ => rfl | 2, _ => rfl) _ _ h) (.keep (fun _ _ h => h) (.keep (fun _ _ h => h) (.nil)))) (fun s hphi => ?_)
  subst hu_1
  subst hu_2
  subst hu_3
  subst hu_4
  subst hA_5
  subst hA_6
  obtain ⟨k, T⟩ := s
  obtain ⟨hk, hput⟩ := hphi
  dsimp only at hk hput ⊢
  obtain rfl | rfl | rfl | rfl : k = 0 ∨ k = 1 ∨ k = 2 ∨ k = 3 := by omega
  · skip
    refine c_seq ?_
    refine c_seq ?_
    refine c_region ?_
    refine r_val .none rfl (p_move rfl) ?_
    refine r_val .none rfl (p_lt rfl rfl) ?_
    refine r_say (d := 9) (v := Value.bool true) rfl ?_
    refine r_nil ?_
    refine e_next ?_
    refine c_cond_t rfl ?_
    refine c_skip ?_
    refine e_next ?_
    refine c_seq ?_
    refine c_block ?_
    refine c_seq ?_
    refine c_region ?_
    refine r_val .none rfl (p_move rfl) ?_
    refine r_val .none rfl (p_move rfl) ?_
    refine r_val .none rfl (p_iaddr (k := 0) Try.underlying41 sz40 rfl rfl (by first | exact of_decide_eq_true rfl | omega)) ?_
    refine r_val .none rfl (p_field Try.underlying40 rfl sz3 rfl) ?_
    refine r_val .none rfl (p_ld (k := 2) Try.underlying3 rfl rfl rfl (by first | exact of_decide_eq_true rfl | omega) (rfl : _ = Value.int _ _)) ?_
    refine r_val .none rfl (p_iaddr (k := 0) Try.underlying25 sz3 rfl rfl (by first | exact of_decide_eq_true rfl | omega)) ?_
    refine r_st (k := 0) .none sz3 rfl rfl rfl rfl (by first | exact of_decide_eq_true rfl | omega) ?_
    refine r_nil ?_
    refine e_next ?_
    refine c_seq ?_
    refine c_seq ?_
    refine c_region ?_
    refine r_val .none rfl (p_move rfl) ?_
    refine r_val .none rfl (p_iaddr (k := 0) Try.underlying41 sz40 rfl rfl (by first | exact of_decide_eq_true rfl | omega)) ?_
    refine r_val .none rfl (p_field Try.underlying40 rfl sz3 rfl) ?_
    refine r_val .none rfl (p_ld (k := 2) Try.underlying3 rfl rfl rfl (by first | exact of_decide_eq_true rfl | omega) (rfl : _ = Value.int _ _)) ?_
    refine r_val .none rfl (p_eq rfl rfl) ?_
    refine r_nil ?_
    refine e_next ?_
    refine c_splitd (d := 22) rfl (fun h_7 => ?_) (fun h_7 => ?_)
    · skip
      first
        | (exfalso; omega)
        | (
          refine c_cond_t rfl ?_
          refine c_region ?_
          refine r_val .none rfl (p_move rfl) ?_
          refine r_val .none rfl (p_move rfl) ?_
          refine r_val .none rfl (p_move rfl) ?_
          refine r_val .none rfl (p_iaddr (k := 0) Try.underlying41 sz40 rfl rfl (by first | exact of_decide_eq_true rfl | omega)) ?_
          refine r_val .none rfl (p_field Try.underlying40 rfl sz3 rfl) ?_
          refine r_val .none rfl (p_ld (k := 2) Try.underlying3 rfl rfl rfl (by first | exact of_decide_eq_true rfl | omega) (rfl : _ = Value.int _ _)) ?_
          refine r_call (vs := [_, _]) .none rfl cl32 rfl (fun w hw => c_get _ _ _ hs w hw) ?_
          refine r_val .none rfl (p_iaddr (k := 0) Try.underlying25 sz3 rfl rfl (by first | exact of_decide_eq_true rfl | omega)) ?_
          refine r_st (k := 0) .none sz3 rfl rfl rfl rfl (by first | exact of_decide_eq_true rfl | omega) ?_
          refine r_nil ?_
          refine e_next ?_
          refine c_seq ?_
          refine c_region ?_
          refine r_val .none rfl (p_move rfl) ?_
          refine r_val .none rfl (p_iaddr (k := 0) Try.underlying25 sz3 rfl rfl (by first | exact of_decide_eq_true rfl | omega)) ?_
          refine r_val .none rfl (p_ld (k := 0) Try.underlying3 rfl rfl rfl (by first | exact of_decide_eq_true rfl | omega) (rfl : _ = Value.int _ _)) ?_
          refine r_val .none rfl (p_eq rfl rfl) ?_
          refine r_nil ?_
          refine e_next ?_
          refine c_splitd (d := 34) rfl (fun h_8 => ?_) (fun h_8 => ?_)
          · skip
            first
              | (exfalso; omega)
              | (
                refine c_cond_t rfl ?_
                refine c_seq ?_
                refine c_region ?_
                refine r_val .none rfl (p_build (vs := []) rfl (bl25_ )) ?_
                refine r_stw (k := 1) .none sz25 rfl rfl (IsRow.lit _) (one_lit rfl rfl) rfl ?_
                refine r_val .none rfl (p_assign rfl) ?_
                refine r_nil ?_
                refine e_next ?_
                refine c_ret ?_
                refine e_ret_block ?_
                refine e_ret_then ?_
                refine e_ret_then ?_
                refine e_ret_block ?_
                refine e_ret_then ?_
                refine e_retn Try.results34 (.cell (k := 1) rfl Try.underlying25 rfl sz25 rfl (rfl : _ = Value.agg #[_, _, _]) (.tmp rfl .nil)) rfl (fun w hm => ⟨?_, hm.since⟩)
                rw [show put (rpv v0 n0 ps) (rpv v1 n1 ps) (rpv v2 n2 ps) 3 = none from upTo_no hput (by cases v0 <;> simp_all [put1, sel3, rpv, pv, vi]) (Nat.le_of_ble_eq_true rfl)]
                rfl
                )
          · skip
            first
              | (exfalso; omega)
              | (
                refine c_cond_f rfl ?_
                refine c_skip ?_
                refine e_norm_block ?_
                refine e_next ?_
                refine c_region ?_
                refine r_val .none rfl (p_move rfl) ?_
                refine r_val .none rfl (p_add rfl rfl (by omega)) ?_
                refine r_val .none rfl (p_assign rfl) ?_
                refine r_nil ?_
                refine e_round ((1, updI T 0 (rpv v0 n0 ps))) ⟨⟨Nat.le_of_ble_eq_true rfl, ?_⟩, Nat.le_of_ble_eq_true rfl⟩ rfl ⟨rfl, rfl, rfl, rfl, rfl, trivial⟩ (.keep (fun _ _ h => box_congr (fun i hi => by simp only [upd_eq, updI, rpv, pv]; cases v0 <;> simp_all [vi] <;> (try split) <;> simp_all) _ _ h) (.keep (fun _ _ h => h) (.keep (fun _ _ h => h) (.nil))))
                refine (upTo_next hput).trans ?_
                cases v0 <;> simp_all [put1, sel3, rpv, pv, vi]
                )
          )
    · skip
      first
        | (exfalso; omega)
        | (
          refine c_cond_f rfl ?_
          refine c_skip ?_
          refine e_next ?_
          refine c_seq ?_
          refine c_region ?_
          refine r_val .none rfl (p_move rfl) ?_
          refine r_val .none rfl (p_iaddr (k := 0) Try.underlying25 sz3 rfl rfl (by first | exact of_decide_eq_true rfl | omega)) ?_
          refine r_val .none rfl (p_ld (k := 0) Try.underlying3 rfl rfl rfl (by first | exact of_decide_eq_true rfl | omega) (rfl : _ = Value.int _ _)) ?_
          refine r_val .none rfl (p_eq rfl rfl) ?_
          refine r_nil ?_
          refine e_next ?_
          refine c_splitd (d := 34) rfl (fun h_9 => ?_) (fun h_9 => ?_)
          · skip
            first
              | (exfalso; omega)
              | (
                refine c_cond_t rfl ?_
                refine c_seq ?_
                refine c_region ?_
                refine r_val .none rfl (p_build (vs := []) rfl (bl25_ )) ?_
                refine r_stw (k := 1) .none sz25 rfl rfl (IsRow.lit _) (one_lit rfl rfl) rfl ?_
                refine r_val .none rfl (p_assign rfl) ?_
                refine r_nil ?_
                refine e_next ?_
                refine c_ret ?_
                refine e_ret_block ?_
                refine e_ret_then ?_
                refine e_ret_then ?_
                refine e_ret_block ?_
                refine e_ret_then ?_
                refine e_retn Try.results34 (.cell (k := 1) rfl Try.underlying25 rfl sz25 rfl (rfl : _ = Value.agg #[_, _, _]) (.tmp rfl .nil)) rfl (fun w hm => ⟨?_, hm.since⟩)
                rw [show put (rpv v0 n0 ps) (rpv v1 n1 ps) (rpv v2 n2 ps) 3 = none from upTo_no hput (by cases v0 <;> simp_all [put1, sel3, rpv, pv, vi]) (Nat.le_of_ble_eq_true rfl)]
                rfl
                )
          · skip
            first
              | (exfalso; omega)
              | (
                refine c_cond_f rfl ?_
                refine c_skip ?_
                refine e_norm_block ?_
                refine e_next ?_
                refine c_region ?_
                refine r_val .none rfl (p_move rfl) ?_
                refine r_val .none rfl (p_add rfl rfl (by omega)) ?_
                refine r_val .none rfl (p_assign rfl) ?_
                refine r_nil ?_
                refine e_round ((1, updI T 0 (rpv v0 n0 ps))) ⟨⟨Nat.le_of_ble_eq_true rfl, ?_⟩, Nat.le_of_ble_eq_true rfl⟩ rfl ⟨rfl, rfl, rfl, rfl, rfl, trivial⟩ (.keep (fun _ _ h => box_congr (fun i hi => by simp only [upd_eq, updI, rpv, pv]; cases v0 <;> simp_all [vi] <;> (try split) <;> simp_all) _ _ h) (.keep (fun _ _ h => h) (.keep (fun _ _ h => h) (.nil))))
                refine (upTo_next hput).trans ?_
                cases v0 <;> simp_all [put1, sel3, rpv, pv, vi]
                )
          )
  · skip
    refine c_seq ?_
    refine c_seq ?_
    refine c_region ?_
    refine r_val .none rfl (p_move rfl) ?_
    refine r_val .none rfl (p_lt rfl rfl) ?_
    refine r_say (d := 9) (v := Value.bool true) rfl ?_
    refine r_nil ?_
    refine e_next ?_
    refine c_cond_t rfl ?_
    refine c_skip ?_
    refine e_next ?_
    refine c_seq ?_
    refine c_block ?_
    refine c_seq ?_
    refine c_region ?_
    refine r_val .none rfl (p_move rfl) ?_
    refine r_val .none rfl (p_move rfl) ?_
    refine r_val .none rfl (p_iaddr (k := 1) Try.underlying41 sz40 rfl rfl (by first | exact of_decide_eq_true rfl | omega)) ?_
    refine r_val .none rfl (p_field Try.underlying40 rfl sz3 rfl) ?_
    refine r_val .none rfl (p_ld (k := 2) Try.underlying3 rfl rfl rfl (by first | exact of_decide_eq_true rfl | omega) (rfl : _ = Value.int _ _)) ?_
    refine r_val .none rfl (p_iaddr (k := 1) Try.underlying25 sz3 rfl rfl (by first | exact of_decide_eq_true rfl | omega)) ?_
    refine r_st (k := 0) .none sz3 rfl rfl rfl rfl (by first | exact of_decide_eq_true rfl | omega) ?_
    refine r_nil ?_
    refine e_next ?_
    refine c_seq ?_
    refine c_seq ?_
    refine c_region ?_
    refine r_val .none rfl (p_move rfl) ?_
    refine r_val .none rfl (p_iaddr (k := 1) Try.underlying41 sz40 rfl rfl (by first | exact of_decide_eq_true rfl | omega)) ?_
    refine r_val .none rfl (p_field Try.underlying40 rfl sz3 rfl) ?_
    refine r_val .none rfl (p_ld (k := 2) Try.underlying3 rfl rfl rfl (by first | exact of_decide_eq_true rfl | omega) (rfl : _ = Value.int _ _)) ?_
    refine r_val .none rfl (p_eq rfl rfl) ?_
    refine r_nil ?_
    refine e_next ?_
    refine c_splitd (d := 22) rfl (fun h_10 => ?_) (fun h_10 => ?_)
    · skip
      first
        | (exfalso; omega)
        | (
          refine c_cond_t rfl ?_
          refine c_region ?_
          refine r_val .none rfl (p_move rfl) ?_
          refine r_val .none rfl (p_move rfl) ?_
          refine r_val .none rfl (p_move rfl) ?_
          refine r_val .none rfl (p_iaddr (k := 1) Try.underlying41 sz40 rfl rfl (by first | exact of_decide_eq_true rfl | omega)) ?_
          refine r_val .none rfl (p_field Try.underlying40 rfl sz3 rfl) ?_
          refine r_val .none rfl (p_ld (k := 2) Try.underlying3 rfl rfl rfl (by first | exact of_decide_eq_true rfl | omega) (rfl : _ = Value.int _ _)) ?_
          refine r_call (vs := [_, _]) .none rfl cl32 rfl (fun w hw => c_get _ _ _ hs w hw) ?_
          refine r_val .none rfl (p_iaddr (k := 1) Try.underlying25 sz3 rfl rfl (by first | exact of_decide_eq_true rfl | omega)) ?_
          refine r_st (k := 0) .none sz3 rfl rfl rfl rfl (by first | exact of_decide_eq_true rfl | omega) ?_
          refine r_nil ?_
          refine e_next ?_
          refine c_seq ?_
          refine c_region ?_
          refine r_val .none rfl (p_move rfl) ?_
          refine r_val .none rfl (p_iaddr (k := 1) Try.underlying25 sz3 rfl rfl (by first | exact of_decide_eq_true rfl | omega)) ?_
          refine r_val .none rfl (p_ld (k := 0) Try.underlying3 rfl rfl rfl (by first | exact of_decide_eq_true rfl | omega) (rfl : _ = Value.int _ _)) ?_
          refine r_val .none rfl (p_eq rfl rfl) ?_
          refine r_nil ?_
          refine e_next ?_
          refine c_splitd (d := 34) rfl (fun h_11 => ?_) (fun h_11 => ?_)
          · skip
            first
              | (exfalso; omega)
              | (
                refine c_cond_t rfl ?_
                refine c_seq ?_
                refine c_region ?_
                refine r_val .none rfl (p_build (vs := []) rfl (bl25_ )) ?_
                refine r_stw (k := 1) .none sz25 rfl rfl (IsRow.lit _) (one_lit rfl rfl) rfl ?_
                refine r_val .none rfl (p_assign rfl) ?_
                refine r_nil ?_
                refine e_next ?_
                refine c_ret ?_
                refine e_ret_block ?_
                refine e_ret_then ?_
                refine e_ret_then ?_
                refine e_ret_block ?_
                refine e_ret_then ?_
                refine e_retn Try.results34 (.cell (k := 1) rfl Try.underlying25 rfl sz25 rfl (rfl : _ = Value.agg #[_, _, _]) (.tmp rfl .nil)) rfl (fun w hm => ⟨?_, hm.since⟩)
                rw [show put (rpv v0 n0 ps) (rpv v1 n1 ps) (rpv v2 n2 ps) 3 = none from upTo_no hput (by cases v1 <;> simp_all [put1, sel3, rpv, pv, vi]) (Nat.le_of_ble_eq_true rfl)]
                rfl
                )
          · skip
            first
              | (exfalso; omega)
              | (
                refine c_cond_f rfl ?_
                refine c_skip ?_
                refine e_norm_block ?_
                refine e_next ?_
                refine c_region ?_
                refine r_val .none rfl (p_move rfl) ?_
                refine r_val .none rfl (p_add rfl rfl (by omega)) ?_
                refine r_val .none rfl (p_assign rfl) ?_
                refine r_nil ?_
                refine e_round ((2, updI T 1 (rpv v1 n1 ps))) ⟨⟨Nat.le_of_ble_eq_true rfl, ?_⟩, Nat.le_of_ble_eq_true rfl⟩ rfl ⟨rfl, rfl, rfl, rfl, rfl, trivial⟩ (.keep (fun _ _ h => box_congr (fun i hi => by simp only [upd_eq, updI, rpv, pv]; cases v1 <;> simp_all [vi] <;> (try split) <;> simp_all) _ _ h) (.keep (fun _ _ h => h) (.keep (fun _ _ h => h) (.nil))))
                refine (upTo_next hput).trans ?_
                cases v1 <;> simp_all [put1, sel3, rpv, pv, vi]
                )
          )
    · skip
      first
        | (exfalso; omega)
        | (
          refine c_cond_f rfl ?_
          refine c_skip ?_
          refine e_next ?_
          refine c_seq ?_
          refine c_region ?_
          refine r_val .none rfl (p_move rfl) ?_
          refine r_val .none rfl (p_iaddr (k := 1) Try.underlying25 sz3 rfl rfl (by first | exact of_decide_eq_true rfl | omega)) ?_
          refine r_val .none rfl (p_ld (k := 0) Try.underlying3 rfl rfl rfl (by first | exact of_decide_eq_true rfl | omega) (rfl : _ = Value.int _ _)) ?_
          refine r_val .none rfl (p_eq rfl rfl) ?_
          refine r_nil ?_
          refine e_next ?_
          refine c_splitd (d := 34) rfl (fun h_12 => ?_) (fun h_12 => ?_)
          · skip
            first
              | (exfalso; omega)
              | (
                refine c_cond_t rfl ?_
                refine c_seq ?_
                refine c_region ?_
                refine r_val .none rfl (p_build (vs := []) rfl (bl25_ )) ?_
                refine r_stw (k := 1) .none sz25 rfl rfl (IsRow.lit _) (one_lit rfl rfl) rfl ?_
                refine r_val .none rfl (p_assign rfl) ?_
                refine r_nil ?_
                refine e_next ?_
                refine c_ret ?_
                refine e_ret_block ?_
                refine e_ret_then ?_
                refine e_ret_then ?_
                refine e_ret_block ?_
                refine e_ret_then ?_
                refine e_retn Try.results34 (.cell (k := 1) rfl Try.underlying25 rfl sz25 rfl (rfl : _ = Value.agg #[_, _, _]) (.tmp rfl .nil)) rfl (fun w hm => ⟨?_, hm.since⟩)
                rw [show put (rpv v0 n0 ps) (rpv v1 n1 ps) (rpv v2 n2 ps) 3 = none from upTo_no hput (by cases v1 <;> simp_all [put1, sel3, rpv, pv, vi]) (Nat.le_of_ble_eq_true rfl)]
                rfl
                )
          · skip
            first
              | (exfalso; omega)
              | (
                refine c_cond_f rfl ?_
                refine c_skip ?_
                refine e_norm_block ?_
                refine e_next ?_
                refine c_region ?_
                refine r_val .none rfl (p_move rfl) ?_
                refine r_val .none rfl (p_add rfl rfl (by omega)) ?_
                refine r_val .none rfl (p_assign rfl) ?_
                refine r_nil ?_
                refine e_round ((2, updI T 1 (rpv v1 n1 ps))) ⟨⟨Nat.le_of_ble_eq_true rfl, ?_⟩, Nat.le_of_ble_eq_true rfl⟩ rfl ⟨rfl, rfl, rfl, rfl, rfl, trivial⟩ (.keep (fun _ _ h => box_congr (fun i hi => by simp only [upd_eq, updI, rpv, pv]; cases v1 <;> simp_all [vi] <;> (try split) <;> simp_all) _ _ h) (.keep (fun _ _ h => h) (.keep (fun _ _ h => h) (.nil))))
                refine (upTo_next hput).trans ?_
                cases v1 <;> simp_all [put1, sel3, rpv, pv, vi]
                )
          )
  · skip
    refine c_seq ?_
    refine c_seq ?_
    refine c_region ?_
    refine r_val .none rfl (p_move rfl) ?_
    refine r_val .none rfl (p_lt rfl rfl) ?_
    refine r_say (d := 9) (v := Value.bool true) rfl ?_
    refine r_nil ?_
    refine e_next ?_
    refine c_cond_t rfl ?_
    refine c_skip ?_
    refine e_next ?_
    refine c_seq ?_
    refine c_block ?_
    refine c_seq ?_
    refine c_region ?_
    refine r_val .none rfl (p_move rfl) ?_
    refine r_val .none rfl (p_move rfl) ?_
    refine r_val .none rfl (p_iaddr (k := 2) Try.underlying41 sz40 rfl rfl (by first | exact of_decide_eq_true rfl | omega)) ?_
    refine r_val .none rfl (p_field Try.underlying40 rfl sz3 rfl) ?_
    refine r_val .none rfl (p_ld (k := 2) Try.underlying3 rfl rfl rfl (by first | exact of_decide_eq_true rfl | omega) (rfl : _ = Value.int _ _)) ?_
    refine r_val .none rfl (p_iaddr (k := 2) Try.underlying25 sz3 rfl rfl (by first | exact of_decide_eq_true rfl | omega)) ?_
    refine r_st (k := 0) .none sz3 rfl rfl rfl rfl (by first | exact of_decide_eq_true rfl | omega) ?_
    refine r_nil ?_
    refine e_next ?_
    refine c_seq ?_
    refine c_seq ?_
    refine c_region ?_
    refine r_val .none rfl (p_move rfl) ?_
    refine r_val .none rfl (p_iaddr (k := 2) Try.underlying41 sz40 rfl rfl (by first | exact of_decide_eq_true rfl | omega)) ?_
    refine r_val .none rfl (p_field Try.underlying40 rfl sz3 rfl) ?_
    refine r_val .none rfl (p_ld (k := 2) Try.underlying3 rfl rfl rfl (by first | exact of_decide_eq_true rfl | omega) (rfl : _ = Value.int _ _)) ?_
    refine r_val .none rfl (p_eq rfl rfl) ?_
    refine r_nil ?_
    refine e_next ?_
    refine c_splitd (d := 22) rfl (fun h_13 => ?_) (fun h_13 => ?_)
    · skip
      first
        | (exfalso; omega)
        | (
          refine c_cond_t rfl ?_
          refine c_region ?_
          refine r_val .none rfl (p_move rfl) ?_
          refine r_val .none rfl (p_move rfl) ?_
          refine r_val .none rfl (p_move rfl) ?_
          refine r_val .none rfl (p_iaddr (k := 2) Try.underlying41 sz40 rfl rfl (by first | exact of_decide_eq_true rfl | omega)) ?_
          refine r_val .none rfl (p_field Try.underlying40 rfl sz3 rfl) ?_
          refine r_val .none rfl (p_ld (k := 2) Try.underlying3 rfl rfl rfl (by first | exact of_decide_eq_true rfl | omega) (rfl : _ = Value.int _ _)) ?_
          refine r_call (vs := [_, _]) .none rfl cl32 rfl (fun w hw => c_get _ _ _ hs w hw) ?_
          refine r_val .none rfl (p_iaddr (k := 2) Try.underlying25 sz3 rfl rfl (by first | exact of_decide_eq_true rfl | omega)) ?_
          refine r_st (k := 0) .none sz3 rfl rfl rfl rfl (by first | exact of_decide_eq_true rfl | omega) ?_
          refine r_nil ?_
          refine e_next ?_
          refine c_seq ?_
          refine c_region ?_
          refine r_val .none rfl (p_move rfl) ?_
          refine r_val .none rfl (p_iaddr (k := 2) Try.underlying25 sz3 rfl rfl (by first | exact of_decide_eq_true rfl | omega)) ?_
          refine r_val .none rfl (p_ld (k := 0) Try.underlying3 rfl rfl rfl (by first | exact of_decide_eq_true rfl | omega) (rfl : _ = Value.int _ _)) ?_
          refine r_val .none rfl (p_eq rfl rfl) ?_
          refine r_nil ?_
          refine e_next ?_
          refine c_splitd (d := 34) rfl (fun h_14 => ?_) (fun h_14 => ?_)
          · skip
            first
              | (exfalso; omega)
              | (
                refine c_cond_t rfl ?_
                refine c_seq ?_
                refine c_region ?_
                refine r_val .none rfl (p_build (vs := []) rfl (bl25_ )) ?_
                refine r_stw (k := 1) .none sz25 rfl rfl (IsRow.lit _) (one_lit rfl rfl) rfl ?_
                refine r_val .none rfl (p_assign rfl) ?_
                refine r_nil ?_
                refine e_next ?_
                refine c_ret ?_
                refine e_ret_block ?_
                refine e_ret_then ?_
                refine e_ret_then ?_
                refine e_ret_block ?_
                refine e_ret_then ?_
                refine e_retn Try.results34 (.cell (k := 1) rfl Try.underlying25 rfl sz25 rfl (rfl : _ = Value.agg #[_, _, _]) (.tmp rfl .nil)) rfl (fun w hm => ⟨?_, hm.since⟩)
                rw [show put (rpv v0 n0 ps) (rpv v1 n1 ps) (rpv v2 n2 ps) 3 = none from upTo_no hput (by cases v2 <;> simp_all [put1, sel3, rpv, pv, vi]) (Nat.le_of_ble_eq_true rfl)]
                rfl
                )
          · skip
            first
              | (exfalso; omega)
              | (
                refine c_cond_f rfl ?_
                refine c_skip ?_
                refine e_norm_block ?_
                refine e_next ?_
                refine c_region ?_
                refine r_val .none rfl (p_move rfl) ?_
                refine r_val .none rfl (p_add rfl rfl (by omega)) ?_
                refine r_val .none rfl (p_assign rfl) ?_
                refine r_nil ?_
                refine e_round ((3, updI T 2 (rpv v2 n2 ps))) ⟨⟨Nat.le_of_ble_eq_true rfl, ?_⟩, Nat.le_of_ble_eq_true rfl⟩ rfl ⟨rfl, rfl, rfl, rfl, rfl, trivial⟩ (.keep (fun _ _ h => box_congr (fun i hi => by simp only [upd_eq, updI, rpv, pv]; cases v2 <;> simp_all [vi] <;> (try split) <;> simp_all) _ _ h) (.keep (fun _ _ h => h) (.keep (fun _ _ h => h) (.nil))))
                refine (upTo_next hput).trans ?_
                cases v2 <;> simp_all [put1, sel3, rpv, pv, vi]
                )
          )
    · skip
      first
        | (exfalso; omega)
        | (
          refine c_cond_f rfl ?_
          refine c_skip ?_
          refine e_next ?_
          refine c_seq ?_
          refine c_region ?_
          refine r_val .none rfl (p_move rfl) ?_
          refine r_val .none rfl (p_iaddr (k := 2) Try.underlying25 sz3 rfl rfl (by first | exact of_decide_eq_true rfl | omega)) ?_
          refine r_val .none rfl (p_ld (k := 0) Try.underlying3 rfl rfl rfl (by first | exact of_decide_eq_true rfl | omega) (rfl : _ = Value.int _ _)) ?_
          refine r_val .none rfl (p_eq rfl rfl) ?_
          refine r_nil ?_
          refine e_next ?_
          refine c_splitd (d := 34) rfl (fun h_15 => ?_) (fun h_15 => ?_)
          · skip
            first
              | (exfalso; omega)
              | (
                refine c_cond_t rfl ?_
                refine c_seq ?_
                refine c_region ?_
                refine r_val .none rfl (p_build (vs := []) rfl (bl25_ )) ?_
                refine r_stw (k := 1) .none sz25 rfl rfl (IsRow.lit _) (one_lit rfl rfl) rfl ?_
                refine r_val .none rfl (p_assign rfl) ?_
                refine r_nil ?_
                refine e_next ?_
                refine c_ret ?_
                refine e_ret_block ?_
                refine e_ret_then ?_
                refine e_ret_then ?_
                refine e_ret_block ?_
                refine e_ret_then ?_
                refine e_retn Try.results34 (.cell (k := 1) rfl Try.underlying25 rfl sz25 rfl (rfl : _ = Value.agg #[_, _, _]) (.tmp rfl .nil)) rfl (fun w hm => ⟨?_, hm.since⟩)
                rw [show put (rpv v0 n0 ps) (rpv v1 n1 ps) (rpv v2 n2 ps) 3 = none from upTo_no hput (by cases v2 <;> simp_all [put1, sel3, rpv, pv, vi]) (Nat.le_of_ble_eq_true rfl)]
                rfl
                )
          · skip
            first
              | (exfalso; omega)
              | (
                refine c_cond_f rfl ?_
                refine c_skip ?_
                refine e_norm_block ?_
                refine e_next ?_
                refine c_region ?_
                refine r_val .none rfl (p_move rfl) ?_
                refine r_val .none rfl (p_add rfl rfl (by omega)) ?_
                refine r_val .none rfl (p_assign rfl) ?_
                refine r_nil ?_
                refine e_round ((3, updI T 2 (rpv v2 n2 ps))) ⟨⟨Nat.le_of_ble_eq_true rfl, ?_⟩, Nat.le_of_ble_eq_true rfl⟩ rfl ⟨rfl, rfl, rfl, rfl, rfl, trivial⟩ (.keep (fun _ _ h => box_congr (fun i hi => by simp only [upd_eq, updI, rpv, pv]; cases v2 <;> simp_all [vi] <;> (try split) <;> simp_all) _ _ h) (.keep (fun _ _ h => h) (.keep (fun _ _ h => h) (.nil))))
                refine (upTo_next hput).trans ?_
                cases v2 <;> simp_all [put1, sel3, rpv, pv, vi]
                )
          )
  · skip
    refine c_seq ?_
    refine c_seq ?_
    refine c_region ?_
    refine r_val .none rfl (p_move rfl) ?_
    refine r_val .none rfl (p_lt rfl rfl) ?_
    refine r_say (d := 9) (v := Value.bool false) rfl ?_
    refine r_nil ?_
    refine e_next ?_
    refine c_cond_f rfl ?_
    refine c_exit ?_
    refine e_exit_then ?_
    refine e_exit_then ?_
    refine e_exit_block ?_
    refine e_next ?_
    refine c_seq ?_
    refine c_region ?_
    refine r_val .none rfl (p_ldw (k := 0) Try.underlying25 rfl sz25 rfl rfl (rfl : _ = Value.agg #[_, _, _])) ?_
    refine r_stw (k := 1) .none sz25 rfl rfl (IsRow.lit _) (one_lit rfl rfl) rfl ?_
    refine r_val .none rfl (p_assign rfl) ?_
    refine r_nil ?_
    refine e_next ?_
    refine c_ret ?_
    refine e_retn Try.results34 (.cell (k := 1) rfl Try.underlying25 rfl sz25 rfl (rfl : _ = Value.agg #[_, _, _]) (.tmp rfl .nil)) rfl (fun w hm => ⟨?_, hm.since⟩)
    rw [show put (rpv v0 n0 ps) (rpv v1 n1 ps) (rpv v2 n2 ps) 3 = some T from hput]
    rfl
theorem c_put (v0 : Bool) (n0 : Int) (v1 : Bool) (n1 : Int) (v2 : Bool) (n2 : Int) (B : Nat → Int)  (w : World)  :
    Calls Try.prog 33 #[Value.agg #[Value.bool v0, Value.int .i64 n0, Value.bool v1, Value.int .i64 n1, Value.bool v2, Value.int .i64 n2], aggF 33 (fun i => Value.int .i64 (B i))] w (Ret fun r w' => r = Value.tuple #[aggF 3 (fun i => Value.int .i64 (((put (pv v0 n0 B) (pv v1 n1 B) (pv v2 n2 B) 3).getD (fun _ => 0)) i)), Value.bool (put (pv v0 n0 B) (pv v1 n1 B) (pv v2 n2 B) 3).isSome] ∧ Since nX w w') := by
  refine enter (args := [_, _]) (X := nX) (G := (fun _ => none)) (l := [(0, Value.agg #[Value.bool v0, Value.int .i64 n0, Value.bool v1, Value.int .i64 n1, Value.bool v2, Value.int .i64 n2]), (1, aggF 33 (fun i => Value.int .i64 (B i)))]) Try.func33 rfl Try.ntmps33 (fun _ _ h => by cases h) ⟨rfl, rfl, trivial⟩ (Nat.le_of_ble_eq_true rfl) ?_
  refine c_seq ?_
  refine c_region ?_
  refine r_box .none rfl rfl (IsRow.lit _) (fun b_1 => ?_)
  refine r_box .none rfl rfl (IsRow.fn _ _) (fun b_2 => ?_)
  refine r_alloc .none rfl zr26 (IsRow.lit _) (fun b_3 => ?_)
  refine r_val .none rfl (p_assign rfl) ?_
  refine r_nil ?_
  refine e_next ?_
  refine c_seq ?_
  refine c_region ?_
  refine r_alloc .none rfl zr26 (IsRow.lit _) (fun b_4 => ?_)
  refine r_nil ?_
  refine e_next ?_
  refine c_seq ?_
  refine c_seq ?_
  refine c_region ?_
  refine r_val .none rfl (p_ldw (k := 3) Try.underlying24 rfl sz24 rfl rfl (rfl : _ = Value.agg #[_, _, _, _, _, _])) ?_
  refine r_val .none rfl (p_move rfl) ?_
  refine r_nil ?_
  refine e_next ?_
  refine c_block ?_
  refine c_name (d := 3) rfl (fun u_1 hu_1 => ?_)
  refine c_name (d := 4) rfl (fun u_2 hu_2 => ?_)
  refine c_name (d := 6) rfl (fun u_3 hu_3 => ?_)
  refine c_name (d := 9) rfl (fun u_4 hu_4 => ?_)
  refine c_nameL (k := 1) rfl (fun A_5 hA_5 => ?_)
  refine c_nameL (k := 2) rfl (fun A_6 hA_6 => ?_)
  refine c_nameL (k := 3) rfl (fun A_7 hA_7 => ?_)
  refine c_loop (σ := Nat × (Nat → Int)) (fun s => [(10, Value.int .i64 (s.1 : Int)), (3, u_1), (4, u_2), (6, u_3), (9, u_4)]) (fun s => [box b_4 3 26 (fun i => Value.int .i64 (s.2 i)), A_5, A_6, A_7]) (fun _ => _) (fun s => s.1 ≤ 3 ∧ put (pv v0 n0 B) (pv v1 n1 B) (pv v2 n2 B) s.1 = some s.2) (fun s => 3 - s.1) ((0, fun _ => 0)) ⟨by omega, rfl⟩ rfl ⟨rfl, rfl, rfl, rfl, rfl, trivial⟩ (.keep (fun _ _ h => box_congr (fun i hi => by match i, hi with | 0, _ => rfl | 1, _ => rfl | 2, _ => rfl) _ _ h) (.keep (fun _ _ h => h) (.keep (fun _ _ h => h) (.keep (fun _ _ h => h) (.nil))))) (fun s hphi => ?_)
  subst hu_1
  subst hu_2
  subst hu_3
  subst hu_4
  subst hA_5
  subst hA_6
  subst hA_7
  obtain ⟨k, T⟩ := s
  obtain ⟨hk, hput⟩ := hphi
  dsimp only at hk hput ⊢
  obtain rfl | rfl | rfl | rfl : k = 0 ∨ k = 1 ∨ k = 2 ∨ k = 3 := by omega
  · skip
    refine c_seq ?_
    refine c_region ?_
    refine r_val .none rfl (p_lt rfl rfl) ?_
    refine r_say (d := 11) (v := Value.bool true) rfl ?_
    refine r_nil ?_
    refine e_next ?_
    refine c_seq ?_
    refine c_cond_t rfl ?_
    refine c_skip ?_
    refine e_next ?_
    refine c_seq ?_
    refine c_block ?_
    refine c_seq ?_
    refine c_region ?_
    refine r_val .none rfl (p_move rfl) ?_
    refine r_val .none rfl (p_indexa (k := 0) Try.underlying24 Try.underlying23 rfl sz23 rfl (IsRow.lit _) rfl rfl (by first | exact of_decide_eq_true rfl | omega | exact cl_lt _) (rfl : _ = Value.agg #[_, _])) ?_
    refine r_alloc .none rfl zr23 (IsRow.lit _) (fun b_5 => ?_)
    refine r_val .none rfl (p_assign rfl) ?_
    refine r_stw (k := 0) .none sz23 rfl rfl (IsRow.lit _) (one_lit rfl rfl) rfl ?_
    refine r_nil ?_
    refine e_next ?_
    refine c_seq ?_
    refine c_seq ?_
    refine c_region ?_
    refine r_val .none rfl (p_move rfl) ?_
    refine r_val .none rfl (p_field Try.underlying23 rfl sz3 rfl) ?_
    refine r_val .none rfl (p_ld (k := 0) Try.underlying3 rfl rfl rfl (by first | exact of_decide_eq_true rfl | omega | exact cl_lt _) (rfl : _ = Value.int _ _)) ?_
    refine r_val .none rfl (p_iaddr (k := 0) Try.underlying26 sz3 rfl rfl (by first | exact of_decide_eq_true rfl | omega | exact cl_lt _)) ?_
    refine r_st (k := 1) .none sz3 rfl rfl rfl rfl (by first | exact of_decide_eq_true rfl | omega | exact cl_lt _) ?_
    refine r_nil ?_
    refine e_next ?_
    refine c_seq ?_
    refine c_region ?_
    refine r_val .none rfl (p_field Try.underlying23 rfl sz4 rfl) ?_
    refine r_val .none rfl (p_ld (k := 0) Try.underlying4 rfl rfl rfl (by first | exact of_decide_eq_true rfl | omega | exact cl_lt _) (rfl : _ = Value.bool _)) ?_
    refine r_nil ?_
    refine e_next ?_
    refine c_split (d := 19) rfl (fun h_8 => ?_) (fun h_8 => ?_)
    · skip
      first
        | (exfalso; omega)
        | (
          refine c_cond_t rfl ?_
          refine c_region ?_
          refine r_val .none rfl (p_move rfl) ?_
          refine r_val .none rfl (p_ldw (k := 0) Try.underlying23 rfl sz23 rfl rfl (rfl : _ = Value.agg #[_, _])) ?_
          refine r_call (vs := [_]) .none rfl cl39 rfl (fun w hw => c_at _ _ w) ?_
          refine r_val .none rfl (p_iaddr1 Try.underlying28 sz3 rfl rfl (by first | exact of_decide_eq_true rfl | omega | exact cl_lt _)) ?_
          refine r_val .none rfl (p_ld (k := 3) Try.underlying3 rfl rfl rfl (by first | exact of_decide_eq_true rfl | omega | exact cl_lt _) (rfl : _ = Value.int _ _)) ?_
          refine r_val .none rfl (p_iaddr (k := 0) Try.underlying26 sz3 rfl rfl (by first | exact of_decide_eq_true rfl | omega | exact cl_lt _)) ?_
          refine r_st (k := 1) .none sz3 rfl rfl rfl rfl (by first | exact of_decide_eq_true rfl | omega | exact cl_lt _) ?_
          refine r_nil ?_
          refine e_next ?_
          refine c_seq ?_
          refine c_region ?_
          refine r_val .none rfl (p_move rfl) ?_
          refine r_val .none rfl (p_iaddr (k := 0) Try.underlying26 sz3 rfl rfl (by first | exact of_decide_eq_true rfl | omega | exact cl_lt _)) ?_
          refine r_val .none rfl (p_ld (k := 1) Try.underlying3 rfl rfl rfl (by first | exact of_decide_eq_true rfl | omega | exact cl_lt _) (rfl : _ = Value.int _ _)) ?_
          refine r_val .none rfl (p_eq rfl rfl) ?_
          refine r_nil ?_
          refine e_next ?_
          refine c_splitd (d := 29) rfl (fun h_9 => ?_) (fun h_9 => ?_)
          · skip
            first
              | (exfalso; omega)
              | (
                refine c_cond_t rfl ?_
                refine c_seq ?_
                refine c_region ?_
                refine r_val .none rfl (p_build (vs := []) rfl (bl26_ )) ?_
                refine r_stw (k := 2) .none sz26 rfl rfl (IsRow.lit _) (one_lit rfl rfl) rfl ?_
                refine r_val .none rfl (p_assign rfl) ?_
                refine r_nil ?_
                refine e_next ?_
                refine c_ret ?_
                refine e_ret_block ?_
                refine e_ret_then ?_
                refine e_ret_then ?_
                refine e_ret_block ?_
                refine e_ret_then ?_
                refine e_retn Try.results33 (.cell (k := 2) rfl Try.underlying26 rfl sz26 rfl (rfl : _ = Value.agg #[_, _, _]) (.tmp rfl .nil)) rfl (fun w hm => ⟨?_, hm.since⟩)
                rw [show put (pv v0 n0 B) (pv v1 n1 B) (pv v2 n2 B) 3 = none from upTo_no hput (by cases v0 <;> simp_all [put1, sel3, rpv, pv, vi]) (Nat.le_of_ble_eq_true rfl)]
                rfl
                )
          · skip
            first
              | (exfalso; omega)
              | (
                refine c_cond_f rfl ?_
                refine c_skip ?_
                refine e_norm_block ?_
                refine e_next ?_
                refine c_region ?_
                refine r_val .none rfl (p_add rfl rfl (by omega)) ?_
                refine r_val .none rfl (p_move rfl) ?_
                refine r_nil ?_
                refine e_round ((1, updI T 0 (pv v0 n0 B))) ⟨⟨Nat.le_of_ble_eq_true rfl, ?_⟩, Nat.le_of_ble_eq_true rfl⟩ rfl ⟨rfl, rfl, rfl, rfl, rfl, trivial⟩ (.drop (.keep (fun _ _ h => box_congr (fun i hi => by simp only [upd_eq, updI, rpv, pv]; cases v0 <;> simp_all [vi] <;> (try split) <;> simp_all) _ _ h) (.keep (fun _ _ h => h) (.keep (fun _ _ h => h) (.keep (fun _ _ h => h) (.nil))))))
                refine (upTo_next hput).trans ?_
                cases v0 <;> simp_all [put1, sel3, rpv, pv, vi]
                )
          )
    · skip
      first
        | (exfalso; omega)
        | (
          refine c_cond_f rfl ?_
          refine c_skip ?_
          refine e_next ?_
          refine c_seq ?_
          refine c_region ?_
          refine r_val .none rfl (p_move rfl) ?_
          refine r_val .none rfl (p_iaddr (k := 0) Try.underlying26 sz3 rfl rfl (by first | exact of_decide_eq_true rfl | omega | exact cl_lt _)) ?_
          refine r_val .none rfl (p_ld (k := 1) Try.underlying3 rfl rfl rfl (by first | exact of_decide_eq_true rfl | omega | exact cl_lt _) (rfl : _ = Value.int _ _)) ?_
          refine r_val .none rfl (p_eq rfl rfl) ?_
          refine r_nil ?_
          refine e_next ?_
          refine c_splitd (d := 29) rfl (fun h_10 => ?_) (fun h_10 => ?_)
          · skip
            first
              | (exfalso; omega)
              | (
                refine c_cond_t rfl ?_
                refine c_seq ?_
                refine c_region ?_
                refine r_val .none rfl (p_build (vs := []) rfl (bl26_ )) ?_
                refine r_stw (k := 2) .none sz26 rfl rfl (IsRow.lit _) (one_lit rfl rfl) rfl ?_
                refine r_val .none rfl (p_assign rfl) ?_
                refine r_nil ?_
                refine e_next ?_
                refine c_ret ?_
                refine e_ret_block ?_
                refine e_ret_then ?_
                refine e_ret_then ?_
                refine e_ret_block ?_
                refine e_ret_then ?_
                refine e_retn Try.results33 (.cell (k := 2) rfl Try.underlying26 rfl sz26 rfl (rfl : _ = Value.agg #[_, _, _]) (.tmp rfl .nil)) rfl (fun w hm => ⟨?_, hm.since⟩)
                rw [show put (pv v0 n0 B) (pv v1 n1 B) (pv v2 n2 B) 3 = none from upTo_no hput (by cases v0 <;> simp_all [put1, sel3, rpv, pv, vi]) (Nat.le_of_ble_eq_true rfl)]
                rfl
                )
          · skip
            first
              | (exfalso; omega)
              | (
                refine c_cond_f rfl ?_
                refine c_skip ?_
                refine e_norm_block ?_
                refine e_next ?_
                refine c_region ?_
                refine r_val .none rfl (p_add rfl rfl (by omega)) ?_
                refine r_val .none rfl (p_move rfl) ?_
                refine r_nil ?_
                refine e_round ((1, updI T 0 (pv v0 n0 B))) ⟨⟨Nat.le_of_ble_eq_true rfl, ?_⟩, Nat.le_of_ble_eq_true rfl⟩ rfl ⟨rfl, rfl, rfl, rfl, rfl, trivial⟩ (.drop (.keep (fun _ _ h => box_congr (fun i hi => by simp only [upd_eq, updI, rpv, pv]; cases v0 <;> simp_all [vi] <;> (try split) <;> simp_all) _ _ h) (.keep (fun _ _ h => h) (.keep (fun _ _ h => h) (.keep (fun _ _ h => h) (.nil))))))
                refine (upTo_next hput).trans ?_
                cases v0 <;> simp_all [put1, sel3, rpv, pv, vi]
                )
          )
  · skip
    refine c_seq ?_
    refine c_region ?_
    refine r_val .none rfl (p_lt rfl rfl) ?_
    refine r_say (d := 11) (v := Value.bool true) rfl ?_
    refine r_nil ?_
    refine e_next ?_
    refine c_seq ?_
    refine c_cond_t rfl ?_
    refine c_skip ?_
    refine e_next ?_
    refine c_seq ?_
    refine c_block ?_
    refine c_seq ?_
    refine c_region ?_
    refine r_val .none rfl (p_move rfl) ?_
    refine r_val .none rfl (p_indexa (k := 1) Try.underlying24 Try.underlying23 rfl sz23 rfl (IsRow.lit _) rfl rfl (by first | exact of_decide_eq_true rfl | omega | exact cl_lt _) (rfl : _ = Value.agg #[_, _])) ?_
    refine r_alloc .none rfl zr23 (IsRow.lit _) (fun b_6 => ?_)
    refine r_val .none rfl (p_assign rfl) ?_
    refine r_stw (k := 0) .none sz23 rfl rfl (IsRow.lit _) (one_lit rfl rfl) rfl ?_
    refine r_nil ?_
    refine e_next ?_
    refine c_seq ?_
    refine c_seq ?_
    refine c_region ?_
    refine r_val .none rfl (p_move rfl) ?_
    refine r_val .none rfl (p_field Try.underlying23 rfl sz3 rfl) ?_
    refine r_val .none rfl (p_ld (k := 0) Try.underlying3 rfl rfl rfl (by first | exact of_decide_eq_true rfl | omega | exact cl_lt _) (rfl : _ = Value.int _ _)) ?_
    refine r_val .none rfl (p_iaddr (k := 1) Try.underlying26 sz3 rfl rfl (by first | exact of_decide_eq_true rfl | omega | exact cl_lt _)) ?_
    refine r_st (k := 1) .none sz3 rfl rfl rfl rfl (by first | exact of_decide_eq_true rfl | omega | exact cl_lt _) ?_
    refine r_nil ?_
    refine e_next ?_
    refine c_seq ?_
    refine c_region ?_
    refine r_val .none rfl (p_field Try.underlying23 rfl sz4 rfl) ?_
    refine r_val .none rfl (p_ld (k := 0) Try.underlying4 rfl rfl rfl (by first | exact of_decide_eq_true rfl | omega | exact cl_lt _) (rfl : _ = Value.bool _)) ?_
    refine r_nil ?_
    refine e_next ?_
    refine c_split (d := 19) rfl (fun h_11 => ?_) (fun h_11 => ?_)
    · skip
      first
        | (exfalso; omega)
        | (
          refine c_cond_t rfl ?_
          refine c_region ?_
          refine r_val .none rfl (p_move rfl) ?_
          refine r_val .none rfl (p_ldw (k := 0) Try.underlying23 rfl sz23 rfl rfl (rfl : _ = Value.agg #[_, _])) ?_
          refine r_call (vs := [_]) .none rfl cl39 rfl (fun w hw => c_at _ _ w) ?_
          refine r_val .none rfl (p_iaddr1 Try.underlying28 sz3 rfl rfl (by first | exact of_decide_eq_true rfl | omega | exact cl_lt _)) ?_
          refine r_val .none rfl (p_ld (k := 3) Try.underlying3 rfl rfl rfl (by first | exact of_decide_eq_true rfl | omega | exact cl_lt _) (rfl : _ = Value.int _ _)) ?_
          refine r_val .none rfl (p_iaddr (k := 1) Try.underlying26 sz3 rfl rfl (by first | exact of_decide_eq_true rfl | omega | exact cl_lt _)) ?_
          refine r_st (k := 1) .none sz3 rfl rfl rfl rfl (by first | exact of_decide_eq_true rfl | omega | exact cl_lt _) ?_
          refine r_nil ?_
          refine e_next ?_
          refine c_seq ?_
          refine c_region ?_
          refine r_val .none rfl (p_move rfl) ?_
          refine r_val .none rfl (p_iaddr (k := 1) Try.underlying26 sz3 rfl rfl (by first | exact of_decide_eq_true rfl | omega | exact cl_lt _)) ?_
          refine r_val .none rfl (p_ld (k := 1) Try.underlying3 rfl rfl rfl (by first | exact of_decide_eq_true rfl | omega | exact cl_lt _) (rfl : _ = Value.int _ _)) ?_
          refine r_val .none rfl (p_eq rfl rfl) ?_
          refine r_nil ?_
          refine e_next ?_
          refine c_splitd (d := 29) rfl (fun h_12 => ?_) (fun h_12 => ?_)
          · skip
            first
              | (exfalso; omega)
              | (
                refine c_cond_t rfl ?_
                refine c_seq ?_
                refine c_region ?_
                refine r_val .none rfl (p_build (vs := []) rfl (bl26_ )) ?_
                refine r_stw (k := 2) .none sz26 rfl rfl (IsRow.lit _) (one_lit rfl rfl) rfl ?_
                refine r_val .none rfl (p_assign rfl) ?_
                refine r_nil ?_
                refine e_next ?_
                refine c_ret ?_
                refine e_ret_block ?_
                refine e_ret_then ?_
                refine e_ret_then ?_
                refine e_ret_block ?_
                refine e_ret_then ?_
                refine e_retn Try.results33 (.cell (k := 2) rfl Try.underlying26 rfl sz26 rfl (rfl : _ = Value.agg #[_, _, _]) (.tmp rfl .nil)) rfl (fun w hm => ⟨?_, hm.since⟩)
                rw [show put (pv v0 n0 B) (pv v1 n1 B) (pv v2 n2 B) 3 = none from upTo_no hput (by cases v1 <;> simp_all [put1, sel3, rpv, pv, vi]) (Nat.le_of_ble_eq_true rfl)]
                rfl
                )
          · skip
            first
              | (exfalso; omega)
              | (
                refine c_cond_f rfl ?_
                refine c_skip ?_
                refine e_norm_block ?_
                refine e_next ?_
                refine c_region ?_
                refine r_val .none rfl (p_add rfl rfl (by omega)) ?_
                refine r_val .none rfl (p_move rfl) ?_
                refine r_nil ?_
                refine e_round ((2, updI T 1 (pv v1 n1 B))) ⟨⟨Nat.le_of_ble_eq_true rfl, ?_⟩, Nat.le_of_ble_eq_true rfl⟩ rfl ⟨rfl, rfl, rfl, rfl, rfl, trivial⟩ (.drop (.keep (fun _ _ h => box_congr (fun i hi => by simp only [upd_eq, updI, rpv, pv]; cases v1 <;> simp_all [vi] <;> (try split) <;> simp_all) _ _ h) (.keep (fun _ _ h => h) (.keep (fun _ _ h => h) (.keep (fun _ _ h => h) (.nil))))))
                refine (upTo_next hput).trans ?_
                cases v1 <;> simp_all [put1, sel3, rpv, pv, vi]
                )
          )
    · skip
      first
        | (exfalso; omega)
        | (
          refine c_cond_f rfl ?_
          refine c_skip ?_
          refine e_next ?_
          refine c_seq ?_
          refine c_region ?_
          refine r_val .none rfl (p_move rfl) ?_
          refine r_val .none rfl (p_iaddr (k := 1) Try.underlying26 sz3 rfl rfl (by first | exact of_decide_eq_true rfl | omega | exact cl_lt _)) ?_
          refine r_val .none rfl (p_ld (k := 1) Try.underlying3 rfl rfl rfl (by first | exact of_decide_eq_true rfl | omega | exact cl_lt _) (rfl : _ = Value.int _ _)) ?_
          refine r_val .none rfl (p_eq rfl rfl) ?_
          refine r_nil ?_
          refine e_next ?_
          refine c_splitd (d := 29) rfl (fun h_13 => ?_) (fun h_13 => ?_)
          · skip
            first
              | (exfalso; omega)
              | (
                refine c_cond_t rfl ?_
                refine c_seq ?_
                refine c_region ?_
                refine r_val .none rfl (p_build (vs := []) rfl (bl26_ )) ?_
                refine r_stw (k := 2) .none sz26 rfl rfl (IsRow.lit _) (one_lit rfl rfl) rfl ?_
                refine r_val .none rfl (p_assign rfl) ?_
                refine r_nil ?_
                refine e_next ?_
                refine c_ret ?_
                refine e_ret_block ?_
                refine e_ret_then ?_
                refine e_ret_then ?_
                refine e_ret_block ?_
                refine e_ret_then ?_
                refine e_retn Try.results33 (.cell (k := 2) rfl Try.underlying26 rfl sz26 rfl (rfl : _ = Value.agg #[_, _, _]) (.tmp rfl .nil)) rfl (fun w hm => ⟨?_, hm.since⟩)
                rw [show put (pv v0 n0 B) (pv v1 n1 B) (pv v2 n2 B) 3 = none from upTo_no hput (by cases v1 <;> simp_all [put1, sel3, rpv, pv, vi]) (Nat.le_of_ble_eq_true rfl)]
                rfl
                )
          · skip
            first
              | (exfalso; omega)
              | (
                refine c_cond_f rfl ?_
                refine c_skip ?_
                refine e_norm_block ?_
                refine e_next ?_
                refine c_region ?_
                refine r_val .none rfl (p_add rfl rfl (by omega)) ?_
                refine r_val .none rfl (p_move rfl) ?_
                refine r_nil ?_
                refine e_round ((2, updI T 1 (pv v1 n1 B))) ⟨⟨Nat.le_of_ble_eq_true rfl, ?_⟩, Nat.le_of_ble_eq_true rfl⟩ rfl ⟨rfl, rfl, rfl, rfl, rfl, trivial⟩ (.drop (.keep (fun _ _ h => box_congr (fun i hi => by simp only [upd_eq, updI, rpv, pv]; cases v1 <;> simp_all [vi] <;> (try split) <;> simp_all) _ _ h) (.keep (fun _ _ h => h) (.keep (fun _ _ h => h) (.keep (fun _ _ h => h) (.nil))))))
                refine (upTo_next hput).trans ?_
                cases v1 <;> simp_all [put1, sel3, rpv, pv, vi]
                )
          )
  · skip
    refine c_seq ?_
    refine c_region ?_
    refine r_val .none rfl (p_lt rfl rfl) ?_
    refine r_say (d := 11) (v := Value.bool true) rfl ?_
    refine r_nil ?_
    refine e_next ?_
    refine c_seq ?_
    refine c_cond_t rfl ?_
    refine c_skip ?_
    refine e_next ?_
    refine c_seq ?_
    refine c_block ?_
    refine c_seq ?_
    refine c_region ?_
    refine r_val .none rfl (p_move rfl) ?_
    refine r_val .none rfl (p_indexa (k := 2) Try.underlying24 Try.underlying23 rfl sz23 rfl (IsRow.lit _) rfl rfl (by first | exact of_decide_eq_true rfl | omega | exact cl_lt _) (rfl : _ = Value.agg #[_, _])) ?_
    refine r_alloc .none rfl zr23 (IsRow.lit _) (fun b_7 => ?_)
    refine r_val .none rfl (p_assign rfl) ?_
    refine r_stw (k := 0) .none sz23 rfl rfl (IsRow.lit _) (one_lit rfl rfl) rfl ?_
    refine r_nil ?_
    refine e_next ?_
    refine c_seq ?_
    refine c_seq ?_
    refine c_region ?_
    refine r_val .none rfl (p_move rfl) ?_
    refine r_val .none rfl (p_field Try.underlying23 rfl sz3 rfl) ?_
    refine r_val .none rfl (p_ld (k := 0) Try.underlying3 rfl rfl rfl (by first | exact of_decide_eq_true rfl | omega | exact cl_lt _) (rfl : _ = Value.int _ _)) ?_
    refine r_val .none rfl (p_iaddr (k := 2) Try.underlying26 sz3 rfl rfl (by first | exact of_decide_eq_true rfl | omega | exact cl_lt _)) ?_
    refine r_st (k := 1) .none sz3 rfl rfl rfl rfl (by first | exact of_decide_eq_true rfl | omega | exact cl_lt _) ?_
    refine r_nil ?_
    refine e_next ?_
    refine c_seq ?_
    refine c_region ?_
    refine r_val .none rfl (p_field Try.underlying23 rfl sz4 rfl) ?_
    refine r_val .none rfl (p_ld (k := 0) Try.underlying4 rfl rfl rfl (by first | exact of_decide_eq_true rfl | omega | exact cl_lt _) (rfl : _ = Value.bool _)) ?_
    refine r_nil ?_
    refine e_next ?_
    refine c_split (d := 19) rfl (fun h_14 => ?_) (fun h_14 => ?_)
    · skip
      first
        | (exfalso; omega)
        | (
          refine c_cond_t rfl ?_
          refine c_region ?_
          refine r_val .none rfl (p_move rfl) ?_
          refine r_val .none rfl (p_ldw (k := 0) Try.underlying23 rfl sz23 rfl rfl (rfl : _ = Value.agg #[_, _])) ?_
          refine r_call (vs := [_]) .none rfl cl39 rfl (fun w hw => c_at _ _ w) ?_
          refine r_val .none rfl (p_iaddr1 Try.underlying28 sz3 rfl rfl (by first | exact of_decide_eq_true rfl | omega | exact cl_lt _)) ?_
          refine r_val .none rfl (p_ld (k := 3) Try.underlying3 rfl rfl rfl (by first | exact of_decide_eq_true rfl | omega | exact cl_lt _) (rfl : _ = Value.int _ _)) ?_
          refine r_val .none rfl (p_iaddr (k := 2) Try.underlying26 sz3 rfl rfl (by first | exact of_decide_eq_true rfl | omega | exact cl_lt _)) ?_
          refine r_st (k := 1) .none sz3 rfl rfl rfl rfl (by first | exact of_decide_eq_true rfl | omega | exact cl_lt _) ?_
          refine r_nil ?_
          refine e_next ?_
          refine c_seq ?_
          refine c_region ?_
          refine r_val .none rfl (p_move rfl) ?_
          refine r_val .none rfl (p_iaddr (k := 2) Try.underlying26 sz3 rfl rfl (by first | exact of_decide_eq_true rfl | omega | exact cl_lt _)) ?_
          refine r_val .none rfl (p_ld (k := 1) Try.underlying3 rfl rfl rfl (by first | exact of_decide_eq_true rfl | omega | exact cl_lt _) (rfl : _ = Value.int _ _)) ?_
          refine r_val .none rfl (p_eq rfl rfl) ?_
          refine r_nil ?_
          refine e_next ?_
          refine c_splitd (d := 29) rfl (fun h_15 => ?_) (fun h_15 => ?_)
          · skip
            first
              | (exfalso; omega)
              | (
                refine c_cond_t rfl ?_
                refine c_seq ?_
                refine c_region ?_
                refine r_val .none rfl (p_build (vs := []) rfl (bl26_ )) ?_
                refine r_stw (k := 2) .none sz26 rfl rfl (IsRow.lit _) (one_lit rfl rfl) rfl ?_
                refine r_val .none rfl (p_assign rfl) ?_
                refine r_nil ?_
                refine e_next ?_
                refine c_ret ?_
                refine e_ret_block ?_
                refine e_ret_then ?_
                refine e_ret_then ?_
                refine e_ret_block ?_
                refine e_ret_then ?_
                refine e_retn Try.results33 (.cell (k := 2) rfl Try.underlying26 rfl sz26 rfl (rfl : _ = Value.agg #[_, _, _]) (.tmp rfl .nil)) rfl (fun w hm => ⟨?_, hm.since⟩)
                rw [show put (pv v0 n0 B) (pv v1 n1 B) (pv v2 n2 B) 3 = none from upTo_no hput (by cases v2 <;> simp_all [put1, sel3, rpv, pv, vi]) (Nat.le_of_ble_eq_true rfl)]
                rfl
                )
          · skip
            first
              | (exfalso; omega)
              | (
                refine c_cond_f rfl ?_
                refine c_skip ?_
                refine e_norm_block ?_
                refine e_next ?_
                refine c_region ?_
                refine r_val .none rfl (p_add rfl rfl (by omega)) ?_
                refine r_val .none rfl (p_move rfl) ?_
                refine r_nil ?_
                refine e_round ((3, updI T 2 (pv v2 n2 B))) ⟨⟨Nat.le_of_ble_eq_true rfl, ?_⟩, Nat.le_of_ble_eq_true rfl⟩ rfl ⟨rfl, rfl, rfl, rfl, rfl, trivial⟩ (.drop (.keep (fun _ _ h => box_congr (fun i hi => by simp only [upd_eq, updI, rpv, pv]; cases v2 <;> simp_all [vi] <;> (try split) <;> simp_all) _ _ h) (.keep (fun _ _ h => h) (.keep (fun _ _ h => h) (.keep (fun _ _ h => h) (.nil))))))
                refine (upTo_next hput).trans ?_
                cases v2 <;> simp_all [put1, sel3, rpv, pv, vi]
                )
          )
    · skip
      first
        | (exfalso; omega)
        | (
          refine c_cond_f rfl ?_
          refine c_skip ?_
          refine e_next ?_
          refine c_seq ?_
          refine c_region ?_
          refine r_val .none rfl (p_move rfl) ?_
          refine r_val .none rfl (p_iaddr (k := 2) Try.underlying26 sz3 rfl rfl (by first | exact of_decide_eq_true rfl | omega | exact cl_lt _)) ?_
          refine r_val .none rfl (p_ld (k := 1) Try.underlying3 rfl rfl rfl (by first | exact of_decide_eq_true rfl | omega | exact cl_lt _) (rfl : _ = Value.int _ _)) ?_
          refine r_val .none rfl (p_eq rfl rfl) ?_
          refine r_nil ?_
          refine e_next ?_
          refine c_splitd (d := 29) rfl (fun h_16 => ?_) (fun h_16 => ?_)
          · skip
            first
              | (exfalso; omega)
              | (
                refine c_cond_t rfl ?_
                refine c_seq ?_
                refine c_region ?_
                refine r_val .none rfl (p_build (vs := []) rfl (bl26_ )) ?_
                refine r_stw (k := 2) .none sz26 rfl rfl (IsRow.lit _) (one_lit rfl rfl) rfl ?_
                refine r_val .none rfl (p_assign rfl) ?_
                refine r_nil ?_
                refine e_next ?_
                refine c_ret ?_
                refine e_ret_block ?_
                refine e_ret_then ?_
                refine e_ret_then ?_
                refine e_ret_block ?_
                refine e_ret_then ?_
                refine e_retn Try.results33 (.cell (k := 2) rfl Try.underlying26 rfl sz26 rfl (rfl : _ = Value.agg #[_, _, _]) (.tmp rfl .nil)) rfl (fun w hm => ⟨?_, hm.since⟩)
                rw [show put (pv v0 n0 B) (pv v1 n1 B) (pv v2 n2 B) 3 = none from upTo_no hput (by cases v2 <;> simp_all [put1, sel3, rpv, pv, vi]) (Nat.le_of_ble_eq_true rfl)]
                rfl
                )
          · skip
            first
              | (exfalso; omega)
              | (
                refine c_cond_f rfl ?_
                refine c_skip ?_
                refine e_norm_block ?_
                refine e_next ?_
                refine c_region ?_
                refine r_val .none rfl (p_add rfl rfl (by omega)) ?_
                refine r_val .none rfl (p_move rfl) ?_
                refine r_nil ?_
                refine e_round ((3, updI T 2 (pv v2 n2 B))) ⟨⟨Nat.le_of_ble_eq_true rfl, ?_⟩, Nat.le_of_ble_eq_true rfl⟩ rfl ⟨rfl, rfl, rfl, rfl, rfl, trivial⟩ (.drop (.keep (fun _ _ h => box_congr (fun i hi => by simp only [upd_eq, updI, rpv, pv]; cases v2 <;> simp_all [vi] <;> (try split) <;> simp_all) _ _ h) (.keep (fun _ _ h => h) (.keep (fun _ _ h => h) (.keep (fun _ _ h => h) (.nil))))))
                refine (upTo_next hput).trans ?_
                cases v2 <;> simp_all [put1, sel3, rpv, pv, vi]
                )
          )
  · skip
    refine c_seq ?_
    refine c_region ?_
    refine r_val .none rfl (p_lt rfl rfl) ?_
    refine r_say (d := 11) (v := Value.bool false) rfl ?_
    refine r_nil ?_
    refine e_next ?_
    refine c_seq ?_
    refine c_cond_f rfl ?_
    refine c_exit ?_
    refine e_exit_then ?_
    refine e_exit_then ?_
    refine e_exit_block ?_
    refine e_next ?_
    refine c_seq ?_
    refine c_region ?_
    refine r_val .none rfl (p_ldw (k := 0) Try.underlying26 rfl sz26 rfl rfl (rfl : _ = Value.agg #[_, _, _])) ?_
    refine r_stw (k := 1) .none sz26 rfl rfl (IsRow.lit _) (one_lit rfl rfl) rfl ?_
    refine r_val .none rfl (p_assign rfl) ?_
    refine r_nil ?_
    refine e_next ?_
    refine c_ret ?_
    refine e_retn Try.results33 (.cell (k := 1) rfl Try.underlying26 rfl sz26 rfl (rfl : _ = Value.agg #[_, _, _]) (.tmp rfl .nil)) rfl (fun w hm => ⟨?_, hm.since⟩)
    rw [show put (pv v0 n0 B) (pv v1 n1 B) (pv v2 n2 B) 3 = some T from hput]
    rfl
theorem c_rfit (v0 : Bool) (n0 : Int) (v1 : Bool) (n1 : Int) (v2 : Bool) (n2 : Int) (t0 t1 t2 : Int) (s : Value) (ps : List Pr) {G : Ghost} (hs : SlL G s 2 pr (0, 0) ps) (hl : ps.length ≤ 33) (w : World) (hG : Has G w) :
    Calls Try.prog 30 #[Value.agg #[Value.int .i64 (vi v0), Value.int .i64 n0, Value.int .i64 (vi v1), Value.int .i64 n1, Value.int .i64 (vi v2), Value.int .i64 n2], Value.agg #[Value.int .i64 t0, Value.int .i64 t1, Value.int .i64 t2], s] w (Ret fun r w' => ∃ G', GNew w nX G G' ∧ Has G' w' ∧ (∃ v, r = .tuple #[v, .bool (rfit v0 n0 v1 n1 v2 n2 t0 t1 t2 ps 3).isSome] ∧ SlL G' v 2 pr (0, 0) ((rfit v0 n0 v1 n1 v2 n2 t0 t1 t2 ps 3).getD ps)) ∧ Since nX w w') := by
  refine enter (args := [_, _, _]) (X := nX) (G := G) (l := [(0, Value.agg #[Value.int .i64 (vi v0), Value.int .i64 n0, Value.int .i64 (vi v1), Value.int .i64 n1, Value.int .i64 (vi v2), Value.int .i64 n2]), (1, Value.agg #[Value.int .i64 t0, Value.int .i64 t1, Value.int .i64 t2]), (2, s)]) Try.func30 rfl Try.ntmps30 hG ⟨rfl, rfl, rfl, trivial⟩ (Nat.le_of_ble_eq_true rfl) ?_
  refine c_seq ?_
  refine c_region ?_
  refine r_box .none rfl rfl (IsRow.lit _) (fun b_1 => ?_)
  refine r_box .none rfl rfl (IsRow.lit _) (fun b_2 => ?_)
  refine r_val .none rfl (p_assign rfl) ?_
  refine r_val .none rfl (p_assign rfl) ?_
  refine r_nil ?_
  refine e_next ?_
  refine c_seq ?_
  refine c_region ?_
  refine r_val .none rfl (p_assign rfl) ?_
  refine r_nil ?_
  refine e_next ?_
  refine c_seq ?_
  refine c_region ?_
  refine r_val .none rfl (p_move rfl) ?_
  refine r_val .none rfl (p_move rfl) ?_
  refine r_nilrow 79 2 ?_
  refine r_append_g (k := 0) .none rfl Try.underlying56 el79 rfl (by decide) rfl rfl rfl hs (fun _ _ _ hj => one_lit rfl rfl _ hj) (by simp only [maxLen]; omega) (by omega) (fun v_1 => ?_)
  refine r_val .none rfl (p_assign rfl) ?_
  refine r_nil ?_
  refine e_next ?_
  refine c_seq ?_
  refine c_seq ?_
  refine c_region ?_
  refine r_val .none rfl (p_assign rfl) ?_
  refine r_nil ?_
  refine e_next ?_
  refine c_block ?_
  refine c_name (d := 2) rfl (fun u_2 hu_2 => ?_)
  refine c_name (d := 3) rfl (fun u_3 hu_3 => ?_)
  refine c_name (d := 4) rfl (fun u_4 hu_4 => ?_)
  refine c_nameL (k := 1) rfl (fun A_5 hA_5 => ?_)
  refine c_nameL (k := 2) rfl (fun A_6 hA_6 => ?_)
  refine c_loop (σ := Nat × Value × List Pr) (fun s => [(9, Value.int .i64 (s.1 : Int)), (8, s.2.1), (2, u_2), (3, u_3), (4, u_4)]) (fun s => [rowA (s.2.1) 79 2 (s.2.2).length ((s.2.2).flatMap pr), A_5, A_6]) (fun _ => _) (fun s => s.1 ≤ 3 ∧ rfit v0 n0 v1 n1 v2 n2 t0 t1 t2 ps s.1 = some s.2.2) (fun s => 3 - s.1) ((0, _, ps)) ⟨by omega, rfl⟩ rfl ⟨rfl, rfl, rfl, rfl, rfl, trivial⟩ (.keep (fun _ _ h => rowA_congr (Nat.zero_add _) ((List.nil_append _).trans (flat_pr0 ps)) _ _ h) (.keep (fun _ _ h => h) (.keep (fun _ _ h => h) (.nil)))) (fun s hphi => ?_)
  subst hu_2
  subst hu_3
  subst hu_4
  subst hA_5
  subst hA_6
  obtain ⟨k, v, qs⟩ := s
  obtain ⟨hk, hfit⟩ := hphi
  dsimp only at hk hfit ⊢
  have hlen := rfit_len hfit
  obtain rfl | rfl | rfl | rfl : k = 0 ∨ k = 1 ∨ k = 2 ∨ k = 3 := by omega
  · skip
    refine c_seq ?_
    refine c_seq ?_
    refine c_region ?_
    refine r_val .none rfl (p_move rfl) ?_
    refine r_val .none rfl (p_lt rfl rfl) ?_
    refine r_say (d := 16) (v := Value.bool true) rfl ?_
    refine r_nil ?_
    refine e_next ?_
    refine c_cond_t rfl ?_
    refine c_skip ?_
    refine e_next ?_
    refine c_seq ?_
    refine c_block ?_
    refine c_seq ?_
    refine c_region ?_
    refine r_val .none rfl (p_move rfl) ?_
    refine r_val .none rfl (p_iaddr (k := 0) Try.underlying41 sz40 rfl rfl (by first | exact of_decide_eq_true rfl | omega)) ?_
    refine r_val .none rfl (p_lda (k := 2) Try.underlying40 rfl sz40 rfl rfl (by first | exact of_decide_eq_true rfl | omega) (rfl : _ = Value.agg #[_, _])) ?_
    refine r_alloc .none rfl zr40 (IsRow.lit _) (fun b_3 => ?_)
    refine r_stw (k := 0) .none sz40 rfl rfl (IsRow.lit _) (one_lit rfl rfl) rfl ?_
    refine r_nil ?_
    refine e_next ?_
    refine c_seq ?_
    refine c_seq ?_
    refine c_region ?_
    refine r_val .none rfl (p_field Try.underlying40 rfl sz3 rfl) ?_
    refine r_val .none rfl (p_ld (k := 0) Try.underlying3 rfl rfl rfl (by first | exact of_decide_eq_true rfl | omega) (rfl : _ = Value.int _ _)) ?_
    refine r_val .none rfl (p_eq rfl rfl) ?_
    refine r_nil ?_
    refine e_next ?_
    refine c_splitd (d := 24) rfl (fun h_7 => ?_) (fun h_7 => ?_)
    · skip
      first
        | (exfalso; omega)
        | (
          refine c_cond_t rfl ?_
          refine c_seq ?_
          refine c_seq ?_
          refine c_region_q mixed (by kernel_rfl) ?_
          refine q_val .none rfl (p_field Try.underlying40 rfl sz3 rfl) ?_
          refine q_val .none rfl (p_ld (k := 0) Try.underlying3 rfl rfl rfl (by first | exact of_decide_eq_true rfl | omega) (rfl : _ = Value.int _ _)) ?_
          refine q_val .none rfl (p_move rfl) ?_
          refine q_val .none rfl (p_iaddr (k := 0) Try.underlying25 sz3 rfl rfl (by first | exact of_decide_eq_true rfl | omega)) ?_
          refine q_val .none rfl (p_ld (k := 2) Try.underlying3 rfl rfl rfl (by first | exact of_decide_eq_true rfl | omega) (rfl : _ = Value.int _ _)) ?_
          refine q_val .none rfl (p_ne rfl rfl) ?_
          refine q_nil ?_
          refine e_next ?_
          refine c_splitd (d := 30) rfl (fun h_8 => ?_) (fun h_8 => ?_)
          · skip
            first
              | (exfalso; omega)
              | (
                refine c_cond_t rfl ?_
                refine c_seq ?_
                refine c_region ?_
                refine r_val .none rfl (p_move rfl) ?_
                refine r_val .none rfl (p_assign rfl) ?_
                refine r_val .none rfl (p_assign rfl) ?_
                refine r_nil ?_
                refine e_next ?_
                refine c_ret ?_
                refine e_ret_then ?_
                refine e_ret_then ?_
                refine e_ret_block ?_
                refine e_ret_then ?_
                refine e_ret_then ?_
                refine e_ret_block ?_
                refine e_ret_then ?_
                refine e_retn Try.results30 (.tmp rfl (.tmp rfl .nil)) rfl (fun w hm => ⟨_, (GNew.refl _ _ _), hm.has, ?_, hm.since⟩)
                rw [show rfit v0 n0 v1 n1 v2 n2 t0 t1 t2 ps 3 = none from upTo_no hfit (by cases v0 <;> simp_all [rfit1, selB, sel3, vi]) (Nat.le_of_ble_eq_true rfl)]; exact ⟨_, rfl, hs⟩
                )
          · skip
            first
              | (exfalso; omega)
              | (
                refine c_cond_f rfl ?_
                refine c_skip ?_
                refine e_next ?_
                refine c_exit ?_
                refine e_exit_then ?_
                refine e_exit_block ?_
                refine e_next ?_
                refine c_region ?_
                refine r_val .none rfl (p_move rfl) ?_
                refine r_val .none rfl (p_add rfl rfl (by omega)) ?_
                refine r_val .none rfl (p_assign rfl) ?_
                refine r_nil ?_
                refine e_round ((1, _, qs)) ⟨⟨Nat.le_of_ble_eq_true rfl, ?_⟩, Nat.le_of_ble_eq_true rfl⟩ rfl ⟨rfl, rfl, rfl, rfl, rfl, trivial⟩ (.drop (.keep (fun _ _ h => rowA_same rfl _ _ h) (.keep (fun _ _ h => h) (.keep (fun _ _ h => h) (.nil)))))
                refine (upTo_next hfit).trans ?_
                cases v0 <;> simp_all [rfit1, selB, sel3, vi]
                )
          )
    · skip
      first
        | (exfalso; omega)
        | (
          refine c_cond_f rfl ?_
          refine c_skip ?_
          refine e_next ?_
          refine c_seq ?_
          refine c_region ?_
          refine r_val .none rfl (p_move rfl) ?_
          refine r_val .none rfl (p_field Try.underlying40 rfl sz3 rfl) ?_
          refine r_val .none rfl (p_ld (k := 0) Try.underlying3 rfl rfl rfl (by first | exact of_decide_eq_true rfl | omega) (rfl : _ = Value.int _ _)) ?_
          refine r_callr (k := 1) (vs := [_, _]) .none rfl cl32 rfl rfl (fun w G_9 hw hle_10 hs_11 => c_get _ _ _ (SlL.of (0, 0) (fun _ => rfl) rfl hs_11) w hw) ?_
          refine r_val .none rfl (p_assign rfl) ?_
          refine r_nil ?_
          refine e_next ?_
          refine c_seq ?_
          refine c_region ?_
          refine r_val .none rfl (p_move rfl) ?_
          refine r_val .none rfl (p_eq rfl rfl) ?_
          refine r_nil ?_
          refine e_next ?_
          refine c_splitd (d := 37) rfl (fun h_12 => ?_) (fun h_12 => ?_)
          · skip
            first
              | (exfalso; omega)
              | (
                refine c_cond_t rfl ?_
                refine c_region_d (fun _ => false) _ mixed (.keep (fun _ _ h => h) (.drop (.keep (fun _ _ h => h) (.keep (fun _ _ h => h) (.nil))))) ?_
                refine d_val1 0 rfl rfl (by kernel_rfl) (fun _ _ => rfl) .none rfl (p_move rfl) ?_
                refine d_val1 1 rfl rfl (by kernel_rfl) (fun _ _ => rfl) .none rfl (p_field Try.underlying40 rfl sz3 rfl) ?_
                refine d_val1 2 rfl rfl (by kernel_rfl) (fun _ _ => rfl) .none rfl (p_ld (k := 0) Try.underlying3 rfl rfl rfl (by first | exact of_decide_eq_true rfl | omega) (rfl : _ = Value.int _ _)) ?_
                refine d_val1 3 rfl rfl (by kernel_rfl) (fun _ _ => rfl) .none rfl (p_move rfl) ?_
                refine d_val1 4 rfl rfl (by kernel_rfl) (fun _ _ => rfl) .none rfl (p_iaddr (k := 0) Try.underlying25 sz3 rfl rfl (by first | exact of_decide_eq_true rfl | omega)) ?_
                refine d_val1 5 rfl rfl (by kernel_rfl) (fun _ _ => rfl) .none rfl (p_ld (k := 1) Try.underlying3 rfl rfl rfl (by first | exact of_decide_eq_true rfl | omega) (rfl : _ = Value.int _ _)) ?_
                refine d_val1 6 rfl rfl (by kernel_rfl) (fun _ _ => rfl) .none rfl (p_build (vs := [(0, Value.int _ _), (1, Value.int _ _)]) rfl (bl79_0i1_1i1 _ _)) ?_
                refine d_eff 7 rfl (by kernel_rfl) (fun K_13 hKK_13 hcK_13 => ?_)
                refine r_bslice (vs := [(0, Value.agg #[_, _])]) (c := #[_, _]) .none rfl Try.underlying56 el79 rfl rfl rfl (bs79_10a2 _ _) (IsRow.lit _) (fun b_4 => ?_)
                refine r_nil (e_d (i := 7) (brk := (fun _ => false)) (ph' := true) hKK_13 hcK_13 rfl (fun _ => GLe.refl _) (fun _ => .drop (.keep (fun _ _ h => h) (.drop (.keep (fun _ _ h => h) (.keep (fun _ _ h => h) (.nil)))))) ?_)
                refine d_eff 8 rfl (by kernel_rfl) (fun K_14 hKK_14 hcK_14 => ?_)
                refine r_append (k := 2) (k2 := 0) .none rfl Try.underlying56 el79 rfl (by decide) rfl rfl rfl rfl rfl (one_lit rfl rfl) (by simp only [maxLen]; omega) (by omega) (fun v_15 => ?_)
                refine r_nil (e_d (i := 8) (brk := (fun _ => false)) (ph' := true) hKK_14 hcK_14 rfl (fun _ => GLe.refl _) (fun _ => .drop (.keep (fun _ _ h => h) (.drop (.keep (fun _ _ h => h) (.keep (fun _ _ h => h) (.nil)))))) ?_)
                refine d_val1 9 rfl rfl (by kernel_rfl) (fun _ _ => rfl) .none rfl (p_assign rfl) ?_
                refine d_nil (by kernel_rfl) ?_
                refine e_norm_block ?_
                refine e_next ?_
                refine c_region ?_
                refine r_val .none rfl (p_move rfl) ?_
                refine r_val .none rfl (p_add rfl rfl (by omega)) ?_
                refine r_val .none rfl (p_assign rfl) ?_
                refine r_nil ?_
                refine e_round ((1, _, qs ++ [(n0, t0)])) ⟨⟨Nat.le_of_ble_eq_true rfl, ?_⟩, Nat.le_of_ble_eq_true rfl⟩ rfl ⟨rfl, rfl, rfl, rfl, rfl, trivial⟩ (.drop (.drop (.keep (fun _ _ h => rowA_snoc (l := qs) (x := (n0, t0)) rfl rfl rfl rfl _ _ h) (.keep (fun _ _ h => h) (.keep (fun _ _ h => h) (.nil))))))
                refine (upTo_next hfit).trans ?_
                cases v0 <;> simp_all [rfit1, selB, sel3, vi]
                )
          · skip
            first
              | (exfalso; omega)
              | (
                refine c_cond_f rfl ?_
                refine c_seq ?_
                refine c_region ?_
                refine r_val .none rfl (p_move rfl) ?_
                refine r_val .none rfl (p_move rfl) ?_
                refine r_val .none rfl (p_iaddr (k := 0) Try.underlying25 sz3 rfl rfl (by first | exact of_decide_eq_true rfl | omega)) ?_
                refine r_val .none rfl (p_ld (k := 2) Try.underlying3 rfl rfl rfl (by first | exact of_decide_eq_true rfl | omega) (rfl : _ = Value.int _ _)) ?_
                refine r_val .none rfl (p_ne rfl rfl) ?_
                refine r_nil ?_
                refine e_next ?_
                refine c_splitd (d := 51) rfl (fun h_16 => ?_) (fun h_16 => ?_)
                · skip
                  first
                    | (exfalso; omega)
                    | (
                      refine c_cond_t rfl ?_
                      refine c_seq ?_
                      refine c_region ?_
                      refine r_val .none rfl (p_move rfl) ?_
                      refine r_val .none rfl (p_assign rfl) ?_
                      refine r_val .none rfl (p_assign rfl) ?_
                      refine r_nil ?_
                      refine e_next ?_
                      refine c_ret ?_
                      refine e_ret_block ?_
                      refine e_ret_then ?_
                      refine e_ret_then ?_
                      refine e_ret_block ?_
                      refine e_ret_then ?_
                      refine e_retn Try.results30 (.tmp rfl (.tmp rfl .nil)) rfl (fun w hm => ⟨_, (GNew.refl _ _ _), hm.has, ?_, hm.since⟩)
                      rw [show rfit v0 n0 v1 n1 v2 n2 t0 t1 t2 ps 3 = none from upTo_no hfit (by cases v0 <;> simp_all [rfit1, selB, sel3, vi]) (Nat.le_of_ble_eq_true rfl)]; exact ⟨_, rfl, hs⟩
                      )
                · skip
                  first
                    | (exfalso; omega)
                    | (
                      refine c_cond_f rfl ?_
                      refine c_skip ?_
                      refine e_norm_block ?_
                      refine e_next ?_
                      refine c_region ?_
                      refine r_val .none rfl (p_move rfl) ?_
                      refine r_val .none rfl (p_add rfl rfl (by omega)) ?_
                      refine r_val .none rfl (p_assign rfl) ?_
                      refine r_nil ?_
                      refine e_round ((1, _, qs)) ⟨⟨Nat.le_of_ble_eq_true rfl, ?_⟩, Nat.le_of_ble_eq_true rfl⟩ rfl ⟨rfl, rfl, rfl, rfl, rfl, trivial⟩ (.drop (.keep (fun _ _ h => rowA_same rfl _ _ h) (.keep (fun _ _ h => h) (.keep (fun _ _ h => h) (.nil)))))
                      refine (upTo_next hfit).trans ?_
                      cases v0 <;> simp_all [rfit1, selB, sel3, vi]
                      )
                )
          )
  · skip
    refine c_seq ?_
    refine c_seq ?_
    refine c_region ?_
    refine r_val .none rfl (p_move rfl) ?_
    refine r_val .none rfl (p_lt rfl rfl) ?_
    refine r_say (d := 16) (v := Value.bool true) rfl ?_
    refine r_nil ?_
    refine e_next ?_
    refine c_cond_t rfl ?_
    refine c_skip ?_
    refine e_next ?_
    refine c_seq ?_
    refine c_block ?_
    refine c_seq ?_
    refine c_region ?_
    refine r_val .none rfl (p_move rfl) ?_
    refine r_val .none rfl (p_iaddr (k := 1) Try.underlying41 sz40 rfl rfl (by first | exact of_decide_eq_true rfl | omega)) ?_
    refine r_val .none rfl (p_lda (k := 2) Try.underlying40 rfl sz40 rfl rfl (by first | exact of_decide_eq_true rfl | omega) (rfl : _ = Value.agg #[_, _])) ?_
    refine r_alloc .none rfl zr40 (IsRow.lit _) (fun b_5 => ?_)
    refine r_stw (k := 0) .none sz40 rfl rfl (IsRow.lit _) (one_lit rfl rfl) rfl ?_
    refine r_nil ?_
    refine e_next ?_
    refine c_seq ?_
    refine c_seq ?_
    refine c_region ?_
    refine r_val .none rfl (p_field Try.underlying40 rfl sz3 rfl) ?_
    refine r_val .none rfl (p_ld (k := 0) Try.underlying3 rfl rfl rfl (by first | exact of_decide_eq_true rfl | omega) (rfl : _ = Value.int _ _)) ?_
    refine r_val .none rfl (p_eq rfl rfl) ?_
    refine r_nil ?_
    refine e_next ?_
    refine c_splitd (d := 24) rfl (fun h_17 => ?_) (fun h_17 => ?_)
    · skip
      first
        | (exfalso; omega)
        | (
          refine c_cond_t rfl ?_
          refine c_seq ?_
          refine c_seq ?_
          refine c_region_q mixed (by kernel_rfl) ?_
          refine q_val .none rfl (p_field Try.underlying40 rfl sz3 rfl) ?_
          refine q_val .none rfl (p_ld (k := 0) Try.underlying3 rfl rfl rfl (by first | exact of_decide_eq_true rfl | omega) (rfl : _ = Value.int _ _)) ?_
          refine q_val .none rfl (p_move rfl) ?_
          refine q_val .none rfl (p_iaddr (k := 1) Try.underlying25 sz3 rfl rfl (by first | exact of_decide_eq_true rfl | omega)) ?_
          refine q_val .none rfl (p_ld (k := 2) Try.underlying3 rfl rfl rfl (by first | exact of_decide_eq_true rfl | omega) (rfl : _ = Value.int _ _)) ?_
          refine q_val .none rfl (p_ne rfl rfl) ?_
          refine q_nil ?_
          refine e_next ?_
          refine c_splitd (d := 30) rfl (fun h_18 => ?_) (fun h_18 => ?_)
          · skip
            first
              | (exfalso; omega)
              | (
                refine c_cond_t rfl ?_
                refine c_seq ?_
                refine c_region ?_
                refine r_val .none rfl (p_move rfl) ?_
                refine r_val .none rfl (p_assign rfl) ?_
                refine r_val .none rfl (p_assign rfl) ?_
                refine r_nil ?_
                refine e_next ?_
                refine c_ret ?_
                refine e_ret_then ?_
                refine e_ret_then ?_
                refine e_ret_block ?_
                refine e_ret_then ?_
                refine e_ret_then ?_
                refine e_ret_block ?_
                refine e_ret_then ?_
                refine e_retn Try.results30 (.tmp rfl (.tmp rfl .nil)) rfl (fun w hm => ⟨_, (GNew.refl _ _ _), hm.has, ?_, hm.since⟩)
                rw [show rfit v0 n0 v1 n1 v2 n2 t0 t1 t2 ps 3 = none from upTo_no hfit (by cases v1 <;> simp_all [rfit1, selB, sel3, vi]) (Nat.le_of_ble_eq_true rfl)]; exact ⟨_, rfl, hs⟩
                )
          · skip
            first
              | (exfalso; omega)
              | (
                refine c_cond_f rfl ?_
                refine c_skip ?_
                refine e_next ?_
                refine c_exit ?_
                refine e_exit_then ?_
                refine e_exit_block ?_
                refine e_next ?_
                refine c_region ?_
                refine r_val .none rfl (p_move rfl) ?_
                refine r_val .none rfl (p_add rfl rfl (by omega)) ?_
                refine r_val .none rfl (p_assign rfl) ?_
                refine r_nil ?_
                refine e_round ((2, _, qs)) ⟨⟨Nat.le_of_ble_eq_true rfl, ?_⟩, Nat.le_of_ble_eq_true rfl⟩ rfl ⟨rfl, rfl, rfl, rfl, rfl, trivial⟩ (.drop (.keep (fun _ _ h => rowA_same rfl _ _ h) (.keep (fun _ _ h => h) (.keep (fun _ _ h => h) (.nil)))))
                refine (upTo_next hfit).trans ?_
                cases v1 <;> simp_all [rfit1, selB, sel3, vi]
                )
          )
    · skip
      first
        | (exfalso; omega)
        | (
          refine c_cond_f rfl ?_
          refine c_skip ?_
          refine e_next ?_
          refine c_seq ?_
          refine c_region ?_
          refine r_val .none rfl (p_move rfl) ?_
          refine r_val .none rfl (p_field Try.underlying40 rfl sz3 rfl) ?_
          refine r_val .none rfl (p_ld (k := 0) Try.underlying3 rfl rfl rfl (by first | exact of_decide_eq_true rfl | omega) (rfl : _ = Value.int _ _)) ?_
          refine r_callr (k := 1) (vs := [_, _]) .none rfl cl32 rfl rfl (fun w G_19 hw hle_20 hs_21 => c_get _ _ _ (SlL.of (0, 0) (fun _ => rfl) rfl hs_21) w hw) ?_
          refine r_val .none rfl (p_assign rfl) ?_
          refine r_nil ?_
          refine e_next ?_
          refine c_seq ?_
          refine c_region ?_
          refine r_val .none rfl (p_move rfl) ?_
          refine r_val .none rfl (p_eq rfl rfl) ?_
          refine r_nil ?_
          refine e_next ?_
          refine c_splitd (d := 37) rfl (fun h_22 => ?_) (fun h_22 => ?_)
          · skip
            first
              | (exfalso; omega)
              | (
                refine c_cond_t rfl ?_
                refine c_region_d (fun _ => false) _ mixed (.keep (fun _ _ h => h) (.drop (.keep (fun _ _ h => h) (.keep (fun _ _ h => h) (.nil))))) ?_
                refine d_val1 0 rfl rfl (by kernel_rfl) (fun _ _ => rfl) .none rfl (p_move rfl) ?_
                refine d_val1 1 rfl rfl (by kernel_rfl) (fun _ _ => rfl) .none rfl (p_field Try.underlying40 rfl sz3 rfl) ?_
                refine d_val1 2 rfl rfl (by kernel_rfl) (fun _ _ => rfl) .none rfl (p_ld (k := 0) Try.underlying3 rfl rfl rfl (by first | exact of_decide_eq_true rfl | omega) (rfl : _ = Value.int _ _)) ?_
                refine d_val1 3 rfl rfl (by kernel_rfl) (fun _ _ => rfl) .none rfl (p_move rfl) ?_
                refine d_val1 4 rfl rfl (by kernel_rfl) (fun _ _ => rfl) .none rfl (p_iaddr (k := 1) Try.underlying25 sz3 rfl rfl (by first | exact of_decide_eq_true rfl | omega)) ?_
                refine d_val1 5 rfl rfl (by kernel_rfl) (fun _ _ => rfl) .none rfl (p_ld (k := 1) Try.underlying3 rfl rfl rfl (by first | exact of_decide_eq_true rfl | omega) (rfl : _ = Value.int _ _)) ?_
                refine d_val1 6 rfl rfl (by kernel_rfl) (fun _ _ => rfl) .none rfl (p_build (vs := [(0, Value.int _ _), (1, Value.int _ _)]) rfl (bl79_0i1_1i1 _ _)) ?_
                refine d_eff 7 rfl (by kernel_rfl) (fun K_23 hKK_23 hcK_23 => ?_)
                refine r_bslice (vs := [(0, Value.agg #[_, _])]) (c := #[_, _]) .none rfl Try.underlying56 el79 rfl rfl rfl (bs79_10a2 _ _) (IsRow.lit _) (fun b_6 => ?_)
                refine r_nil (e_d (i := 7) (brk := (fun _ => false)) (ph' := true) hKK_23 hcK_23 rfl (fun _ => GLe.refl _) (fun _ => .drop (.keep (fun _ _ h => h) (.drop (.keep (fun _ _ h => h) (.keep (fun _ _ h => h) (.nil)))))) ?_)
                refine d_eff 8 rfl (by kernel_rfl) (fun K_24 hKK_24 hcK_24 => ?_)
                refine r_append (k := 2) (k2 := 0) .none rfl Try.underlying56 el79 rfl (by decide) rfl rfl rfl rfl rfl (one_lit rfl rfl) (by simp only [maxLen]; omega) (by omega) (fun v_25 => ?_)
                refine r_nil (e_d (i := 8) (brk := (fun _ => false)) (ph' := true) hKK_24 hcK_24 rfl (fun _ => GLe.refl _) (fun _ => .drop (.keep (fun _ _ h => h) (.drop (.keep (fun _ _ h => h) (.keep (fun _ _ h => h) (.nil)))))) ?_)
                refine d_val1 9 rfl rfl (by kernel_rfl) (fun _ _ => rfl) .none rfl (p_assign rfl) ?_
                refine d_nil (by kernel_rfl) ?_
                refine e_norm_block ?_
                refine e_next ?_
                refine c_region ?_
                refine r_val .none rfl (p_move rfl) ?_
                refine r_val .none rfl (p_add rfl rfl (by omega)) ?_
                refine r_val .none rfl (p_assign rfl) ?_
                refine r_nil ?_
                refine e_round ((2, _, qs ++ [(n1, t1)])) ⟨⟨Nat.le_of_ble_eq_true rfl, ?_⟩, Nat.le_of_ble_eq_true rfl⟩ rfl ⟨rfl, rfl, rfl, rfl, rfl, trivial⟩ (.drop (.drop (.keep (fun _ _ h => rowA_snoc (l := qs) (x := (n1, t1)) rfl rfl rfl rfl _ _ h) (.keep (fun _ _ h => h) (.keep (fun _ _ h => h) (.nil))))))
                refine (upTo_next hfit).trans ?_
                cases v1 <;> simp_all [rfit1, selB, sel3, vi]
                )
          · skip
            first
              | (exfalso; omega)
              | (
                refine c_cond_f rfl ?_
                refine c_seq ?_
                refine c_region ?_
                refine r_val .none rfl (p_move rfl) ?_
                refine r_val .none rfl (p_move rfl) ?_
                refine r_val .none rfl (p_iaddr (k := 1) Try.underlying25 sz3 rfl rfl (by first | exact of_decide_eq_true rfl | omega)) ?_
                refine r_val .none rfl (p_ld (k := 2) Try.underlying3 rfl rfl rfl (by first | exact of_decide_eq_true rfl | omega) (rfl : _ = Value.int _ _)) ?_
                refine r_val .none rfl (p_ne rfl rfl) ?_
                refine r_nil ?_
                refine e_next ?_
                refine c_splitd (d := 51) rfl (fun h_26 => ?_) (fun h_26 => ?_)
                · skip
                  first
                    | (exfalso; omega)
                    | (
                      refine c_cond_t rfl ?_
                      refine c_seq ?_
                      refine c_region ?_
                      refine r_val .none rfl (p_move rfl) ?_
                      refine r_val .none rfl (p_assign rfl) ?_
                      refine r_val .none rfl (p_assign rfl) ?_
                      refine r_nil ?_
                      refine e_next ?_
                      refine c_ret ?_
                      refine e_ret_block ?_
                      refine e_ret_then ?_
                      refine e_ret_then ?_
                      refine e_ret_block ?_
                      refine e_ret_then ?_
                      refine e_retn Try.results30 (.tmp rfl (.tmp rfl .nil)) rfl (fun w hm => ⟨_, (GNew.refl _ _ _), hm.has, ?_, hm.since⟩)
                      rw [show rfit v0 n0 v1 n1 v2 n2 t0 t1 t2 ps 3 = none from upTo_no hfit (by cases v1 <;> simp_all [rfit1, selB, sel3, vi]) (Nat.le_of_ble_eq_true rfl)]; exact ⟨_, rfl, hs⟩
                      )
                · skip
                  first
                    | (exfalso; omega)
                    | (
                      refine c_cond_f rfl ?_
                      refine c_skip ?_
                      refine e_norm_block ?_
                      refine e_next ?_
                      refine c_region ?_
                      refine r_val .none rfl (p_move rfl) ?_
                      refine r_val .none rfl (p_add rfl rfl (by omega)) ?_
                      refine r_val .none rfl (p_assign rfl) ?_
                      refine r_nil ?_
                      refine e_round ((2, _, qs)) ⟨⟨Nat.le_of_ble_eq_true rfl, ?_⟩, Nat.le_of_ble_eq_true rfl⟩ rfl ⟨rfl, rfl, rfl, rfl, rfl, trivial⟩ (.drop (.keep (fun _ _ h => rowA_same rfl _ _ h) (.keep (fun _ _ h => h) (.keep (fun _ _ h => h) (.nil)))))
                      refine (upTo_next hfit).trans ?_
                      cases v1 <;> simp_all [rfit1, selB, sel3, vi]
                      )
                )
          )
  · skip
    refine c_seq ?_
    refine c_seq ?_
    refine c_region ?_
    refine r_val .none rfl (p_move rfl) ?_
    refine r_val .none rfl (p_lt rfl rfl) ?_
    refine r_say (d := 16) (v := Value.bool true) rfl ?_
    refine r_nil ?_
    refine e_next ?_
    refine c_cond_t rfl ?_
    refine c_skip ?_
    refine e_next ?_
    refine c_seq ?_
    refine c_block ?_
    refine c_seq ?_
    refine c_region ?_
    refine r_val .none rfl (p_move rfl) ?_
    refine r_val .none rfl (p_iaddr (k := 2) Try.underlying41 sz40 rfl rfl (by first | exact of_decide_eq_true rfl | omega)) ?_
    refine r_val .none rfl (p_lda (k := 2) Try.underlying40 rfl sz40 rfl rfl (by first | exact of_decide_eq_true rfl | omega) (rfl : _ = Value.agg #[_, _])) ?_
    refine r_alloc .none rfl zr40 (IsRow.lit _) (fun b_7 => ?_)
    refine r_stw (k := 0) .none sz40 rfl rfl (IsRow.lit _) (one_lit rfl rfl) rfl ?_
    refine r_nil ?_
    refine e_next ?_
    refine c_seq ?_
    refine c_seq ?_
    refine c_region ?_
    refine r_val .none rfl (p_field Try.underlying40 rfl sz3 rfl) ?_
    refine r_val .none rfl (p_ld (k := 0) Try.underlying3 rfl rfl rfl (by first | exact of_decide_eq_true rfl | omega) (rfl : _ = Value.int _ _)) ?_
    refine r_val .none rfl (p_eq rfl rfl) ?_
    refine r_nil ?_
    refine e_next ?_
    refine c_splitd (d := 24) rfl (fun h_27 => ?_) (fun h_27 => ?_)
    · skip
      first
        | (exfalso; omega)
        | (
          refine c_cond_t rfl ?_
          refine c_seq ?_
          refine c_seq ?_
          refine c_region_q mixed (by kernel_rfl) ?_
          refine q_val .none rfl (p_field Try.underlying40 rfl sz3 rfl) ?_
          refine q_val .none rfl (p_ld (k := 0) Try.underlying3 rfl rfl rfl (by first | exact of_decide_eq_true rfl | omega) (rfl : _ = Value.int _ _)) ?_
          refine q_val .none rfl (p_move rfl) ?_
          refine q_val .none rfl (p_iaddr (k := 2) Try.underlying25 sz3 rfl rfl (by first | exact of_decide_eq_true rfl | omega)) ?_
          refine q_val .none rfl (p_ld (k := 2) Try.underlying3 rfl rfl rfl (by first | exact of_decide_eq_true rfl | omega) (rfl : _ = Value.int _ _)) ?_
          refine q_val .none rfl (p_ne rfl rfl) ?_
          refine q_nil ?_
          refine e_next ?_
          refine c_splitd (d := 30) rfl (fun h_28 => ?_) (fun h_28 => ?_)
          · skip
            first
              | (exfalso; omega)
              | (
                refine c_cond_t rfl ?_
                refine c_seq ?_
                refine c_region ?_
                refine r_val .none rfl (p_move rfl) ?_
                refine r_val .none rfl (p_assign rfl) ?_
                refine r_val .none rfl (p_assign rfl) ?_
                refine r_nil ?_
                refine e_next ?_
                refine c_ret ?_
                refine e_ret_then ?_
                refine e_ret_then ?_
                refine e_ret_block ?_
                refine e_ret_then ?_
                refine e_ret_then ?_
                refine e_ret_block ?_
                refine e_ret_then ?_
                refine e_retn Try.results30 (.tmp rfl (.tmp rfl .nil)) rfl (fun w hm => ⟨_, (GNew.refl _ _ _), hm.has, ?_, hm.since⟩)
                rw [show rfit v0 n0 v1 n1 v2 n2 t0 t1 t2 ps 3 = none from upTo_no hfit (by cases v2 <;> simp_all [rfit1, selB, sel3, vi]) (Nat.le_of_ble_eq_true rfl)]; exact ⟨_, rfl, hs⟩
                )
          · skip
            first
              | (exfalso; omega)
              | (
                refine c_cond_f rfl ?_
                refine c_skip ?_
                refine e_next ?_
                refine c_exit ?_
                refine e_exit_then ?_
                refine e_exit_block ?_
                refine e_next ?_
                refine c_region ?_
                refine r_val .none rfl (p_move rfl) ?_
                refine r_val .none rfl (p_add rfl rfl (by omega)) ?_
                refine r_val .none rfl (p_assign rfl) ?_
                refine r_nil ?_
                refine e_round ((3, _, qs)) ⟨⟨Nat.le_of_ble_eq_true rfl, ?_⟩, Nat.le_of_ble_eq_true rfl⟩ rfl ⟨rfl, rfl, rfl, rfl, rfl, trivial⟩ (.drop (.keep (fun _ _ h => rowA_same rfl _ _ h) (.keep (fun _ _ h => h) (.keep (fun _ _ h => h) (.nil)))))
                refine (upTo_next hfit).trans ?_
                cases v2 <;> simp_all [rfit1, selB, sel3, vi]
                )
          )
    · skip
      first
        | (exfalso; omega)
        | (
          refine c_cond_f rfl ?_
          refine c_skip ?_
          refine e_next ?_
          refine c_seq ?_
          refine c_region ?_
          refine r_val .none rfl (p_move rfl) ?_
          refine r_val .none rfl (p_field Try.underlying40 rfl sz3 rfl) ?_
          refine r_val .none rfl (p_ld (k := 0) Try.underlying3 rfl rfl rfl (by first | exact of_decide_eq_true rfl | omega) (rfl : _ = Value.int _ _)) ?_
          refine r_callr (k := 1) (vs := [_, _]) .none rfl cl32 rfl rfl (fun w G_29 hw hle_30 hs_31 => c_get _ _ _ (SlL.of (0, 0) (fun _ => rfl) rfl hs_31) w hw) ?_
          refine r_val .none rfl (p_assign rfl) ?_
          refine r_nil ?_
          refine e_next ?_
          refine c_seq ?_
          refine c_region ?_
          refine r_val .none rfl (p_move rfl) ?_
          refine r_val .none rfl (p_eq rfl rfl) ?_
          refine r_nil ?_
          refine e_next ?_
          refine c_splitd (d := 37) rfl (fun h_32 => ?_) (fun h_32 => ?_)
          · skip
            first
              | (exfalso; omega)
              | (
                refine c_cond_t rfl ?_
                refine c_region_d (fun _ => false) _ mixed (.keep (fun _ _ h => h) (.drop (.keep (fun _ _ h => h) (.keep (fun _ _ h => h) (.nil))))) ?_
                refine d_val1 0 rfl rfl (by kernel_rfl) (fun _ _ => rfl) .none rfl (p_move rfl) ?_
                refine d_val1 1 rfl rfl (by kernel_rfl) (fun _ _ => rfl) .none rfl (p_field Try.underlying40 rfl sz3 rfl) ?_
                refine d_val1 2 rfl rfl (by kernel_rfl) (fun _ _ => rfl) .none rfl (p_ld (k := 0) Try.underlying3 rfl rfl rfl (by first | exact of_decide_eq_true rfl | omega) (rfl : _ = Value.int _ _)) ?_
                refine d_val1 3 rfl rfl (by kernel_rfl) (fun _ _ => rfl) .none rfl (p_move rfl) ?_
                refine d_val1 4 rfl rfl (by kernel_rfl) (fun _ _ => rfl) .none rfl (p_iaddr (k := 2) Try.underlying25 sz3 rfl rfl (by first | exact of_decide_eq_true rfl | omega)) ?_
                refine d_val1 5 rfl rfl (by kernel_rfl) (fun _ _ => rfl) .none rfl (p_ld (k := 1) Try.underlying3 rfl rfl rfl (by first | exact of_decide_eq_true rfl | omega) (rfl : _ = Value.int _ _)) ?_
                refine d_val1 6 rfl rfl (by kernel_rfl) (fun _ _ => rfl) .none rfl (p_build (vs := [(0, Value.int _ _), (1, Value.int _ _)]) rfl (bl79_0i1_1i1 _ _)) ?_
                refine d_eff 7 rfl (by kernel_rfl) (fun K_33 hKK_33 hcK_33 => ?_)
                refine r_bslice (vs := [(0, Value.agg #[_, _])]) (c := #[_, _]) .none rfl Try.underlying56 el79 rfl rfl rfl (bs79_10a2 _ _) (IsRow.lit _) (fun b_8 => ?_)
                refine r_nil (e_d (i := 7) (brk := (fun _ => false)) (ph' := true) hKK_33 hcK_33 rfl (fun _ => GLe.refl _) (fun _ => .drop (.keep (fun _ _ h => h) (.drop (.keep (fun _ _ h => h) (.keep (fun _ _ h => h) (.nil)))))) ?_)
                refine d_eff 8 rfl (by kernel_rfl) (fun K_34 hKK_34 hcK_34 => ?_)
                refine r_append (k := 2) (k2 := 0) .none rfl Try.underlying56 el79 rfl (by decide) rfl rfl rfl rfl rfl (one_lit rfl rfl) (by simp only [maxLen]; omega) (by omega) (fun v_35 => ?_)
                refine r_nil (e_d (i := 8) (brk := (fun _ => false)) (ph' := true) hKK_34 hcK_34 rfl (fun _ => GLe.refl _) (fun _ => .drop (.keep (fun _ _ h => h) (.drop (.keep (fun _ _ h => h) (.keep (fun _ _ h => h) (.nil)))))) ?_)
                refine d_val1 9 rfl rfl (by kernel_rfl) (fun _ _ => rfl) .none rfl (p_assign rfl) ?_
                refine d_nil (by kernel_rfl) ?_
                refine e_norm_block ?_
                refine e_next ?_
                refine c_region ?_
                refine r_val .none rfl (p_move rfl) ?_
                refine r_val .none rfl (p_add rfl rfl (by omega)) ?_
                refine r_val .none rfl (p_assign rfl) ?_
                refine r_nil ?_
                refine e_round ((3, _, qs ++ [(n2, t2)])) ⟨⟨Nat.le_of_ble_eq_true rfl, ?_⟩, Nat.le_of_ble_eq_true rfl⟩ rfl ⟨rfl, rfl, rfl, rfl, rfl, trivial⟩ (.drop (.drop (.keep (fun _ _ h => rowA_snoc (l := qs) (x := (n2, t2)) rfl rfl rfl rfl _ _ h) (.keep (fun _ _ h => h) (.keep (fun _ _ h => h) (.nil))))))
                refine (upTo_next hfit).trans ?_
                cases v2 <;> simp_all [rfit1, selB, sel3, vi]
                )
          · skip
            first
              | (exfalso; omega)
              | (
                refine c_cond_f rfl ?_
                refine c_seq ?_
                refine c_region ?_
                refine r_val .none rfl (p_move rfl) ?_
                refine r_val .none rfl (p_move rfl) ?_
                refine r_val .none rfl (p_iaddr (k := 2) Try.underlying25 sz3 rfl rfl (by first | exact of_decide_eq_true rfl | omega)) ?_
                refine r_val .none rfl (p_ld (k := 2) Try.underlying3 rfl rfl rfl (by first | exact of_decide_eq_true rfl | omega) (rfl : _ = Value.int _ _)) ?_
                refine r_val .none rfl (p_ne rfl rfl) ?_
                refine r_nil ?_
                refine e_next ?_
                refine c_splitd (d := 51) rfl (fun h_36 => ?_) (fun h_36 => ?_)
                · skip
                  first
                    | (exfalso; omega)
                    | (
                      refine c_cond_t rfl ?_
                      refine c_seq ?_
                      refine c_region ?_
                      refine r_val .none rfl (p_move rfl) ?_
                      refine r_val .none rfl (p_assign rfl) ?_
                      refine r_val .none rfl (p_assign rfl) ?_
                      refine r_nil ?_
                      refine e_next ?_
                      refine c_ret ?_
                      refine e_ret_block ?_
                      refine e_ret_then ?_
                      refine e_ret_then ?_
                      refine e_ret_block ?_
                      refine e_ret_then ?_
                      refine e_retn Try.results30 (.tmp rfl (.tmp rfl .nil)) rfl (fun w hm => ⟨_, (GNew.refl _ _ _), hm.has, ?_, hm.since⟩)
                      rw [show rfit v0 n0 v1 n1 v2 n2 t0 t1 t2 ps 3 = none from upTo_no hfit (by cases v2 <;> simp_all [rfit1, selB, sel3, vi]) (Nat.le_of_ble_eq_true rfl)]; exact ⟨_, rfl, hs⟩
                      )
                · skip
                  first
                    | (exfalso; omega)
                    | (
                      refine c_cond_f rfl ?_
                      refine c_skip ?_
                      refine e_norm_block ?_
                      refine e_next ?_
                      refine c_region ?_
                      refine r_val .none rfl (p_move rfl) ?_
                      refine r_val .none rfl (p_add rfl rfl (by omega)) ?_
                      refine r_val .none rfl (p_assign rfl) ?_
                      refine r_nil ?_
                      refine e_round ((3, _, qs)) ⟨⟨Nat.le_of_ble_eq_true rfl, ?_⟩, Nat.le_of_ble_eq_true rfl⟩ rfl ⟨rfl, rfl, rfl, rfl, rfl, trivial⟩ (.drop (.keep (fun _ _ h => rowA_same rfl _ _ h) (.keep (fun _ _ h => h) (.keep (fun _ _ h => h) (.nil)))))
                      refine (upTo_next hfit).trans ?_
                      cases v2 <;> simp_all [rfit1, selB, sel3, vi]
                      )
                )
          )
  · skip
    refine c_seq ?_
    refine c_seq ?_
    refine c_region ?_
    refine r_val .none rfl (p_move rfl) ?_
    refine r_val .none rfl (p_lt rfl rfl) ?_
    refine r_say (d := 16) (v := Value.bool false) rfl ?_
    refine r_nil ?_
    refine e_next ?_
    refine c_cond_f rfl ?_
    refine c_exit ?_
    refine e_exit_then ?_
    refine e_exit_then ?_
    refine e_exit_block ?_
    refine e_next ?_
    refine c_seq ?_
    refine c_region ?_
    refine r_val .none rfl (p_move rfl) ?_
    refine r_val .none rfl (p_assign rfl) ?_
    refine r_val .none rfl (p_assign rfl) ?_
    refine r_nil ?_
    refine e_next ?_
    refine c_ret ?_
    refine e_freeze (k := 0) rfl (fun G_37 hn_38 hs_39 => ?_)
    refine e_retn Try.results30 (.tmp rfl (.tmp rfl .nil)) rfl (fun w hm => ⟨_, hn_38, hm.has, ?_, hm.since⟩)
    rw [show rfit v0 n0 v1 n1 v2 n2 t0 t1 t2 ps 3 = some qs from hfit]; exact ⟨_, rfl, SlL.of (0, 0) (fun _ => rfl) rfl hs_39⟩
end Go.Proofs.Ytjgdkahblhpinaa
