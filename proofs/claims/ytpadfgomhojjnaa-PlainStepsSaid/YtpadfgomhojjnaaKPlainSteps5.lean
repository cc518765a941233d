/- Texts of this work, laid together: a logic of steps, plain laws, and walks of Go functions, each without a condition but those that its theorems name. -/
import Derived.Test.YtpadfgomhojjnaaKPlainSteps4
import Derived.Test.YtpadfgomhojjnaaRows
/- Walks: what Go functions of this chapter come to, each as a function on plain data; no condition but those that each theorem names. Printed by a program of this work (gen.py). -/
namespace Go.Proofs.Ytpadfgomhojjnaa
open Go.Gx Go.Gx.T1 Go.Gx.T3 Go.Gx.T4 Go.Gx.T3 Go.Gx.T5 Go.Gx.T1 Go.Gx.T8 Go.Gx.T6 Go.Gx.T4 Go.Gx.T3 Go.Gx.T6 Go.Gx.T8 Go.Gx.T4 Go.Gx.T3 Go.Gx.T8 Go.Gx.T4 Go.Gx.T3 Go.Gx.T8 Go.Gx.T6 Go.Gx.T4 Go.Gx.T3
theorem sz9 : SzIs Try.prog 9 1 := by
 unfold SzIs
 kernel_rfl
theorem sz69 : SzIs Try.prog 69 2 := by
 unfold SzIs
 kernel_rfl
theorem sz77 : SzIs Try.prog 77 2 := by
 unfold SzIs
 kernel_rfl
theorem zr77 : ZeroIs Try.prog 77 (Value.agg #[Value.string ⟨#[]⟩, Value.slice none 0 0]) := by
 unfold ZeroIs
 kernel_rfl
theorem cl33 : Callable Try.prog 33 := callable Try.func33 (by kernel_rfl) rfl
theorem cl71 : Callable Try.prog 71 := callable Try.func71 (by kernel_rfl) rfl
theorem cl72 : Callable Try.prog 72 := callable Try.func72 (by kernel_rfl) rfl
theorem cl82 : Callable Try.prog 82 := callable Try.func82 (by kernel_rfl) rfl
theorem cl83 : Callable Try.prog 83 := callable Try.func83 (by kernel_rfl) rfl
theorem cl86 : Callable Try.prog 86 := callable Try.func86 (by kernel_rfl) rfl
theorem cl87 : Callable Try.prog 87 := callable Try.func87 (by kernel_rfl) rfl
theorem bl77_0s1 (x0 : ByteArray) : Program.built Try.prog 77 [(0, Value.string x0)] = some #[Value.string x0, Value.slice none 0 0] := by
 kernel_rfl
def RhasIs (n : Nat) : Prop := ∀ (c : CT) (sv : Value) (v : Nat) (G : Ghost) (w : World), SizeOf.sizeOf c ≤ n → Rs G sv c.subs → Has G w → Calls Try.prog 86 #[Value.agg #[Value.int .i64 c.h.k, Value.int .i64 (vi c.h.v0), Value.int .i64 c.h.n0, Value.int .i64 (vi c.h.v1), Value.int .i64 c.h.n1, Value.int .i64 (vi c.h.v2), Value.int .i64 c.h.n2, sv], Value.int .i64 (v : Nat)] w (Ret fun r w' => r = Value.bool (has c v) ∧ Since nX w w')
def OutIs (n : Nat) : Prop := ∀ (va : Value) (l : List CT) (v : Nat) (G : Ghost) (w : World), SizeOf.sizeOf l ≤ n → Rs G va l → Has G w → Calls Try.prog 83 #[va, Value.int .i64 (v : Nat)] w (Ret fun r w' => r = Value.int .i64 (out l v) ∧ Since nX w w')
theorem c_rsymRight (s : ByteArray)  (w : World)  :
  Calls Try.prog 82 #[Value.string s] w (Ret fun r w' => r = Value.bool (symRight s) ∧ Since nX w w') := by
 refine enter (args := [_]) (X := nX) (G := (fun _ => none)) (l := [(0, Value.string s)]) Try.func82 rfl Try.ntmps82 (fun _ _ h => by cases h) ⟨rfl, trivial⟩ (Nat.le_of_ble_eq_true rfl) ?_
 refine c_seq ?_
 refine c_region ?_
 refine r_val .none rfl (p_assign rfl) ?_
 refine r_nil ?_
 refine e_next ?_
 refine c_seq ?_
 refine c_seq ?_
 refine c_region ?_
 refine r_val .none rfl (p_move rfl) ?_
 refine r_val .none rfl (p_len_str Try.underlying9 rfl) ?_
 refine r_val .none rfl (p_lt rfl rfl) ?_
 refine r_val .none rfl (p_move rfl) ?_
 refine' r_or (c := 8) (d := 12) [_, _, _, _] rfl (fun h_1 Q_2 hQ_3 => ?_) (fun h_1 Q_2 hQ_3 => ?_) ?_
 rotate_left 1
 ·
  replace h_1 := of_decide_eq_false h_1
  refine r_val (.some rfl rfl) rfl (p_move rfl) ?_
  refine r_val (.some rfl rfl) rfl (p_len_str Try.underlying9 rfl) ?_
  refine r_val (.some rfl rfl) rfl (p_gt rfl rfl) ?_
  refine r_val .none rfl (p_pick_f rfl rfl) ?_
  refine r_nil (e_fin (d := 12) hQ_3 rfl (by repeat (first | exact .refl | refine .put rfl ?_ | refine .say rfl ?_ | refine .say2 rfl (by first | assumption | simp_all) ?_)))
 ·
  repeat (first | refine r_skip rfl (.no rfl rfl) ?_ | refine r_skip rfl (.un rfl rfl) ?_)
  refine r_val (by first | exact .none | exact .some rfl rfl) rfl (p_pick_t rfl rfl) ?_
  refine r_nil (e_fin (d := 12) hQ_3 rfl (by repeat (first | exact .refl | refine .put rfl ?_ | refine .say rfl ?_ | refine .say2 rfl (by first | assumption | simp_all) ?_)))
 refine r_nil ?_
 refine e_next ?_
 refine c_split (d := 12) rfl (fun h_5 => ?_) (fun h_5 => ?_)
 ·
  try simp only [norms] at h_5
  first
   | (exfalso; omega)
   | (
    refine c_cond_t rfl ?_
    refine c_seq ?_
    refine c_region ?_
    refine r_val .none rfl (p_assign rfl) ?_
    refine r_nil ?_
    refine e_next ?_
    refine c_ret ?_
    refine e_ret_then ?_
    refine e_ret1 Try.results82 (.tmp rfl .nil) (fun w hm => ⟨?_, hm.since⟩)
    first
    | (rw [symRight_size (by omega)]; done)
    | (rw [symRight_bad (k := k) (by omega) (by simp [okb]; omega)]; done)
    | (have he : k = s.size := (by omega); subst he; rw [symRight_yes (by omega) hphi.2]; done)
    )
 ·
  try simp only [norms] at h_5
  first
   | (exfalso; omega)
   | (
    refine c_cond_f rfl ?_
    refine c_skip ?_
    refine e_next ?_
    refine c_seq ?_
    refine c_seq ?_
    refine c_region ?_
    refine r_val .none rfl (p_assign rfl) ?_
    refine r_nil ?_
    refine e_next ?_
    refine c_block ?_
    refine c_name (d := 0) rfl (fun u_6 hu_6 => ?_)
    refine c_loop (σ := Nat) (fun k => [(3, Value.int .i64 (k : Int)), (0, u_6)]) (fun k => []) (fun _ => _) (fun k => k ≤ s.size ∧ okTo s k) (fun k => s.size - k) (0) ⟨Nat.zero_le _, okTo_zero s⟩ rfl ⟨rfl, rfl, trivial⟩ (.nil) (fun k hphi => ?_)
    subst hu_6
    refine c_seq ?_
    refine c_seq ?_
    refine c_region ?_
    refine r_val .none rfl (p_move rfl) ?_
    refine r_val .none rfl (p_move rfl) ?_
    refine r_val .none rfl (p_len_str Try.underlying9 rfl) ?_
    refine r_val .none rfl (p_lt rfl rfl) ?_
    refine r_nil ?_
    refine e_next ?_
    refine c_splitd (d := 16) rfl (fun h_7 => ?_) (fun h_7 => ?_)
    ·
     first
      | (exfalso; omega)
      | (
       refine c_cond_t rfl ?_
       refine c_skip ?_
       refine e_next ?_
       refine c_seq ?_
       refine c_block ?_
       refine c_seq ?_
       refine c_region ?_
       refine r_val .none rfl (p_move rfl) ?_
       refine r_val .none rfl (p_move rfl) ?_
       refine r_val .none rfl (p_index_str Try.underlying9 rfl rfl (by first | exact of_decide_eq_true rfl | omega)) ?_
       refine r_val .none rfl (p_assign rfl) ?_
       refine r_nil ?_
       refine e_next ?_
       refine c_seq ?_
       refine c_region ?_
       refine r_val .none rfl (p_move rfl) ?_
       refine r_val .none rfl (p_ge rfl rfl) ?_
       refine r_val .none rfl (p_move rfl) ?_
       refine' r_and (c := 24) (d := 27) [_, _, _] rfl (fun h_8 Q_9 hQ_10 => ?_) (fun h_8 Q_9 hQ_10 => ?_) ?_
       rotate_left 1
       ·
        replace h_8 := of_decide_eq_true h_8
        refine r_val (.some rfl rfl) rfl (p_move rfl) ?_
        refine r_val (.some rfl rfl) rfl (p_le rfl rfl) ?_
        refine r_val .none rfl (p_pick_t rfl rfl) ?_
        refine r_nil (e_fin (d := 27) hQ_10 rfl (by repeat (first | exact .refl | refine .put rfl ?_ | refine .say rfl ?_ | refine .say2 rfl (by first | assumption | simp_all) ?_)))
       ·
        repeat (first | refine r_skip rfl (.no rfl rfl) ?_ | refine r_skip rfl (.un rfl rfl) ?_)
        refine r_val (by first | exact .none | exact .some rfl rfl) rfl (p_pick_f rfl rfl) ?_
        refine r_nil (e_fin (d := 27) hQ_10 rfl (by repeat (first | exact .refl | refine .put rfl ?_ | refine .say rfl ?_ | refine .say2 rfl (by first | assumption | simp_all) ?_)))
       refine r_val .none rfl (p_not rfl) ?_
       refine r_val .none rfl (p_move rfl) ?_
       refine' r_and (c := 29) (d := 37) [_, _, _, _, _, _, _, _] rfl (fun h_12 Q_13 hQ_14 => ?_) (fun h_12 Q_13 hQ_14 => ?_) ?_
       rotate_left 1
       ·
        try simp only [norms] at h_12
        refine r_val (.some rfl rfl) rfl (p_move rfl) ?_
        refine r_val (.some rfl rfl) rfl (p_ge rfl rfl) ?_
        refine r_val (.some rfl rfl) rfl (p_move rfl) ?_
        refine' r_and (c := 32) (d := 35) [_, _, _] rfl (fun h_16 Q_17 hQ_18 => ?_) (fun h_16 Q_17 hQ_18 => ?_) ?_
        rotate_left 1
        ·
         replace h_16 := of_decide_eq_true h_16
         refine r_val (.some rfl rfl) rfl (p_move rfl) ?_
         refine r_val (.some rfl rfl) rfl (p_le rfl rfl) ?_
         refine r_val (.some rfl rfl) rfl (p_pick_t rfl rfl) ?_
         refine r_nil (e_fin (d := 35) hQ_18 rfl (by repeat (first | exact .refl | refine .put rfl ?_ | refine .say rfl ?_ | refine .say2 rfl (by first | assumption | simp_all) ?_)))
        ·
         repeat (first | refine r_skip rfl (.no rfl rfl) ?_ | refine r_skip rfl (.un rfl rfl) ?_)
         refine r_val (by first | exact .none | exact .some rfl rfl) rfl (p_pick_f rfl rfl) ?_
         refine r_nil (e_fin (d := 35) hQ_18 rfl (by repeat (first | exact .refl | refine .put rfl ?_ | refine .say rfl ?_ | refine .say2 rfl (by first | assumption | simp_all) ?_)))
        refine r_val (.some rfl rfl) rfl (p_not rfl) ?_
        refine r_val .none rfl (p_pick_t rfl rfl) ?_
        refine r_nil (e_fin (d := 37) hQ_14 rfl (by repeat (first | exact .refl | refine .put rfl ?_ | refine .say rfl ?_ | refine .say2 rfl (by first | assumption | simp_all) ?_)))
       ·
        repeat (first | refine r_skip rfl (.no rfl rfl) ?_ | refine r_skip rfl (.un rfl rfl) ?_)
        refine r_val (by first | exact .none | exact .some rfl rfl) rfl (p_pick_f rfl rfl) ?_
        refine r_nil (e_fin (d := 37) hQ_14 rfl (by repeat (first | exact .refl | refine .put rfl ?_ | refine .say rfl ?_ | refine .say2 rfl (by first | assumption | simp_all) ?_)))
       refine r_val .none rfl (p_move rfl) ?_
       refine' r_and (c := 38) (d := 46) [_, _, _, _, _, _, _, _] rfl (fun h_20 Q_21 hQ_22 => ?_) (fun h_20 Q_21 hQ_22 => ?_) ?_
       rotate_left 1
       ·
        try simp only [norms] at h_20
        refine r_val (.some rfl rfl) rfl (p_move rfl) ?_
        refine r_val (.some rfl rfl) rfl (p_ge rfl rfl) ?_
        refine r_val (.some rfl rfl) rfl (p_move rfl) ?_
        refine' r_and (c := 41) (d := 44) [_, _, _] rfl (fun h_24 Q_25 hQ_26 => ?_) (fun h_24 Q_25 hQ_26 => ?_) ?_
        rotate_left 1
        ·
         replace h_24 := of_decide_eq_true h_24
         refine r_val (.some rfl rfl) rfl (p_move rfl) ?_
         refine r_val (.some rfl rfl) rfl (p_le rfl rfl) ?_
         refine r_val (.some rfl rfl) rfl (p_pick_t rfl rfl) ?_
         refine r_nil (e_fin (d := 44) hQ_26 rfl (by repeat (first | exact .refl | refine .put rfl ?_ | refine .say rfl ?_ | refine .say2 rfl (by first | assumption | simp_all) ?_)))
        ·
         repeat (first | refine r_skip rfl (.no rfl rfl) ?_ | refine r_skip rfl (.un rfl rfl) ?_)
         refine r_val (by first | exact .none | exact .some rfl rfl) rfl (p_pick_f rfl rfl) ?_
         refine r_nil (e_fin (d := 44) hQ_26 rfl (by repeat (first | exact .refl | refine .put rfl ?_ | refine .say rfl ?_ | refine .say2 rfl (by first | assumption | simp_all) ?_)))
        refine r_val (.some rfl rfl) rfl (p_not rfl) ?_
        refine r_val .none rfl (p_pick_t rfl rfl) ?_
        refine r_nil (e_fin (d := 46) hQ_22 rfl (by repeat (first | exact .refl | refine .put rfl ?_ | refine .say rfl ?_ | refine .say2 rfl (by first | assumption | simp_all) ?_)))
       ·
        repeat (first | refine r_skip rfl (.no rfl rfl) ?_ | refine r_skip rfl (.un rfl rfl) ?_)
        refine r_val (by first | exact .none | exact .some rfl rfl) rfl (p_pick_f rfl rfl) ?_
        refine r_nil (e_fin (d := 46) hQ_22 rfl (by repeat (first | exact .refl | refine .put rfl ?_ | refine .say rfl ?_ | refine .say2 rfl (by first | assumption | simp_all) ?_)))
       refine r_val .none rfl (p_move rfl) ?_
       refine' r_and (c := 47) (d := 50) [_, _, _] rfl (fun h_28 Q_29 hQ_30 => ?_) (fun h_28 Q_29 hQ_30 => ?_) ?_
       rotate_left 1
       ·
        try simp only [norms] at h_28
        refine r_val (.some rfl rfl) rfl (p_move rfl) ?_
        refine r_val (.some rfl rfl) rfl (p_ne rfl rfl) ?_
        refine r_val .none rfl (p_pick_t rfl rfl) ?_
        refine r_nil (e_fin (d := 50) hQ_30 rfl (by repeat (first | exact .refl | refine .put rfl ?_ | refine .say rfl ?_ | refine .say2 rfl (by first | assumption | simp_all) ?_)))
       ·
        repeat (first | refine r_skip rfl (.no rfl rfl) ?_ | refine r_skip rfl (.un rfl rfl) ?_)
        refine r_val (by first | exact .none | exact .some rfl rfl) rfl (p_pick_f rfl rfl) ?_
        refine r_nil (e_fin (d := 50) hQ_30 rfl (by repeat (first | exact .refl | refine .put rfl ?_ | refine .say rfl ?_ | refine .say2 rfl (by first | assumption | simp_all) ?_)))
       refine r_val .none rfl (p_move rfl) ?_
       refine' r_and (c := 51) (d := 54) [_, _, _] rfl (fun h_32 Q_33 hQ_34 => ?_) (fun h_32 Q_33 hQ_34 => ?_) ?_
       rotate_left 1
       ·
        try simp only [norms] at h_32
        refine r_val (.some rfl rfl) rfl (p_move rfl) ?_
        refine r_val (.some rfl rfl) rfl (p_ne rfl rfl) ?_
        refine r_val .none rfl (p_pick_t rfl rfl) ?_
        refine r_nil (e_fin (d := 54) hQ_34 rfl (by repeat (first | exact .refl | refine .put rfl ?_ | refine .say rfl ?_ | refine .say2 rfl (by first | assumption | simp_all) ?_)))
       ·
        repeat (first | refine r_skip rfl (.no rfl rfl) ?_ | refine r_skip rfl (.un rfl rfl) ?_)
        refine r_val (by first | exact .none | exact .some rfl rfl) rfl (p_pick_f rfl rfl) ?_
        refine r_nil (e_fin (d := 54) hQ_34 rfl (by repeat (first | exact .refl | refine .put rfl ?_ | refine .say rfl ?_ | refine .say2 rfl (by first | assumption | simp_all) ?_)))
       refine r_nil ?_
       refine e_next ?_
       refine c_split (d := 54) rfl (fun h_36 => ?_) (fun h_36 => ?_)
       ·
        try simp only [norms] at h_36
        first
         | (exfalso; omega)
         | (
          refine c_cond_t rfl ?_
          refine c_seq ?_
          refine c_region ?_
          refine r_val .none rfl (p_assign rfl) ?_
          refine r_nil ?_
          refine e_next ?_
          refine c_ret ?_
          refine e_ret_block ?_
          refine e_ret_then ?_
          refine e_ret_then ?_
          refine e_ret_block ?_
          refine e_ret_then ?_
          refine e_ret1 Try.results82 (.tmp rfl .nil) (fun w hm => ⟨?_, hm.since⟩)
          first
          | (rw [symRight_size (by omega)]; done)
          | (rw [symRight_bad (k := k) (by omega) (by simp [okb]; omega)]; done)
          | (have he : k = s.size := (by omega); subst he; rw [symRight_yes (by omega) hphi.2]; done)
          )
       ·
        try simp only [norms] at h_36
        first
         | (exfalso; omega)
         | (
          refine c_cond_f rfl ?_
          refine c_skip ?_
          refine e_norm_block ?_
          refine e_next ?_
          refine c_region ?_
          refine r_val .none rfl (p_move rfl) ?_
          refine r_val .none rfl (p_add rfl rfl (by omega)) ?_
          refine r_val .none rfl (p_assign rfl) ?_
          refine r_nil ?_
          refine e_round (k + 1) ⟨⟨by omega, okTo_succ hphi.2 (by simp [okb]; omega)⟩, by omega⟩ rfl ⟨rfl, rfl, trivial⟩ (.nil)
          )
       )
    ·
     first
      | (exfalso; omega)
      | (
       refine c_cond_f rfl ?_
       refine c_exit ?_
       refine e_exit_then ?_
       refine e_exit_then ?_
       refine e_exit_block ?_
       refine e_next ?_
       refine c_seq ?_
       refine c_region ?_
       refine r_val .none rfl (p_assign rfl) ?_
       refine r_nil ?_
       refine e_next ?_
       refine c_ret ?_
       refine e_ret1 Try.results82 (.tmp rfl .nil) (fun w hm => ⟨?_, hm.since⟩)
       first
       | (rw [symRight_size (by omega)]; done)
       | (rw [symRight_bad (k := k) (by omega) (by simp [okb]; omega)]; done)
       | (have he : k = s.size := (by omega); subst he; rw [symRight_yes (by omega) hphi.2]; done)
       )
    )
theorem c_rhas_s (n : Nat) (ih : RhasIs n) (c : CT) (sv : Value) (v : Nat) {G : Ghost} (hz : SizeOf.sizeOf c ≤ n + 1) (hs : Rs G sv c.subs) (w : World) (hG : Has G w) :
  Calls Try.prog 86 #[Value.agg #[Value.int .i64 c.h.k, Value.int .i64 (vi c.h.v0), Value.int .i64 c.h.n0, Value.int .i64 (vi c.h.v1), Value.int .i64 c.h.n1, Value.int .i64 (vi c.h.v2), Value.int .i64 c.h.n2, sv], Value.int .i64 (v : Nat)] w (Ret fun r w' => r = Value.bool (has c v) ∧ Since nX w w') := by
 refine enter (args := [_, _]) (X := nX) (G := G) (l := [(0, Value.agg #[Value.int .i64 c.h.k, Value.int .i64 (vi c.h.v0), Value.int .i64 c.h.n0, Value.int .i64 (vi c.h.v1), Value.int .i64 c.h.n1, Value.int .i64 (vi c.h.v2), Value.int .i64 c.h.n2, sv]), (1, Value.int .i64 (v : Nat))]) Try.func86 rfl Try.ntmps86 hG ⟨rfl, rfl, trivial⟩ (Nat.le_of_ble_eq_true rfl) ?_
 obtain ⟨rs, hr, hp, hl⟩ := hs.inv
 have hlen : c.subs.length = rs.length := by rw [hl]; simp
 have hbd := hr.bound
 refine c_seq ?_
 refine c_region ?_
 refine r_box .none rfl rfl (IsRow.lit _) (fun b_1 => ?_)
 refine r_val .none rfl (p_assign rfl) ?_
 refine r_nil ?_
 refine e_next ?_
 refine c_seq ?_
 refine c_seq ?_
 refine c_region ?_
 refine r_val .none rfl (p_assign rfl) ?_
 refine r_nil ?_
 refine e_next ?_
 refine c_block ?_
 refine c_unroll 4 ?_
 refine l_round (n := 3) ?_
 refine c_seq ?_
 refine c_seq ?_
 refine c_region ?_
 refine r_val .none rfl (p_move rfl) ?_
 refine r_val .none rfl (p_lt rfl rfl) ?_
 refine r_say (d := 9) (v := Value.bool true) rfl ?_
 refine r_nil ?_
 refine e_next ?_
 refine c_cond_t rfl ?_
 refine c_skip ?_
 refine e_next ?_
 refine c_seq ?_
 refine c_block ?_
 refine c_seq ?_
 refine c_region ?_
 refine r_val .none rfl (p_field Try.underlying102 rfl sz3 rfl) ?_
 refine r_val .none rfl (p_ld (k := 0) Try.underlying3 rfl rfl rfl (by first | exact of_decide_eq_true rfl | omega) (rfl : _ = Value.int _ _)) ?_
 refine r_val .none rfl (p_lt rfl rfl) ?_
 refine r_val .none rfl (p_move rfl) ?_
 refine' r_and (c := 15) (d := 22) [_, _, _, _, _, _, _] rfl (fun h_1 Q_2 hQ_3 => ?_) (fun h_1 Q_2 hQ_3 => ?_) ?_
 rotate_left 1
 ·
  replace h_1 := of_decide_eq_true h_1
  refine r_val (.some rfl rfl) rfl (p_move rfl) ?_
  refine r_val (.some rfl rfl) rfl (p_field Try.underlying102 rfl sz100 rfl) ?_
  refine r_val (.some rfl rfl) rfl (p_iaddr (k := 0) Try.underlying100 sz99 rfl rfl (by first | exact of_decide_eq_true rfl | omega)) ?_
  refine r_val (.some rfl rfl) rfl (p_field Try.underlying99 rfl sz3 rfl) ?_
  refine r_val (.some rfl rfl) rfl (p_ld (k := 0) Try.underlying3 rfl rfl rfl (by first | exact of_decide_eq_true rfl | omega) (rfl : _ = Value.int _ _)) ?_
  refine r_val (.some rfl rfl) rfl (p_eq rfl rfl) ?_
  refine r_val .none rfl (p_pick_t rfl rfl) ?_
  refine r_nil (e_fin (d := 22) hQ_3 rfl (by repeat (first | exact .refl | refine .put rfl ?_ | refine .say rfl ?_ | refine .say2 rfl (by first | assumption | simp_all) ?_)))
 ·
  repeat (first | refine r_skip rfl (.no rfl rfl) ?_ | refine r_skip rfl (.un rfl rfl) ?_)
  refine r_val (by first | exact .none | exact .some rfl rfl) rfl (p_pick_f rfl rfl) ?_
  refine r_nil (e_fin (d := 22) hQ_3 rfl (by repeat (first | exact .refl | refine .put rfl ?_ | refine .say rfl ?_ | refine .say2 rfl (by first | assumption | simp_all) ?_)))
 refine r_val .none rfl (p_move rfl) ?_
 refine' r_and (c := 23) (d := 31) [_, _, _, _, _, _, _, _] rfl (fun h_5 Q_6 hQ_7 => ?_) (fun h_5 Q_6 hQ_7 => ?_) ?_
 rotate_left 1
 ·
  try simp only [norms] at h_5
  refine r_val (.some rfl rfl) rfl (p_move rfl) ?_
  refine r_val (.some rfl rfl) rfl (p_field Try.underlying102 rfl sz100 rfl) ?_
  refine r_val (.some rfl rfl) rfl (p_iaddr (k := 0) Try.underlying100 sz99 rfl rfl (by first | exact of_decide_eq_true rfl | omega)) ?_
  refine r_val (.some rfl rfl) rfl (p_field Try.underlying99 rfl sz3 rfl) ?_
  refine r_val (.some rfl rfl) rfl (p_ld (k := 0) Try.underlying3 rfl rfl rfl (by first | exact of_decide_eq_true rfl | omega) (rfl : _ = Value.int _ _)) ?_
  refine r_val (.some rfl rfl) rfl (p_move rfl) ?_
  refine r_val (.some rfl rfl) rfl (p_eq rfl rfl) ?_
  refine r_val .none rfl (p_pick_t rfl rfl) ?_
  refine r_nil (e_fin (d := 31) hQ_7 rfl (by repeat (first | exact .refl | refine .put rfl ?_ | refine .say rfl ?_ | refine .say2 rfl (by first | assumption | simp_all) ?_)))
 ·
  repeat (first | refine r_skip rfl (.no rfl rfl) ?_ | refine r_skip rfl (.un rfl rfl) ?_)
  refine r_val (by first | exact .none | exact .some rfl rfl) rfl (p_pick_f rfl rfl) ?_
  refine r_nil (e_fin (d := 31) hQ_7 rfl (by repeat (first | exact .refl | refine .put rfl ?_ | refine .say rfl ?_ | refine .say2 rfl (by first | assumption | simp_all) ?_)))
 refine r_nil ?_
 refine e_next ?_
 refine c_split (d := 31) rfl (fun h_9 => ?_) (fun h_9 => ?_)
 ·
  try simp only [norms] at h_9
  first
   | (exfalso; omega)
   | (
    refine c_cond_t rfl ?_
    refine c_seq ?_
    refine c_region ?_
    refine r_val .none rfl (p_assign rfl) ?_
    refine r_nil ?_
    refine e_next ?_
    refine c_ret ?_
    refine e_ret_block ?_
    refine e_ret_then ?_
    refine e_ret_then ?_
    refine e_ret_block ?_
    refine e_ret_then ?_
    refine e_ret1 Try.results86 (.tmp rfl .nil) (fun w hm => ⟨?_, hm.since⟩)
    rw [has_eq c v]
    first
    | (rw [own_yes (by omega)]; rfl)
    | (rw [own_no (by omega), Bool.false_or, ← hphi.2, map_drop (i := k) (d := d0) (by omega), hasL_yes hE]; done)
    | (rw [own_no (by omega), Bool.false_or, ← hphi.2, List.drop_eq_nil_of_le (by simp; omega)]; rfl)
    )
 ·
  try simp only [norms] at h_9
  first
   | (exfalso; omega)
   | (
    refine c_cond_f rfl ?_
    refine c_skip ?_
    refine e_norm_block ?_
    refine e_next ?_
    refine c_region ?_
    refine r_val .none rfl (p_move rfl) ?_
    refine r_val .none rfl (p_add rfl rfl (by omega)) ?_
    refine r_val .none rfl (p_assign rfl) ?_
    refine r_nil ?_
    refine e_again ?_
    refine l_round (n := 2) ?_
    refine c_seq ?_
    refine c_seq ?_
    refine c_region ?_
    refine r_val .none rfl (p_move rfl) ?_
    refine r_val .none rfl (p_lt rfl rfl) ?_
    refine r_say (d := 9) (v := Value.bool true) rfl ?_
    refine r_nil ?_
    refine e_next ?_
    refine c_cond_t rfl ?_
    refine c_skip ?_
    refine e_next ?_
    refine c_seq ?_
    refine c_block ?_
    refine c_seq ?_
    refine c_region ?_
    refine r_val .none rfl (p_field Try.underlying102 rfl sz3 rfl) ?_
    refine r_val .none rfl (p_ld (k := 0) Try.underlying3 rfl rfl rfl (by first | exact of_decide_eq_true rfl | omega) (rfl : _ = Value.int _ _)) ?_
    refine r_val .none rfl (p_lt rfl rfl) ?_
    refine r_val .none rfl (p_move rfl) ?_
    refine r_splitd (d := 15) rfl (fun h_10 => ?_) (fun h_10 => ?_)
    ·
     first
      | (exfalso; omega)
      | (
       refine r_val (.some rfl rfl) rfl (p_move rfl) ?_
       refine r_val (.some rfl rfl) rfl (p_field Try.underlying102 rfl sz100 rfl) ?_
       refine r_val (.some rfl rfl) rfl (p_iaddr (k := 1) Try.underlying100 sz99 rfl rfl (by first | exact of_decide_eq_true rfl | omega)) ?_
       refine r_val (.some rfl rfl) rfl (p_field Try.underlying99 rfl sz3 rfl) ?_
       refine r_val (.some rfl rfl) rfl (p_ld (k := 0) Try.underlying3 rfl rfl rfl (by first | exact of_decide_eq_true rfl | omega) (rfl : _ = Value.int _ _)) ?_
       refine r_val (.some rfl rfl) rfl (p_eq rfl rfl) ?_
       refine r_val .none rfl (p_pick_t rfl rfl) ?_
       refine r_val .none rfl (p_move rfl) ?_
       refine r_splitd (d := 23) rfl (fun h_11 => ?_) (fun h_11 => ?_)
       ·
        first
         | (exfalso; omega)
         | (
          refine r_val (.some rfl rfl) rfl (p_move rfl) ?_
          refine r_val (.some rfl rfl) rfl (p_field Try.underlying102 rfl sz100 rfl) ?_
          refine r_val (.some rfl rfl) rfl (p_iaddr (k := 1) Try.underlying100 sz99 rfl rfl (by first | exact of_decide_eq_true rfl | omega)) ?_
          refine r_val (.some rfl rfl) rfl (p_field Try.underlying99 rfl sz3 rfl) ?_
          refine r_val (.some rfl rfl) rfl (p_ld (k := 0) Try.underlying3 rfl rfl rfl (by first | exact of_decide_eq_true rfl | omega) (rfl : _ = Value.int _ _)) ?_
          refine r_val (.some rfl rfl) rfl (p_move rfl) ?_
          refine r_val (.some rfl rfl) rfl (p_eq rfl rfl) ?_
          refine r_val .none rfl (p_pick_t rfl rfl) ?_
          refine r_nil ?_
          refine e_next ?_
          refine c_splitd (d := 31) rfl (fun h_12 => ?_) (fun h_12 => ?_)
          ·
           first
            | (exfalso; omega)
            | (
             refine c_cond_t rfl ?_
             refine c_seq ?_
             refine c_region ?_
             refine r_val .none rfl (p_assign rfl) ?_
             refine r_nil ?_
             refine e_next ?_
             refine c_ret ?_
             refine e_ret_block ?_
             refine e_ret_then ?_
             refine e_ret_then ?_
             refine e_ret_block ?_
             refine e_ret_then ?_
             refine e_ret1 Try.results86 (.tmp rfl .nil) (fun w hm => ⟨?_, hm.since⟩)
             rw [has_eq c v]
             first
             | (rw [own_yes (by omega)]; rfl)
             | (rw [own_no (by omega), Bool.false_or, ← hphi.2, map_drop (i := k) (d := d0) (by omega), hasL_yes hE]; done)
             | (rw [own_no (by omega), Bool.false_or, ← hphi.2, List.drop_eq_nil_of_le (by simp; omega)]; rfl)
             )
          ·
           first
            | (exfalso; omega)
            | (
             refine c_cond_f rfl ?_
             refine c_skip ?_
             refine e_norm_block ?_
             refine e_next ?_
             refine c_region ?_
             refine r_val .none rfl (p_move rfl) ?_
             refine r_val .none rfl (p_add rfl rfl (by omega)) ?_
             refine r_val .none rfl (p_assign rfl) ?_
             refine r_nil ?_
             refine e_again ?_
             refine l_round (n := 1) ?_
             refine c_seq ?_
             refine c_seq ?_
             refine c_region ?_
             refine r_val .none rfl (p_move rfl) ?_
             refine r_val .none rfl (p_lt rfl rfl) ?_
             refine r_say (d := 9) (v := Value.bool true) rfl ?_
             refine r_nil ?_
             refine e_next ?_
             refine c_cond_t rfl ?_
             refine c_skip ?_
             refine e_next ?_
             refine c_seq ?_
             refine c_block ?_
             refine c_seq ?_
             refine c_region ?_
             refine r_val .none rfl (p_field Try.underlying102 rfl sz3 rfl) ?_
             refine r_val .none rfl (p_ld (k := 0) Try.underlying3 rfl rfl rfl (by first | exact of_decide_eq_true rfl | omega) (rfl : _ = Value.int _ _)) ?_
             refine r_val .none rfl (p_lt rfl rfl) ?_
             refine r_val .none rfl (p_move rfl) ?_
             refine r_splitd (d := 15) rfl (fun h_13 => ?_) (fun h_13 => ?_)
             ·
              first
               | (exfalso; omega)
               | (
                refine r_val (.some rfl rfl) rfl (p_move rfl) ?_
                refine r_val (.some rfl rfl) rfl (p_field Try.underlying102 rfl sz100 rfl) ?_
                refine r_val (.some rfl rfl) rfl (p_iaddr (k := 2) Try.underlying100 sz99 rfl rfl (by first | exact of_decide_eq_true rfl | omega)) ?_
                refine r_val (.some rfl rfl) rfl (p_field Try.underlying99 rfl sz3 rfl) ?_
                refine r_val (.some rfl rfl) rfl (p_ld (k := 0) Try.underlying3 rfl rfl rfl (by first | exact of_decide_eq_true rfl | omega) (rfl : _ = Value.int _ _)) ?_
                refine r_val (.some rfl rfl) rfl (p_eq rfl rfl) ?_
                refine r_val .none rfl (p_pick_t rfl rfl) ?_
                refine r_val .none rfl (p_move rfl) ?_
                refine r_splitd (d := 23) rfl (fun h_14 => ?_) (fun h_14 => ?_)
                ·
                 first
                  | (exfalso; omega)
                  | (
                   refine r_val (.some rfl rfl) rfl (p_move rfl) ?_
                   refine r_val (.some rfl rfl) rfl (p_field Try.underlying102 rfl sz100 rfl) ?_
                   refine r_val (.some rfl rfl) rfl (p_iaddr (k := 2) Try.underlying100 sz99 rfl rfl (by first | exact of_decide_eq_true rfl | omega)) ?_
                   refine r_val (.some rfl rfl) rfl (p_field Try.underlying99 rfl sz3 rfl) ?_
                   refine r_val (.some rfl rfl) rfl (p_ld (k := 0) Try.underlying3 rfl rfl rfl (by first | exact of_decide_eq_true rfl | omega) (rfl : _ = Value.int _ _)) ?_
                   refine r_val (.some rfl rfl) rfl (p_move rfl) ?_
                   refine r_val (.some rfl rfl) rfl (p_eq rfl rfl) ?_
                   refine r_val .none rfl (p_pick_t rfl rfl) ?_
                   refine r_nil ?_
                   refine e_next ?_
                   refine c_splitd (d := 31) rfl (fun h_15 => ?_) (fun h_15 => ?_)
                   ·
                    first
                     | (exfalso; omega)
                     | (
                      refine c_cond_t rfl ?_
                      refine c_seq ?_
                      refine c_region ?_
                      refine r_val .none rfl (p_assign rfl) ?_
                      refine r_nil ?_
                      refine e_next ?_
                      refine c_ret ?_
                      refine e_ret_block ?_
                      refine e_ret_then ?_
                      refine e_ret_then ?_
                      refine e_ret_block ?_
                      refine e_ret_then ?_
                      refine e_ret1 Try.results86 (.tmp rfl .nil) (fun w hm => ⟨?_, hm.since⟩)
                      rw [has_eq c v]
                      first
                      | (rw [own_yes (by omega)]; rfl)
                      | (rw [own_no (by omega), Bool.false_or, ← hphi.2, map_drop (i := k) (d := d0) (by omega), hasL_yes hE]; done)
                      | (rw [own_no (by omega), Bool.false_or, ← hphi.2, List.drop_eq_nil_of_le (by simp; omega)]; rfl)
                      )
                   ·
                    first
                     | (exfalso; omega)
                     | (
                      refine c_cond_f rfl ?_
                      refine c_skip ?_
                      refine e_norm_block ?_
                      refine e_next ?_
                      refine c_region ?_
                      refine r_val .none rfl (p_move rfl) ?_
                      refine r_val .none rfl (p_add rfl rfl (by omega)) ?_
                      refine r_val .none rfl (p_assign rfl) ?_
                      refine r_nil ?_
                      refine e_again ?_
                      refine l_round (n := 0) ?_
                      refine c_seq ?_
                      refine c_seq ?_
                      refine c_region ?_
                      refine r_val .none rfl (p_move rfl) ?_
                      refine r_val .none rfl (p_lt rfl rfl) ?_
                      refine r_say (d := 9) (v := Value.bool false) rfl ?_
                      refine r_nil ?_
                      refine e_next ?_
                      refine c_cond_f rfl ?_
                      refine c_exit ?_
                      refine e_exit_then ?_
                      refine e_exit_then ?_
                      refine e_exit_block ?_
                      refine e_next ?_
                      refine c_seq ?_
                      refine c_seq ?_
                      refine c_region ?_
                      refine r_val .none rfl (p_field Try.underlying102 rfl sz75 rfl) ?_
                      refine r_val .none rfl (p_ld (k := 0) Try.underlying75 rfl rfl rfl (by first | exact of_decide_eq_true rfl | omega) rfl) ?_
                      refine r_val .none rfl (p_leng Try.underlying75 rfl hr) ?_
                      have bd_16 := (hr).bound
                      refine r_val .none rfl (p_move rfl) ?_
                      refine r_nil ?_
                      refine e_next ?_
                      refine c_block ?_
                      refine c_name (d := 1) rfl (fun u_17 hu_17 => ?_)
                      refine c_name (d := 33) rfl (fun u_18 hu_18 => ?_)
                      refine c_name (d := 34) rfl (fun u_19 hu_19 => ?_)
                      refine c_nameL (k := 0) rfl (fun A_20 hA_20 => ?_)
                      refine c_loop (σ := Nat) (fun k => [(35, Value.int .i64 (k : Nat)), (1, u_17), (33, u_18), (34, u_19)]) (fun k => [A_20]) (fun _ => _) (fun k => k ≤ rs.length ∧ hasL ((rs.map Prod.fst).drop k) v = hasL c.subs v) (fun k => rs.length - k) (0) ⟨Nat.zero_le _, by rw [hl]; rfl⟩ rfl ⟨rfl, rfl, rfl, rfl, trivial⟩ (.keep (fun _ _ h => h) (.nil)) (fun k hphi => ?_)
                      subst hu_17
                      subst hu_18
                      subst hu_19
                      subst hA_20
                      refine c_seq ?_
                      refine c_region ?_
                      refine r_val .none rfl (p_lt rfl rfl) ?_
                      refine r_nil ?_
                      refine e_next ?_
                      refine c_seq ?_
                      refine c_splitd (d := 36) rfl (fun h_21 => ?_) (fun h_21 => ?_)
                      ·
                       first
                        | (exfalso; omega)
                        | (
                         refine c_cond_t rfl ?_
                         refine c_skip ?_
                         refine e_next ?_
                         refine c_seq ?_
                         refine c_block ?_
                         refine c_seq ?_
                         refine c_region ?_
                         refine r_iaddr_g .none rfl Try.underlying75 sz102 rfl hr rfl (by first | exact of_decide_eq_true rfl | omega) (fun p_23 o_24 R_22 => ?_)
                         have hc_25 := hp _ (getD_mem (i := k) (d := d0) (by omega))
                         refine r_val .none rfl (p_ldga0 Try.underlying102 rfl sz102 rfl R_22 (by first | exact of_decide_eq_true rfl | omega) (rfl : _ = Value.agg #[_, _, _, _, _, _, _, _])) ?_
                         refine r_alloc .none rfl zr102 (IsRow.lit _) (fun b_2 => ?_)
                         refine r_stw (k := 0) .none sz102 rfl rfl (IsRow.lit _) (one_lit rfl (all_cons rfl (all_cons rfl (all_cons rfl (all_cons rfl (all_cons rfl (all_cons rfl (all_cons rfl (all_cons (hc_25).one rfl))))))))) rfl ?_
                         refine r_nil ?_
                         refine e_next ?_
                         refine c_seq ?_
                         refine c_region ?_
                         refine r_val .none rfl (p_ldw (k := 0) Try.underlying102 rfl sz102 rfl rfl (rfl : _ = Value.agg #[_, _, _, _, _, _, _, _])) ?_
                         refine r_val .none rfl (p_move rfl) ?_
                         refine r_call (vs := [_, _]) .none rfl cl86 rfl (fun w hw => ih (rs.getD k d0).1 _ _ _ w (size_at hl (by omega) hz) hc_25 hw) ?_
                         refine r_nil ?_
                         refine e_next ?_
                         refine c_split (d := 41) rfl (fun h_26 => ?_) (fun h_26 => ?_)
                         ·
                          have hE := h_26
                          first
                           | (exfalso; omega)
                           | (
                            refine c_cond_t rfl ?_
                            refine c_seq ?_
                            refine c_region ?_
                            refine r_val .none rfl (p_assign rfl) ?_
                            refine r_nil ?_
                            refine e_next ?_
                            refine c_ret ?_
                            refine e_ret_block ?_
                            refine e_ret_then ?_
                            refine e_ret_then ?_
                            refine e_ret_block ?_
                            refine e_ret_then ?_
                            refine e_ret1 Try.results86 (.tmp rfl .nil) (fun w hm => ⟨?_, hm.since⟩)
                            rw [has_eq c v]
                            first
                            | (rw [own_yes (by omega)]; rfl)
                            | (rw [own_no (by omega), Bool.false_or, ← hphi.2, map_drop (i := k) (d := d0) (by omega), hasL_yes hE]; done)
                            | (rw [own_no (by omega), Bool.false_or, ← hphi.2, List.drop_eq_nil_of_le (by simp; omega)]; rfl)
                            )
                         ·
                          have hE := h_26
                          first
                           | (exfalso; omega)
                           | (
                            refine c_cond_f rfl ?_
                            refine c_skip ?_
                            refine e_norm_block ?_
                            refine e_next ?_
                            refine c_region ?_
                            refine r_val .none rfl (p_add rfl rfl (by omega)) ?_
                            refine r_val .none rfl (p_move rfl) ?_
                            refine r_nil ?_
                            refine e_round (k + 1) ⟨⟨by omega, by rw [← hphi.2, map_drop (i := k) (d := d0) (by omega), hasL_no hE]⟩, by omega⟩ rfl ⟨rfl, rfl, rfl, rfl, trivial⟩ (.drop (.keep (fun _ _ h => h) (.nil)))
                            )
                         )
                      ·
                       first
                        | (exfalso; omega)
                        | (
                         refine c_cond_f rfl ?_
                         refine c_exit ?_
                         refine e_exit_then ?_
                         refine e_exit_then ?_
                         refine e_exit_block ?_
                         refine e_next ?_
                         refine c_seq ?_
                         refine c_region ?_
                         refine r_val .none rfl (p_assign rfl) ?_
                         refine r_nil ?_
                         refine e_next ?_
                         refine c_ret ?_
                         refine e_ret1 Try.results86 (.tmp rfl .nil) (fun w hm => ⟨?_, hm.since⟩)
                         rw [has_eq c v]
                         first
                         | (rw [own_yes (by omega)]; rfl)
                         | (rw [own_no (by omega), Bool.false_or, ← hphi.2, map_drop (i := k) (d := d0) (by omega), hasL_yes hE]; done)
                         | (rw [own_no (by omega), Bool.false_or, ← hphi.2, List.drop_eq_nil_of_le (by simp; omega)]; rfl)
                         )
                      )
                   )
                ·
                 first
                  | (exfalso; omega)
                  | (
                   refine r_skip rfl (.no rfl rfl) ?_
                   refine r_skip rfl (.no rfl rfl) ?_
                   refine r_skip rfl (.no rfl rfl) ?_
                   refine r_skip rfl (.no rfl rfl) ?_
                   refine r_skip rfl (.no rfl rfl) ?_
                   refine r_skip rfl (.no rfl rfl) ?_
                   refine r_skip rfl (.no rfl rfl) ?_
                   refine r_val .none rfl (p_pick_f rfl rfl) ?_
                   refine r_nil ?_
                   refine e_next ?_
                   refine c_cond_f rfl ?_
                   refine c_skip ?_
                   refine e_norm_block ?_
                   refine e_next ?_
                   refine c_region ?_
                   refine r_val .none rfl (p_move rfl) ?_
                   refine r_val .none rfl (p_add rfl rfl (by omega)) ?_
                   refine r_val .none rfl (p_assign rfl) ?_
                   refine r_nil ?_
                   refine e_again ?_
                   refine l_round (n := 0) ?_
                   refine c_seq ?_
                   refine c_seq ?_
                   refine c_region ?_
                   refine r_val .none rfl (p_move rfl) ?_
                   refine r_val .none rfl (p_lt rfl rfl) ?_
                   refine r_say (d := 9) (v := Value.bool false) rfl ?_
                   refine r_nil ?_
                   refine e_next ?_
                   refine c_cond_f rfl ?_
                   refine c_exit ?_
                   refine e_exit_then ?_
                   refine e_exit_then ?_
                   refine e_exit_block ?_
                   refine e_next ?_
                   refine c_seq ?_
                   refine c_seq ?_
                   refine c_region ?_
                   refine r_val .none rfl (p_field Try.underlying102 rfl sz75 rfl) ?_
                   refine r_val .none rfl (p_ld (k := 0) Try.underlying75 rfl rfl rfl (by first | exact of_decide_eq_true rfl | omega) rfl) ?_
                   refine r_val .none rfl (p_leng Try.underlying75 rfl hr) ?_
                   have bd_27 := (hr).bound
                   refine r_val .none rfl (p_move rfl) ?_
                   refine r_nil ?_
                   refine e_next ?_
                   refine c_block ?_
                   refine c_name (d := 1) rfl (fun u_28 hu_28 => ?_)
                   refine c_name (d := 33) rfl (fun u_29 hu_29 => ?_)
                   refine c_name (d := 34) rfl (fun u_30 hu_30 => ?_)
                   refine c_nameL (k := 0) rfl (fun A_31 hA_31 => ?_)
                   refine c_loop (σ := Nat) (fun k => [(35, Value.int .i64 (k : Nat)), (1, u_28), (33, u_29), (34, u_30)]) (fun k => [A_31]) (fun _ => _) (fun k => k ≤ rs.length ∧ hasL ((rs.map Prod.fst).drop k) v = hasL c.subs v) (fun k => rs.length - k) (0) ⟨Nat.zero_le _, by rw [hl]; rfl⟩ rfl ⟨rfl, rfl, rfl, rfl, trivial⟩ (.keep (fun _ _ h => h) (.nil)) (fun k hphi => ?_)
                   subst hu_28
                   subst hu_29
                   subst hu_30
                   subst hA_31
                   refine c_seq ?_
                   refine c_region ?_
                   refine r_val .none rfl (p_lt rfl rfl) ?_
                   refine r_nil ?_
                   refine e_next ?_
                   refine c_seq ?_
                   refine c_splitd (d := 36) rfl (fun h_32 => ?_) (fun h_32 => ?_)
                   ·
                    first
                     | (exfalso; omega)
                     | (
                      refine c_cond_t rfl ?_
                      refine c_skip ?_
                      refine e_next ?_
                      refine c_seq ?_
                      refine c_block ?_
                      refine c_seq ?_
                      refine c_region ?_
                      refine r_iaddr_g .none rfl Try.underlying75 sz102 rfl hr rfl (by first | exact of_decide_eq_true rfl | omega) (fun p_34 o_35 R_33 => ?_)
                      have hc_36 := hp _ (getD_mem (i := k) (d := d0) (by omega))
                      refine r_val .none rfl (p_ldga0 Try.underlying102 rfl sz102 rfl R_33 (by first | exact of_decide_eq_true rfl | omega) (rfl : _ = Value.agg #[_, _, _, _, _, _, _, _])) ?_
                      refine r_alloc .none rfl zr102 (IsRow.lit _) (fun b_3 => ?_)
                      refine r_stw (k := 0) .none sz102 rfl rfl (IsRow.lit _) (one_lit rfl (all_cons rfl (all_cons rfl (all_cons rfl (all_cons rfl (all_cons rfl (all_cons rfl (all_cons rfl (all_cons (hc_36).one rfl))))))))) rfl ?_
                      refine r_nil ?_
                      refine e_next ?_
                      refine c_seq ?_
                      refine c_region ?_
                      refine r_val .none rfl (p_ldw (k := 0) Try.underlying102 rfl sz102 rfl rfl (rfl : _ = Value.agg #[_, _, _, _, _, _, _, _])) ?_
                      refine r_val .none rfl (p_move rfl) ?_
                      refine r_call (vs := [_, _]) .none rfl cl86 rfl (fun w hw => ih (rs.getD k d0).1 _ _ _ w (size_at hl (by omega) hz) hc_36 hw) ?_
                      refine r_nil ?_
                      refine e_next ?_
                      refine c_split (d := 41) rfl (fun h_37 => ?_) (fun h_37 => ?_)
                      ·
                       have hE := h_37
                       first
                        | (exfalso; omega)
                        | (
                         refine c_cond_t rfl ?_
                         refine c_seq ?_
                         refine c_region ?_
                         refine r_val .none rfl (p_assign rfl) ?_
                         refine r_nil ?_
                         refine e_next ?_
                         refine c_ret ?_
                         refine e_ret_block ?_
                         refine e_ret_then ?_
                         refine e_ret_then ?_
                         refine e_ret_block ?_
                         refine e_ret_then ?_
                         refine e_ret1 Try.results86 (.tmp rfl .nil) (fun w hm => ⟨?_, hm.since⟩)
                         rw [has_eq c v]
                         first
                         | (rw [own_yes (by omega)]; rfl)
                         | (rw [own_no (by omega), Bool.false_or, ← hphi.2, map_drop (i := k) (d := d0) (by omega), hasL_yes hE]; done)
                         | (rw [own_no (by omega), Bool.false_or, ← hphi.2, List.drop_eq_nil_of_le (by simp; omega)]; rfl)
                         )
                      ·
                       have hE := h_37
                       first
                        | (exfalso; omega)
                        | (
                         refine c_cond_f rfl ?_
                         refine c_skip ?_
                         refine e_norm_block ?_
                         refine e_next ?_
                         refine c_region ?_
                         refine r_val .none rfl (p_add rfl rfl (by omega)) ?_
                         refine r_val .none rfl (p_move rfl) ?_
                         refine r_nil ?_
                         refine e_round (k + 1) ⟨⟨by omega, by rw [← hphi.2, map_drop (i := k) (d := d0) (by omega), hasL_no hE]⟩, by omega⟩ rfl ⟨rfl, rfl, rfl, rfl, trivial⟩ (.drop (.keep (fun _ _ h => h) (.nil)))
                         )
                      )
                   ·
                    first
                     | (exfalso; omega)
                     | (
                      refine c_cond_f rfl ?_
                      refine c_exit ?_
                      refine e_exit_then ?_
                      refine e_exit_then ?_
                      refine e_exit_block ?_
                      refine e_next ?_
                      refine c_seq ?_
                      refine c_region ?_
                      refine r_val .none rfl (p_assign rfl) ?_
                      refine r_nil ?_
                      refine e_next ?_
                      refine c_ret ?_
                      refine e_ret1 Try.results86 (.tmp rfl .nil) (fun w hm => ⟨?_, hm.since⟩)
                      rw [has_eq c v]
                      first
                      | (rw [own_yes (by omega)]; rfl)
                      | (rw [own_no (by omega), Bool.false_or, ← hphi.2, map_drop (i := k) (d := d0) (by omega), hasL_yes hE]; done)
                      | (rw [own_no (by omega), Bool.false_or, ← hphi.2, List.drop_eq_nil_of_le (by simp; omega)]; rfl)
                      )
                   )
                )
             ·
              first
               | (exfalso; omega)
               | (
                refine r_skip rfl (.no rfl rfl) ?_
                refine r_skip rfl (.no rfl rfl) ?_
                refine r_skip rfl (.no rfl rfl) ?_
                refine r_skip rfl (.no rfl rfl) ?_
                refine r_skip rfl (.no rfl rfl) ?_
                refine r_skip rfl (.no rfl rfl) ?_
                refine r_val .none rfl (p_pick_f rfl rfl) ?_
                refine r_val .none rfl (p_move rfl) ?_
                refine r_skip rfl (.no rfl rfl) ?_
                refine r_skip rfl (.no rfl rfl) ?_
                refine r_skip rfl (.no rfl rfl) ?_
                refine r_skip rfl (.no rfl rfl) ?_
                refine r_skip rfl (.no rfl rfl) ?_
                refine r_skip rfl (.no rfl rfl) ?_
                refine r_skip rfl (.no rfl rfl) ?_
                refine r_val .none rfl (p_pick_f rfl rfl) ?_
                refine r_nil ?_
                refine e_next ?_
                refine c_cond_f rfl ?_
                refine c_skip ?_
                refine e_norm_block ?_
                refine e_next ?_
                refine c_region ?_
                refine r_val .none rfl (p_move rfl) ?_
                refine r_val .none rfl (p_add rfl rfl (by omega)) ?_
                refine r_val .none rfl (p_assign rfl) ?_
                refine r_nil ?_
                refine e_again ?_
                refine l_round (n := 0) ?_
                refine c_seq ?_
                refine c_seq ?_
                refine c_region ?_
                refine r_val .none rfl (p_move rfl) ?_
                refine r_val .none rfl (p_lt rfl rfl) ?_
                refine r_say (d := 9) (v := Value.bool false) rfl ?_
                refine r_nil ?_
                refine e_next ?_
                refine c_cond_f rfl ?_
                refine c_exit ?_
                refine e_exit_then ?_
                refine e_exit_then ?_
                refine e_exit_block ?_
                refine e_next ?_
                refine c_seq ?_
                refine c_seq ?_
                refine c_region ?_
                refine r_val .none rfl (p_field Try.underlying102 rfl sz75 rfl) ?_
                refine r_val .none rfl (p_ld (k := 0) Try.underlying75 rfl rfl rfl (by first | exact of_decide_eq_true rfl | omega) rfl) ?_
                refine r_val .none rfl (p_leng Try.underlying75 rfl hr) ?_
                have bd_38 := (hr).bound
                refine r_val .none rfl (p_move rfl) ?_
                refine r_nil ?_
                refine e_next ?_
                refine c_block ?_
                refine c_name (d := 1) rfl (fun u_39 hu_39 => ?_)
                refine c_name (d := 33) rfl (fun u_40 hu_40 => ?_)
                refine c_name (d := 34) rfl (fun u_41 hu_41 => ?_)
                refine c_nameL (k := 0) rfl (fun A_42 hA_42 => ?_)
                refine c_loop (σ := Nat) (fun k => [(35, Value.int .i64 (k : Nat)), (1, u_39), (33, u_40), (34, u_41)]) (fun k => [A_42]) (fun _ => _) (fun k => k ≤ rs.length ∧ hasL ((rs.map Prod.fst).drop k) v = hasL c.subs v) (fun k => rs.length - k) (0) ⟨Nat.zero_le _, by rw [hl]; rfl⟩ rfl ⟨rfl, rfl, rfl, rfl, trivial⟩ (.keep (fun _ _ h => h) (.nil)) (fun k hphi => ?_)
                subst hu_39
                subst hu_40
                subst hu_41
                subst hA_42
                refine c_seq ?_
                refine c_region ?_
                refine r_val .none rfl (p_lt rfl rfl) ?_
                refine r_nil ?_
                refine e_next ?_
                refine c_seq ?_
                refine c_splitd (d := 36) rfl (fun h_43 => ?_) (fun h_43 => ?_)
                ·
                 first
                  | (exfalso; omega)
                  | (
                   refine c_cond_t rfl ?_
                   refine c_skip ?_
                   refine e_next ?_
                   refine c_seq ?_
                   refine c_block ?_
                   refine c_seq ?_
                   refine c_region ?_
                   refine r_iaddr_g .none rfl Try.underlying75 sz102 rfl hr rfl (by first | exact of_decide_eq_true rfl | omega) (fun p_45 o_46 R_44 => ?_)
                   have hc_47 := hp _ (getD_mem (i := k) (d := d0) (by omega))
                   refine r_val .none rfl (p_ldga0 Try.underlying102 rfl sz102 rfl R_44 (by first | exact of_decide_eq_true rfl | omega) (rfl : _ = Value.agg #[_, _, _, _, _, _, _, _])) ?_
                   refine r_alloc .none rfl zr102 (IsRow.lit _) (fun b_4 => ?_)
                   refine r_stw (k := 0) .none sz102 rfl rfl (IsRow.lit _) (one_lit rfl (all_cons rfl (all_cons rfl (all_cons rfl (all_cons rfl (all_cons rfl (all_cons rfl (all_cons rfl (all_cons (hc_47).one rfl))))))))) rfl ?_
                   refine r_nil ?_
                   refine e_next ?_
                   refine c_seq ?_
                   refine c_region ?_
                   refine r_val .none rfl (p_ldw (k := 0) Try.underlying102 rfl sz102 rfl rfl (rfl : _ = Value.agg #[_, _, _, _, _, _, _, _])) ?_
                   refine r_val .none rfl (p_move rfl) ?_
                   refine r_call (vs := [_, _]) .none rfl cl86 rfl (fun w hw => ih (rs.getD k d0).1 _ _ _ w (size_at hl (by omega) hz) hc_47 hw) ?_
                   refine r_nil ?_
                   refine e_next ?_
                   refine c_split (d := 41) rfl (fun h_48 => ?_) (fun h_48 => ?_)
                   ·
                    have hE := h_48
                    first
                     | (exfalso; omega)
                     | (
                      refine c_cond_t rfl ?_
                      refine c_seq ?_
                      refine c_region ?_
                      refine r_val .none rfl (p_assign rfl) ?_
                      refine r_nil ?_
                      refine e_next ?_
                      refine c_ret ?_
                      refine e_ret_block ?_
                      refine e_ret_then ?_
                      refine e_ret_then ?_
                      refine e_ret_block ?_
                      refine e_ret_then ?_
                      refine e_ret1 Try.results86 (.tmp rfl .nil) (fun w hm => ⟨?_, hm.since⟩)
                      rw [has_eq c v]
                      first
                      | (rw [own_yes (by omega)]; rfl)
                      | (rw [own_no (by omega), Bool.false_or, ← hphi.2, map_drop (i := k) (d := d0) (by omega), hasL_yes hE]; done)
                      | (rw [own_no (by omega), Bool.false_or, ← hphi.2, List.drop_eq_nil_of_le (by simp; omega)]; rfl)
                      )
                   ·
                    have hE := h_48
                    first
                     | (exfalso; omega)
                     | (
                      refine c_cond_f rfl ?_
                      refine c_skip ?_
                      refine e_norm_block ?_
                      refine e_next ?_
                      refine c_region ?_
                      refine r_val .none rfl (p_add rfl rfl (by omega)) ?_
                      refine r_val .none rfl (p_move rfl) ?_
                      refine r_nil ?_
                      refine e_round (k + 1) ⟨⟨by omega, by rw [← hphi.2, map_drop (i := k) (d := d0) (by omega), hasL_no hE]⟩, by omega⟩ rfl ⟨rfl, rfl, rfl, rfl, trivial⟩ (.drop (.keep (fun _ _ h => h) (.nil)))
                      )
                   )
                ·
                 first
                  | (exfalso; omega)
                  | (
                   refine c_cond_f rfl ?_
                   refine c_exit ?_
                   refine e_exit_then ?_
                   refine e_exit_then ?_
                   refine e_exit_block ?_
                   refine e_next ?_
                   refine c_seq ?_
                   refine c_region ?_
                   refine r_val .none rfl (p_assign rfl) ?_
                   refine r_nil ?_
                   refine e_next ?_
                   refine c_ret ?_
                   refine e_ret1 Try.results86 (.tmp rfl .nil) (fun w hm => ⟨?_, hm.since⟩)
                   rw [has_eq c v]
                   first
                   | (rw [own_yes (by omega)]; rfl)
                   | (rw [own_no (by omega), Bool.false_or, ← hphi.2, map_drop (i := k) (d := d0) (by omega), hasL_yes hE]; done)
                   | (rw [own_no (by omega), Bool.false_or, ← hphi.2, List.drop_eq_nil_of_le (by simp; omega)]; rfl)
                   )
                )
             )
          )
       ·
        first
         | (exfalso; omega)
         | (
          refine r_skip rfl (.no rfl rfl) ?_
          refine r_skip rfl (.no rfl rfl) ?_
          refine r_skip rfl (.no rfl rfl) ?_
          refine r_skip rfl (.no rfl rfl) ?_
          refine r_skip rfl (.no rfl rfl) ?_
          refine r_skip rfl (.no rfl rfl) ?_
          refine r_skip rfl (.no rfl rfl) ?_
          refine r_val .none rfl (p_pick_f rfl rfl) ?_
          refine r_nil ?_
          refine e_next ?_
          refine c_cond_f rfl ?_
          refine c_skip ?_
          refine e_norm_block ?_
          refine e_next ?_
          refine c_region ?_
          refine r_val .none rfl (p_move rfl) ?_
          refine r_val .none rfl (p_add rfl rfl (by omega)) ?_
          refine r_val .none rfl (p_assign rfl) ?_
          refine r_nil ?_
          refine e_again ?_
          refine l_round (n := 1) ?_
          refine c_seq ?_
          refine c_seq ?_
          refine c_region ?_
          refine r_val .none rfl (p_move rfl) ?_
          refine r_val .none rfl (p_lt rfl rfl) ?_
          refine r_say (d := 9) (v := Value.bool true) rfl ?_
          refine r_nil ?_
          refine e_next ?_
          refine c_cond_t rfl ?_
          refine c_skip ?_
          refine e_next ?_
          refine c_seq ?_
          refine c_block ?_
          refine c_seq ?_
          refine c_region ?_
          refine r_val .none rfl (p_field Try.underlying102 rfl sz3 rfl) ?_
          refine r_val .none rfl (p_ld (k := 0) Try.underlying3 rfl rfl rfl (by first | exact of_decide_eq_true rfl | omega) (rfl : _ = Value.int _ _)) ?_
          refine r_val .none rfl (p_lt rfl rfl) ?_
          refine r_val .none rfl (p_move rfl) ?_
          refine r_splitd (d := 15) rfl (fun h_49 => ?_) (fun h_49 => ?_)
          ·
           first
            | (exfalso; omega)
            | (
             refine r_val (.some rfl rfl) rfl (p_move rfl) ?_
             refine r_val (.some rfl rfl) rfl (p_field Try.underlying102 rfl sz100 rfl) ?_
             refine r_val (.some rfl rfl) rfl (p_iaddr (k := 2) Try.underlying100 sz99 rfl rfl (by first | exact of_decide_eq_true rfl | omega)) ?_
             refine r_val (.some rfl rfl) rfl (p_field Try.underlying99 rfl sz3 rfl) ?_
             refine r_val (.some rfl rfl) rfl (p_ld (k := 0) Try.underlying3 rfl rfl rfl (by first | exact of_decide_eq_true rfl | omega) (rfl : _ = Value.int _ _)) ?_
             refine r_val (.some rfl rfl) rfl (p_eq rfl rfl) ?_
             refine r_val .none rfl (p_pick_t rfl rfl) ?_
             refine r_val .none rfl (p_move rfl) ?_
             refine r_splitd (d := 23) rfl (fun h_50 => ?_) (fun h_50 => ?_)
             ·
              first
               | (exfalso; omega)
               | (
                refine r_val (.some rfl rfl) rfl (p_move rfl) ?_
                refine r_val (.some rfl rfl) rfl (p_field Try.underlying102 rfl sz100 rfl) ?_
                refine r_val (.some rfl rfl) rfl (p_iaddr (k := 2) Try.underlying100 sz99 rfl rfl (by first | exact of_decide_eq_true rfl | omega)) ?_
                refine r_val (.some rfl rfl) rfl (p_field Try.underlying99 rfl sz3 rfl) ?_
                refine r_val (.some rfl rfl) rfl (p_ld (k := 0) Try.underlying3 rfl rfl rfl (by first | exact of_decide_eq_true rfl | omega) (rfl : _ = Value.int _ _)) ?_
                refine r_val (.some rfl rfl) rfl (p_move rfl) ?_
                refine r_val (.some rfl rfl) rfl (p_eq rfl rfl) ?_
                refine r_val .none rfl (p_pick_t rfl rfl) ?_
                refine r_nil ?_
                refine e_next ?_
                refine c_splitd (d := 31) rfl (fun h_51 => ?_) (fun h_51 => ?_)
                ·
                 first
                  | (exfalso; omega)
                  | (
                   refine c_cond_t rfl ?_
                   refine c_seq ?_
                   refine c_region ?_
                   refine r_val .none rfl (p_assign rfl) ?_
                   refine r_nil ?_
                   refine e_next ?_
                   refine c_ret ?_
                   refine e_ret_block ?_
                   refine e_ret_then ?_
                   refine e_ret_then ?_
                   refine e_ret_block ?_
                   refine e_ret_then ?_
                   refine e_ret1 Try.results86 (.tmp rfl .nil) (fun w hm => ⟨?_, hm.since⟩)
                   rw [has_eq c v]
                   first
                   | (rw [own_yes (by omega)]; rfl)
                   | (rw [own_no (by omega), Bool.false_or, ← hphi.2, map_drop (i := k) (d := d0) (by omega), hasL_yes hE]; done)
                   | (rw [own_no (by omega), Bool.false_or, ← hphi.2, List.drop_eq_nil_of_le (by simp; omega)]; rfl)
                   )
                ·
                 first
                  | (exfalso; omega)
                  | (
                   refine c_cond_f rfl ?_
                   refine c_skip ?_
                   refine e_norm_block ?_
                   refine e_next ?_
                   refine c_region ?_
                   refine r_val .none rfl (p_move rfl) ?_
                   refine r_val .none rfl (p_add rfl rfl (by omega)) ?_
                   refine r_val .none rfl (p_assign rfl) ?_
                   refine r_nil ?_
                   refine e_again ?_
                   refine l_round (n := 0) ?_
                   refine c_seq ?_
                   refine c_seq ?_
                   refine c_region ?_
                   refine r_val .none rfl (p_move rfl) ?_
                   refine r_val .none rfl (p_lt rfl rfl) ?_
                   refine r_say (d := 9) (v := Value.bool false) rfl ?_
                   refine r_nil ?_
                   refine e_next ?_
                   refine c_cond_f rfl ?_
                   refine c_exit ?_
                   refine e_exit_then ?_
                   refine e_exit_then ?_
                   refine e_exit_block ?_
                   refine e_next ?_
                   refine c_seq ?_
                   refine c_seq ?_
                   refine c_region ?_
                   refine r_val .none rfl (p_field Try.underlying102 rfl sz75 rfl) ?_
                   refine r_val .none rfl (p_ld (k := 0) Try.underlying75 rfl rfl rfl (by first | exact of_decide_eq_true rfl | omega) rfl) ?_
                   refine r_val .none rfl (p_leng Try.underlying75 rfl hr) ?_
                   have bd_52 := (hr).bound
                   refine r_val .none rfl (p_move rfl) ?_
                   refine r_nil ?_
                   refine e_next ?_
                   refine c_block ?_
                   refine c_name (d := 1) rfl (fun u_53 hu_53 => ?_)
                   refine c_name (d := 33) rfl (fun u_54 hu_54 => ?_)
                   refine c_name (d := 34) rfl (fun u_55 hu_55 => ?_)
                   refine c_nameL (k := 0) rfl (fun A_56 hA_56 => ?_)
                   refine c_loop (σ := Nat) (fun k => [(35, Value.int .i64 (k : Nat)), (1, u_53), (33, u_54), (34, u_55)]) (fun k => [A_56]) (fun _ => _) (fun k => k ≤ rs.length ∧ hasL ((rs.map Prod.fst).drop k) v = hasL c.subs v) (fun k => rs.length - k) (0) ⟨Nat.zero_le _, by rw [hl]; rfl⟩ rfl ⟨rfl, rfl, rfl, rfl, trivial⟩ (.keep (fun _ _ h => h) (.nil)) (fun k hphi => ?_)
                   subst hu_53
                   subst hu_54
                   subst hu_55
                   subst hA_56
                   refine c_seq ?_
                   refine c_region ?_
                   refine r_val .none rfl (p_lt rfl rfl) ?_
                   refine r_nil ?_
                   refine e_next ?_
                   refine c_seq ?_
                   refine c_splitd (d := 36) rfl (fun h_57 => ?_) (fun h_57 => ?_)
                   ·
                    first
                     | (exfalso; omega)
                     | (
                      refine c_cond_t rfl ?_
                      refine c_skip ?_
                      refine e_next ?_
                      refine c_seq ?_
                      refine c_block ?_
                      refine c_seq ?_
                      refine c_region ?_
                      refine r_iaddr_g .none rfl Try.underlying75 sz102 rfl hr rfl (by first | exact of_decide_eq_true rfl | omega) (fun p_59 o_60 R_58 => ?_)
                      have hc_61 := hp _ (getD_mem (i := k) (d := d0) (by omega))
                      refine r_val .none rfl (p_ldga0 Try.underlying102 rfl sz102 rfl R_58 (by first | exact of_decide_eq_true rfl | omega) (rfl : _ = Value.agg #[_, _, _, _, _, _, _, _])) ?_
                      refine r_alloc .none rfl zr102 (IsRow.lit _) (fun b_5 => ?_)
                      refine r_stw (k := 0) .none sz102 rfl rfl (IsRow.lit _) (one_lit rfl (all_cons rfl (all_cons rfl (all_cons rfl (all_cons rfl (all_cons rfl (all_cons rfl (all_cons rfl (all_cons (hc_61).one rfl))))))))) rfl ?_
                      refine r_nil ?_
                      refine e_next ?_
                      refine c_seq ?_
                      refine c_region ?_
                      refine r_val .none rfl (p_ldw (k := 0) Try.underlying102 rfl sz102 rfl rfl (rfl : _ = Value.agg #[_, _, _, _, _, _, _, _])) ?_
                      refine r_val .none rfl (p_move rfl) ?_
                      refine r_call (vs := [_, _]) .none rfl cl86 rfl (fun w hw => ih (rs.getD k d0).1 _ _ _ w (size_at hl (by omega) hz) hc_61 hw) ?_
                      refine r_nil ?_
                      refine e_next ?_
                      refine c_split (d := 41) rfl (fun h_62 => ?_) (fun h_62 => ?_)
                      ·
                       have hE := h_62
                       first
                        | (exfalso; omega)
                        | (
                         refine c_cond_t rfl ?_
                         refine c_seq ?_
                         refine c_region ?_
                         refine r_val .none rfl (p_assign rfl) ?_
                         refine r_nil ?_
                         refine e_next ?_
                         refine c_ret ?_
                         refine e_ret_block ?_
                         refine e_ret_then ?_
                         refine e_ret_then ?_
                         refine e_ret_block ?_
                         refine e_ret_then ?_
                         refine e_ret1 Try.results86 (.tmp rfl .nil) (fun w hm => ⟨?_, hm.since⟩)
                         rw [has_eq c v]
                         first
                         | (rw [own_yes (by omega)]; rfl)
                         | (rw [own_no (by omega), Bool.false_or, ← hphi.2, map_drop (i := k) (d := d0) (by omega), hasL_yes hE]; done)
                         | (rw [own_no (by omega), Bool.false_or, ← hphi.2, List.drop_eq_nil_of_le (by simp; omega)]; rfl)
                         )
                      ·
                       have hE := h_62
                       first
                        | (exfalso; omega)
                        | (
                         refine c_cond_f rfl ?_
                         refine c_skip ?_
                         refine e_norm_block ?_
                         refine e_next ?_
                         refine c_region ?_
                         refine r_val .none rfl (p_add rfl rfl (by omega)) ?_
                         refine r_val .none rfl (p_move rfl) ?_
                         refine r_nil ?_
                         refine e_round (k + 1) ⟨⟨by omega, by rw [← hphi.2, map_drop (i := k) (d := d0) (by omega), hasL_no hE]⟩, by omega⟩ rfl ⟨rfl, rfl, rfl, rfl, trivial⟩ (.drop (.keep (fun _ _ h => h) (.nil)))
                         )
                      )
                   ·
                    first
                     | (exfalso; omega)
                     | (
                      refine c_cond_f rfl ?_
                      refine c_exit ?_
                      refine e_exit_then ?_
                      refine e_exit_then ?_
                      refine e_exit_block ?_
                      refine e_next ?_
                      refine c_seq ?_
                      refine c_region ?_
                      refine r_val .none rfl (p_assign rfl) ?_
                      refine r_nil ?_
                      refine e_next ?_
                      refine c_ret ?_
                      refine e_ret1 Try.results86 (.tmp rfl .nil) (fun w hm => ⟨?_, hm.since⟩)
                      rw [has_eq c v]
                      first
                      | (rw [own_yes (by omega)]; rfl)
                      | (rw [own_no (by omega), Bool.false_or, ← hphi.2, map_drop (i := k) (d := d0) (by omega), hasL_yes hE]; done)
                      | (rw [own_no (by omega), Bool.false_or, ← hphi.2, List.drop_eq_nil_of_le (by simp; omega)]; rfl)
                      )
                   )
                )
             ·
              first
               | (exfalso; omega)
               | (
                refine r_skip rfl (.no rfl rfl) ?_
                refine r_skip rfl (.no rfl rfl) ?_
                refine r_skip rfl (.no rfl rfl) ?_
                refine r_skip rfl (.no rfl rfl) ?_
                refine r_skip rfl (.no rfl rfl) ?_
                refine r_skip rfl (.no rfl rfl) ?_
                refine r_skip rfl (.no rfl rfl) ?_
                refine r_val .none rfl (p_pick_f rfl rfl) ?_
                refine r_nil ?_
                refine e_next ?_
                refine c_cond_f rfl ?_
                refine c_skip ?_
                refine e_norm_block ?_
                refine e_next ?_
                refine c_region ?_
                refine r_val .none rfl (p_move rfl) ?_
                refine r_val .none rfl (p_add rfl rfl (by omega)) ?_
                refine r_val .none rfl (p_assign rfl) ?_
                refine r_nil ?_
                refine e_again ?_
                refine l_round (n := 0) ?_
                refine c_seq ?_
                refine c_seq ?_
                refine c_region ?_
                refine r_val .none rfl (p_move rfl) ?_
                refine r_val .none rfl (p_lt rfl rfl) ?_
                refine r_say (d := 9) (v := Value.bool false) rfl ?_
                refine r_nil ?_
                refine e_next ?_
                refine c_cond_f rfl ?_
                refine c_exit ?_
                refine e_exit_then ?_
                refine e_exit_then ?_
                refine e_exit_block ?_
                refine e_next ?_
                refine c_seq ?_
                refine c_seq ?_
                refine c_region ?_
                refine r_val .none rfl (p_field Try.underlying102 rfl sz75 rfl) ?_
                refine r_val .none rfl (p_ld (k := 0) Try.underlying75 rfl rfl rfl (by first | exact of_decide_eq_true rfl | omega) rfl) ?_
                refine r_val .none rfl (p_leng Try.underlying75 rfl hr) ?_
                have bd_63 := (hr).bound
                refine r_val .none rfl (p_move rfl) ?_
                refine r_nil ?_
                refine e_next ?_
                refine c_block ?_
                refine c_name (d := 1) rfl (fun u_64 hu_64 => ?_)
                refine c_name (d := 33) rfl (fun u_65 hu_65 => ?_)
                refine c_name (d := 34) rfl (fun u_66 hu_66 => ?_)
                refine c_nameL (k := 0) rfl (fun A_67 hA_67 => ?_)
                refine c_loop (σ := Nat) (fun k => [(35, Value.int .i64 (k : Nat)), (1, u_64), (33, u_65), (34, u_66)]) (fun k => [A_67]) (fun _ => _) (fun k => k ≤ rs.length ∧ hasL ((rs.map Prod.fst).drop k) v = hasL c.subs v) (fun k => rs.length - k) (0) ⟨Nat.zero_le _, by rw [hl]; rfl⟩ rfl ⟨rfl, rfl, rfl, rfl, trivial⟩ (.keep (fun _ _ h => h) (.nil)) (fun k hphi => ?_)
                subst hu_64
                subst hu_65
                subst hu_66
                subst hA_67
                refine c_seq ?_
                refine c_region ?_
                refine r_val .none rfl (p_lt rfl rfl) ?_
                refine r_nil ?_
                refine e_next ?_
                refine c_seq ?_
                refine c_splitd (d := 36) rfl (fun h_68 => ?_) (fun h_68 => ?_)
                ·
                 first
                  | (exfalso; omega)
                  | (
                   refine c_cond_t rfl ?_
                   refine c_skip ?_
                   refine e_next ?_
                   refine c_seq ?_
                   refine c_block ?_
                   refine c_seq ?_
                   refine c_region ?_
                   refine r_iaddr_g .none rfl Try.underlying75 sz102 rfl hr rfl (by first | exact of_decide_eq_true rfl | omega) (fun p_70 o_71 R_69 => ?_)
                   have hc_72 := hp _ (getD_mem (i := k) (d := d0) (by omega))
                   refine r_val .none rfl (p_ldga0 Try.underlying102 rfl sz102 rfl R_69 (by first | exact of_decide_eq_true rfl | omega) (rfl : _ = Value.agg #[_, _, _, _, _, _, _, _])) ?_
                   refine r_alloc .none rfl zr102 (IsRow.lit _) (fun b_6 => ?_)
                   refine r_stw (k := 0) .none sz102 rfl rfl (IsRow.lit _) (one_lit rfl (all_cons rfl (all_cons rfl (all_cons rfl (all_cons rfl (all_cons rfl (all_cons rfl (all_cons rfl (all_cons (hc_72).one rfl))))))))) rfl ?_
                   refine r_nil ?_
                   refine e_next ?_
                   refine c_seq ?_
                   refine c_region ?_
                   refine r_val .none rfl (p_ldw (k := 0) Try.underlying102 rfl sz102 rfl rfl (rfl : _ = Value.agg #[_, _, _, _, _, _, _, _])) ?_
                   refine r_val .none rfl (p_move rfl) ?_
                   refine r_call (vs := [_, _]) .none rfl cl86 rfl (fun w hw => ih (rs.getD k d0).1 _ _ _ w (size_at hl (by omega) hz) hc_72 hw) ?_
                   refine r_nil ?_
                   refine e_next ?_
                   refine c_split (d := 41) rfl (fun h_73 => ?_) (fun h_73 => ?_)
                   ·
                    have hE := h_73
                    first
                     | (exfalso; omega)
                     | (
                      refine c_cond_t rfl ?_
                      refine c_seq ?_
                      refine c_region ?_
                      refine r_val .none rfl (p_assign rfl) ?_
                      refine r_nil ?_
                      refine e_next ?_
                      refine c_ret ?_
                      refine e_ret_block ?_
                      refine e_ret_then ?_
                      refine e_ret_then ?_
                      refine e_ret_block ?_
                      refine e_ret_then ?_
                      refine e_ret1 Try.results86 (.tmp rfl .nil) (fun w hm => ⟨?_, hm.since⟩)
                      rw [has_eq c v]
                      first
                      | (rw [own_yes (by omega)]; rfl)
                      | (rw [own_no (by omega), Bool.false_or, ← hphi.2, map_drop (i := k) (d := d0) (by omega), hasL_yes hE]; done)
                      | (rw [own_no (by omega), Bool.false_or, ← hphi.2, List.drop_eq_nil_of_le (by simp; omega)]; rfl)
                      )
                   ·
                    have hE := h_73
                    first
                     | (exfalso; omega)
                     | (
                      refine c_cond_f rfl ?_
                      refine c_skip ?_
                      refine e_norm_block ?_
                      refine e_next ?_
                      refine c_region ?_
                      refine r_val .none rfl (p_add rfl rfl (by omega)) ?_
                      refine r_val .none rfl (p_move rfl) ?_
                      refine r_nil ?_
                      refine e_round (k + 1) ⟨⟨by omega, by rw [← hphi.2, map_drop (i := k) (d := d0) (by omega), hasL_no hE]⟩, by omega⟩ rfl ⟨rfl, rfl, rfl, rfl, trivial⟩ (.drop (.keep (fun _ _ h => h) (.nil)))
                      )
                   )
                ·
                 first
                  | (exfalso; omega)
                  | (
                   refine c_cond_f rfl ?_
                   refine c_exit ?_
                   refine e_exit_then ?_
                   refine e_exit_then ?_
                   refine e_exit_block ?_
                   refine e_next ?_
                   refine c_seq ?_
                   refine c_region ?_
                   refine r_val .none rfl (p_assign rfl) ?_
                   refine r_nil ?_
                   refine e_next ?_
                   refine c_ret ?_
                   refine e_ret1 Try.results86 (.tmp rfl .nil) (fun w hm => ⟨?_, hm.since⟩)
                   rw [has_eq c v]
                   first
                   | (rw [own_yes (by omega)]; rfl)
                   | (rw [own_no (by omega), Bool.false_or, ← hphi.2, map_drop (i := k) (d := d0) (by omega), hasL_yes hE]; done)
                   | (rw [own_no (by omega), Bool.false_or, ← hphi.2, List.drop_eq_nil_of_le (by simp; omega)]; rfl)
                   )
                )
             )
          ·
           first
            | (exfalso; omega)
            | (
             refine r_skip rfl (.no rfl rfl) ?_
             refine r_skip rfl (.no rfl rfl) ?_
             refine r_skip rfl (.no rfl rfl) ?_
             refine r_skip rfl (.no rfl rfl) ?_
             refine r_skip rfl (.no rfl rfl) ?_
             refine r_skip rfl (.no rfl rfl) ?_
             refine r_val .none rfl (p_pick_f rfl rfl) ?_
             refine r_val .none rfl (p_move rfl) ?_
             refine r_skip rfl (.no rfl rfl) ?_
             refine r_skip rfl (.no rfl rfl) ?_
             refine r_skip rfl (.no rfl rfl) ?_
             refine r_skip rfl (.no rfl rfl) ?_
             refine r_skip rfl (.no rfl rfl) ?_
             refine r_skip rfl (.no rfl rfl) ?_
             refine r_skip rfl (.no rfl rfl) ?_
             refine r_val .none rfl (p_pick_f rfl rfl) ?_
             refine r_nil ?_
             refine e_next ?_
             refine c_cond_f rfl ?_
             refine c_skip ?_
             refine e_norm_block ?_
             refine e_next ?_
             refine c_region ?_
             refine r_val .none rfl (p_move rfl) ?_
             refine r_val .none rfl (p_add rfl rfl (by omega)) ?_
             refine r_val .none rfl (p_assign rfl) ?_
             refine r_nil ?_
             refine e_again ?_
             refine l_round (n := 0) ?_
             refine c_seq ?_
             refine c_seq ?_
             refine c_region ?_
             refine r_val .none rfl (p_move rfl) ?_
             refine r_val .none rfl (p_lt rfl rfl) ?_
             refine r_say (d := 9) (v := Value.bool false) rfl ?_
             refine r_nil ?_
             refine e_next ?_
             refine c_cond_f rfl ?_
             refine c_exit ?_
             refine e_exit_then ?_
             refine e_exit_then ?_
             refine e_exit_block ?_
             refine e_next ?_
             refine c_seq ?_
             refine c_seq ?_
             refine c_region ?_
             refine r_val .none rfl (p_field Try.underlying102 rfl sz75 rfl) ?_
             refine r_val .none rfl (p_ld (k := 0) Try.underlying75 rfl rfl rfl (by first | exact of_decide_eq_true rfl | omega) rfl) ?_
             refine r_val .none rfl (p_leng Try.underlying75 rfl hr) ?_
             have bd_74 := (hr).bound
             refine r_val .none rfl (p_move rfl) ?_
             refine r_nil ?_
             refine e_next ?_
             refine c_block ?_
             refine c_name (d := 1) rfl (fun u_75 hu_75 => ?_)
             refine c_name (d := 33) rfl (fun u_76 hu_76 => ?_)
             refine c_name (d := 34) rfl (fun u_77 hu_77 => ?_)
             refine c_nameL (k := 0) rfl (fun A_78 hA_78 => ?_)
             refine c_loop (σ := Nat) (fun k => [(35, Value.int .i64 (k : Nat)), (1, u_75), (33, u_76), (34, u_77)]) (fun k => [A_78]) (fun _ => _) (fun k => k ≤ rs.length ∧ hasL ((rs.map Prod.fst).drop k) v = hasL c.subs v) (fun k => rs.length - k) (0) ⟨Nat.zero_le _, by rw [hl]; rfl⟩ rfl ⟨rfl, rfl, rfl, rfl, trivial⟩ (.keep (fun _ _ h => h) (.nil)) (fun k hphi => ?_)
             subst hu_75
             subst hu_76
             subst hu_77
             subst hA_78
             refine c_seq ?_
             refine c_region ?_
             refine r_val .none rfl (p_lt rfl rfl) ?_
             refine r_nil ?_
             refine e_next ?_
             refine c_seq ?_
             refine c_splitd (d := 36) rfl (fun h_79 => ?_) (fun h_79 => ?_)
             ·
              first
               | (exfalso; omega)
               | (
                refine c_cond_t rfl ?_
                refine c_skip ?_
                refine e_next ?_
                refine c_seq ?_
                refine c_block ?_
                refine c_seq ?_
                refine c_region ?_
                refine r_iaddr_g .none rfl Try.underlying75 sz102 rfl hr rfl (by first | exact of_decide_eq_true rfl | omega) (fun p_81 o_82 R_80 => ?_)
                have hc_83 := hp _ (getD_mem (i := k) (d := d0) (by omega))
                refine r_val .none rfl (p_ldga0 Try.underlying102 rfl sz102 rfl R_80 (by first | exact of_decide_eq_true rfl | omega) (rfl : _ = Value.agg #[_, _, _, _, _, _, _, _])) ?_
                refine r_alloc .none rfl zr102 (IsRow.lit _) (fun b_7 => ?_)
                refine r_stw (k := 0) .none sz102 rfl rfl (IsRow.lit _) (one_lit rfl (all_cons rfl (all_cons rfl (all_cons rfl (all_cons rfl (all_cons rfl (all_cons rfl (all_cons rfl (all_cons (hc_83).one rfl))))))))) rfl ?_
                refine r_nil ?_
                refine e_next ?_
                refine c_seq ?_
                refine c_region ?_
                refine r_val .none rfl (p_ldw (k := 0) Try.underlying102 rfl sz102 rfl rfl (rfl : _ = Value.agg #[_, _, _, _, _, _, _, _])) ?_
                refine r_val .none rfl (p_move rfl) ?_
                refine r_call (vs := [_, _]) .none rfl cl86 rfl (fun w hw => ih (rs.getD k d0).1 _ _ _ w (size_at hl (by omega) hz) hc_83 hw) ?_
                refine r_nil ?_
                refine e_next ?_
                refine c_split (d := 41) rfl (fun h_84 => ?_) (fun h_84 => ?_)
                ·
                 have hE := h_84
                 first
                  | (exfalso; omega)
                  | (
                   refine c_cond_t rfl ?_
                   refine c_seq ?_
                   refine c_region ?_
                   refine r_val .none rfl (p_assign rfl) ?_
                   refine r_nil ?_
                   refine e_next ?_
                   refine c_ret ?_
                   refine e_ret_block ?_
                   refine e_ret_then ?_
                   refine e_ret_then ?_
                   refine e_ret_block ?_
                   refine e_ret_then ?_
                   refine e_ret1 Try.results86 (.tmp rfl .nil) (fun w hm => ⟨?_, hm.since⟩)
                   rw [has_eq c v]
                   first
                   | (rw [own_yes (by omega)]; rfl)
                   | (rw [own_no (by omega), Bool.false_or, ← hphi.2, map_drop (i := k) (d := d0) (by omega), hasL_yes hE]; done)
                   | (rw [own_no (by omega), Bool.false_or, ← hphi.2, List.drop_eq_nil_of_le (by simp; omega)]; rfl)
                   )
                ·
                 have hE := h_84
                 first
                  | (exfalso; omega)
                  | (
                   refine c_cond_f rfl ?_
                   refine c_skip ?_
                   refine e_norm_block ?_
                   refine e_next ?_
                   refine c_region ?_
                   refine r_val .none rfl (p_add rfl rfl (by omega)) ?_
                   refine r_val .none rfl (p_move rfl) ?_
                   refine r_nil ?_
                   refine e_round (k + 1) ⟨⟨by omega, by rw [← hphi.2, map_drop (i := k) (d := d0) (by omega), hasL_no hE]⟩, by omega⟩ rfl ⟨rfl, rfl, rfl, rfl, trivial⟩ (.drop (.keep (fun _ _ h => h) (.nil)))
                   )
                )
             ·
              first
               | (exfalso; omega)
               | (
                refine c_cond_f rfl ?_
                refine c_exit ?_
                refine e_exit_then ?_
                refine e_exit_then ?_
                refine e_exit_block ?_
                refine e_next ?_
                refine c_seq ?_
                refine c_region ?_
                refine r_val .none rfl (p_assign rfl) ?_
                refine r_nil ?_
                refine e_next ?_
                refine c_ret ?_
                refine e_ret1 Try.results86 (.tmp rfl .nil) (fun w hm => ⟨?_, hm.since⟩)
                rw [has_eq c v]
                first
                | (rw [own_yes (by omega)]; rfl)
                | (rw [own_no (by omega), Bool.false_or, ← hphi.2, map_drop (i := k) (d := d0) (by omega), hasL_yes hE]; done)
                | (rw [own_no (by omega), Bool.false_or, ← hphi.2, List.drop_eq_nil_of_le (by simp; omega)]; rfl)
                )
             )
          )
       )
    ·
     first
      | (exfalso; omega)
      | (
       refine r_skip rfl (.no rfl rfl) ?_
       refine r_skip rfl (.no rfl rfl) ?_
       refine r_skip rfl (.no rfl rfl) ?_
       refine r_skip rfl (.no rfl rfl) ?_
       refine r_skip rfl (.no rfl rfl) ?_
       refine r_skip rfl (.no rfl rfl) ?_
       refine r_val .none rfl (p_pick_f rfl rfl) ?_
       refine r_val .none rfl (p_move rfl) ?_
       refine r_skip rfl (.no rfl rfl) ?_
       refine r_skip rfl (.no rfl rfl) ?_
       refine r_skip rfl (.no rfl rfl) ?_
       refine r_skip rfl (.no rfl rfl) ?_
       refine r_skip rfl (.no rfl rfl) ?_
       refine r_skip rfl (.no rfl rfl) ?_
       refine r_skip rfl (.no rfl rfl) ?_
       refine r_val .none rfl (p_pick_f rfl rfl) ?_
       refine r_nil ?_
       refine e_next ?_
       refine c_cond_f rfl ?_
       refine c_skip ?_
       refine e_norm_block ?_
       refine e_next ?_
       refine c_region ?_
       refine r_val .none rfl (p_move rfl) ?_
       refine r_val .none rfl (p_add rfl rfl (by omega)) ?_
       refine r_val .none rfl (p_assign rfl) ?_
       refine r_nil ?_
       refine e_again ?_
       refine l_round (n := 1) ?_
       refine c_seq ?_
       refine c_seq ?_
       refine c_region ?_
       refine r_val .none rfl (p_move rfl) ?_
       refine r_val .none rfl (p_lt rfl rfl) ?_
       refine r_say (d := 9) (v := Value.bool true) rfl ?_
       refine r_nil ?_
       refine e_next ?_
       refine c_cond_t rfl ?_
       refine c_skip ?_
       refine e_next ?_
       refine c_seq ?_
       refine c_block ?_
       refine c_seq ?_
       refine c_region ?_
       refine r_val .none rfl (p_field Try.underlying102 rfl sz3 rfl) ?_
       refine r_val .none rfl (p_ld (k := 0) Try.underlying3 rfl rfl rfl (by first | exact of_decide_eq_true rfl | omega) (rfl : _ = Value.int _ _)) ?_
       refine r_val .none rfl (p_lt rfl rfl) ?_
       refine r_val .none rfl (p_move rfl) ?_
       refine r_splitd (d := 15) rfl (fun h_85 => ?_) (fun h_85 => ?_)
       ·
        first
         | (exfalso; omega)
         | (
          refine r_val (.some rfl rfl) rfl (p_move rfl) ?_
          refine r_val (.some rfl rfl) rfl (p_field Try.underlying102 rfl sz100 rfl) ?_
          refine r_val (.some rfl rfl) rfl (p_iaddr (k := 2) Try.underlying100 sz99 rfl rfl (by first | exact of_decide_eq_true rfl | omega)) ?_
          refine r_val (.some rfl rfl) rfl (p_field Try.underlying99 rfl sz3 rfl) ?_
          refine r_val (.some rfl rfl) rfl (p_ld (k := 0) Try.underlying3 rfl rfl rfl (by first | exact of_decide_eq_true rfl | omega) (rfl : _ = Value.int _ _)) ?_
          refine r_val (.some rfl rfl) rfl (p_eq rfl rfl) ?_
          refine r_val .none rfl (p_pick_t rfl rfl) ?_
          refine r_val .none rfl (p_move rfl) ?_
          refine r_splitd (d := 23) rfl (fun h_86 => ?_) (fun h_86 => ?_)
          ·
           first
            | (exfalso; omega)
            | (
             refine r_val (.some rfl rfl) rfl (p_move rfl) ?_
             refine r_val (.some rfl rfl) rfl (p_field Try.underlying102 rfl sz100 rfl) ?_
             refine r_val (.some rfl rfl) rfl (p_iaddr (k := 2) Try.underlying100 sz99 rfl rfl (by first | exact of_decide_eq_true rfl | omega)) ?_
             refine r_val (.some rfl rfl) rfl (p_field Try.underlying99 rfl sz3 rfl) ?_
             refine r_val (.some rfl rfl) rfl (p_ld (k := 0) Try.underlying3 rfl rfl rfl (by first | exact of_decide_eq_true rfl | omega) (rfl : _ = Value.int _ _)) ?_
             refine r_val (.some rfl rfl) rfl (p_move rfl) ?_
             refine r_val (.some rfl rfl) rfl (p_eq rfl rfl) ?_
             refine r_val .none rfl (p_pick_t rfl rfl) ?_
             refine r_nil ?_
             refine e_next ?_
             refine c_splitd (d := 31) rfl (fun h_87 => ?_) (fun h_87 => ?_)
             ·
              first
               | (exfalso; omega)
               | (
                refine c_cond_t rfl ?_
                refine c_seq ?_
                refine c_region ?_
                refine r_val .none rfl (p_assign rfl) ?_
                refine r_nil ?_
                refine e_next ?_
                refine c_ret ?_
                refine e_ret_block ?_
                refine e_ret_then ?_
                refine e_ret_then ?_
                refine e_ret_block ?_
                refine e_ret_then ?_
                refine e_ret1 Try.results86 (.tmp rfl .nil) (fun w hm => ⟨?_, hm.since⟩)
                rw [has_eq c v]
                first
                | (rw [own_yes (by omega)]; rfl)
                | (rw [own_no (by omega), Bool.false_or, ← hphi.2, map_drop (i := k) (d := d0) (by omega), hasL_yes hE]; done)
                | (rw [own_no (by omega), Bool.false_or, ← hphi.2, List.drop_eq_nil_of_le (by simp; omega)]; rfl)
                )
             ·
              first
               | (exfalso; omega)
               | (
                refine c_cond_f rfl ?_
                refine c_skip ?_
                refine e_norm_block ?_
                refine e_next ?_
                refine c_region ?_
                refine r_val .none rfl (p_move rfl) ?_
                refine r_val .none rfl (p_add rfl rfl (by omega)) ?_
                refine r_val .none rfl (p_assign rfl) ?_
                refine r_nil ?_
                refine e_again ?_
                refine l_round (n := 0) ?_
                refine c_seq ?_
                refine c_seq ?_
                refine c_region ?_
                refine r_val .none rfl (p_move rfl) ?_
                refine r_val .none rfl (p_lt rfl rfl) ?_
                refine r_say (d := 9) (v := Value.bool false) rfl ?_
                refine r_nil ?_
                refine e_next ?_
                refine c_cond_f rfl ?_
                refine c_exit ?_
                refine e_exit_then ?_
                refine e_exit_then ?_
                refine e_exit_block ?_
                refine e_next ?_
                refine c_seq ?_
                refine c_seq ?_
                refine c_region ?_
                refine r_val .none rfl (p_field Try.underlying102 rfl sz75 rfl) ?_
                refine r_val .none rfl (p_ld (k := 0) Try.underlying75 rfl rfl rfl (by first | exact of_decide_eq_true rfl | omega) rfl) ?_
                refine r_val .none rfl (p_leng Try.underlying75 rfl hr) ?_
                have bd_88 := (hr).bound
                refine r_val .none rfl (p_move rfl) ?_
                refine r_nil ?_
                refine e_next ?_
                refine c_block ?_
                refine c_name (d := 1) rfl (fun u_89 hu_89 => ?_)
                refine c_name (d := 33) rfl (fun u_90 hu_90 => ?_)
                refine c_name (d := 34) rfl (fun u_91 hu_91 => ?_)
                refine c_nameL (k := 0) rfl (fun A_92 hA_92 => ?_)
                refine c_loop (σ := Nat) (fun k => [(35, Value.int .i64 (k : Nat)), (1, u_89), (33, u_90), (34, u_91)]) (fun k => [A_92]) (fun _ => _) (fun k => k ≤ rs.length ∧ hasL ((rs.map Prod.fst).drop k) v = hasL c.subs v) (fun k => rs.length - k) (0) ⟨Nat.zero_le _, by rw [hl]; rfl⟩ rfl ⟨rfl, rfl, rfl, rfl, trivial⟩ (.keep (fun _ _ h => h) (.nil)) (fun k hphi => ?_)
                subst hu_89
                subst hu_90
                subst hu_91
                subst hA_92
                refine c_seq ?_
                refine c_region ?_
                refine r_val .none rfl (p_lt rfl rfl) ?_
                refine r_nil ?_
                refine e_next ?_
                refine c_seq ?_
                refine c_splitd (d := 36) rfl (fun h_93 => ?_) (fun h_93 => ?_)
                ·
                 first
                  | (exfalso; omega)
                  | (
                   refine c_cond_t rfl ?_
                   refine c_skip ?_
                   refine e_next ?_
                   refine c_seq ?_
                   refine c_block ?_
                   refine c_seq ?_
                   refine c_region ?_
                   refine r_iaddr_g .none rfl Try.underlying75 sz102 rfl hr rfl (by first | exact of_decide_eq_true rfl | omega) (fun p_95 o_96 R_94 => ?_)
                   have hc_97 := hp _ (getD_mem (i := k) (d := d0) (by omega))
                   refine r_val .none rfl (p_ldga0 Try.underlying102 rfl sz102 rfl R_94 (by first | exact of_decide_eq_true rfl | omega) (rfl : _ = Value.agg #[_, _, _, _, _, _, _, _])) ?_
                   refine r_alloc .none rfl zr102 (IsRow.lit _) (fun b_8 => ?_)
                   refine r_stw (k := 0) .none sz102 rfl rfl (IsRow.lit _) (one_lit rfl (all_cons rfl (all_cons rfl (all_cons rfl (all_cons rfl (all_cons rfl (all_cons rfl (all_cons rfl (all_cons (hc_97).one rfl))))))))) rfl ?_
                   refine r_nil ?_
                   refine e_next ?_
                   refine c_seq ?_
                   refine c_region ?_
                   refine r_val .none rfl (p_ldw (k := 0) Try.underlying102 rfl sz102 rfl rfl (rfl : _ = Value.agg #[_, _, _, _, _, _, _, _])) ?_
                   refine r_val .none rfl (p_move rfl) ?_
                   refine r_call (vs := [_, _]) .none rfl cl86 rfl (fun w hw => ih (rs.getD k d0).1 _ _ _ w (size_at hl (by omega) hz) hc_97 hw) ?_
                   refine r_nil ?_
                   refine e_next ?_
                   refine c_split (d := 41) rfl (fun h_98 => ?_) (fun h_98 => ?_)
                   ·
                    have hE := h_98
                    first
                     | (exfalso; omega)
                     | (
                      refine c_cond_t rfl ?_
                      refine c_seq ?_
                      refine c_region ?_
                      refine r_val .none rfl (p_assign rfl) ?_
                      refine r_nil ?_
                      refine e_next ?_
                      refine c_ret ?_
                      refine e_ret_block ?_
                      refine e_ret_then ?_
                      refine e_ret_then ?_
                      refine e_ret_block ?_
                      refine e_ret_then ?_
                      refine e_ret1 Try.results86 (.tmp rfl .nil) (fun w hm => ⟨?_, hm.since⟩)
                      rw [has_eq c v]
                      first
                      | (rw [own_yes (by omega)]; rfl)
                      | (rw [own_no (by omega), Bool.false_or, ← hphi.2, map_drop (i := k) (d := d0) (by omega), hasL_yes hE]; done)
                      | (rw [own_no (by omega), Bool.false_or, ← hphi.2, List.drop_eq_nil_of_le (by simp; omega)]; rfl)
                      )
                   ·
                    have hE := h_98
                    first
                     | (exfalso; omega)
                     | (
                      refine c_cond_f rfl ?_
                      refine c_skip ?_
                      refine e_norm_block ?_
                      refine e_next ?_
                      refine c_region ?_
                      refine r_val .none rfl (p_add rfl rfl (by omega)) ?_
                      refine r_val .none rfl (p_move rfl) ?_
                      refine r_nil ?_
                      refine e_round (k + 1) ⟨⟨by omega, by rw [← hphi.2, map_drop (i := k) (d := d0) (by omega), hasL_no hE]⟩, by omega⟩ rfl ⟨rfl, rfl, rfl, rfl, trivial⟩ (.drop (.keep (fun _ _ h => h) (.nil)))
                      )
                   )
                ·
                 first
                  | (exfalso; omega)
                  | (
                   refine c_cond_f rfl ?_
                   refine c_exit ?_
                   refine e_exit_then ?_
                   refine e_exit_then ?_
                   refine e_exit_block ?_
                   refine e_next ?_
                   refine c_seq ?_
                   refine c_region ?_
                   refine r_val .none rfl (p_assign rfl) ?_
                   refine r_nil ?_
                   refine e_next ?_
                   refine c_ret ?_
                   refine e_ret1 Try.results86 (.tmp rfl .nil) (fun w hm => ⟨?_, hm.since⟩)
                   rw [has_eq c v]
                   first
                   | (rw [own_yes (by omega)]; rfl)
                   | (rw [own_no (by omega), Bool.false_or, ← hphi.2, map_drop (i := k) (d := d0) (by omega), hasL_yes hE]; done)
                   | (rw [own_no (by omega), Bool.false_or, ← hphi.2, List.drop_eq_nil_of_le (by simp; omega)]; rfl)
                   )
                )
             )
          ·
           first
            | (exfalso; omega)
            | (
             refine r_skip rfl (.no rfl rfl) ?_
             refine r_skip rfl (.no rfl rfl) ?_
             refine r_skip rfl (.no rfl rfl) ?_
             refine r_skip rfl (.no rfl rfl) ?_
             refine r_skip rfl (.no rfl rfl) ?_
             refine r_skip rfl (.no rfl rfl) ?_
             refine r_skip rfl (.no rfl rfl) ?_
             refine r_val .none rfl (p_pick_f rfl rfl) ?_
             refine r_nil ?_
             refine e_next ?_
             refine c_cond_f rfl ?_
             refine c_skip ?_
             refine e_norm_block ?_
             refine e_next ?_
             refine c_region ?_
             refine r_val .none rfl (p_move rfl) ?_
             refine r_val .none rfl (p_add rfl rfl (by omega)) ?_
             refine r_val .none rfl (p_assign rfl) ?_
             refine r_nil ?_
             refine e_again ?_
             refine l_round (n := 0) ?_
             refine c_seq ?_
             refine c_seq ?_
             refine c_region ?_
             refine r_val .none rfl (p_move rfl) ?_
             refine r_val .none rfl (p_lt rfl rfl) ?_
             refine r_say (d := 9) (v := Value.bool false) rfl ?_
             refine r_nil ?_
             refine e_next ?_
             refine c_cond_f rfl ?_
             refine c_exit ?_
             refine e_exit_then ?_
             refine e_exit_then ?_
             refine e_exit_block ?_
             refine e_next ?_
             refine c_seq ?_
             refine c_seq ?_
             refine c_region ?_
             refine r_val .none rfl (p_field Try.underlying102 rfl sz75 rfl) ?_
             refine r_val .none rfl (p_ld (k := 0) Try.underlying75 rfl rfl rfl (by first | exact of_decide_eq_true rfl | omega) rfl) ?_
             refine r_val .none rfl (p_leng Try.underlying75 rfl hr) ?_
             have bd_99 := (hr).bound
             refine r_val .none rfl (p_move rfl) ?_
             refine r_nil ?_
             refine e_next ?_
             refine c_block ?_
             refine c_name (d := 1) rfl (fun u_100 hu_100 => ?_)
             refine c_name (d := 33) rfl (fun u_101 hu_101 => ?_)
             refine c_name (d := 34) rfl (fun u_102 hu_102 => ?_)
             refine c_nameL (k := 0) rfl (fun A_103 hA_103 => ?_)
             refine c_loop (σ := Nat) (fun k => [(35, Value.int .i64 (k : Nat)), (1, u_100), (33, u_101), (34, u_102)]) (fun k => [A_103]) (fun _ => _) (fun k => k ≤ rs.length ∧ hasL ((rs.map Prod.fst).drop k) v = hasL c.subs v) (fun k => rs.length - k) (0) ⟨Nat.zero_le _, by rw [hl]; rfl⟩ rfl ⟨rfl, rfl, rfl, rfl, trivial⟩ (.keep (fun _ _ h => h) (.nil)) (fun k hphi => ?_)
             subst hu_100
             subst hu_101
             subst hu_102
             subst hA_103
             refine c_seq ?_
             refine c_region ?_
             refine r_val .none rfl (p_lt rfl rfl) ?_
             refine r_nil ?_
             refine e_next ?_
             refine c_seq ?_
             refine c_splitd (d := 36) rfl (fun h_104 => ?_) (fun h_104 => ?_)
             ·
              first
               | (exfalso; omega)
               | (
                refine c_cond_t rfl ?_
                refine c_skip ?_
                refine e_next ?_
                refine c_seq ?_
                refine c_block ?_
                refine c_seq ?_
                refine c_region ?_
                refine r_iaddr_g .none rfl Try.underlying75 sz102 rfl hr rfl (by first | exact of_decide_eq_true rfl | omega) (fun p_106 o_107 R_105 => ?_)
                have hc_108 := hp _ (getD_mem (i := k) (d := d0) (by omega))
                refine r_val .none rfl (p_ldga0 Try.underlying102 rfl sz102 rfl R_105 (by first | exact of_decide_eq_true rfl | omega) (rfl : _ = Value.agg #[_, _, _, _, _, _, _, _])) ?_
                refine r_alloc .none rfl zr102 (IsRow.lit _) (fun b_9 => ?_)
                refine r_stw (k := 0) .none sz102 rfl rfl (IsRow.lit _) (one_lit rfl (all_cons rfl (all_cons rfl (all_cons rfl (all_cons rfl (all_cons rfl (all_cons rfl (all_cons rfl (all_cons (hc_108).one rfl))))))))) rfl ?_
                refine r_nil ?_
                refine e_next ?_
                refine c_seq ?_
                refine c_region ?_
                refine r_val .none rfl (p_ldw (k := 0) Try.underlying102 rfl sz102 rfl rfl (rfl : _ = Value.agg #[_, _, _, _, _, _, _, _])) ?_
                refine r_val .none rfl (p_move rfl) ?_
                refine r_call (vs := [_, _]) .none rfl cl86 rfl (fun w hw => ih (rs.getD k d0).1 _ _ _ w (size_at hl (by omega) hz) hc_108 hw) ?_
                refine r_nil ?_
                refine e_next ?_
                refine c_split (d := 41) rfl (fun h_109 => ?_) (fun h_109 => ?_)
                ·
                 have hE := h_109
                 first
                  | (exfalso; omega)
                  | (
                   refine c_cond_t rfl ?_
                   refine c_seq ?_
                   refine c_region ?_
                   refine r_val .none rfl (p_assign rfl) ?_
                   refine r_nil ?_
                   refine e_next ?_
                   refine c_ret ?_
                   refine e_ret_block ?_
                   refine e_ret_then ?_
                   refine e_ret_then ?_
                   refine e_ret_block ?_
                   refine e_ret_then ?_
                   refine e_ret1 Try.results86 (.tmp rfl .nil) (fun w hm => ⟨?_, hm.since⟩)
                   rw [has_eq c v]
                   first
                   | (rw [own_yes (by omega)]; rfl)
                   | (rw [own_no (by omega), Bool.false_or, ← hphi.2, map_drop (i := k) (d := d0) (by omega), hasL_yes hE]; done)
                   | (rw [own_no (by omega), Bool.false_or, ← hphi.2, List.drop_eq_nil_of_le (by simp; omega)]; rfl)
                   )
                ·
                 have hE := h_109
                 first
                  | (exfalso; omega)
                  | (
                   refine c_cond_f rfl ?_
                   refine c_skip ?_
                   refine e_norm_block ?_
                   refine e_next ?_
                   refine c_region ?_
                   refine r_val .none rfl (p_add rfl rfl (by omega)) ?_
                   refine r_val .none rfl (p_move rfl) ?_
                   refine r_nil ?_
                   refine e_round (k + 1) ⟨⟨by omega, by rw [← hphi.2, map_drop (i := k) (d := d0) (by omega), hasL_no hE]⟩, by omega⟩ rfl ⟨rfl, rfl, rfl, rfl, trivial⟩ (.drop (.keep (fun _ _ h => h) (.nil)))
                   )
                )
             ·
              first
               | (exfalso; omega)
               | (
                refine c_cond_f rfl ?_
                refine c_exit ?_
                refine e_exit_then ?_
                refine e_exit_then ?_
                refine e_exit_block ?_
                refine e_next ?_
                refine c_seq ?_
                refine c_region ?_
                refine r_val .none rfl (p_assign rfl) ?_
                refine r_nil ?_
                refine e_next ?_
                refine c_ret ?_
                refine e_ret1 Try.results86 (.tmp rfl .nil) (fun w hm => ⟨?_, hm.since⟩)
                rw [has_eq c v]
                first
                | (rw [own_yes (by omega)]; rfl)
                | (rw [own_no (by omega), Bool.false_or, ← hphi.2, map_drop (i := k) (d := d0) (by omega), hasL_yes hE]; done)
                | (rw [own_no (by omega), Bool.false_or, ← hphi.2, List.drop_eq_nil_of_le (by simp; omega)]; rfl)
                )
             )
          )
       ·
        first
         | (exfalso; omega)
         | (
          refine r_skip rfl (.no rfl rfl) ?_
          refine r_skip rfl (.no rfl rfl) ?_
          refine r_skip rfl (.no rfl rfl) ?_
          refine r_skip rfl (.no rfl rfl) ?_
          refine r_skip rfl (.no rfl rfl) ?_
          refine r_skip rfl (.no rfl rfl) ?_
          refine r_val .none rfl (p_pick_f rfl rfl) ?_
          refine r_val .none rfl (p_move rfl) ?_
          refine r_skip rfl (.no rfl rfl) ?_
          refine r_skip rfl (.no rfl rfl) ?_
          refine r_skip rfl (.no rfl rfl) ?_
          refine r_skip rfl (.no rfl rfl) ?_
          refine r_skip rfl (.no rfl rfl) ?_
          refine r_skip rfl (.no rfl rfl) ?_
          refine r_skip rfl (.no rfl rfl) ?_
          refine r_val .none rfl (p_pick_f rfl rfl) ?_
          refine r_nil ?_
          refine e_next ?_
          refine c_cond_f rfl ?_
          refine c_skip ?_
          refine e_norm_block ?_
          refine e_next ?_
          refine c_region ?_
          refine r_val .none rfl (p_move rfl) ?_
          refine r_val .none rfl (p_add rfl rfl (by omega)) ?_
          refine r_val .none rfl (p_assign rfl) ?_
          refine r_nil ?_
          refine e_again ?_
          refine l_round (n := 0) ?_
          refine c_seq ?_
          refine c_seq ?_
          refine c_region ?_
          refine r_val .none rfl (p_move rfl) ?_
          refine r_val .none rfl (p_lt rfl rfl) ?_
          refine r_say (d := 9) (v := Value.bool false) rfl ?_
          refine r_nil ?_
          refine e_next ?_
          refine c_cond_f rfl ?_
          refine c_exit ?_
          refine e_exit_then ?_
          refine e_exit_then ?_
          refine e_exit_block ?_
          refine e_next ?_
          refine c_seq ?_
          refine c_seq ?_
          refine c_region ?_
          refine r_val .none rfl (p_field Try.underlying102 rfl sz75 rfl) ?_
          refine r_val .none rfl (p_ld (k := 0) Try.underlying75 rfl rfl rfl (by first | exact of_decide_eq_true rfl | omega) rfl) ?_
          refine r_val .none rfl (p_leng Try.underlying75 rfl hr) ?_
          have bd_110 := (hr).bound
          refine r_val .none rfl (p_move rfl) ?_
          refine r_nil ?_
          refine e_next ?_
          refine c_block ?_
          refine c_name (d := 1) rfl (fun u_111 hu_111 => ?_)
          refine c_name (d := 33) rfl (fun u_112 hu_112 => ?_)
          refine c_name (d := 34) rfl (fun u_113 hu_113 => ?_)
          refine c_nameL (k := 0) rfl (fun A_114 hA_114 => ?_)
          refine c_loop (σ := Nat) (fun k => [(35, Value.int .i64 (k : Nat)), (1, u_111), (33, u_112), (34, u_113)]) (fun k => [A_114]) (fun _ => _) (fun k => k ≤ rs.length ∧ hasL ((rs.map Prod.fst).drop k) v = hasL c.subs v) (fun k => rs.length - k) (0) ⟨Nat.zero_le _, by rw [hl]; rfl⟩ rfl ⟨rfl, rfl, rfl, rfl, trivial⟩ (.keep (fun _ _ h => h) (.nil)) (fun k hphi => ?_)
          subst hu_111
          subst hu_112
          subst hu_113
          subst hA_114
          refine c_seq ?_
          refine c_region ?_
          refine r_val .none rfl (p_lt rfl rfl) ?_
          refine r_nil ?_
          refine e_next ?_
          refine c_seq ?_
          refine c_splitd (d := 36) rfl (fun h_115 => ?_) (fun h_115 => ?_)
          ·
           first
            | (exfalso; omega)
            | (
             refine c_cond_t rfl ?_
             refine c_skip ?_
             refine e_next ?_
             refine c_seq ?_
             refine c_block ?_
             refine c_seq ?_
             refine c_region ?_
             refine r_iaddr_g .none rfl Try.underlying75 sz102 rfl hr rfl (by first | exact of_decide_eq_true rfl | omega) (fun p_117 o_118 R_116 => ?_)
             have hc_119 := hp _ (getD_mem (i := k) (d := d0) (by omega))
             refine r_val .none rfl (p_ldga0 Try.underlying102 rfl sz102 rfl R_116 (by first | exact of_decide_eq_true rfl | omega) (rfl : _ = Value.agg #[_, _, _, _, _, _, _, _])) ?_
             refine r_alloc .none rfl zr102 (IsRow.lit _) (fun b_10 => ?_)
             refine r_stw (k := 0) .none sz102 rfl rfl (IsRow.lit _) (one_lit rfl (all_cons rfl (all_cons rfl (all_cons rfl (all_cons rfl (all_cons rfl (all_cons rfl (all_cons rfl (all_cons (hc_119).one rfl))))))))) rfl ?_
             refine r_nil ?_
             refine e_next ?_
             refine c_seq ?_
             refine c_region ?_
             refine r_val .none rfl (p_ldw (k := 0) Try.underlying102 rfl sz102 rfl rfl (rfl : _ = Value.agg #[_, _, _, _, _, _, _, _])) ?_
             refine r_val .none rfl (p_move rfl) ?_
             refine r_call (vs := [_, _]) .none rfl cl86 rfl (fun w hw => ih (rs.getD k d0).1 _ _ _ w (size_at hl (by omega) hz) hc_119 hw) ?_
             refine r_nil ?_
             refine e_next ?_
             refine c_split (d := 41) rfl (fun h_120 => ?_) (fun h_120 => ?_)
             ·
              have hE := h_120
              first
               | (exfalso; omega)
               | (
                refine c_cond_t rfl ?_
                refine c_seq ?_
                refine c_region ?_
                refine r_val .none rfl (p_assign rfl) ?_
                refine r_nil ?_
                refine e_next ?_
                refine c_ret ?_
                refine e_ret_block ?_
                refine e_ret_then ?_
                refine e_ret_then ?_
                refine e_ret_block ?_
                refine e_ret_then ?_
                refine e_ret1 Try.results86 (.tmp rfl .nil) (fun w hm => ⟨?_, hm.since⟩)
                rw [has_eq c v]
                first
                | (rw [own_yes (by omega)]; rfl)
                | (rw [own_no (by omega), Bool.false_or, ← hphi.2, map_drop (i := k) (d := d0) (by omega), hasL_yes hE]; done)
                | (rw [own_no (by omega), Bool.false_or, ← hphi.2, List.drop_eq_nil_of_le (by simp; omega)]; rfl)
                )
             ·
              have hE := h_120
              first
               | (exfalso; omega)
               | (
                refine c_cond_f rfl ?_
                refine c_skip ?_
                refine e_norm_block ?_
                refine e_next ?_
                refine c_region ?_
                refine r_val .none rfl (p_add rfl rfl (by omega)) ?_
                refine r_val .none rfl (p_move rfl) ?_
                refine r_nil ?_
                refine e_round (k + 1) ⟨⟨by omega, by rw [← hphi.2, map_drop (i := k) (d := d0) (by omega), hasL_no hE]⟩, by omega⟩ rfl ⟨rfl, rfl, rfl, rfl, trivial⟩ (.drop (.keep (fun _ _ h => h) (.nil)))
                )
             )
          ·
           first
            | (exfalso; omega)
            | (
             refine c_cond_f rfl ?_
             refine c_exit ?_
             refine e_exit_then ?_
             refine e_exit_then ?_
             refine e_exit_block ?_
             refine e_next ?_
             refine c_seq ?_
             refine c_region ?_
             refine r_val .none rfl (p_assign rfl) ?_
             refine r_nil ?_
             refine e_next ?_
             refine c_ret ?_
             refine e_ret1 Try.results86 (.tmp rfl .nil) (fun w hm => ⟨?_, hm.since⟩)
             rw [has_eq c v]
             first
             | (rw [own_yes (by omega)]; rfl)
             | (rw [own_no (by omega), Bool.false_or, ← hphi.2, map_drop (i := k) (d := d0) (by omega), hasL_yes hE]; done)
             | (rw [own_no (by omega), Bool.false_or, ← hphi.2, List.drop_eq_nil_of_le (by simp; omega)]; rfl)
             )
          )
       )
    )
theorem c_rhas_n : ∀ n, RhasIs n
 | 0 => fun c sv v G w hz hs hG => absurd hz (by have := size_subs c; omega)
 | n + 1 => fun c sv v G w hz hs hG => c_rhas_s n (c_rhas_n n) c sv v hz hs w hG
theorem c_rhas (c : CT) (sv : Value) (v : Nat) {G : Ghost} (hs : Rs G sv c.subs) (w : World) (hG : Has G w) : Calls Try.prog 86 #[Value.agg #[Value.int .i64 c.h.k, Value.int .i64 (vi c.h.v0), Value.int .i64 c.h.n0, Value.int .i64 (vi c.h.v1), Value.int .i64 c.h.n1, Value.int .i64 (vi c.h.v2), Value.int .i64 c.h.n2, sv], Value.int .i64 (v : Nat)] w (Ret fun r w' => r = Value.bool (has c v) ∧ Since nX w w') := c_rhas_n _ c sv v G w (Nat.le_refl _) hs hG
theorem c_rest (va : Value) (l : List CT) (f v : Nat) {G : Ghost} (hs : Rs G va l) (hf : f ≤ l.length) (w : World) (hG : Has G w) :
  Calls Try.prog 87 #[va, Value.int .i64 (f : Nat), Value.int .i64 (v : Nat)] w (Ret fun r w' => r = Value.bool (hasL (l.drop f) v) ∧ Since nX w w') := by
 refine enter (args := [_, _, _]) (X := nX) (G := G) (l := [(0, va), (1, Value.int .i64 (f : Nat)), (2, Value.int .i64 (v : Nat))]) Try.func87 rfl Try.ntmps87 hG ⟨rfl, rfl, rfl, trivial⟩ (Nat.le_of_ble_eq_true rfl) ?_
 obtain ⟨rs, hr, hp, hl⟩ := hs.inv
 have hbd := hr.bound
 have hlr : l.length = rs.length := by rw [hl]; simp
 refine c_seq ?_
 refine c_region ?_
 refine r_val .none rfl (p_assign rfl) ?_
 refine r_nil ?_
 refine e_next ?_
 refine c_seq ?_
 refine c_seq ?_
 refine c_region ?_
 refine r_val .none rfl (p_move rfl) ?_
 refine r_val .none rfl (p_assign rfl) ?_
 refine r_nil ?_
 refine e_next ?_
 refine c_block ?_
 refine c_name (d := 0) rfl (fun u_1 hu_1 => ?_)
 refine c_name (d := 2) rfl (fun u_2 hu_2 => ?_)
 refine c_loop (σ := Nat) (fun k => [(7, Value.int .i64 (k : Nat)), (0, u_1), (2, u_2)]) (fun k => []) (fun _ => _) (fun k => k ≤ rs.length ∧ hasL (l.drop k) v = hasL (l.drop f) v) (fun k => rs.length - k) (f) ⟨by omega, rfl⟩ rfl ⟨rfl, rfl, rfl, trivial⟩ (.nil) (fun k hphi => ?_)
 subst hu_1
 subst hu_2
 refine c_seq ?_
 refine c_seq ?_
 refine c_region ?_
 refine r_val .none rfl (p_move rfl) ?_
 refine r_val .none rfl (p_move rfl) ?_
 refine r_val .none rfl (p_leng Try.underlying75 rfl hr) ?_
 have bd_3 := (hr).bound
 refine r_val .none rfl (p_lt rfl rfl) ?_
 refine r_nil ?_
 refine e_next ?_
 refine c_splitd (d := 12) rfl (fun h_4 => ?_) (fun h_4 => ?_)
 ·
  first
   | (exfalso; omega)
   | (
    refine c_cond_t rfl ?_
    refine c_skip ?_
    refine e_next ?_
    refine c_seq ?_
    refine c_block ?_
    refine c_seq ?_
    refine c_region ?_
    refine r_val .none rfl (p_move rfl) ?_
    refine r_val .none rfl (p_move rfl) ?_
    refine r_iaddr_g .none rfl Try.underlying75 sz102 rfl hr rfl (by first | exact of_decide_eq_true rfl | omega) (fun p_6 o_7 R_5 => ?_)
    have hc_8 := hp _ (getD_mem (i := k) (d := d0) (by omega))
    refine r_val .none rfl (p_ldga0 Try.underlying102 rfl sz102 rfl R_5 (by first | exact of_decide_eq_true rfl | omega) (rfl : _ = Value.agg #[_, _, _, _, _, _, _, _])) ?_
    refine r_val .none rfl (p_move rfl) ?_
    refine r_call (vs := [_, _]) .none rfl cl86 rfl (fun w hw => c_rhas (rs.getD k d0).1 _ v hc_8 w hw) ?_
    refine r_nil ?_
    refine e_next ?_
    refine c_split (d := 20) rfl (fun h_9 => ?_) (fun h_9 => ?_)
    ·
     have hE := h_9
     first
      | (exfalso; omega)
      | (
       refine c_cond_t rfl ?_
       refine c_seq ?_
       refine c_region ?_
       refine r_val .none rfl (p_assign rfl) ?_
       refine r_nil ?_
       refine e_next ?_
       refine c_ret ?_
       refine e_ret_block ?_
       refine e_ret_then ?_
       refine e_ret_then ?_
       refine e_ret_block ?_
       refine e_ret_then ?_
       refine e_ret1 Try.results87 (.tmp rfl .nil) (fun w hm => ⟨?_, hm.since⟩)
       first
       | (rw [← hphi.2, hl, map_drop (i := k) (d := d0) (by omega), hasL_yes hE]; done)
       | (rw [← hphi.2, List.drop_eq_nil_of_le (by omega)]; rfl)
       )
    ·
     have hE := h_9
     first
      | (exfalso; omega)
      | (
       refine c_cond_f rfl ?_
       refine c_skip ?_
       refine e_norm_block ?_
       refine e_next ?_
       refine c_region ?_
       refine r_val .none rfl (p_move rfl) ?_
       refine r_val .none rfl (p_add rfl rfl (by omega)) ?_
       refine r_val .none rfl (p_assign rfl) ?_
       refine r_nil ?_
       refine e_round (k + 1) ⟨⟨by omega, by rw [← hphi.2, hl, map_drop (i := k) (d := d0) (by omega), hasL_no hE]⟩, by omega⟩ rfl ⟨rfl, rfl, rfl, trivial⟩ (.nil)
       )
    )
 ·
  first
   | (exfalso; omega)
   | (
    refine c_cond_f rfl ?_
    refine c_exit ?_
    refine e_exit_then ?_
    refine e_exit_then ?_
    refine e_exit_block ?_
    refine e_next ?_
    refine c_seq ?_
    refine c_region ?_
    refine r_val .none rfl (p_assign rfl) ?_
    refine r_nil ?_
    refine e_next ?_
    refine c_ret ?_
    refine e_ret1 Try.results87 (.tmp rfl .nil) (fun w hm => ⟨?_, hm.since⟩)
    first
    | (rw [← hphi.2, hl, map_drop (i := k) (d := d0) (by omega), hasL_yes hE]; done)
    | (rw [← hphi.2, List.drop_eq_nil_of_le (by omega)]; rfl)
    )
theorem c_out_s (n : Nat) (ih : OutIs n) (va : Value) (l : List CT) (v : Nat) {G : Ghost} (hz : SizeOf.sizeOf l ≤ n + 1) (hs : Rs G va l) (w : World) (hG : Has G w) :
  Calls Try.prog 83 #[va, Value.int .i64 (v : Nat)] w (Ret fun r w' => r = Value.int .i64 (out l v) ∧ Since nX w w') := by
 refine enter (args := [_, _]) (X := nX) (G := G) (l := [(0, va), (1, Value.int .i64 (v : Nat))]) Try.func83 rfl Try.ntmps83 hG ⟨rfl, rfl, trivial⟩ (Nat.le_of_ble_eq_true rfl) ?_
 obtain ⟨rs, hr, hp, hl⟩ := hs.inv
 have hbd := hr.bound
 have hlr : l.length = rs.length := by rw [hl]; simp
 refine c_seq ?_
 refine c_region ?_
 refine r_val .none rfl (p_assign rfl) ?_
 refine r_nil ?_
 refine e_next ?_
 refine c_seq ?_
 refine c_seq ?_
 refine c_region ?_
 refine r_val .none rfl (p_move rfl) ?_
 refine r_val .none rfl (p_leng Try.underlying75 rfl hr) ?_
 have bd_1 := (hr).bound
 refine r_val .none rfl (p_move rfl) ?_
 refine r_nil ?_
 refine e_next ?_
 refine c_block ?_
 refine c_name (d := 0) rfl (fun u_2 hu_2 => ?_)
 refine c_name (d := 1) rfl (fun u_3 hu_3 => ?_)
 refine c_name (d := 7) rfl (fun u_4 hu_4 => ?_)
 refine c_name (d := 8) rfl (fun u_5 hu_5 => ?_)
 refine c_loop (σ := Nat) (fun k => [(9, Value.int .i64 (k : Nat)), (0, u_2), (1, u_3), (7, u_4), (8, u_5)]) (fun k => []) (fun _ => _) (fun k => k ≤ rs.length ∧ out (l.drop k) v = out l v) (fun k => rs.length - k) (0) ⟨Nat.zero_le _, rfl⟩ rfl ⟨rfl, rfl, rfl, rfl, rfl, trivial⟩ (.nil) (fun k hphi => ?_)
 subst hu_2
 subst hu_3
 subst hu_4
 subst hu_5
 refine c_seq ?_
 refine c_region ?_
 refine r_val .none rfl (p_lt rfl rfl) ?_
 refine r_nil ?_
 refine e_next ?_
 refine c_seq ?_
 refine c_splitd (d := 10) rfl (fun h_6 => ?_) (fun h_6 => ?_)
 ·
  first
   | (exfalso; omega)
   | (
    refine c_cond_t rfl ?_
    refine c_skip ?_
    refine e_next ?_
    refine c_seq ?_
    refine c_block ?_
    refine c_seq ?_
    refine c_region ?_
    refine r_val .none rfl (p_move rfl) ?_
    refine r_iaddr_g .none rfl Try.underlying75 sz102 rfl hr rfl (by first | exact of_decide_eq_true rfl | omega) (fun p_8 o_9 R_7 => ?_)
    have hc_10 := hp _ (getD_mem (i := k) (d := d0) (by omega))
    refine r_val .none rfl (p_ldga0 Try.underlying102 rfl sz102 rfl R_7 (by first | exact of_decide_eq_true rfl | omega) (rfl : _ = Value.agg #[_, _, _, _, _, _, _, _])) ?_
    refine r_alloc .none rfl zr102 (IsRow.lit _) (fun b_1 => ?_)
    refine r_val .none rfl (p_assign rfl) ?_
    refine r_stw (k := 0) .none sz102 rfl rfl (IsRow.lit _) (one_lit rfl (all_cons rfl (all_cons rfl (all_cons rfl (all_cons rfl (all_cons rfl (all_cons rfl (all_cons rfl (all_cons (hc_10).one rfl))))))))) rfl ?_
    refine r_nil ?_
    refine e_next ?_
    refine c_seq ?_
    refine c_seq ?_
    refine c_region ?_
    refine r_val .none rfl (p_ldw (k := 0) Try.underlying102 rfl sz102 rfl rfl (rfl : _ = Value.agg #[_, _, _, _, _, _, _, _])) ?_
    refine r_val .none rfl (p_move rfl) ?_
    refine r_call (vs := [_, _]) .none rfl cl86 rfl (fun w hw => c_rhas (rs.getD k d0).1 _ v hc_10 w hw) ?_
    refine r_val .none rfl (p_not rfl) ?_
    refine r_nil ?_
    refine e_next ?_
    refine c_splitn (d := 17) rfl (fun h_11 => ?_) (fun h_11 => ?_)
    ·
     have hH := h_11
     first
      | (exfalso; omega)
      | (
       refine c_cond_t rfl ?_
       refine c_exit ?_
       refine e_exit_then ?_
       refine e_exit_block ?_
       refine e_next ?_
       refine c_region ?_
       refine r_val .none rfl (p_add rfl rfl (by omega)) ?_
       refine r_val .none rfl (p_move rfl) ?_
       refine r_nil ?_
       refine e_round (k + 1) ⟨⟨by omega, by rw [← hphi.2, hl, out_skip (k := k) (by omega) (by simpa using hH)]⟩, by omega⟩ rfl ⟨rfl, rfl, rfl, rfl, rfl, trivial⟩ (.drop (.nil))
       )
    ·
     have hH := h_11
     first
      | (exfalso; omega)
      | (
       refine c_cond_f rfl ?_
       refine c_skip ?_
       refine e_next ?_
       refine c_seq ?_
       refine c_seq ?_
       refine c_region ?_
       refine r_val .none rfl (p_field Try.underlying102 rfl sz3 rfl) ?_
       refine r_val .none rfl (p_ld (k := 0) Try.underlying3 rfl rfl rfl (by first | exact of_decide_eq_true rfl | omega) (rfl : _ = Value.int _ _)) ?_
       refine r_val .none rfl (p_eq rfl rfl) ?_
       refine r_nil ?_
       refine e_next ?_
       refine c_splitd (d := 20) rfl (fun h_12 => ?_) (fun h_12 => ?_)
       ·
        have h1 := h_12
        first
         | (exfalso; omega)
         | (
          refine c_cond_t rfl ?_
          refine c_seq ?_
          refine c_region ?_
          refine r_val .none rfl (p_assign rfl) ?_
          refine r_nil ?_
          refine e_next ?_
          refine c_ret ?_
          refine e_ret_then ?_
          refine e_ret_block ?_
          refine e_ret_then ?_
          refine e_ret_then ?_
          refine e_ret_block ?_
          refine e_ret_then ?_
          refine e_ret1 Try.results83 (.tmp rfl .nil) (fun w hm => ⟨?_, hm.since⟩)
          rw [← hphi.2, hl]
          first
          | (rw [out_pos (by omega) (by simpa using hH) h1]; done)
          | (rw [out_rest (by omega) (by simpa using hH) h1 h2]; done)
          | (rw [out_in (by omega) (by simpa using hH) h1 h2 h3 h4]; done)
          | (rw [out_zero (by omega) (by simpa using hH) h1 h2 (fun hx => h3 hx.1)]; done)
          | (rw [out_zero (by omega) (by simpa using hH) h1 h2 (fun hx => h4 hx.2)]; done)
          | (rw [List.drop_eq_nil_of_le (by simp; omega)]; rfl)
          )
       ·
        have h1 := h_12
        first
         | (exfalso; omega)
         | (
          refine c_cond_f rfl ?_
          refine c_skip ?_
          refine e_next ?_
          refine c_seq ?_
          refine c_seq ?_
          refine c_region ?_
          refine r_val .none rfl (p_move rfl) ?_
          refine r_val .none rfl (p_move rfl) ?_
          refine r_val .none rfl (p_add rfl rfl (by omega)) ?_
          refine r_say (d := 23) (v := Value.int .i64 (((k + 1 : Nat)) : Int)) (congrArg (fun x => some (Value.int .i64 x)) (by omega)) ?_
          refine r_val .none rfl (p_move rfl) ?_
          refine r_call (vs := [_, _, _]) .none rfl cl87 rfl (fun w hw => c_rest _ l (k + 1) v hs (by omega) w hw) ?_
          refine r_nil ?_
          refine e_next ?_
          refine c_split (d := 25) rfl (fun h_13 => ?_) (fun h_13 => ?_)
          ·
           have h2 := h_13
           rw [hl] at h2
           first
            | (exfalso; omega)
            | (
             refine c_cond_t rfl ?_
             refine c_seq ?_
             refine c_region ?_
             refine r_val .none rfl (p_assign rfl) ?_
             refine r_nil ?_
             refine e_next ?_
             refine c_ret ?_
             refine e_ret_then ?_
             refine e_ret_block ?_
             refine e_ret_then ?_
             refine e_ret_then ?_
             refine e_ret_block ?_
             refine e_ret_then ?_
             refine e_ret1 Try.results83 (.tmp rfl .nil) (fun w hm => ⟨?_, hm.since⟩)
             rw [← hphi.2, hl]
             first
             | (rw [out_pos (by omega) (by simpa using hH) h1]; done)
             | (rw [out_rest (by omega) (by simpa using hH) h1 h2]; done)
             | (rw [out_in (by omega) (by simpa using hH) h1 h2 h3 h4]; done)
             | (rw [out_zero (by omega) (by simpa using hH) h1 h2 (fun hx => h3 hx.1)]; done)
             | (rw [out_zero (by omega) (by simpa using hH) h1 h2 (fun hx => h4 hx.2)]; done)
             | (rw [List.drop_eq_nil_of_le (by simp; omega)]; rfl)
             )
          ·
           have h2 := h_13
           rw [hl] at h2
           first
            | (exfalso; omega)
            | (
             refine c_cond_f rfl ?_
             refine c_skip ?_
             refine e_next ?_
             refine c_seq ?_
             refine c_seq ?_
             refine c_region ?_
             refine r_val .none rfl (p_field Try.underlying102 rfl sz3 rfl) ?_
             refine r_val .none rfl (p_ld (k := 0) Try.underlying3 rfl rfl rfl (by first | exact of_decide_eq_true rfl | omega) (rfl : _ = Value.int _ _)) ?_
             refine r_val .none rfl (p_eq rfl rfl) ?_
             refine r_nil ?_
             refine e_next ?_
             refine c_splitd (d := 28) rfl (fun h_14 => ?_) (fun h_14 => ?_)
             ·
              have h3 := h_14
              first
               | (exfalso; omega)
               | (
                refine c_cond_t rfl ?_
                refine c_seq ?_
                refine c_region ?_
                refine r_val .none rfl (p_field Try.underlying102 rfl sz75 rfl) ?_
                refine r_val .none rfl (p_ld (k := 0) Try.underlying75 rfl rfl rfl (by first | exact of_decide_eq_true rfl | omega) rfl) ?_
                refine r_val .none rfl (p_move rfl) ?_
                refine r_call (vs := [_, _]) .none rfl cl83 rfl (fun w hw => ih _ _ v _ w (Nat.le_of_lt_succ (Nat.lt_of_lt_of_le (sub_size5 (by omega)) (by rw [← hl]; exact hz))) hc_10 hw) ?_
                refine r_val .none rfl (p_eq rfl rfl) ?_
                refine r_nil ?_
                refine e_next ?_
                refine c_splitd (d := 33) rfl (fun h_15 => ?_) (fun h_15 => ?_)
                ·
                 have h4 := h_15
                 first
                  | (exfalso; omega)
                  | (
                   refine c_cond_t rfl ?_
                   refine c_seq ?_
                   refine c_region ?_
                   refine r_val .none rfl (p_assign rfl) ?_
                   refine r_nil ?_
                   refine e_next ?_
                   refine c_ret ?_
                   refine e_ret_then ?_
                   refine e_ret_block ?_
                   refine e_ret_then ?_
                   refine e_ret_then ?_
                   refine e_ret_block ?_
                   refine e_ret_then ?_
                   refine e_ret1 Try.results83 (.tmp rfl .nil) (fun w hm => ⟨?_, hm.since⟩)
                   rw [← hphi.2, hl]
                   first
                   | (rw [out_pos (by omega) (by simpa using hH) h1]; done)
                   | (rw [out_rest (by omega) (by simpa using hH) h1 h2]; done)
                   | (rw [out_in (by omega) (by simpa using hH) h1 h2 h3 h4]; done)
                   | (rw [out_zero (by omega) (by simpa using hH) h1 h2 (fun hx => h3 hx.1)]; done)
                   | (rw [out_zero (by omega) (by simpa using hH) h1 h2 (fun hx => h4 hx.2)]; done)
                   | (rw [List.drop_eq_nil_of_le (by simp; omega)]; rfl)
                   )
                ·
                 have h4 := h_15
                 first
                  | (exfalso; omega)
                  | (
                   refine c_cond_f rfl ?_
                   refine c_skip ?_
                   refine e_next ?_
                   refine c_seq ?_
                   refine c_region ?_
                   refine r_val .none rfl (p_assign rfl) ?_
                   refine r_nil ?_
                   refine e_next ?_
                   refine c_ret ?_
                   refine e_ret_block ?_
                   refine e_ret_then ?_
                   refine e_ret_then ?_
                   refine e_ret_block ?_
                   refine e_ret_then ?_
                   refine e_ret1 Try.results83 (.tmp rfl .nil) (fun w hm => ⟨?_, hm.since⟩)
                   rw [← hphi.2, hl]
                   first
                   | (rw [out_pos (by omega) (by simpa using hH) h1]; done)
                   | (rw [out_rest (by omega) (by simpa using hH) h1 h2]; done)
                   | (rw [out_in (by omega) (by simpa using hH) h1 h2 h3 h4]; done)
                   | (rw [out_zero (by omega) (by simpa using hH) h1 h2 (fun hx => h3 hx.1)]; done)
                   | (rw [out_zero (by omega) (by simpa using hH) h1 h2 (fun hx => h4 hx.2)]; done)
                   | (rw [List.drop_eq_nil_of_le (by simp; omega)]; rfl)
                   )
                )
             ·
              have h3 := h_14
              first
               | (exfalso; omega)
               | (
                refine c_cond_f rfl ?_
                refine c_skip ?_
                refine e_next ?_
                refine c_seq ?_
                refine c_region ?_
                refine r_val .none rfl (p_assign rfl) ?_
                refine r_nil ?_
                refine e_next ?_
                refine c_ret ?_
                refine e_ret_block ?_
                refine e_ret_then ?_
                refine e_ret_then ?_
                refine e_ret_block ?_
                refine e_ret_then ?_
                refine e_ret1 Try.results83 (.tmp rfl .nil) (fun w hm => ⟨?_, hm.since⟩)
                rw [← hphi.2, hl]
                first
                | (rw [out_pos (by omega) (by simpa using hH) h1]; done)
                | (rw [out_rest (by omega) (by simpa using hH) h1 h2]; done)
                | (rw [out_in (by omega) (by simpa using hH) h1 h2 h3 h4]; done)
                | (rw [out_zero (by omega) (by simpa using hH) h1 h2 (fun hx => h3 hx.1)]; done)
                | (rw [out_zero (by omega) (by simpa using hH) h1 h2 (fun hx => h4 hx.2)]; done)
                | (rw [List.drop_eq_nil_of_le (by simp; omega)]; rfl)
                )
             )
          )
       )
    )
 ·
  first
   | (exfalso; omega)
   | (
    refine c_cond_f rfl ?_
    refine c_exit ?_
    refine e_exit_then ?_
    refine e_exit_then ?_
    refine e_exit_block ?_
    refine e_next ?_
    refine c_seq ?_
    refine c_region ?_
    refine r_val .none rfl (p_assign rfl) ?_
    refine r_nil ?_
    refine e_next ?_
    refine c_ret ?_
    refine e_ret1 Try.results83 (.tmp rfl .nil) (fun w hm => ⟨?_, hm.since⟩)
    rw [← hphi.2, hl]
    first
    | (rw [out_pos (by omega) (by simpa using hH) h1]; done)
    | (rw [out_rest (by omega) (by simpa using hH) h1 h2]; done)
    | (rw [out_in (by omega) (by simpa using hH) h1 h2 h3 h4]; done)
    | (rw [out_zero (by omega) (by simpa using hH) h1 h2 (fun hx => h3 hx.1)]; done)
    | (rw [out_zero (by omega) (by simpa using hH) h1 h2 (fun hx => h4 hx.2)]; done)
    | (rw [List.drop_eq_nil_of_le (by simp; omega)]; rfl)
    )
theorem c_out_n : ∀ n, OutIs n
 | 0 => fun va l v G w hz _ _ => absurd hz (by cases l <;> simp)
 | n + 1 => fun va l v G w hz hs hG => c_out_s n (c_out_n n) va l v hz hs w hG
theorem c_out (va : Value) (l : List CT) (v : Nat) {G : Ghost} (hs : Rs G va l) (w : World) (hG : Has G w) : Calls Try.prog 83 #[va, Value.int .i64 (v : Nat)] w (Ret fun r w' => r = Value.int .i64 (out l v) ∧ Since nX w w') := c_out_n _ va l v G w (Nat.le_refl _) hs hG
theorem c_rcheck5 (nm : ByteArray) (cv : Value) (l : List CT) {G : Ghost} (hsz : sizeL l ≤ 1000) (hs : Rs G cv l) (w : World) (hG : Has G w) :
  Calls Try.prog 72 #[Value.agg #[Value.string nm, cv]] w (Ret fun r w' => r = Value.int .i64 (ruleChk nm l) ∧ Since nX w w') := by
 refine enter (args := [_]) (X := nX) (G := G) (l := [(0, Value.agg #[Value.string nm, cv])]) Try.func72 rfl Try.ntmps72 hG ⟨rfl, trivial⟩ (Nat.le_of_ble_eq_true rfl) ?_
 obtain ⟨rs, hr, hp, hl⟩ := hs.inv
 have hbd := hr.bound
 have hlr : l.length = rs.length := by rw [hl]; simp
 refine c_seq ?_
 refine c_region ?_
 refine r_box .none rfl rfl (IsRow.lit _) (fun b_1 => ?_)
 refine r_val .none rfl (p_assign rfl) ?_
 refine r_nil ?_
 refine e_next ?_
 refine c_seq ?_
 refine c_seq ?_
 refine c_region ?_
 refine r_val .none rfl (p_field Try.underlying77 rfl sz9 rfl) ?_
 refine r_val .none rfl (p_ld (k := 0) Try.underlying9 rfl rfl rfl (by first | exact of_decide_eq_true rfl | omega) (rfl : _ = Value.string _)) ?_
 refine r_call (vs := [_]) .none rfl cl82 rfl (fun w hw => c_rsymRight nm w) ?_
 refine r_val .none rfl (p_not rfl) ?_
 refine r_nil ?_
 refine e_next ?_
 refine c_splitn (d := 11) rfl (fun h_1 => ?_) (fun h_1 => ?_)
 ·
  have hN : symRight nm = false := by simpa using h_1
  first
   | (exfalso; omega)
   | (
    refine c_cond_t rfl ?_
    refine c_seq ?_
    refine c_region ?_
    refine r_val .none rfl (p_assign rfl) ?_
    refine r_nil ?_
    refine e_next ?_
    refine c_ret ?_
    refine e_ret_then ?_
    refine e_ret1 Try.results72 (.tmp rfl .nil) (fun w hm => ⟨?_, hm.since⟩)
    first
    | (rw [chk_name hN]; done)
    | (rw [chk_empty hN (by omega)]; done)
    | (rw [chk_bad hN (by omega) (by rw [hl, checkL_at (by omega) hphi.2 hE]; exact hE), hl, checkL_at (by omega) hphi.2 hE]; done)
    | (rw [chk_long hN (by omega) hC0 (by omega)]; done)
    | (rw [chk_scope hN (by omega) hC0 (by omega) (anyBad_yes (v := v) (by omega) (by omega) hB)]; done)
    | (rw [chk_ok hN (by omega) hC0 (by omega) (anyBad_no (fun u h1 h2 => hno u h1 (by omega)))]; done)
    )
 ·
  have hN : symRight nm = true := by simpa using h_1
  first
   | (exfalso; omega)
   | (
    refine c_cond_f rfl ?_
    refine c_skip ?_
    refine e_next ?_
    refine c_seq ?_
    refine c_seq ?_
    refine c_region ?_
    refine r_val .none rfl (p_field Try.underlying77 rfl sz75 rfl) ?_
    refine r_val .none rfl (p_ld (k := 0) Try.underlying75 rfl rfl rfl (by first | exact of_decide_eq_true rfl | omega) rfl) ?_
    refine r_val .none rfl (p_leng Try.underlying75 rfl hr) ?_
    have bd_2 := (hr).bound
    refine r_val .none rfl (p_eq rfl rfl) ?_
    refine r_nil ?_
    refine e_next ?_
    refine c_splitd (d := 15) rfl (fun h_3 => ?_) (fun h_3 => ?_)
    ·
     first
      | (exfalso; omega)
      | (
       refine c_cond_t rfl ?_
       refine c_seq ?_
       refine c_region ?_
       refine r_val .none rfl (p_assign rfl) ?_
       refine r_nil ?_
       refine e_next ?_
       refine c_ret ?_
       refine e_ret_then ?_
       refine e_ret1 Try.results72 (.tmp rfl .nil) (fun w hm => ⟨?_, hm.since⟩)
       first
       | (rw [chk_name hN]; done)
       | (rw [chk_empty hN (by omega)]; done)
       | (rw [chk_bad hN (by omega) (by rw [hl, checkL_at (by omega) hphi.2 hE]; exact hE), hl, checkL_at (by omega) hphi.2 hE]; done)
       | (rw [chk_long hN (by omega) hC0 (by omega)]; done)
       | (rw [chk_scope hN (by omega) hC0 (by omega) (anyBad_yes (v := v) (by omega) (by omega) hB)]; done)
       | (rw [chk_ok hN (by omega) hC0 (by omega) (anyBad_no (fun u h1 h2 => hno u h1 (by omega)))]; done)
       )
    ·
     first
      | (exfalso; omega)
      | (
       refine c_cond_f rfl ?_
       refine c_skip ?_
       refine e_next ?_
       refine c_seq ?_
       refine c_region ?_
       refine r_val .none rfl (p_assign rfl) ?_
       refine r_nil ?_
       refine e_next ?_
       refine c_seq ?_
       refine c_seq ?_
       refine c_region ?_
       refine r_val .none rfl (p_field Try.underlying77 rfl sz75 rfl) ?_
       refine r_val .none rfl (p_ld (k := 0) Try.underlying75 rfl rfl rfl (by first | exact of_decide_eq_true rfl | omega) rfl) ?_
       refine r_val .none rfl (p_leng Try.underlying75 rfl hr) ?_
       have bd_4 := (hr).bound
       refine r_val .none rfl (p_move rfl) ?_
       refine r_nil ?_
       refine e_next ?_
       refine c_block ?_
       refine c_name (d := 1) rfl (fun u_5 hu_5 => ?_)
       refine c_name (d := 17) rfl (fun u_6 hu_6 => ?_)
       refine c_name (d := 18) rfl (fun u_7 hu_7 => ?_)
       refine c_nameL (k := 0) rfl (fun A_8 hA_8 => ?_)
       refine c_loop (σ := Nat) (fun k => [(19, Value.int .i64 (k : Nat)), (3, Value.int .i64 (sizeL ((rs.map Prod.fst).take k) : Nat)), (1, u_5), (17, u_6), (18, u_7)]) (fun k => [A_8]) (fun _ => _) (fun k => k ≤ rs.length ∧ ∀ c ∈ (rs.map Prod.fst).take k, check c 1 = 0) (fun k => rs.length - k) (0) ⟨Nat.zero_le _, by simp⟩ rfl ⟨rfl, rfl, rfl, rfl, rfl, trivial⟩ (.keep (fun _ _ h => h) (.nil)) (fun k hphi => ?_)
       subst hu_5
       subst hu_6
       subst hu_7
       subst hA_8
       refine c_seq ?_
       refine c_region ?_
       refine r_val .none rfl (p_lt rfl rfl) ?_
       refine r_nil ?_
       refine e_next ?_
       refine c_seq ?_
       refine c_splitd (d := 20) rfl (fun h_9 => ?_) (fun h_9 => ?_)
       ·
        first
         | (exfalso; omega)
         | (
          refine c_cond_t rfl ?_
          refine c_skip ?_
          refine e_next ?_
          refine c_seq ?_
          refine c_block ?_
          refine c_seq ?_
          refine c_region ?_
          refine r_iaddr_g .none rfl Try.underlying75 sz102 rfl hr rfl (by first | exact of_decide_eq_true rfl | omega) (fun p_11 o_12 R_10 => ?_)
          have hc_13 := hp _ (getD_mem (i := k) (d := d0) (by omega))
          have hz3 : size (rs.getD k d0).1 ≤ 1000 := Nat.le_trans (sizeL_mem (by rw [hl]; exact List.mem_map.2 ⟨_, getD_mem (i := k) (d := d0) (by omega), rfl⟩)) hsz
          have hst := sizeL_take (rs := rs) (k := k) (by omega)
          have hst2 : sizeL ((rs.map Prod.fst).take (k + 1)) ≤ sizeL l := by rw [hl]; exact sizeL_take_le _ _
          refine r_val .none rfl (p_ldga0 Try.underlying102 rfl sz102 rfl R_10 (by first | exact of_decide_eq_true rfl | omega) (rfl : _ = Value.agg #[_, _, _, _, _, _, _, _])) ?_
          refine r_alloc .none rfl zr102 (IsRow.lit _) (fun b_2 => ?_)
          refine r_stw (k := 0) .none sz102 rfl rfl (IsRow.lit _) (one_lit rfl (all_cons rfl (all_cons rfl (all_cons rfl (all_cons rfl (all_cons rfl (all_cons rfl (all_cons rfl (all_cons (hc_13).one rfl))))))))) rfl ?_
          refine r_nil ?_
          refine e_next ?_
          refine c_seq ?_
          refine c_region ?_
          refine r_val .none rfl (p_ldw (k := 0) Try.underlying102 rfl sz102 rfl rfl (rfl : _ = Value.agg #[_, _, _, _, _, _, _, _])) ?_
          refine r_call (vs := [_, _]) .none rfl cl60 rfl (fun w hw => c_rcheck (rs.getD k d0).1 _ 1 (by decide) hc_13 w hw) ?_
          refine r_val .none rfl (p_assign rfl) ?_
          refine r_nil ?_
          refine e_next ?_
          refine c_seq ?_
          refine c_seq ?_
          refine c_region ?_
          refine r_val .none rfl (p_move rfl) ?_
          refine r_val .none rfl (p_ne rfl rfl) ?_
          refine r_nil ?_
          refine e_next ?_
          refine c_splitd (d := 26) rfl (fun h_14 => ?_) (fun h_14 => ?_)
          ·
           have hE := h_14
           first
            | (exfalso; omega)
            | (
             refine c_cond_t rfl ?_
             refine c_seq ?_
             refine c_region ?_
             refine r_val .none rfl (p_move rfl) ?_
             refine r_val .none rfl (p_assign rfl) ?_
             refine r_nil ?_
             refine e_next ?_
             refine c_ret ?_
             refine e_ret_then ?_
             refine e_ret_block ?_
             refine e_ret_then ?_
             refine e_ret_then ?_
             refine e_ret_block ?_
             refine e_ret_then ?_
             refine e_ret1 Try.results72 (.tmp rfl .nil) (fun w hm => ⟨?_, hm.since⟩)
             first
             | (rw [chk_name hN]; done)
             | (rw [chk_empty hN (by omega)]; done)
             | (rw [chk_bad hN (by omega) (by rw [hl, checkL_at (by omega) hphi.2 hE]; exact hE), hl, checkL_at (by omega) hphi.2 hE]; done)
             | (rw [chk_long hN (by omega) hC0 (by omega)]; done)
             | (rw [chk_scope hN (by omega) hC0 (by omega) (anyBad_yes (v := v) (by omega) (by omega) hB)]; done)
             | (rw [chk_ok hN (by omega) hC0 (by omega) (anyBad_no (fun u h1 h2 => hno u h1 (by omega)))]; done)
             )
          ·
           have hE := Decidable.not_not.1 h_14
           first
            | (exfalso; omega)
            | (
             refine c_cond_f rfl ?_
             refine c_skip ?_
             refine e_next ?_
             refine c_region ?_
             refine r_val .none rfl (p_move rfl) ?_
             refine r_val .none rfl (p_ldw (k := 0) Try.underlying102 rfl sz102 rfl rfl (rfl : _ = Value.agg #[_, _, _, _, _, _, _, _])) ?_
             refine r_call (vs := [_]) .none rfl cl61 rfl (fun w hw => c_rsize (rs.getD k d0).1 _ hz3 hc_13 w hw) ?_
             refine r_val .none rfl (p_add rfl rfl (by omega)) ?_
             refine r_val .none rfl (p_assign rfl) ?_
             refine r_nil ?_
             refine e_norm_block ?_
             refine e_next ?_
             refine c_region ?_
             refine r_val .none rfl (p_add rfl rfl (by omega)) ?_
             refine r_val .none rfl (p_move rfl) ?_
             refine r_nil ?_
             refine e_round (k + 1) ⟨⟨by omega, fun c hc => by rw [map_take (d := d0) (by omega)] at hc; rcases List.mem_append.1 hc with h | h; exact hphi.2 c h; rw [List.mem_singleton.1 h]; exact hE⟩, by omega⟩ rfl ⟨rfl, (congrArg (fun z => some (Value.int .i64 z)) (by rw [hst]; omega)), rfl, rfl, rfl, trivial⟩ (.drop (.keep (fun _ _ h => h) (.nil)))
             )
          )
       ·
        first
         | (exfalso; omega)
         | (
          refine c_cond_f rfl ?_
          refine c_exit ?_
          refine e_exit_then ?_
          refine e_exit_then ?_
          refine e_exit_block ?_
          refine e_next ?_
          refine c_seq ?_
          refine c_seq ?_
          refine c_region ?_
          have hlt : (rs.map Prod.fst).take k = l := by rw [List.take_of_length_le (by simp; omega), hl]
          have hC0 : checkL l 1 = 0 := checkL_all (fun c hc => hphi.2 c (by rw [hlt]; exact hc))
          rw [hlt] at *
          refine r_val .none rfl (p_move rfl) ?_
          refine r_val .none rfl (p_gt rfl rfl) ?_
          refine r_nil ?_
          refine e_next ?_
          refine c_splitd (d := 34) rfl (fun h_15 => ?_) (fun h_15 => ?_)
          ·
           first
            | (exfalso; omega)
            | (
             refine c_cond_t rfl ?_
             refine c_seq ?_
             refine c_region ?_
             refine r_val .none rfl (p_assign rfl) ?_
             refine r_nil ?_
             refine e_next ?_
             refine c_ret ?_
             refine e_ret_then ?_
             refine e_ret1 Try.results72 (.tmp rfl .nil) (fun w hm => ⟨?_, hm.since⟩)
             first
             | (rw [chk_name hN]; done)
             | (rw [chk_empty hN (by omega)]; done)
             | (rw [chk_bad hN (by omega) (by rw [hl, checkL_at (by omega) hphi.2 hE]; exact hE), hl, checkL_at (by omega) hphi.2 hE]; done)
             | (rw [chk_long hN (by omega) hC0 (by omega)]; done)
             | (rw [chk_scope hN (by omega) hC0 (by omega) (anyBad_yes (v := v) (by omega) (by omega) hB)]; done)
             | (rw [chk_ok hN (by omega) hC0 (by omega) (anyBad_no (fun u h1 h2 => hno u h1 (by omega)))]; done)
             )
          ·
           first
            | (exfalso; omega)
            | (
             refine c_cond_f rfl ?_
             refine c_skip ?_
             refine e_next ?_
             refine c_seq ?_
             refine c_seq ?_
             refine c_region ?_
             refine r_val .none rfl (p_assign rfl) ?_
             refine r_nil ?_
             refine e_next ?_
             refine c_block ?_
             refine c_name (d := 1) rfl (fun u_16 hu_16 => ?_)
             refine c_nameL (k := 0) rfl (fun A_17 hA_17 => ?_)
             refine c_loop (σ := Nat) (fun v => [(7, Value.int .i64 (v : Nat)), (1, u_16)]) (fun v => [A_17]) (fun _ => _) (fun v => (1 ≤ v ∧ v ≤ 33) ∧ (∀ u, 1 ≤ u → u < v → out l u ≠ 1)) (fun v => 33 - v) (1) ⟨⟨Nat.le_refl _, Nat.le_of_ble_eq_true rfl⟩, fun u h1 h2 => absurd (Nat.lt_of_le_of_lt h1 h2) (Nat.lt_irrefl _)⟩ rfl ⟨rfl, rfl, trivial⟩ (.keep (fun _ _ h => h) (.nil)) (fun v hphi => ?_)
             subst hu_16
             subst hA_17
             have hv := hphi.1
             have hno := hphi.2
             refine c_seq ?_
             refine c_seq ?_
             refine c_region ?_
             refine r_val .none rfl (p_move rfl) ?_
             refine r_val .none rfl (p_le rfl rfl) ?_
             refine r_nil ?_
             refine e_next ?_
             refine c_splitd (d := 36) rfl (fun h_18 => ?_) (fun h_18 => ?_)
             ·
              first
               | (exfalso; omega)
               | (
                refine c_cond_t rfl ?_
                refine c_skip ?_
                refine e_next ?_
                refine c_seq ?_
                refine c_block ?_
                refine c_seq ?_
                refine c_region ?_
                refine r_val .none rfl (p_field Try.underlying77 rfl sz75 rfl) ?_
                refine r_val .none rfl (p_ld (k := 0) Try.underlying75 rfl rfl rfl (by first | exact of_decide_eq_true rfl | omega) rfl) ?_
                refine r_val .none rfl (p_move rfl) ?_
                refine r_call (vs := [_, _]) .none rfl cl83 rfl (fun w hw => c_out _ l v hs w hw) ?_
                refine r_val .none rfl (p_eq rfl rfl) ?_
                refine r_nil ?_
                refine e_next ?_
                refine c_splitd (d := 43) rfl (fun h_19 => ?_) (fun h_19 => ?_)
                ·
                 have hB := h_19
                 first
                  | (exfalso; omega)
                  | (
                   refine c_cond_t rfl ?_
                   refine c_seq ?_
                   refine c_region ?_
                   refine r_val .none rfl (p_assign rfl) ?_
                   refine r_nil ?_
                   refine e_next ?_
                   refine c_ret ?_
                   refine e_ret_block ?_
                   refine e_ret_then ?_
                   refine e_ret_then ?_
                   refine e_ret_block ?_
                   refine e_ret_then ?_
                   refine e_ret1 Try.results72 (.tmp rfl .nil) (fun w hm => ⟨?_, hm.since⟩)
                   first
                   | (rw [chk_name hN]; done)
                   | (rw [chk_empty hN (by omega)]; done)
                   | (rw [chk_bad hN (by omega) (by rw [hl, checkL_at (by omega) hphi.2 hE]; exact hE), hl, checkL_at (by omega) hphi.2 hE]; done)
                   | (rw [chk_long hN (by omega) hC0 (by omega)]; done)
                   | (rw [chk_scope hN (by omega) hC0 (by omega) (anyBad_yes (v := v) (by omega) (by omega) hB)]; done)
                   | (rw [chk_ok hN (by omega) hC0 (by omega) (anyBad_no (fun u h1 h2 => hno u h1 (by omega)))]; done)
                   )
                ·
                 have hB := h_19
                 first
                  | (exfalso; omega)
                  | (
                   refine c_cond_f rfl ?_
                   refine c_skip ?_
                   refine e_norm_block ?_
                   refine e_next ?_
                   refine c_region ?_
                   refine r_val .none rfl (p_move rfl) ?_
                   refine r_val .none rfl (p_add rfl rfl (by omega)) ?_
                   refine r_val .none rfl (p_assign rfl) ?_
                   refine r_nil ?_
                   refine e_round (v + 1) ⟨⟨⟨by omega, by omega⟩, fun u h1 h2 => by rcases Nat.lt_or_ge u v with h3 | h3; exact hno u h1 h3; rw [show u = v by omega]; exact hB⟩, by omega⟩ rfl ⟨rfl, rfl, trivial⟩ (.keep (fun _ _ h => h) (.nil))
                   )
                )
             ·
              first
               | (exfalso; omega)
               | (
                refine c_cond_f rfl ?_
                refine c_exit ?_
                refine e_exit_then ?_
                refine e_exit_then ?_
                refine e_exit_block ?_
                refine e_next ?_
                refine c_seq ?_
                refine c_region ?_
                refine r_val .none rfl (p_assign rfl) ?_
                refine r_nil ?_
                refine e_next ?_
                refine c_ret ?_
                refine e_ret1 Try.results72 (.tmp rfl .nil) (fun w hm => ⟨?_, hm.since⟩)
                first
                | (rw [chk_name hN]; done)
                | (rw [chk_empty hN (by omega)]; done)
                | (rw [chk_bad hN (by omega) (by rw [hl, checkL_at (by omega) hphi.2 hE]; exact hE), hl, checkL_at (by omega) hphi.2 hE]; done)
                | (rw [chk_long hN (by omega) hC0 (by omega)]; done)
                | (rw [chk_scope hN (by omega) hC0 (by omega) (anyBad_yes (v := v) (by omega) (by omega) hB)]; done)
                | (rw [chk_ok hN (by omega) hC0 (by omega) (anyBad_no (fun u h1 h2 => hno u h1 (by omega)))]; done)
                )
             )
          )
       )
    )
theorem c_ref5 (nm : ByteArray) (cv : Value) (l : List CT) {G : Ghost} (hsz : sizeL l ≤ 1000) (hs : Cs G cv l) (w : World) (hG : Has G w) :
  Calls Try.prog 33 #[Value.agg #[Value.string nm, cv]] w (Ret fun r w' => ∃ G', GNew w nX G G' ∧ Has G' w' ∧ (∃ u, r = Value.agg #[Value.string nm, u] ∧ Rs G' u l) ∧ Since nX w w') := by
 refine enter (args := [_]) (X := nX) (G := G) (l := [(0, Value.agg #[Value.string nm, cv])]) Try.func33 rfl Try.ntmps33 hG ⟨rfl, trivial⟩ (Nat.le_of_ble_eq_true rfl) ?_
 obtain ⟨rs, hr, hp, hl⟩ := hs.inv
 have hbd := hr.bound
 have hlr : l.length = rs.length := by rw [hl]; simp
 have hll := sizeL_len l
 refine c_seq ?_
 refine c_region ?_
 refine r_box .none rfl rfl (IsRow.lit _) (fun b_1 => ?_)
 refine r_alloc .none rfl zr77 (IsRow.lit _) (fun b_2 => ?_)
 refine r_nil ?_
 refine e_next ?_
 refine c_seq ?_
 refine c_region ?_
 refine r_val .none rfl (p_field Try.underlying69 rfl sz9 rfl) ?_
 refine r_val .none rfl (p_ld (k := 1) Try.underlying9 rfl rfl rfl (by first | exact of_decide_eq_true rfl | omega) (rfl : _ = Value.string _)) ?_
 refine r_val .none rfl (p_build (vs := [(0, Value.string _)]) rfl (bl77_0s1 _)) ?_
 refine r_alloc .none rfl zr77 (IsRow.lit _) (fun b_3 => ?_)
 refine r_stw (k := 0) .none sz77 rfl rfl (IsRow.lit _) (one_lit rfl rfl) rfl ?_
 refine r_nil ?_
 refine e_next ?_
 refine c_seq ?_
 refine c_seq ?_
 refine c_region ?_
 refine r_val .none rfl (p_field Try.underlying69 rfl sz67 rfl) ?_
 refine r_val .none rfl (p_ld (k := 2) Try.underlying67 rfl rfl rfl (by first | exact of_decide_eq_true rfl | omega) rfl) ?_
 refine r_val .none rfl (p_leng Try.underlying67 rfl hr) ?_
 have bd_1 := (hr).bound
 refine r_val .none rfl (p_move rfl) ?_
 refine r_nil ?_
 refine e_next ?_
 refine c_block ?_
 refine c_nilrow 102 8 ?_
 refine c_name (d := 2) rfl (fun u_2 hu_2 => ?_)
 refine c_name (d := 3) rfl (fun u_3 hu_3 => ?_)
 refine c_name (d := 10) rfl (fun u_4 hu_4 => ?_)
 refine c_name (d := 11) rfl (fun u_5 hu_5 => ?_)
 refine c_nameL (k := 2) rfl (fun A_6 hA_6 => ?_)
 refine c_nameL (k := 3) rfl (fun A_7 hA_7 => ?_)
 refine c_loop (σ := Nat × Value × List (CT × Value) × Ghost) (fun s => [(12, Value.int .i64 (s.1 : Nat)), (2, u_2), (3, u_3), (10, u_4), (11, u_5)]) (fun s => [rowA (s.2.1) 102 8 (s.2.2.1).length ((s.2.2.1).flatMap rvC), box b_3 2 77 (at_ [.string nm, s.2.1]), A_6, A_7]) (fun s => s.2.2.2) (fun s => s.1 ≤ rs.length ∧ s.2.2.1.map Prod.fst = (rs.map Prod.fst).take s.1 ∧ (∀ p ∈ s.2.2.1, Rs s.2.2.2 p.2 p.1.subs) ∧ GNew w nX G s.2.2.2) (fun s => rs.length - s.1) ((0, _, [], _)) ⟨Nat.zero_le _, rfl, by simp, GNew.refl _ _ _⟩ rfl ⟨rfl, rfl, rfl, rfl, rfl, trivial⟩ (.keep (fun _ _ h => rowA_nil rfl _ _ h) (.keep (fun _ _ h => box_congr (fun i hi => by match i, hi with | 0, _ => rfl | 1, _ => rfl) _ _ h) (.keep (fun _ _ h => h) (.keep (fun _ _ h => h) (.nil))))) (fun s hphi => ?_)
 subst hu_2
 subst hu_3
 subst hu_4
 subst hu_5
 subst hA_6
 subst hA_7
 obtain ⟨k, v, qs, H⟩ := s
 obtain ⟨hk, hq, hqs, hgn⟩ := hphi
 dsimp only at hk hq hqs hgn ⊢
 have hql : qs.length ≤ k := (by have := congrArg List.length hq; simp at this; omega)
 refine c_row1 (k := 0) rfl (fun ov => ?_)
 refine c_rowlen (k := 0) rfl (fun l63 => ?_)
 replace hp := fun p hm0 => (hp p hm0).mono hgn.le
 replace hr := hr.mono hgn.le
 replace hs := hs.mono hgn.le
 refine c_seq ?_
 refine c_region ?_
 refine r_val .none rfl (p_lt rfl rfl) ?_
 refine r_nil ?_
 refine e_next ?_
 refine c_seq ?_
 refine c_splitd (d := 13) rfl (fun h_8 => ?_) (fun h_8 => ?_)
 ·
  first
   | (exfalso; omega)
   | (
    refine c_cond_t rfl ?_
    refine c_skip ?_
    refine e_next ?_
    refine c_seq ?_
    refine c_block ?_
    refine c_seq ?_
    refine c_region ?_
    refine r_iaddr_g .none rfl Try.underlying67 sz97 rfl hr rfl (by first | exact of_decide_eq_true rfl | omega) (fun p_10 o_11 R_9 => ?_)
    have hc_12 := hp _ (getD_mem (i := k) (d := d0) (by omega))
    have hz3 : size (rs.getD k d0).1 ≤ 1000 := Nat.le_trans (sizeL_mem (by rw [hl]; exact List.mem_map.2 ⟨_, getD_mem (i := k) (d := d0) (by omega), rfl⟩)) hsz
    refine r_val .none rfl (p_ldga0 Try.underlying97 rfl sz97 rfl R_9 (by first | exact of_decide_eq_true rfl | omega) (rfl : _ = Value.agg #[_, _, _, _, _, _, _, _])) ?_
    refine r_alloc .none rfl zr97 (IsRow.lit _) (fun b_4 => ?_)
    refine r_stw (k := 0) .none sz97 rfl rfl (IsRow.lit _) (one_lit rfl (all_cons rfl (all_cons rfl (all_cons rfl (all_cons rfl (all_cons rfl (all_cons rfl (all_cons rfl (all_cons (hc_12).one rfl))))))))) rfl ?_
    refine r_nil ?_
    refine e_next ?_
    refine c_region_d (fun j => [5, 6, 7].contains j) _ mixed (.keep (fun _ _ h => h) (.keep (fun _ _ h => h) (.keep (fun _ _ h => h) (.keep (fun _ _ h => h) (.keep (fun _ _ h => h) (.nil)))))) ?_
    refine d_val1 0 rfl rfl (by kernel_rfl) (fun j hj => by have h : 7 < j := (Nat.lt_of_lt_of_le (by decide : 7 < 8) hj); simp; omega) .none rfl (p_field Try.underlying77 rfl sz75 rfl) ?_
    refine d_val1 1 rfl rfl (by kernel_rfl) (fun j hj => by have h : 7 < j := (Nat.lt_of_lt_of_le (by decide : 7 < 8) hj); simp; omega) .none rfl (p_ld (k := 2) Try.underlying75 rfl rfl rfl (by first | exact of_decide_eq_true rfl | omega) rfl) ?_
    refine d_val1 2 rfl rfl (by kernel_rfl) (fun j hj => by have h : 7 < j := (Nat.lt_of_lt_of_le (by decide : 7 < 8) hj); simp; omega) .none rfl (p_ldw (k := 0) Try.underlying97 rfl sz97 rfl rfl (rfl : _ = Value.agg #[_, _, _, _, _, _, _, _])) ?_
    refine d_eff 3 rfl (by kernel_rfl) (fun K_13 hKK_13 hcK_13 => ?_)
    refine r_callm (vs := [_]) .none rfl cl43 rfl (fun w hw => c_ref4 (rs.getD k d0).1 _ hz3 hc_12 w hw) (fun G_14 v_17 hn_15 hr_16 => ?_)
    replace hp := fun p hm0 => (hp p hm0).mono hn_15.le
    replace hr := hr.mono hn_15.le
    replace hs := hs.mono hn_15.le
    replace hqs := fun p hm0 => (hqs p hm0).mono hn_15.le
    replace R_9 := R_9.mono hn_15.le
    replace hc_12 := hc_12.mono hn_15.le
    obtain ⟨u_18, rfl, u_18s⟩ := hr_16
    refine r_nil (e_d (i := 3) (brk := (fun j => [5, 6, 7].contains j)) (ph' := true) hKK_13 hcK_13 rfl (fun _ => hn_15.le) (fun _ => .keep (fun _ _ h => h) (.keep (fun _ _ h => h) (.keep (fun _ _ h => h) (.keep (fun _ _ h => h) (.keep (fun _ _ h => h) (.nil)))))) ?_)
    clear hKK_13 hcK_13 K_13
    refine d_eff 4 rfl (by kernel_rfl) (fun K_19 hKK_19 hcK_19 => ?_)
    refine r_bslice (vs := [(0, Value.agg #[_, _, _, _, _, _, _, _])]) (c := #[_, _, _, _, _, _, _, _]) .none rfl Try.underlying75 el102 rfl rfl rfl (bs102_10a8 _ _ _ _ _ _ _ _) (IsRow.lit _) (fun b_5 => ?_)
    refine r_nil (e_d (i := 4) (brk := (fun j => [5, 6, 7].contains j)) (ph' := true) hKK_19 hcK_19 rfl (fun _ => hn_15.le) (fun _ => .drop (.keep (fun _ _ h => h) (.keep (fun _ _ h => h) (.keep (fun _ _ h => h) (.keep (fun _ _ h => h) (.keep (fun _ _ h => h) (.nil))))))) ?_)
    clear hKK_19 hcK_19 K_19
    refine d_eff 5 rfl (by kernel_rfl) (fun K_20 hKK_20 hcK_20 => ?_)
    refine r_append (k := 2) (k2 := 0) .none rfl Try.underlying75 el102 rfl (by decide) rfl rfl rfl rfl rfl (one_lit rfl (all_cons rfl (all_cons rfl (all_cons rfl (all_cons rfl (all_cons rfl (all_cons rfl (all_cons rfl (all_cons (u_18s).one rfl))))))))) (by simp only [maxLen]; omega) (by omega) (fun v_21 => ?_)
    refine r_row1 (k := 2) rfl (fun o_22 => ?_)
    refine r_nil (e_d (i := 5) (brk := (fun j => [5, 6, 7].contains j)) (ph' := false) hKK_20 hcK_20 rfl (fun h => by cases h) (fun h => by cases h) ?_)
    clear hKK_20 hcK_20 K_20
    refine d_val2 6 rfl rfl (by kernel_rfl) .none rfl (fun _ => p_field Try.underlying77 rfl sz75 rfl) ?_
    refine d_eff 7 rfl (by kernel_rfl) (fun K_23 hKK_23 hcK_23 => ?_)
    refine r_st (k := 3) .none sz75 rfl rfl o_22 rfl (by first | exact of_decide_eq_true rfl | omega) ?_
    refine r_nil (e_d (i := 7) (brk := (fun j => [5, 6, 7].contains j)) (ph' := false) hKK_23 hcK_23 rfl (fun h => by cases h) (fun h => by cases h) ?_)
    clear hKK_23 hcK_23 K_23
    refine d_nil (by kernel_rfl) ?_
    refine e_norm_block ?_
    refine e_next ?_
    refine c_region ?_
    refine r_val .none rfl (p_add rfl rfl (by omega)) ?_
    refine r_val .none rfl (p_move rfl) ?_
    refine r_nil ?_
    refine e_round ((k + 1, _, qs ++ [((rs.getD k d0).1, u_18)], _)) ⟨⟨by dsimp only; omega, by rw [map_take (d := d0) (by omega), List.map_append, hq]; rfl, (fun p hp' => by rcases List.mem_append.1 hp' with h | h; exact hqs p h; rw [List.mem_singleton.1 h]; exact u_18s), (hgn.trans hn_15)⟩, by dsimp only; omega⟩ rfl ⟨rfl, rfl, rfl, rfl, rfl, trivial⟩ (.drop (.drop (.keep (fun _ _ h => rowA_snoc (l := qs) (x := ((rs.getD k d0).1, u_18)) rfl rfl rfl rfl _ _ h) (.keep (fun _ _ h => box_congr (fun i hi => by match i, hi with | 0, _ => rfl | 1, _ => rfl) _ _ h) (.keep (fun _ _ h => h) (.keep (fun _ _ h => h) (.nil)))))))
    )
 ·
  first
   | (exfalso; omega)
   | (
    refine c_cond_f rfl ?_
    refine c_exit ?_
    refine e_exit_then ?_
    refine e_exit_then ?_
    refine e_exit_block ?_
    refine e_next ?_
    refine c_seq ?_
    refine c_region ?_
    refine r_val .none rfl (p_ldw (k := 1) Try.underlying77 rfl sz77 rfl rfl (rfl : _ = Value.agg #[_, _])) ?_
    refine r_stw (k := 2) .none sz77 rfl rfl (IsRow.lit _) (one_lit rfl (all_cons rfl (all_cons ov rfl))) rfl ?_
    refine r_nil ?_
    refine e_next ?_
    refine c_ret ?_
    refine e_freeze (k := 0) rfl (fun G_24 hn_25 hs_26 => ?_)
    replace hp := fun p hm0 => (hp p hm0).mono hn_25.le
    replace hr := hr.mono hn_25.le
    replace hs := hs.mono hn_25.le
    replace hqs := fun p hm0 => (hqs p hm0).mono hn_25.le
    refine e_ret1 Try.results33 (.cell (k := 1) rfl Try.underlying77 rfl sz77 rfl (rfl : _ = Value.agg #[_, _]) .nil) (fun w hm => ⟨_, (hgn.trans hn_25), hm.has, ?_, hm.since⟩)
    refine ⟨v, rfl, ?_⟩
    rw [show l = qs.map Prod.fst by rw [hq, hl, List.take_of_length_le (by simp; omega)]]
    exact Tr.mk qs (SlL.of d0 (fun _ => rfl) rfl hs_26) hqs
    )
theorem c_Small5 (nm : ByteArray) (cv : Value) (l : List CT) (m : Int) {G : Ghost} (hm : 0 ≤ m ∧ m ≤ 900) (hs : Cs G cv l) (w : World) (hG : Has G w) :
  Calls Try.prog 71 #[Value.agg #[Value.string nm, cv], Value.int .i64 m] w (Ret fun r w' => r = Value.bool ((small (m + 1) (.mk h0 l) 5 0).1 && decide ((nm.size : Int) ≤ 200)) ∧ Since nX w w') := by
 refine enter (args := [_, _]) (X := nX) (G := G) (l := [(0, Value.agg #[Value.string nm, cv]), (1, Value.int .i64 m)]) Try.func71 rfl Try.ntmps71 hG ⟨rfl, rfl, trivial⟩ (Nat.le_of_ble_eq_true rfl) ?_
 obtain ⟨rs, hr, hp, hl⟩ := hs.inv
 have hbd := hr.bound
 have hlr : l.length = rs.length := by rw [hl]; simp
 refine c_seq ?_
 refine c_region ?_
 refine r_box .none rfl rfl (IsRow.lit _) (fun b_1 => ?_)
 refine r_val .none rfl (p_assign rfl) ?_
 refine r_nil ?_
 refine e_next ?_
 refine c_seq ?_
 refine c_region ?_
 refine r_val .none rfl (p_field Try.underlying69 rfl sz67 rfl) ?_
 refine r_val .none rfl (p_ld (k := 0) Try.underlying67 rfl rfl rfl (by first | exact of_decide_eq_true rfl | omega) rfl) ?_
 obtain ⟨a_1, c_2, rfl⟩ := SlG.len hr
 refine r_val .none rfl (p_build (vs := [(2, Value.slice _ _ _)]) rfl (bl97_2s3 _ _ _)) ?_
 refine r_val .none rfl (p_move rfl) ?_
 refine r_val .none rfl (p_add rfl rfl (by omega)) ?_
 refine r_call (vs := [_, _]) .none rfl cl59 rfl (fun w hw => c_Small (.mk h0 l) _ (m + 1) (by omega) hs w hw) ?_
 refine r_val .none rfl (p_move rfl) ?_
 refine' r_and (c := 11) (d := 16) [_, _, _, _, _] rfl (fun h_3 Q_4 hQ_5 => ?_) (fun h_3 Q_4 hQ_5 => ?_) ?_
 rotate_left 1
 ·
  refine r_val (.some rfl rfl) rfl (p_field Try.underlying69 rfl sz9 rfl) ?_
  refine r_val (.some rfl rfl) rfl (p_ld (k := 0) Try.underlying9 rfl rfl rfl (by first | exact of_decide_eq_true rfl | omega) (rfl : _ = Value.string _)) ?_
  refine r_val (.some rfl rfl) rfl (p_len_str Try.underlying9 rfl) ?_
  refine r_val (.some rfl rfl) rfl (p_le rfl rfl) ?_
  refine r_val .none rfl (p_pick_t rfl rfl) ?_
  refine r_nil (e_fin (d := 16) hQ_5 rfl (by repeat (first | exact .refl | refine .put rfl ?_ | refine .say rfl ?_ | refine .say2 rfl (by first | assumption | simp_all) ?_)))
 ·
  repeat (first | refine r_skip rfl (.no rfl rfl) ?_ | refine r_skip rfl (.un rfl rfl) ?_)
  refine r_val (by first | exact .none | exact .some rfl rfl) rfl (p_pick_f rfl rfl) ?_
  refine r_nil (e_fin (d := 16) hQ_5 rfl (by repeat (first | exact .refl | refine .put rfl ?_ | refine .say rfl ?_ | refine .say2 rfl (by first | assumption | simp_all) ?_)))
 refine r_val .none rfl (p_assign rfl) ?_
 refine r_nil ?_
 refine e_next ?_
 refine c_ret ?_
 refine e_ret1 Try.results71 (.tmp rfl .nil) (fun w hm => ⟨?_, hm.since⟩)
 rfl
theorem c_fine5 (nm : ByteArray) (cv : Value) (l : List CT) {G : Ghost} (hs : Cs G cv l) (w : World) (hG : Has G w) :
  Calls Try.prog 53 #[Value.agg #[Value.string nm, cv]] w (Ret fun r w' => r = Value.bool (fineR nm l) ∧ Since nX w w') := by
 refine enter (args := [_]) (X := nX) (G := G) (l := [(0, Value.agg #[Value.string nm, cv])]) Try.func53 rfl Try.ntmps53 hG ⟨rfl, trivial⟩ (Nat.le_of_ble_eq_true rfl) ?_
 refine c_seq ?_
 refine c_region ?_
 refine r_box .none rfl rfl (IsRow.lit _) (fun b_1 => ?_)
 refine r_val .none rfl (p_assign rfl) ?_
 refine r_nil ?_
 refine e_next ?_
 refine c_seq ?_
 refine c_region ?_
 refine r_val .none rfl (p_ldw (k := 0) Try.underlying69 rfl sz69 rfl rfl (rfl : _ = Value.agg #[_, _])) ?_
 refine r_call (vs := [_, _]) .none rfl cl71 rfl (fun w hw => c_Small5 nm _ l 20 (by decide) hs w hw) ?_
 refine r_val .none rfl (p_move rfl) ?_
 refine r_split (d := 5) rfl (fun h_1 => ?_) (fun h_1 => ?_)
 ·
  have hS := h_1
  have hsz : sizeL l ≤ 1000 := by have h9 := (Bool.and_eq_true _ _).mp hS; have := small_sz (m := 21) h9.1; omega
  first
   | (exfalso; omega)
   | (
    refine r_val (.some rfl rfl) rfl (p_ldw (k := 0) Try.underlying69 rfl sz69 rfl rfl (rfl : _ = Value.agg #[_, _])) ?_
    refine r_callm (vs := [_]) (.some rfl rfl) rfl cl33 rfl (fun w hw => c_ref5 nm _ l hsz hs w hw) (fun G_2 v_5 hn_3 hr_4 => ?_)
    replace hs := hs.mono hn_3.le
    obtain ⟨u_6, rfl, u_6s⟩ := hr_4
    refine r_call (vs := [_]) (.some rfl rfl) rfl cl72 rfl (fun w hw => c_rcheck5 nm _ l hsz u_6s w hw) ?_
    refine r_val (.some rfl rfl) rfl (p_eq rfl rfl) ?_
    refine r_val .none rfl (p_pick_t rfl rfl) ?_
    refine r_val .none rfl (p_assign rfl) ?_
    refine r_nil ?_
    refine e_next ?_
    refine c_ret ?_
    refine e_ret1 Try.results53 (.tmp rfl .nil) (fun w hm => ⟨?_, hm.since⟩)
    first
    | (have e : fineR nm l = false := (by unfold fineR; rw [show ((small 21 (.mk h0 l) 5 0).1 && decide ((nm.size : Int) ≤ 200)) = false from hS, Bool.false_and]); rw [e]; done)
    | (have e : fineR nm l = decide (ruleChk nm l = 0) := (by unfold fineR; rw [show ((small 21 (.mk h0 l) 5 0).1 && decide ((nm.size : Int) ≤ 200)) = true from hS, Bool.true_and]); rw [e]; done)
    )
 ·
  have hS := h_1
  first
   | (exfalso; omega)
   | (
    refine r_skip rfl (.no rfl rfl) ?_
    refine r_skip rfl (.no rfl rfl) ?_
    refine r_skip rfl (.no rfl rfl) ?_
    refine r_skip rfl (.no rfl rfl) ?_
    refine r_val .none rfl (p_pick_f rfl rfl) ?_
    refine r_val .none rfl (p_assign rfl) ?_
    refine r_nil ?_
    refine e_next ?_
    refine c_ret ?_
    refine e_ret1 Try.results53 (.tmp rfl .nil) (fun w hm => ⟨?_, hm.since⟩)
    first
    | (have e : fineR nm l = false := (by unfold fineR; rw [show ((small 21 (.mk h0 l) 5 0).1 && decide ((nm.size : Int) ≤ 200)) = false from hS, Bool.false_and]); rw [e]; done)
    | (have e : fineR nm l = decide (ruleChk nm l = 0) := (by unfold fineR; rw [show ((small 21 (.mk h0 l) 5 0).1 && decide ((nm.size : Int) ≤ 200)) = true from hS, Bool.true_and]); rw [e]; done)
    )
end Go.Proofs.Ytpadfgomhojjnaa

/- Plain laws of matching with one fact more; no program in sight. -/
namespace Go.Gx.T14
open Go.Gx Go.Gx.T3 Go.Gx.T4 Go.Gx.T6 Go.Gx.T8 Go.Gx.T13
def has (n : Int) (m : List Int) : Bool := m.any fun x => decide (x = n)
def hasTo (m : List Int) (n : Int) (i : Nat) : Bool := has n (m.take i)
def keep (n : Int) (m : List Int) : Bool := !has n m
def cnt (A : List (List Int)) (n : Int) (j : Nat) : Nat := ((A.take j).filter (keep n)).length
end Go.Gx.T14

/- Walks: what Go functions of this chapter come to, each as a function on plain data; no condition but those that each theorem names. Printed by a program of this work (gen.py). -/
namespace Go.Proofs.Ytpadfgomhojjnaa
open Go.Gx Go.Gx.T13 Go.Gx.T8 Go.Gx.T4 Go.Gx.T3 Go.Gx.T14 Go.Gx.T13 Go.Gx.T8 Go.Gx.T6 Go.Gx.T4 Go.Gx.T3 Go.Gx.T3 Go.Gx.T4 Go.Gx.T3 Go.Gx.T6 Go.Gx.T8 Go.Gx.T4 Go.Gx.T3 Go.Gx.T8 Go.Gx.T4 Go.Gx.T3 Go.Gx.T8 Go.Gx.T6 Go.Gx.T4 Go.Gx.T3
theorem cl32 : Callable Try.prog 32 := callable Try.func32 (by kernel_rfl) rfl
theorem cl41 : Callable Try.prog 41 := callable Try.func41 (by kernel_rfl) rfl
theorem c_same14_t (v v2 : Value) (a b : List (List Int)) {G : Ghost} (hab : a = b) (ha : LI G v a) (hb : LI G v2 b) (w : World) (hG : Has G w) :
  Calls Try.prog 37 #[v, v2] w (Ret fun r w' => r = Value.bool true ∧ Since nX w w') := by
 have h := c_same14 v v2 a b ha hb w hG
 rw [decide_eq_true hab] at h
 exact h
end Go.Proofs.Ytpadfgomhojjnaa

/- Plain laws of steps that may be; few steps; steps of right conditions are right; no program in sight. -/
namespace Go.Gx.T8
open Go.Gx Go.Gx.T3 Go.Gx.T4 Go.Gx.T6
/-- May tests be, behind a field? -/
def tsRight : List TD → Int → Bool
  | [], _ => true
  | t :: r, last => if ((((t.1 ≤ last ∨ 2 < t.1) ∨ t.2.1 < -1) ∨ 16 ≤ t.2.1) ∨ t.2.2 < 0 ∨ 2 < t.2.2) ∨ (t.2.1 < 0 ∧ t.1 ≤ t.2.2) then false else tsRight r t.1
def tBad (t : TD) (last : Int) : Prop := ((((t.1 ≤ last ∨ 2 < t.1) ∨ t.2.1 < -1) ∨ 16 ≤ t.2.1) ∨ t.2.2 < 0 ∨ 2 < t.2.2) ∨ (t.2.1 < 0 ∧ t.1 ≤ t.2.2)
def lastF (ts : List TD) : Nat → Int
  | 0 => -1
  | k + 1 => (ts.getD k t0).1
def keyOk (h : SH) : Bool := decide ((0 ≤ h.k0 ∧ h.k0 ≤ 4096) ∧ (0 ≤ h.k1 ∧ h.k1 ≤ 4096) ∧ 0 ≤ h.k2 ∧ h.k2 ≤ 4096)
def keyNone (h : SH) : Bool := csEq [.int .i64 h.k0, .int .i64 h.k1, .int .i64 h.k2] [.int .i64 0, .int .i64 0, .int .i64 0]
theorem keyNone_iff (h : SH) : keyNone h = true ↔ h.k0 = 0 ∧ h.k1 = 0 ∧ h.k2 = 0 := by simp [keyNone, csEq, cEq, and_assoc]
mutual
/-- The program's answer, and how many it has counted. -/
def cR : ST → Int → Int → Bool × Int
  | .mk h l, d, n => if 16 < n + 1 ∨ 3 < d then (false, n + 1) else if h.k = 1 ∨ h.k = 2 then (keyOk h && (decide (l.length = 0) && tsRight h.ts (-1)), n + 1) else if ((h.k ≠ 3 ∨ keyNone h = false) ∨ 0 < h.ts.length) ∨ l.length = 0 then (false, n + 1) else cRL l (d + 1) (n + 1)
def cRL : List ST → Int → Int → Bool × Int
  | [], _, n => (true, n)
  | c :: t, d, n => if (cR c d n).1 = true then cRL t d (cR c d n).2 else (false, (cR c d n).2)
end
mutual
def ssize : ST → Nat
  | .mk _ l => 1 + ssizeL l
def ssizeL : List ST → Nat
  | [] => 0
  | c :: t => ssize c + ssizeL t
end
mutual
theorem ssize_le : ∀ s : ST, ssize s ≤ ssz s
  | .mk h l => by have := ssizeL_le l; rw [ssize, ssz]; omega
theorem ssizeL_le : ∀ l : List ST, ssizeL l ≤ sszL l
  | [] => Nat.le_refl _
  | c :: t => by have h1 := ssize_le c; have h2 := ssizeL_le t; rw [ssizeL, sszL]; omega
end
mutual
/-- The document's answer. -/
def rR : ST → Int → Bool
  | .mk h l, d => if ((3 < d ∨ h.k < 1) ∨ 3 < h.k) ∨ 16 < 1 + ssizeL l then false else if h.k = 3 then (if (keyNone h = false ∨ 0 < h.ts.length) ∨ l.length = 0 then false else rRL l (d + 1)) else if keyOk h = false ∨ 0 < l.length then false else tsRight h.ts (-1)
def rRL : List ST → Int → Bool
  | [], _ => true
  | c :: t, d => rR c d && rRL t d
end
mutual
/-- May it be, but for how many there are? -/
def sR : ST → Int → Bool
  | .mk h l, d => if ((3 < d ∨ h.k < 1) ∨ 3 < h.k) then false else if h.k = 3 then (if (keyNone h = false ∨ 0 < h.ts.length) ∨ l.length = 0 then false else sRL l (d + 1)) else if keyOk h = false ∨ 0 < l.length then false else tsRight h.ts (-1)
def sRL : List ST → Int → Bool
  | [], _ => true
  | c :: t, d => sR c d && sRL t d
end
mutual
theorem rR_s : ∀ (s : ST) (d : Int), rR s d = (sR s d && decide (ssize s ≤ 16))
  | .mk h l, d => by
    rw [rR, sR, ssize]
    by_cases c0 : (3 < d ∨ h.k < 1) ∨ 3 < h.k
    · rw [if_pos (.inl c0), if_pos c0, Bool.false_and]
    rw [if_neg c0]
    by_cases c1 : 16 < 1 + ssizeL l
    · rw [if_pos (.inr c1), decide_eq_false (by omega), Bool.and_false]
    rw [if_neg (by omega), decide_eq_true (show 1 + ssizeL l ≤ 16 by omega), Bool.and_true]
    by_cases c2 : h.k = 3
    · rw [if_pos c2, if_pos c2]
      by_cases c3 : (keyNone h = false ∨ 0 < h.ts.length) ∨ l.length = 0
      · rw [if_pos c3, if_pos c3]
      · rw [if_neg c3, if_neg c3, rRL_s l (d + 1) (by omega)]
    · rw [if_neg c2, if_neg c2]
theorem rRL_s : ∀ (l : List ST) (d : Int), ssizeL l ≤ 16 → rRL l d = sRL l d
  | [], _, _ => by rw [rRL, sRL]
  | c :: t, d, h => by
    rw [ssizeL] at h
    rw [rRL, sRL, rR_s c d, rRL_s t d (by omega), decide_eq_true (show ssize c ≤ 16 by omega), Bool.and_true]
end
mutual
theorem cR_s : ∀ (s : ST) (d n : Int), (cR s d n).1 = (sR s d && decide (n + ssize s ≤ 16)) ∧ ((cR s d n).1 = true → (cR s d n).2 = n + ssize s)
  | .mk h l, d, n => by
    rw [cR, sR, ssize]
    by_cases c1 : 16 < n + 1 ∨ 3 < d
    · rw [if_pos c1]
      refine ⟨?_, fun h => by cases h⟩
      rcases c1 with c1 | c1
      · rw [decide_eq_false (by omega), Bool.and_false]
      · rw [if_pos (.inl (.inl c1)), Bool.false_and]
    rw [if_neg c1]
    by_cases c2 : h.k = 1 ∨ h.k = 2
    · rw [if_pos c2, if_neg (by omega), if_neg (by omega)]
      by_cases c3 : l = []
      · subst c3
        have e1 : decide (n + ((1 + ssizeL ([] : List ST) : Nat) : Int) ≤ 16) = true := decide_eq_true (by rw [ssizeL]; omega)
        rw [e1, Bool.and_true]
        refine ⟨?_, fun _ => by rw [ssizeL]; simp⟩
        cases e : keyOk h <;> simp
      · have c4 : 0 < l.length := by cases l <;> simp_all
        rw [if_pos (.inr c4), decide_eq_false (show ¬ l.length = 0 by omega), Bool.false_and, Bool.and_false]
        exact ⟨rfl, fun h => by cases h⟩
    rw [if_neg c2]
    by_cases c3 : h.k = 3
    · rw [if_neg (show ¬ ((3 < d ∨ h.k < 1) ∨ 3 < h.k) by omega), if_pos c3]
      by_cases c4 : (keyNone h = false ∨ 0 < h.ts.length) ∨ l.length = 0
      · have c5 : ((h.k ≠ 3 ∨ keyNone h = false) ∨ 0 < h.ts.length) ∨ l.length = 0 := by
          rcases c4 with (c4 | c4) | c4
          · exact .inl (.inl (.inr c4))
          · exact .inl (.inr c4)
          · exact .inr c4
        rw [if_pos c4, if_pos c5, Bool.false_and]
        exact ⟨rfl, fun h => by cases h⟩
      · have c5 : ¬ (((h.k ≠ 3 ∨ keyNone h = false) ∨ 0 < h.ts.length) ∨ l.length = 0) := by
          rintro (((c5 | c5) | c5) | c5)
          · exact c5 c3
          · exact c4 (.inl (.inl c5))
          · exact c4 (.inl (.inr c5))
          · exact c4 (.inr c5)
        rw [if_neg c4, if_neg c5]
        have h1 := cRL_s l (d + 1) (n + 1) (by omega)
        refine ⟨?_, fun h => ?_⟩
        · rw [h1.1]
          congr 1
          exact decide_eq_decide.2 (by omega)
        · rw [h1.2 h]; omega
    · have c5 : ((h.k ≠ 3 ∨ keyNone h = false) ∨ 0 < h.ts.length) ∨ l.length = 0 := .inl (.inl (.inl c3))
      rw [if_pos c5, if_pos (by omega), Bool.false_and]
      exact ⟨rfl, fun h => by cases h⟩
theorem cRL_s : ∀ (l : List ST) (d n : Int), n ≤ 16 → (cRL l d n).1 = (sRL l d && decide (n + ssizeL l ≤ 16)) ∧ ((cRL l d n).1 = true → (cRL l d n).2 = n + ssizeL l)
  | [], d, n, hn => by
    rw [cRL, sRL, ssizeL]
    simp [hn]
  | c :: t, d, n, hn => by
    have h1 := cR_s c d n
    rw [cRL, sRL, ssizeL]
    by_cases e : (cR c d n).1 = true
    · rw [if_pos e]
      have h3 := h1.2 e
      have h4 := h1.1
      rw [e] at h4
      have h5 := (Bool.and_eq_true _ _).mp h4.symm
      have h6 := of_decide_eq_true h5.2
      have h2 := cRL_s t d (cR c d n).2 (by omega)
      refine ⟨?_, fun h => ?_⟩
      · rw [h2.1, h5.1, Bool.true_and, h3]
        congr 1
        exact decide_eq_decide.2 (by omega)
      · rw [h2.2 h, h3]; omega
    · rw [if_neg e]
      refine ⟨?_, fun h => by cases h⟩
      have h4 := h1.1
      rw [Bool.eq_false_iff.2 e] at h4
      by_cases e2 : sR c d = true
      · rw [e2, Bool.true_and] at h4
        have h5 := of_decide_eq_false h4.symm
        rw [decide_eq_false (by omega), Bool.and_false]
      · rw [Bool.eq_false_iff.2 e2, Bool.false_and, Bool.false_and]
end
mutual
theorem cR_bd : ∀ (s : ST) (d n : Int), 0 ≤ n → n ≤ 16 → n ≤ (cR s d n).2 ∧ (cR s d n).2 ≤ 17 ∧ ((cR s d n).1 = true → (cR s d n).2 ≤ 16)
  | .mk h l, d, n, h0, h1 => by
    rw [cR]
    by_cases c1 : 16 < n + 1 ∨ 3 < d
    · rw [if_pos c1]; exact ⟨by omega, by omega, fun h => by cases h⟩
    rw [if_neg c1]
    by_cases c2 : h.k = 1 ∨ h.k = 2
    · rw [if_pos c2]; exact ⟨by omega, by omega, fun _ => by omega⟩
    rw [if_neg c2]
    by_cases c5 : ((h.k ≠ 3 ∨ keyNone h = false) ∨ 0 < h.ts.length) ∨ l.length = 0
    · rw [if_pos c5]; exact ⟨by omega, by omega, fun h => by cases h⟩
    rw [if_neg c5]
    have := cRL_bd l (d + 1) (n + 1) (by omega) (by omega)
    exact ⟨by omega, this.2.1, this.2.2⟩
theorem cRL_bd : ∀ (l : List ST) (d n : Int), 0 ≤ n → n ≤ 16 → n ≤ (cRL l d n).2 ∧ (cRL l d n).2 ≤ 17 ∧ ((cRL l d n).1 = true → (cRL l d n).2 ≤ 16)
  | [], d, n, h0, h1 => by rw [cRL]; exact ⟨Int.le_refl _, by simp; omega, fun _ => h1⟩
  | c :: t, d, n, h0, h1 => by
    have hc := cR_bd c d n h0 h1
    rw [cRL]
    split
    · rename_i hy
      have := cRL_bd t d (cR c d n).2 (by omega) (hc.2.2 hy)
      exact ⟨by omega, this.2.1, this.2.2⟩
    · exact ⟨hc.1, hc.2.1, fun h => by cases h⟩
end
/-! ### few -/
mutual
def fw : ST → Int → Int → Bool × Int
  | .mk h l, deep, n => if 90 < n + (1 + h.ts.length) ∨ deep < 0 then (false, n + (1 + h.ts.length)) else fwL l (deep - 1) (n + (1 + h.ts.length))
def fwL : List ST → Int → Int → Bool × Int
  | [], _, n => (true, n)
  | c :: t, deep, n => if (fw c deep n).1 = true then fwL t deep (fw c deep n).2 else (false, (fw c deep n).2)
end
mutual
theorem fw_ssz : ∀ (s : ST) (deep n : Int), (fw s deep n).1 = true → (fw s deep n).2 = n + ssz s ∧ n + ssz s ≤ 90
  | .mk h l, deep, n, hs => by
    rw [fw] at hs ⊢
    rw [ssz]
    split at hs
    · cases hs
    · rename_i hc
      rw [if_neg hc]
      have := fwL_ssz l (deep - 1) _ (by omega) hs
      omega
theorem fwL_ssz : ∀ (l : List ST) (deep n : Int), n ≤ 90 → (fwL l deep n).1 = true → (fwL l deep n).2 = n + sszL l ∧ n + sszL l ≤ 90
  | [], _, n, hn, _ => by rw [fwL, sszL]; simp; exact hn
  | c :: t, deep, n, hn, hs => by
    rw [fwL] at hs ⊢
    rw [sszL]
    split at hs
    · rename_i hc
      have h1 := fw_ssz c deep n hc
      rw [if_pos hc]
      have h2 := fwL_ssz t deep _ (by omega) hs
      omega
    · cases hs
end
mutual
theorem fw_ge : ∀ (s : ST) (deep n : Int), n ≤ (fw s deep n).2
  | .mk h l, deep, n => by
    rw [fw]
    split
    · simp; omega
    · have := fwL_ge l (deep - 1) (n + (1 + h.ts.length)); omega
theorem fwL_ge : ∀ (l : List ST) (deep n : Int), n ≤ (fwL l deep n).2
  | [], _, n => by rw [fwL]; simp
  | c :: t, deep, n => by
    have h1 := fw_ge c deep n
    have h2 := fwL_ge t deep (fw c deep n).2
    rw [fwL]
    split
    · omega
    · exact h1
end
/-! ### the steps of right conditions are right -/
theorem ts_app : ∀ {a : List TD} {b : List TD} {l m : Int}, tsRight a l = true → (∀ t ∈ a, t.1 ≤ m) → l ≤ m → (∀ l', l' ≤ m → tsRight b l' = true) → tsRight (a ++ b) l = true
  | [], b, l, m, _, _, hl, hb => hb l hl
  | t :: r, b, l, m, h, hm, hl, hb => by
    rw [tsRight] at h
    split at h
    · cases h
    · rename_i h1
      rw [List.cons_append, tsRight, if_neg h1]
      exact ts_app h (fun x hx => hm x (by simp [hx])) (hm t (by simp)) hb
theorem dupF_bd {h : Hd} {f : Nat} {g : Int} (hf : f < 3) (e : dupF h f = some g) : 0 ≤ g ∧ g < f ∧ g ≤ 2 := by
  unfold dupF at e
  split at e
  · rename_i h1; simp only [Option.some.injEq] at e; omega
  · split at e
    · rename_i h1; simp only [Option.some.injEq] at e; omega
    · cases e
theorem testF_ok {ch : List CT} {h : Hd} {f : Nat} (hf : f < 3) (hc : ch.length ≤ 16) : ∀ l : Int, l ≤ (f : Int) - 1 → tsRight (testF ch h f) l = true := by
  intro l hl
  unfold testF
  split
  · split
    · rename_i x hx
      have hb := bound_lt hx
      rw [tsRight, if_neg (by dsimp only; omega), tsRight]
    · split
      · rename_i g hg
        have hd := dupF_bd hf hg
        rw [tsRight, if_neg (by dsimp only; omega), tsRight]
      · rw [tsRight]
  · rw [tsRight]
theorem testF_fst {ch : List CT} {h : Hd} {f : Nat} : ∀ t ∈ testF ch h f, t.1 = (f : Int) := by
  intro t ht
  unfold testF at ht
  split at ht
  · split at ht
    · rw [List.mem_singleton.1 ht]
    · split at ht
      · rw [List.mem_singleton.1 ht]
      · cases ht
  · cases ht
theorem testsTo_fst {ch : List CT} {h : Hd} : ∀ (f : Nat), ∀ t ∈ testsTo ch h f, t.1 ≤ (f : Int) - 1
  | 0, t, ht => by cases ht
  | f + 1, t, ht => by
    rw [testsTo] at ht
    rcases List.mem_append.1 ht with ht | ht
    · have := testsTo_fst f t ht; omega
    · have := testF_fst t ht; omega
theorem testsTo_ok {ch : List CT} {h : Hd} (hc : ch.length ≤ 16) : ∀ (f : Nat), f ≤ 3 → tsRight (testsTo ch h f) (-1) = true
  | 0, _ => rfl
  | f + 1, hf => by
    rw [testsTo]
    exact ts_app (m := (f : Int) - 1) (testsTo_ok hc f (by omega)) (testsTo_fst f) (by omega) (testF_ok (by omega) hc)
theorem termRight_bd {b : Bool} {n : Int} (h : termRight b n = true) : 1 ≤ n ∧ n ≤ 4096 := by
  cases b <;> simp [termRight] at h <;> omega
theorem keyTo_bd {h : Hd} (e : headOk h = true) (i : Nat) : 0 ≤ keyTo h 3 i ∧ keyTo h 3 i ≤ 4096 := by
  simp only [headOk, Bool.and_eq_true] at e
  have e0 := termRight_bd e.1
  have e1 := termRight_bd e.2.1
  have e2 := termRight_bd e.2.2
  unfold keyTo
  split
  · match i with
    | 0 => show 0 ≤ h.n0 ∧ h.n0 ≤ 4096; omega
    | 1 => show 0 ≤ h.n1 ∧ h.n1 ≤ 4096; omega
    | _ + 2 => show 0 ≤ h.n2 ∧ h.n2 ≤ 4096; omega
  · omega
mutual
theorem sR_of : ∀ (c : CT) (ch : List CT) (d : Int), 1 ≤ d → check c d = 0 → ch.length + size c ≤ 17 → sR (stepOf ch c) d = true
  | .mk h l, ch, d, hd, hc, hz => by
    have hm : max d 1 = d := by omega
    rw [check, hm] at hc
    rw [size] at hz
    by_cases c1 : 3 < d
    · rw [if_pos c1] at hc; omega
    rw [if_neg c1] at hc
    rw [stepOf]
    by_cases c2 : h.k = 3
    · rw [if_pos c2] at hc
      rw [if_pos c2, sR]
      by_cases c3 : headNone h = false
      · rw [if_pos c3] at hc; omega
      rw [if_neg c3] at hc
      by_cases c4 : l.length = 0
      · rw [if_pos c4] at hc; omega
      rw [if_neg c4] at hc
      rw [if_neg (by dsimp only; omega), if_pos c2, if_neg (by
        rw [stepsOf_len]
        rintro ((h1 | h1) | h1)
        · have : keyNone ⟨h.k, 0, 0, 0, []⟩ = true := (keyNone_iff _).2 ⟨rfl, rfl, rfl⟩
          rw [this] at h1; cases h1
        · simp at h1
        · exact c4 h1)]
      exact sRL_of l ch (d + 1) (by omega) hc (by omega)
    · rw [if_neg c2] at hc
      rw [if_neg c2, sR]
      by_cases c3 : h.k ≠ 1 ∧ h.k ≠ 2
      · rw [if_pos c3] at hc; omega
      rw [if_neg c3] at hc
      by_cases c4 : headOk h = false ∨ 0 < l.length
      · rw [if_pos c4] at hc; omega
      have c5 : headOk h = true := by
        cases e : headOk h with
        | true => rfl
        | false => exact absurd (.inl e) c4
      rw [if_neg (by dsimp only; omega), if_neg c2, if_neg (by
        rintro (h1 | h1)
        · have : keyOk ⟨h.k, keyTo h 3 0, keyTo h 3 1, keyTo h 3 2, testsTo ch h 3⟩ = true := decide_eq_true ⟨keyTo_bd c5 0, keyTo_bd c5 1, keyTo_bd c5 2⟩
          rw [this] at h1; cases h1
        · simp at h1)]
      exact testsTo_ok (by omega) 3 (Nat.le_refl _)
theorem sRL_of : ∀ (l ch : List CT) (d : Int), 1 ≤ d → checkL l d = 0 → ch.length + sizeL l ≤ 16 → sRL (stepsOf ch l) d = true
  | [], _, _, _, _, _ => by rw [stepsOf, sRL]
  | c :: t, ch, d, hd, hc, hz => by
    rw [checkL] at hc
    rw [sizeL] at hz
    have h1 := size_pos c
    by_cases h : check c d = 0
    · rw [if_pos h] at hc
      rw [stepsOf, sRL, sR_of c ch d hd h (by omega), sRL_of t (ch ++ [c]) d hd hc (by simp; omega)]; rfl
    · rw [if_neg h] at hc; exact absurd hc h
end
mutual
theorem ssize_of : ∀ (c : CT) (ch : List CT), ssize (stepOf ch c) ≤ size c
  | .mk h l, ch => by
    rw [stepOf, size]
    split
    · have := ssizeL_of l ch; rw [ssize]; omega
    · rw [ssize, ssizeL]; omega
theorem ssizeL_of : ∀ (l ch : List CT), ssizeL (stepsOf ch l) ≤ sizeL l
  | [], _ => by simp [stepsOf, ssizeL]
  | c :: t, ch => by
    have h1 := ssize_of c ch
    have h2 := ssizeL_of t (ch ++ [c])
    rw [stepsOf, ssizeL, sizeL]; omega
end
/-! ### how many Pos -/
def posS (l : List ST) : Nat := l.countP fun s => decide (s.h.k = 1)
end Go.Gx.T8
namespace Go.Gx.T8
open Go.Gx Go.Gx.T3 Go.Gx.T4
end Go.Gx.T8

/- Plain laws of matching, step by step; no program in sight. -/
namespace Go.Gx.T14
open Go.Gx Go.Gx.T3 Go.Gx.T4 Go.Gx.T6 Go.Gx.T8 Go.Gx.T13
def fine14 (nm : ByteArray) (l : List CT) (f : Nat) : Bool := T5.fineR nm l && (decide ((f : Int) ≤ 12) && costB f l)
theorem fine14_yes {nm : ByteArray} {l : List CT} {f : Nat} (h : fine14 nm l f = true) : sizeL l ≤ 21 ∧ f ≤ 12 ∧ costB f l = true ∧ T5.ruleChk nm l = 0 := by
  unfold fine14 at h
  simp only [Bool.and_eq_true, decide_eq_true_eq] at h
  have h1 := T5.fine_yes h.1
  exact ⟨h1.1, by omega, h.2.2, h1.2⟩
/-- The ids that a match of the steps ahead had. -/
def stp (p : Bool) (y : List Int) : List Int := if p = true then y.take (y.length - 1) else y
def Emb (p : Bool) (W : List (List Int)) : Nat → List (List Int) → Prop
  | _, [] => True
  | k, y :: N => ∃ a, k ≤ a ∧ a < W.length ∧ W.getD a [] = stp p y ∧ (p = true → 1 ≤ y.length) ∧ Emb p W (if p = true then a else a + 1) N
theorem Emb.mono {p : Bool} {W : List (List Int)} : ∀ {N : List (List Int)} {k k' : Nat}, k ≤ k' → Emb p W k' N → Emb p W k N
  | [], _, _, _, _ => trivial
  | _ :: _, _, _, hk, ⟨a, h1, h2⟩ => ⟨a, by omega, h2⟩
theorem Emb.app {W : List (List Int)} {k : Nat} {N : List (List Int)} (hk : k < W.length) (hN : Emb true W k N) : ∀ (ys : List (List Int)), (∀ y ∈ ys, W.getD k [] = stp true y ∧ 1 ≤ y.length) → Emb true W k (ys ++ N)
  | [], _ => hN
  | y :: ys, h => ⟨k, Nat.le_refl _, hk, (h y (by simp)).1, fun _ => (h y (by simp)).2, Emb.app hk hN ys (fun x hx => h x (by simp [hx]))⟩
theorem ss_take {G : Ghost} {v : Value} {k : Nat} {rs : List SVal} (hk : k ≤ rs.length) (h : SlG G v k 6 (fun i => at_ (sC (rs.getD i s0)))) (ht : ∀ p ∈ rs, SlL G p.2.1 3 tC t0 p.1.h.ts) (hs : ∀ p ∈ rs, Ss G p.2.2 p.1.subs) : Ss G v ((rs.map Prod.fst).take k) := by
  rw [← List.map_take]
  exact Ss.mk (rs.take k) (sl_take (cells := sC) hk h) (fun p hp => ht p (List.mem_of_mem_take hp)) (fun p hp => hs p (List.mem_of_mem_take hp))
end Go.Gx.T14

/- Walks: what Go functions of this chapter come to, each as a function on plain data; no condition but those that each theorem names. Printed by a program of this work (gen.py). -/
namespace Go.Proofs.Ytpadfgomhojjnaa
open Go.Gx Go.Gx.T13 Go.Gx.T8 Go.Gx.T4 Go.Gx.T3 Go.Gx.T14 Go.Gx.T13 Go.Gx.T8 Go.Gx.T6 Go.Gx.T4 Go.Gx.T3 Go.Gx.T3 Go.Gx.T4 Go.Gx.T3 Go.Gx.T5 Go.Gx.T1 Go.Gx.T8 Go.Gx.T6 Go.Gx.T4 Go.Gx.T3 Go.Gx.T6 Go.Gx.T8 Go.Gx.T4 Go.Gx.T3 Go.Gx.T8 Go.Gx.T4 Go.Gx.T3 Go.Gx.T8 Go.Gx.T6 Go.Gx.T4 Go.Gx.T3
theorem cl30 : Callable Try.prog 30 := callable Try.func30 (by kernel_rfl) rfl
theorem cl53 : Callable Try.prog 53 := callable Try.func53 (by kernel_rfl) rfl
theorem c_fine14 (nm : ByteArray) (cv : Value) (l : List CT) (f : Nat) {G : Ghost} (hs : Cs G cv l) (w : World) (hG : Has G w) :
  Calls Try.prog 30 #[Value.agg #[Value.string nm, cv], Value.int .i64 (f : Nat)] w (Ret fun r w' => r = Value.bool (fine14 nm l f) ∧ Since nX w w') := by
 refine enter (args := [_, _]) (X := nX) (G := G) (l := [(0, Value.agg #[Value.string nm, cv]), (1, Value.int .i64 (f : Nat))]) Try.func30 rfl Try.ntmps30 hG ⟨rfl, rfl, trivial⟩ (Nat.le_of_ble_eq_true rfl) ?_
 refine c_seq ?_
 refine c_region ?_
 refine r_box .none rfl rfl (IsRow.lit _) (fun b_1 => ?_)
 refine r_val .none rfl (p_assign rfl) ?_
 refine r_nil ?_
 refine e_next ?_
 refine c_seq ?_
 refine c_region ?_
 refine r_val .none rfl (p_ldw (k := 0) Try.underlying69 rfl sz69 rfl rfl (rfl : _ = Value.agg #[_, _])) ?_
 refine r_call (vs := [_]) .none rfl cl53 rfl (fun w hw => c_fine5 nm _ l hs w hw) ?_
 refine r_val .none rfl (p_move rfl) ?_
 refine r_split (d := 7) rfl (fun h_1 => ?_) (fun h_1 => ?_)
 ·
  have hR := h_1
  have hsz : sizeL l ≤ 1000 := by have := (T5.fine_yes hR).1; omega
  first
   | (exfalso; omega)
   | (
    refine r_val (.some rfl rfl) rfl (p_move rfl) ?_
    refine r_val (.some rfl rfl) rfl (p_le rfl rfl) ?_
    refine r_val .none rfl (p_pick_t rfl rfl) ?_
    refine r_val .none rfl (p_move rfl) ?_
    refine r_splitd (d := 11) rfl (fun h_2 => ?_) (fun h_2 => ?_)
    ·
     first
      | (exfalso; omega)
      | (
       refine r_val (.some rfl rfl) rfl (p_move rfl) ?_
       refine r_val (.some rfl rfl) rfl (p_ldw (k := 0) Try.underlying69 rfl sz69 rfl rfl (rfl : _ = Value.agg #[_, _])) ?_
       refine r_callm (vs := [_]) (.some rfl rfl) rfl cl33 rfl (fun w hw => c_ref5 nm _ l hsz hs w hw) (fun G_3 v_6 hn_4 hr_5 => ?_)
       replace hs := hs.mono hn_4.le
       obtain ⟨u_7, rfl, u_7s⟩ := hr_5
       obtain ⟨u_7a, u_7c, rfl⟩ := Tr.len u_7s
       refine r_val (.some rfl rfl) rfl (p_field1 Try.underlying77 rfl Try.underlying75 rfl sz75 rfl (IsRow.lit _) rfl (by first | exact of_decide_eq_true rfl | omega) (rfl : _ = Value.slice _ _ _)) ?_
       refine r_call (vs := [_, _, _]) (.some rfl rfl) rfl cl41 rfl (fun w hw => c_cost f _ l (by omega) hsz u_7s w hw) ?_
       refine r_val .none rfl (p_pick_t rfl rfl) ?_
       refine r_val .none rfl (p_assign rfl) ?_
       refine r_nil ?_
       refine e_next ?_
       refine c_ret ?_
       refine e_ret1 Try.results30 (.tmp rfl .nil) (fun w hm => ⟨?_, hm.since⟩)
       first
       | exact congrArg Value.bool (by unfold fine14; rw [hR, Bool.false_and])
       | exact congrArg Value.bool (by unfold fine14; rw [hR, decide_eq_false (by omega), Bool.true_and, Bool.false_and])
       | exact congrArg Value.bool (by unfold fine14; rw [hR, decide_eq_true (by omega), Bool.true_and, Bool.true_and])
       )
    ·
     first
      | (exfalso; omega)
      | (
       refine r_skip rfl (.no rfl rfl) ?_
       refine r_skip rfl (.no rfl rfl) ?_
       refine r_skip rfl (.no rfl rfl) ?_
       refine r_skip rfl (.no rfl rfl) ?_
       refine r_skip rfl (.no rfl rfl) ?_
       refine r_val .none rfl (p_pick_f rfl rfl) ?_
       refine r_val .none rfl (p_assign rfl) ?_
       refine r_nil ?_
       refine e_next ?_
       refine c_ret ?_
       refine e_ret1 Try.results30 (.tmp rfl .nil) (fun w hm => ⟨?_, hm.since⟩)
       first
       | exact congrArg Value.bool (by unfold fine14; rw [hR, Bool.false_and])
       | exact congrArg Value.bool (by unfold fine14; rw [hR, decide_eq_false (by omega), Bool.true_and, Bool.false_and])
       | exact congrArg Value.bool (by unfold fine14; rw [hR, decide_eq_true (by omega), Bool.true_and, Bool.true_and])
       )
    )
 ·
  have hR := h_1
  first
   | (exfalso; omega)
   | (
    refine r_skip rfl (.no rfl rfl) ?_
    refine r_skip rfl (.no rfl rfl) ?_
    refine r_val .none rfl (p_pick_f rfl rfl) ?_
    refine r_val .none rfl (p_move rfl) ?_
    refine r_skip rfl (.no rfl rfl) ?_
    refine r_skip rfl (.no rfl rfl) ?_
    refine r_skip rfl (.no rfl rfl) ?_
    refine r_skip rfl (.no rfl rfl) ?_
    refine r_skip rfl (.no rfl rfl) ?_
    refine r_val .none rfl (p_pick_f rfl rfl) ?_
    refine r_val .none rfl (p_assign rfl) ?_
    refine r_nil ?_
    refine e_next ?_
    refine c_ret ?_
    refine e_ret1 Try.results30 (.tmp rfl .nil) (fun w hm => ⟨?_, hm.since⟩)
    first
    | exact congrArg Value.bool (by unfold fine14; rw [hR, Bool.false_and])
    | exact congrArg Value.bool (by unfold fine14; rw [hR, decide_eq_false (by omega), Bool.true_and, Bool.false_and])
    | exact congrArg Value.bool (by unfold fine14; rw [hR, decide_eq_true (by omega), Bool.true_and, Bool.true_and])
    )
end Go.Proofs.Ytpadfgomhojjnaa

/- Plain laws: a fact meets a step just if its terms fit it with what the facts ahead have bound; no program in sight. -/
namespace Go.Gx.T13
open Go.Gx Go.Gx.T3 Go.Gx.T4 Go.Gx.T8

/-- How many conditions are Pos. -/
def npos : List CT → Nat
  | [] => 0
  | c :: t => (if c.h.k = 1 then 1 else 0) + npos t
theorem bound_npos {v : Int} : ∀ {l : List CT} {b : Int} {x : Int × Int}, bound v l b = some x → b ≤ x.1 ∧ x.1 < b + npos l
  | [], _, _, h => by simp [bound] at h
  | c :: t, b, x, h => by
    rw [bound] at h
    rw [npos]
    split at h
    · rename_i hk
      rw [if_pos hk]
      split at h
      · simp at h; subst h; simp; omega
      · have := bound_npos h; omega
    · rename_i hk
      rw [if_neg hk]
      have := bound_npos h; omega

def right3 (t : Tri) : Prop := 1 ≤ t.1 ∧ 1 ≤ t.2.1 ∧ 1 ≤ t.2.2
theorem fld_pos {t : Tri} (h : right3 t) (i : Int) : 1 ≤ fld t i := by
  obtain ⟨a, b, c⟩ := h
  unfold fld; split
  · exact a
  · split
    · exact b
    · exact c
/-- What the pairs say is what the facts of the Pos conditions ahead have bound. -/
structure Bd (ch : List CT) (back : List Tri) (ps : List Pr) : Prop where
  len : npos ch = back.length
  pos : ∀ p ∈ ps, 1 ≤ p.2
  rt : ∀ t ∈ back, right3 t
  get : ∀ v, getP ps v = match bound v ch 0 with | some x => fld (back.getD x.1.toNat z3) x.2 | none => 0
theorem Bd.nil : Bd [] [] [] := ⟨rfl, by simp, by simp, fun v => by simp [getP, bound]⟩
theorem Bd.some {ch : List CT} {back : List Tri} {ps : List Pr} (h : Bd ch back ps) {v : Int} {x : Int × Int} (hx : bound v ch 0 = some x) : (∃ b : Nat, x.1 = (b : Int) ∧ b < back.length) ∧ getP ps v = fld (back.getD x.1.toNat z3) x.2 ∧ getP ps v ≠ 0 := by
  have h1 := bound_npos hx
  have h2 := h.len
  have h3 : getP ps v = fld (back.getD x.1.toNat z3) x.2 := by rw [h.get v, hx]
  refine ⟨⟨x.1.toNat, by omega, by omega⟩, h3, ?_⟩
  rw [h3]
  have h4 : x.1.toNat < back.length := by omega
  have h5 : back.getD x.1.toNat z3 ∈ back := by simp [List.getD, List.getElem?_eq_getElem h4]
  have := fld_pos (h.rt _ h5) x.2
  omega
theorem Bd.none {ch : List CT} {back : List Tri} {ps : List Pr} (h : Bd ch back ps) {v : Int} (hx : bound v ch 0 = none) : getP ps v = 0 := by
  have h3 := h.get v
  rw [hx] at h3; exact h3
/-- Field f fits. -/
def fitF (h : Hd) (t : Tri) (ps : List Pr) (f : Nat) : Prop :=
  if vF h f = true then (if getP ps (nF h f) = 0 then (match dupF h f with | some g => fld t f = fld t g | none => True) else fld t f = getP ps (nF h f)) else nF h f = fld t f
end Go.Gx.T13

/- Plain laws: the matches of conditions by terms and bindings are those of their steps; no program in sight. -/
namespace Go.Gx.T14
open Go.Gx Go.Gx.T3 Go.Gx.T4 Go.Gx.T6 Go.Gx.T8 Go.Gx.T13
/-- A head fits a triple, with what is bound. -/
abbrev rf (h : Hd) (t : Tri) (ps : List Pr) : Option (List Pr) := rfit h.v0 h.n0 h.v1 h.n1 h.v2 h.n2 t.1 t.2.1 t.2.2 ps 3
section
variable (fs : List FD)
mutual
def tm1 : CT → List Pr → List (List Int)
  | .mk _ s, ps => tm s ps []
/-- The ids of the matches of conditions, by terms and bindings. -/
def tm : List CT → List Pr → List Int → List (List Int)
  | [], _, ids => [ids]
  | c :: rest, ps, ids => if c.h.k = 1 then fs.flatMap fun f => if (rf c.h f.2 ps).isSome = true then tm rest ((rf c.h f.2 ps).getD ps) (ids ++ [f.1]) else []
      else if c.h.k = 2 ∧ (fs.any fun f => (rf c.h f.2 ps).isSome) = true then []
      else if c.h.k = 3 ∧ 0 < (tm1 c ps).length then [] else tm rest ps ids
end
end
/-- .. those of the first facts. -/
def tmTo (fs : List FD) (c : CT) (rest : List CT) (ps : List Pr) (ids : List Int) (k : Nat) : List (List Int) := (fs.take k).flatMap fun f => if (rf c.h f.2 ps).isSome = true then tm fs rest ((rf c.h f.2 ps).getD ps) (ids ++ [f.1]) else []
section
variable {fs : List FD} {c : CT} {rest : List CT} {ps : List Pr} {ids : List Int} {k : Nat}
end
/-! ### the law -/
theorem which_any {k : Int} {key : Tri} {ts : List TD} {b : List Tri} {fs : List FD} : (which k key ts b fs).length = 0 ↔ (fs.any fun f => meets k key ts b f.2) = false := by
  unfold which
  rw [List.length_map, List.length_eq_zero_iff, List.filter_eq_nil_iff, List.any_eq_false]
end Go.Gx.T14

/- Plain laws for the walk of the matches by terms and bindings; no program in sight. -/
namespace Go.Gx.T14
open Go.Gx Go.Gx.T3 Go.Gx.T4 Go.Gx.T6 Go.Gx.T8 Go.Gx.T13
theorem li_nil {G : Ghost} : LI G (.slice none 0 0) [] := ⟨[], SlG.nil _ _ _, by simp, rfl⟩
theorem li_ones {G : Ghost} {z : List (List Int × Value)} (hz : ∀ q ∈ z, SlL G q.2 1 cI 0 q.1) : ∀ i, i < z.length → ∀ j, j < 1 → (at_ (lC (z.getD i ([], .slice none 0 0))) j).oneCell' = true := by
  intro i hi j hj
  have h := SlG.one (hz _ (getD_mem (d := ([], .slice none 0 0)) hi))
  match j, hj with
  | 0, _ => exact h
theorem li_app {G : Ghost} {z ws : List (List Int × Value)} (h1 : ∀ q ∈ z, SlL G q.2 1 cI 0 q.1) (h2 : ∀ q ∈ ws, SlL G q.2 1 cI 0 q.1) : ∀ q ∈ z ++ ws, SlL G q.2 1 cI 0 q.1 := by
  intro q hq
  rcases List.mem_append.1 hq with h | h
  · exact h1 q h
  · exact h2 q h
theorem posL_cons (c : CT) (t : List CT) : posL (c :: t) = (if c.h.k = 1 then 1 else 0) + posL c.subs + posL t := by rw [posL, posC_eq]
end Go.Gx.T14

/- Walks: what Go functions of this chapter come to, each as a function on plain data; no condition but those that each theorem names. Printed by a program of this work (gen.py). -/
namespace Go.Proofs.Ytpadfgomhojjnaa
open Go.Gx Go.Gx.T13 Go.Gx.T8 Go.Gx.T4 Go.Gx.T3 Go.Gx.T14 Go.Gx.T13 Go.Gx.T8 Go.Gx.T6 Go.Gx.T4 Go.Gx.T3 Go.Gx.T3 Go.Gx.T4 Go.Gx.T3 Go.Gx.T5 Go.Gx.T1 Go.Gx.T8 Go.Gx.T6 Go.Gx.T4 Go.Gx.T3 Go.Gx.T6 Go.Gx.T8 Go.Gx.T4 Go.Gx.T3 Go.Gx.T8 Go.Gx.T4 Go.Gx.T3 Go.Gx.T8 Go.Gx.T6 Go.Gx.T4 Go.Gx.T3
theorem sz145 : SzIs Try.prog 145 4 := by
 unfold SzIs
 kernel_rfl
theorem zr145 : ZeroIs Try.prog 145 (Value.agg #[Value.int .i64 0, Value.int .i64 0, Value.int .i64 0, Value.int .i64 0]) := by
 unfold ZeroIs
 kernel_rfl
def TermsIs (n : Nat) : Prop := ∀ (vf vl vp vi : Value) (fs : List FD) (l : List CT) (ps : List Pr) (ids : List Int) (G : Ghost) (w : World), SizeOf.sizeOf l ≤ n → fs.length ≤ 12 → sizeL l ≤ 30 → ps.length + 3 * sizeL l ≤ 90 → ids.length + sizeL l ≤ 100 → (fs.length + 1) ^ posL l ≤ 3000 → SlL G vf 4 fC f0 fs → Rs G vl l → SlL G vp 2 pr (0, 0) ps → SlL G vi 1 cI 0 ids → Has G w → Calls Try.prog 38 #[vf, vl, vp, vi] w (Ret fun r w' => ∃ G', GNew w nX G G' ∧ Has G' w' ∧ LI G' r (tm fs l ps ids) ∧ Since nX w w')
end Go.Proofs.Ytpadfgomhojjnaa

/- Walks: what Go functions of this chapter come to, each as a function on plain data; no condition but those that each theorem names. Printed by a program of this work (gen.py). -/
namespace Go.Proofs.Ytpadfgomhojjnaa
open Go.Gx Go.Gx.T13 Go.Gx.T8 Go.Gx.T4 Go.Gx.T3 Go.Gx.T14 Go.Gx.T13 Go.Gx.T8 Go.Gx.T6 Go.Gx.T4 Go.Gx.T3 Go.Gx.T3 Go.Gx.T4 Go.Gx.T3 Go.Gx.T5 Go.Gx.T1 Go.Gx.T8 Go.Gx.T6 Go.Gx.T4 Go.Gx.T3 Go.Gx.T6 Go.Gx.T8 Go.Gx.T4 Go.Gx.T3 Go.Gx.T8 Go.Gx.T4 Go.Gx.T3 Go.Gx.T8 Go.Gx.T6 Go.Gx.T4 Go.Gx.T3
theorem cl39 : Callable Try.prog 39 := callable Try.func39 (by kernel_rfl) rfl
theorem bl145_0i1_1a3 (x0 : Int) (x1 : Value) (x2 : Value) (x3 : Value) : Program.built Try.prog 145 [(0, Value.int .i64 x0), (1, Value.agg #[x1, x2, x3])] = some #[Value.int .i64 x0, x1, x2, x3] := by
 kernel_rfl
theorem bs145_10a4 (a0 a1 a2 a3 : Value) : Instr.fill (fun i => some (i * 4, 4)) ((Array.range (1 * 4)).map ((Value.agg #[Value.int .i64 0, Value.int .i64 0, Value.int .i64 0, Value.int .i64 0]).cells[· % (Value.agg #[Value.int .i64 0, Value.int .i64 0, Value.int .i64 0, Value.int .i64 0]).cells.size]!)) [(0, Value.agg #[a0, a1, a2, a3])] = some #[a0, a1, a2, a3] := by
 kernel_rfl
theorem el145 : ElemIs Try.prog 145 4 32 (Value.agg #[Value.int .i64 0, Value.int .i64 0, Value.int .i64 0, Value.int .i64 0]) := by
 unfold ElemIs
 kernel_rfl
theorem c_ref12 (v : Value) (fs : List FD) {G : Ghost} (hln : fs.length ≤ 1000) (hf : SlL G v 4 fC f0 fs) (w : World) (hG : Has G w) :
  Calls Try.prog 39 #[v] w (Ret fun r w' => ∃ G', GNew w nX G G' ∧ Has G' w' ∧ SlL G' r 4 fC f0 fs ∧ Since nX w w') := by
 refine enter (args := [_]) (X := nX) (G := G) (l := [(0, v)]) Try.func39 rfl Try.ntmps39 hG ⟨rfl, trivial⟩ (Nat.le_of_ble_eq_true rfl) ?_
 refine c_seq ?_
 refine c_region ?_
 refine r_val .none rfl (p_assign rfl) ?_
 refine r_nil ?_
 refine e_next ?_
 refine c_seq ?_
 refine c_region ?_
 refine r_val .none rfl (p_assign rfl) ?_
 refine r_nil ?_
 refine e_next ?_
 refine c_seq ?_
 refine c_seq ?_
 refine c_region ?_
 refine r_val .none rfl (p_move rfl) ?_
 refine r_val .none rfl (p_leng Try.underlying72 rfl hf) ?_
 have bd_1 := (hf).bound
 refine r_val .none rfl (p_move rfl) ?_
 refine r_nil ?_
 refine e_next ?_
 refine c_block ?_
 refine c_nilrow 145 4 ?_
 refine c_name (d := 2) rfl (fun u_2 hu_2 => ?_)
 refine c_name (d := 6) rfl (fun u_3 hu_3 => ?_)
 refine c_name (d := 7) rfl (fun u_4 hu_4 => ?_)
 refine c_loop (σ := Nat × Value) (fun s => [(8, Value.int .i64 (s.1 : Nat)), (3, s.2), (2, u_2), (6, u_3), (7, u_4)]) (fun s => [rowA (s.2) 145 4 ((fs.take s.1)).length (((fs.take s.1)).flatMap fC)]) (fun _ => _) (fun s => s.1 ≤ fs.length) (fun s => fs.length - s.1) ((0, _)) (Nat.zero_le _) rfl ⟨rfl, rfl, rfl, rfl, rfl, trivial⟩ (.keep (fun _ _ h => rowA_nil rfl _ _ h) (.nil)) (fun s hphi => ?_)
 subst hu_2
 subst hu_3
 subst hu_4
 obtain ⟨k, u⟩ := s
 dsimp only at hphi ⊢
 refine c_seq ?_
 refine c_region ?_
 refine r_val .none rfl (p_lt rfl rfl) ?_
 refine r_nil ?_
 refine e_next ?_
 refine c_seq ?_
 refine c_splitd (d := 9) rfl (fun h_5 => ?_) (fun h_5 => ?_)
 ·
  first
   | (exfalso; omega)
   | (
    refine c_cond_t rfl ?_
    refine c_skip ?_
    refine e_next ?_
    refine c_seq ?_
    refine c_block ?_
    refine c_seq ?_
    refine c_region ?_
    refine r_iaddr_g .none rfl Try.underlying72 sz120 rfl hf rfl (by first | exact of_decide_eq_true rfl | omega) (fun p_7 o_8 R_6 => ?_)
    refine r_val .none rfl (p_ldga0 Try.underlying120 rfl sz120 rfl R_6 (by first | exact of_decide_eq_true rfl | omega) (rfl : _ = Value.agg #[_, _, _, _])) ?_
    refine r_alloc .none rfl zr120 (IsRow.lit _) (fun b_1 => ?_)
    refine r_stw (k := 0) .none sz120 rfl rfl (IsRow.lit _) (one_lit rfl rfl) rfl ?_
    refine r_nil ?_
    refine e_next ?_
    refine c_region ?_
    refine r_val .none rfl (p_move rfl) ?_
    refine r_val .none rfl (p_field Try.underlying120 rfl sz3 rfl) ?_
    refine r_val .none rfl (p_ld (k := 0) Try.underlying3 rfl rfl rfl (by first | exact of_decide_eq_true rfl | omega) (rfl : _ = Value.int _ _)) ?_
    refine r_val .none rfl (p_field Try.underlying120 rfl sz106 rfl) ?_
    refine r_val .none rfl (p_lda (k := 0) Try.underlying106 rfl sz106 rfl rfl (by first | exact of_decide_eq_true rfl | omega) (rfl : _ = Value.agg #[_, _, _])) ?_
    refine r_val .none rfl (p_build (vs := [(0, Value.int _ _), (1, Value.agg #[_, _, _])]) rfl (bl145_0i1_1a3 _ _ _ _)) ?_
    refine r_bslice (vs := [(0, Value.agg #[_, _, _, _])]) (c := #[_, _, _, _]) .none rfl Try.underlying87 el145 rfl rfl rfl (bs145_10a4 _ _ _ _) (IsRow.lit _) (fun b_2 => ?_)
    refine r_append (k := 2) (k2 := 0) .none rfl Try.underlying87 el145 rfl (by decide) rfl rfl rfl rfl rfl (one_lit rfl rfl) (by rw [List.length_take]; simp only [maxLen]; omega) (by rw [List.length_take]; omega) (fun v_9 => ?_)
    refine r_row1 (k := 2) rfl (fun o_10 => ?_)
    refine r_val .none rfl (p_assign rfl) ?_
    refine r_nil ?_
    refine e_norm_block ?_
    refine e_next ?_
    refine c_region ?_
    refine r_val .none rfl (p_add rfl rfl (by omega)) ?_
    refine r_val .none rfl (p_move rfl) ?_
    refine r_nil ?_
    refine e_round ((k + 1, _)) ⟨by dsimp only; omega, by dsimp only; omega⟩ rfl ⟨rfl, rfl, rfl, rfl, rfl, trivial⟩ (.drop (.drop (.keep (fun _ _ h => rowA_snoc (x := fs.getD k f0) (by rw [List.take_succ_eq_append_getElem (show k < fs.length by omega)]; simp [List.getD, show k < fs.length by omega]) rfl rfl rfl _ _ h) (.nil))))
    )
 ·
  first
   | (exfalso; omega)
   | (
    refine c_cond_f rfl ?_
    refine c_exit ?_
    refine e_exit_then ?_
    refine e_exit_then ?_
    refine e_exit_block ?_
    refine e_next ?_
    refine c_seq ?_
    refine c_region ?_
    refine r_val .none rfl (p_move rfl) ?_
    refine r_val .none rfl (p_assign rfl) ?_
    refine r_nil ?_
    refine e_next ?_
    refine c_ret ?_
    refine e_freeze (k := 0) rfl (fun G_11 hn_12 hs_13 => ?_)
    replace hf := hf.mono hn_12.le
    refine e_ret1 Try.results39 (.tmp rfl .nil) (fun w hm => ⟨_, hn_12, hm.has, ?_, hm.since⟩)
    have hk9 : fs.take k = fs := List.take_of_length_le (by omega)
    exact SlL.of2 f0 (fun _ => rfl) (by rw [hk9]) (by rw [hk9]) hs_13
    )
end Go.Proofs.Ytpadfgomhojjnaa
