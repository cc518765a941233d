/- Texts of this work, laid together: a logic of steps, plain laws, and walks of Go functions, each without a condition but those that its theorems name. -/
import Derived.Test.YtpcpbfajadgmpaaKRulePlaces2
import Derived.Test.YtpcpbfajadgmpaaRows
/- Walks: what Go functions of this chapter come to, each as a function on plain data; no condition but those that each theorem names. Printed by a program of this work (gen.py). -/
namespace Go.Proofs.Ytpcpbfajadgmpaa
open Go.Gx Go.Gx.T1 Go.Gx.T3 Go.Gx.T4 Go.Gx.T3 Go.Gx.T5 Go.Gx.T1 Go.Gx.T8 Go.Gx.T6 Go.Gx.T4 Go.Gx.T3 Go.Gx.T6 Go.Gx.T8 Go.Gx.T4 Go.Gx.T3 Go.Gx.T8 Go.Gx.T4 Go.Gx.T3 Go.Gx.T8 Go.Gx.T6 Go.Gx.T4 Go.Gx.T3
theorem mixed : Try.prog.follows .mixedOrders = true := by
  kernel_rfl
theorem sz3 : SzIs Try.prog 3 1 := by
  unfold SzIs
  kernel_rfl
theorem sz23 : SzIs Try.prog 23 2 := by
  unfold SzIs
  kernel_rfl
theorem sz24 : SzIs Try.prog 24 6 := by
  unfold SzIs
  kernel_rfl
theorem sz25 : SzIs Try.prog 25 1 := by
  unfold SzIs
  kernel_rfl
theorem sz27 : SzIs Try.prog 27 8 := by
  unfold SzIs
  kernel_rfl
theorem sz55 : SzIs Try.prog 55 1 := by
  unfold SzIs
  kernel_rfl
theorem zr27 : ZeroIs Try.prog 27 (Value.agg #[Value.int .i64 0, Value.bool false, Value.int .i64 0, Value.bool false, Value.int .i64 0, Value.bool false, Value.int .i64 0, Value.slice none 0 0]) := by
  unfold ZeroIs
  kernel_rfl
theorem zr55 : ZeroIs Try.prog 55 (Value.slice none 0 0) := by
  unfold ZeroIs
  kernel_rfl
theorem lf23 : leafT Try.prog 9 23 = some [4, 3] := by
  kernel_rfl
theorem ef23 : eqT Try.prog 9 23 = true := by
  kernel_rfl
theorem eg23 : Try.prog.eqGuardType Try.prog.depth 23 = false := by
  kernel_rfl
theorem cl46 : Callable Try.prog 46 := callable Try.func46 (by kernel_rfl) rfl
theorem cl56 : Callable Try.prog 56 := callable Try.func56 (by kernel_rfl) rfl
theorem cl57 : Callable Try.prog 57 := callable Try.func57 (by kernel_rfl) rfl
theorem cl61 : Callable Try.prog 61 := callable Try.func61 (by kernel_rfl) rfl
theorem bl23_0b1_1i1 (x0 : Bool) (x1 : Int) : Program.built Try.prog 23 [(0, Value.bool x0), (1, Value.int .i64 x1)] = some #[Value.bool x0, Value.int .i64 x1] := by
  kernel_rfl
theorem bs3_10i2 (a0 : IntKind) (a1 : Int) : Instr.fill (fun i => some (i * 1, 1)) ((Array.range (1 * 1)).map ((Value.int .i64 0).cells[· % (Value.int .i64 0).cells.size]!)) [(0, Value.int a0 a1)] = some #[Value.int a0 a1] := by
  kernel_rfl
theorem bs57_10s3 (a0 : Option Addr) (a1 a2 : Nat) : Instr.fill (fun i => some (i * 1, 1)) ((Array.range (1 * 1)).map ((Value.slice none 0 0).cells[· % (Value.slice none 0 0).cells.size]!)) [(0, Value.slice a0 a1 a2)] = some #[Value.slice a0 a1 a2] := by
  kernel_rfl
theorem el3 : ElemIs Try.prog 3 1 8 (Value.int .i64 0) := by
  unfold ElemIs
  kernel_rfl
theorem el57 : ElemIs Try.prog 57 1 24 (Value.slice none 0 0) := by
  unfold ElemIs
  kernel_rfl
def WalkIs (n : Nat) : Prop := ∀ (vl vw : Value) (l : List CT) (v : Nat) (way : List Int) (p : Nat) (z0 : List (List Int × Value)) (G : Ghost) (F : Nat → Prop) (w : World), SizeOf.sizeOf l ≤ n → way.length + sizeL l ≤ 1000 → z0.length + sizeL l ≤ 3000 → Cs G vl l → SlL G vw 1 cI 0 way → WyC G z0 → Has G w → (outA 55 57 p (z0)).holds w F → (∀ b, F b → G b = none) → Calls Try.prog 46 #[vl, Value.int .i64 (v : Nat), vw, Value.pointer (some ⟨p, 0, none⟩)] w (Ret fun r w' => ∃ G' z', GNew w F G G' ∧ Has G' w' ∧ (r = .tuple #[] ∧ z'.map Prod.fst = z0.map Prod.fst ++ wysF l v way ∧ WyC G' z') ∧ KeptG (outA 55 57 p (z')) F G' w w')
theorem c_idxT (v : Value) (zs : List TT) (t : TT) {G : Ghost} (hr : SlL G v 2 tmC tt0 zs) (w : World) (hG : Has G w) :
    Calls Try.prog 61 #[v, Value.agg #[Value.bool t.1, Value.int .i64 t.2]] w (Ret fun r w' => r = Value.int .i64 (idxF (sameT t) zs 0) ∧ Since nX w w') := by
  refine enter (args := [_, _]) (X := nX) (G := G) (l := [(0, v), (1, Value.agg #[Value.bool t.1, Value.int .i64 t.2])]) Try.func61 rfl Try.ntmps61 hG ⟨rfl, rfl, trivial⟩ (Nat.le_of_ble_eq_true rfl) ?_
  have hbd := hr.bound
  refine c_seq ?_
  refine c_region ?_
  refine r_box .none rfl rfl (IsRow.lit _) (fun b_1 => ?_)
  refine r_val .none rfl (p_assign rfl) ?_
  refine r_nil ?_
  refine e_next ?_
  refine c_seq ?_
  refine c_seq ?_
  refine c_region ?_
  refine r_val .none rfl (p_move rfl) ?_
  refine r_val .none rfl (p_leng Try.underlying88 rfl hr) ?_
  have bd_1 := (hr).bound
  refine r_val .none rfl (p_move rfl) ?_
  refine r_nil ?_
  refine e_next ?_
  refine c_block ?_
  refine c_name (d := 0) rfl (fun u_2 hu_2 => ?_)
  refine c_name (d := 3) rfl (fun u_3 hu_3 => ?_)
  refine c_name (d := 7) rfl (fun u_4 hu_4 => ?_)
  refine c_nameL (k := 0) rfl (fun A_5 hA_5 => ?_)
  refine c_loop (σ := Nat) (fun k => [(8, Value.int .i64 (k : Nat)), (0, u_2), (3, u_3), (7, u_4)]) (fun k => [A_5]) (fun _ => _) (fun k => k ≤ zs.length ∧ idxF (sameT t) (zs.drop k) k = idxF (sameT t) zs 0) (fun k => zs.length - k) (0) ⟨Nat.zero_le _, rfl⟩ rfl ⟨rfl, rfl, rfl, rfl, trivial⟩ (.keep (fun _ _ h => h) (.nil)) (fun k hphi => ?_)
  subst hu_2
  subst hu_3
  subst hu_4
  subst hA_5
  refine c_seq ?_
  refine c_region ?_
  refine r_val .none rfl (p_lt rfl rfl) ?_
  refine r_nil ?_
  refine e_next ?_
  refine c_seq ?_
  refine c_splitd (d := 9) rfl (fun h_6 => ?_) (fun h_6 => ?_)
  · skip
    first
      | (exfalso; omega)
      | (
        refine c_cond_t rfl ?_
        refine c_skip ?_
        refine e_next ?_
        refine c_seq ?_
        refine c_block ?_
        refine c_seq ?_
        refine c_region ?_
        refine r_val .none rfl (p_move rfl) ?_
        refine r_val .none rfl (p_assign rfl) ?_
        refine r_nil ?_
        refine e_next ?_
        refine c_seq ?_
        refine c_region_q mixed (by kernel_rfl) ?_
        refine q_val .none rfl (p_ldw (k := 0) Try.underlying23 rfl sz23 rfl rfl (rfl : _ = Value.agg #[_, _])) ?_
        refine q_val .none rfl (p_move rfl) ?_
        refine q_val .none rfl (p_move rfl) ?_
        refine q_iaddr_g .none rfl Try.underlying88 sz23 rfl hr rfl (by first | exact of_decide_eq_true rfl | omega) (fun p_8 o_9 R_7 => ?_)
        refine q_val .none rfl (p_ldga0 Try.underlying23 rfl sz23 rfl R_7 (by first | exact of_decide_eq_true rfl | omega) (rfl : _ = Value.agg #[_, _])) ?_
        refine q_val .none rfl (p_eqa rfl rfl (eq_flat Try.underlying23 rfl lf23 ef23 eg23 (.cons (.bool Try.underlying4) (.cons (.int Try.underlying3) (.nil))) (.cons (.bool Try.underlying4) (.cons (.int Try.underlying3) (.nil))))) ?_
        refine q_nil ?_
        refine e_next ?_
        refine c_split (d := 16) rfl (fun h_10 => ?_) (fun h_10 => ?_)
        · skip
          have hE : sameT t (zs.getD k tt0) = true := h_10
          first
            | (exfalso; omega)
            | (
              refine c_cond_t rfl ?_
              refine c_seq ?_
              refine c_region ?_
              refine r_val .none rfl (p_move rfl) ?_
              refine r_val .none rfl (p_assign rfl) ?_
              refine r_nil ?_
              refine e_next ?_
              refine c_ret ?_
              refine e_ret_block ?_
              refine e_ret_then ?_
              refine e_ret_then ?_
              refine e_ret_block ?_
              refine e_ret_then ?_
              refine e_ret1 Try.results61 (.tmp rfl .nil) (fun w hm => ⟨?_, hm.since⟩)
              first
              | (rw [← hphi.2, idxF_yes (d := tt0) (by omega) hE])
              | (rw [← hphi.2, List.drop_eq_nil_of_le (by omega)]; rfl)
              )
        · skip
          have hE : sameT t (zs.getD k tt0) = false := h_10
          first
            | (exfalso; omega)
            | (
              refine c_cond_f rfl ?_
              refine c_skip ?_
              refine e_norm_block ?_
              refine e_next ?_
              refine c_region ?_
              refine r_val .none rfl (p_add rfl rfl (by omega)) ?_
              refine r_val .none rfl (p_move rfl) ?_
              refine r_nil ?_
              refine e_round (k + 1) ⟨⟨by omega, by rw [← hphi.2, idxF_no (d := tt0) (by omega) hE]⟩, by omega⟩ rfl ⟨rfl, rfl, rfl, rfl, trivial⟩ (.keep (fun _ _ h => h) (.nil))
              )
        )
  · skip
    first
      | (exfalso; omega)
      | (
        refine c_cond_f rfl ?_
        refine c_exit ?_
        refine e_exit_then ?_
        refine e_exit_then ?_
        refine e_exit_block ?_
        refine e_next ?_
        refine c_seq ?_
        refine c_region ?_
        refine r_val .none rfl (p_assign rfl) ?_
        refine r_nil ?_
        refine e_next ?_
        refine c_ret ?_
        refine e_ret1 Try.results61 (.tmp rfl .nil) (fun w hm => ⟨?_, hm.since⟩)
        first
        | (rw [← hphi.2, idxF_yes (d := tt0) (by omega) hE])
        | (rw [← hphi.2, List.drop_eq_nil_of_le (by omega)]; rfl)
        )
theorem c_cloneI_a (a : Option Addr) (cap : Nat) (rs : List (Int)) {G : Ghost} (hr : SlL G (Value.slice a rs.length cap) 1 cI (0 : Int) rs) (hlen : rs.length ≤ 1000) (w : World) (hG : Has G w) :
    Calls Try.prog 56 #[Value.slice a rs.length cap] w (Ret fun r w' => Since nX w w' ∧ ∃ F', (rowA r 3 1 (rs).length ((rs).flatMap cI)).holds w' F' ∧ ∀ b, F' b → w.heap.size ≤ b) := by
  refine enter (args := [_]) (X := nX) (G := G) (l := [(0, Value.slice a rs.length cap)]) Try.func56 rfl Try.ntmps56 hG ⟨rfl, trivial⟩ (Nat.le_of_ble_eq_true rfl) ?_
  refine c_seq ?_
  refine c_region ?_
  refine r_val .none rfl (p_assign rfl) ?_
  refine r_nil ?_
  refine e_next ?_
  refine c_seq ?_
  refine c_seq ?_
  refine c_region ?_
  refine r_val .none rfl (p_move rfl) ?_
  refine r_val .none rfl (p_eqnil Try.underlying57 rfl rfl) ?_
  refine r_nil ?_
  refine e_next ?_
  refine c_split (d := 4) rfl (fun h_1 => ?_) (fun h_1 => ?_)
  · skip
    have hrs : rs = [] := by cases a with | none => exact nil_rs hr | some x => cases h_1
    refine c_cond_t rfl ?_
    refine c_seq ?_
    refine c_region ?_
    refine r_val .none rfl (p_assign rfl) ?_
    refine r_nilrow 3 1 ?_
    refine r_nil ?_
    refine e_next ?_
    refine c_ret ?_
    refine e_ret_then ?_
    refine e_ret1 Try.results56 (.tmp rfl .nil) (fun w hm => hm.made [rowA (.slice none 0 0) 3 1 (rs).length ((rs).flatMap cI)] (.keep (fun _ _ h => rowA_congr (by rw [hrs]; rfl) (by rw [hrs]; rfl) _ _ h) (.nil)) _ (fun F' h => starL_one h))
  · skip
    refine c_cond_f rfl ?_
    refine c_skip ?_
    refine e_next ?_
    refine c_seq ?_
    refine c_region ?_
    refine r_bslice0 .none rfl Try.underlying57 el3 (fun v_2 => ?_)
    refine r_val .none rfl (p_move rfl) ?_
    refine r_append_g (k := 0) .none rfl Try.underlying57 el3 rfl (by decide) rfl rfl rfl hr (fun _ _ _ hj => one_lit rfl rfl _ hj) (by simp only [maxLen]; omega) (by omega) (fun v_3 => ?_)
    refine r_row1 (k := 0) rfl (fun o_4 => ?_)
    refine r_val .none rfl (p_assign rfl) ?_
    refine r_nil ?_
    refine e_next ?_
    refine c_ret ?_
    refine e_ret1 Try.results56 (.tmp rfl .nil) (fun w hm => hm.made [rowA v_3 3 1 (rs).length ((rs).flatMap cI)] (.keep (fun _ _ h => rowA_congr (by omega) (by rw [flat_all (cells := cI) (fun _ => rfl)]; rfl) _ _ h) (.nil)) _ (fun F' h => starL_one h))
theorem c_cloneI (v : Value) (rs : List (Int)) {G : Ghost} (hr : SlL G v 1 cI (0 : Int) rs) (hlen : rs.length ≤ 1000) (w : World) (hG : Has G w) : Calls Try.prog 56 #[v] w (Ret fun r w' => Since nX w w' ∧ ∃ F', (rowA r 3 1 (rs).length ((rs).flatMap cI)).holds w' F' ∧ ∀ b, F' b → w.heap.size ≤ b) := by
  obtain ⟨a, cap, rfl⟩ := SlG.len hr
  exact c_cloneI_a a cap rs hr hlen w hG
theorem c_cloneIM (v : Value) (rs : List (Int)) {G : Ghost} (hr : SlL G v 1 cI (0 : Int) rs) (hlen : rs.length ≤ 1000) (w : World) (hG : Has G w) : Calls Try.prog 56 #[v] w (Ret fun r w' => ∃ G2, GNew w nX G G2 ∧ Has G2 w' ∧ SlL G2 r 1 cI (0 : Int) rs ∧ Since nX w w') := by
  refine (c_cloneI v rs hr hlen w hG).mono (fun e w' hR => ?_)
  cases e with
  | returned r =>
    obtain ⟨G2, h1, h2, h3, h4⟩ := row_mem hG hR
    exact ⟨G2, h1, h2, SlL.of (0 : Int) (fun _ => rfl) rfl h3, h4⟩
  | panicked c => exact hR.elim
  | outgrown => exact hR.elim
theorem c_ctT (v : Value) (zs : List TT) (t : TT) {G : Ghost} (hr : SlL G v 2 tmC tt0 zs) (w : World) (hG : Has G w) :
    Calls Try.prog 57 #[v, Value.agg #[Value.bool t.1, Value.int .i64 t.2]] w (Ret fun r w' => r = Value.bool (decide (0 ≤ idxF (sameT t) zs 0)) ∧ Since nX w w') := by
  refine enter (args := [_, _]) (X := nX) (G := G) (l := [(0, v), (1, Value.agg #[Value.bool t.1, Value.int .i64 t.2])]) Try.func57 rfl Try.ntmps57 hG ⟨rfl, rfl, trivial⟩ (Nat.le_of_ble_eq_true rfl) ?_
  refine c_seq ?_
  refine c_region ?_
  refine r_box .none rfl rfl (IsRow.lit _) (fun b_1 => ?_)
  refine r_val .none rfl (p_assign rfl) ?_
  refine r_nil ?_
  refine e_next ?_
  refine c_seq ?_
  refine c_region ?_
  refine r_val .none rfl (p_move rfl) ?_
  refine r_val .none rfl (p_ldw (k := 0) Try.underlying23 rfl sz23 rfl rfl (rfl : _ = Value.agg #[_, _])) ?_
  refine r_call (vs := [_, _]) .none rfl cl61 rfl (fun w hw => c_idxT _ zs t hr w hw) ?_
  refine r_val .none rfl (p_ge rfl rfl) ?_
  refine r_val .none rfl (p_assign rfl) ?_
  refine r_nil ?_
  refine e_next ?_
  refine c_ret ?_
  refine e_ret1 Try.results57 (.tmp rfl .nil) (fun w hm => ⟨?_, hm.since⟩)
  rfl
theorem c_eqI (v v2 : Value) (a b : List Int) {G : Ghost} (hr : SlL G v 1 cI 0 a) (hr2 : SlL G v2 1 cI 0 b) (w : World) (hG : Has G w) :
    Calls Try.prog 54 #[v, v2] w (Ret fun r w' => r = Value.bool (decide (a = b)) ∧ Since nX w w') := by
  refine enter (args := [_, _]) (X := nX) (G := G) (l := [(0, v), (1, v2)]) Try.func54 rfl Try.ntmps54 hG ⟨rfl, rfl, trivial⟩ (Nat.le_of_ble_eq_true rfl) ?_
  have hbd := hr.bound
  have hbd2 := hr2.bound
  refine c_seq ?_
  refine c_region ?_
  refine r_val .none rfl (p_assign rfl) ?_
  refine r_nil ?_
  refine e_next ?_
  refine c_seq ?_
  refine c_seq ?_
  refine c_region ?_
  refine r_val .none rfl (p_move rfl) ?_
  refine r_val .none rfl (p_leng Try.underlying57 rfl hr) ?_
  have bd_1 := (hr).bound
  refine r_val .none rfl (p_move rfl) ?_
  refine r_val .none rfl (p_leng Try.underlying57 rfl hr2) ?_
  have bd_2 := (hr2).bound
  refine r_val .none rfl (p_ne rfl rfl) ?_
  refine r_nil ?_
  refine e_next ?_
  refine c_splitd (d := 10) rfl (fun h_3 => ?_) (fun h_3 => ?_)
  · skip
    first
      | (exfalso; omega)
      | (
        refine c_cond_t rfl ?_
        refine c_seq ?_
        refine c_region ?_
        refine r_val .none rfl (p_assign rfl) ?_
        refine r_nil ?_
        refine e_next ?_
        refine c_ret ?_
        refine e_ret_then ?_
        refine e_ret1 Try.results54 (.tmp rfl .nil) (fun w hm => ⟨?_, hm.since⟩)
        first
        | exact congrArg Value.bool (decide_eq_false (ne_of_len (by omega))).symm
        | exact congrArg Value.bool (decide_eq_false (ne_of_get hE)).symm
        | (have hk := hphi.2.2; rw [List.take_of_length_le (by omega), List.take_of_length_le (by omega)] at hk; exact congrArg Value.bool (decide_eq_true hk).symm)
        )
  · skip
    first
      | (exfalso; omega)
      | (
        refine c_cond_f rfl ?_
        refine c_skip ?_
        refine e_next ?_
        refine c_seq ?_
        refine c_seq ?_
        refine c_region ?_
        refine r_val .none rfl (p_move rfl) ?_
        refine r_val .none rfl (p_leng Try.underlying57 rfl hr) ?_
        have bd_4 := (hr).bound
        refine r_val .none rfl (p_move rfl) ?_
        refine r_nil ?_
        refine e_next ?_
        refine c_block ?_
        refine c_name (d := 0) rfl (fun u_5 hu_5 => ?_)
        refine c_name (d := 1) rfl (fun u_6 hu_6 => ?_)
        refine c_name (d := 12) rfl (fun u_7 hu_7 => ?_)
        refine c_loop (σ := Nat) (fun k => [(13, Value.int .i64 (k : Nat)), (0, u_5), (1, u_6), (12, u_7)]) (fun k => []) (fun _ => _) (fun k => k ≤ a.length ∧ a.length = b.length ∧ a.take k = b.take k) (fun k => a.length - k) (0) ⟨Nat.zero_le _, by omega, rfl⟩ rfl ⟨rfl, rfl, rfl, rfl, trivial⟩ (.nil) (fun k hphi => ?_)
        subst hu_5
        subst hu_6
        subst hu_7
        refine c_seq ?_
        refine c_region ?_
        refine r_val .none rfl (p_lt rfl rfl) ?_
        refine r_nil ?_
        refine e_next ?_
        refine c_seq ?_
        refine c_splitd (d := 14) rfl (fun h_8 => ?_) (fun h_8 => ?_)
        · skip
          first
            | (exfalso; omega)
            | (
              refine c_cond_t rfl ?_
              refine c_skip ?_
              refine e_next ?_
              refine c_seq ?_
              refine c_block ?_
              refine c_seq ?_
              refine c_region ?_
              refine r_val .none rfl (p_move rfl) ?_
              refine r_val .none rfl (p_assign rfl) ?_
              refine r_nil ?_
              refine e_next ?_
              refine c_seq ?_
              refine c_region_q mixed (by kernel_rfl) ?_
              refine q_val .none rfl (p_move rfl) ?_
              refine q_val .none rfl (p_move rfl) ?_
              refine q_iaddr_g .none rfl Try.underlying57 sz3 rfl hr rfl (by first | exact of_decide_eq_true rfl | omega) (fun p_10 o_11 R_9 => ?_)
              refine q_val .none rfl (p_ldg0 Try.underlying3 rfl rfl R_9 (by first | exact of_decide_eq_true rfl | omega) (rfl : _ = Value.int _ _)) ?_
              refine q_val .none rfl (p_move rfl) ?_
              refine q_val .none rfl (p_move rfl) ?_
              refine q_iaddr_g .none rfl Try.underlying57 sz3 rfl hr2 rfl (by first | exact of_decide_eq_true rfl | omega) (fun p_13 o_14 R_12 => ?_)
              refine q_val .none rfl (p_ldg0 Try.underlying3 rfl rfl R_12 (by first | exact of_decide_eq_true rfl | omega) (rfl : _ = Value.int _ _)) ?_
              refine q_val .none rfl (p_ne rfl rfl) ?_
              refine q_nil ?_
              refine e_next ?_
              refine c_splitd (d := 24) rfl (fun h_15 => ?_) (fun h_15 => ?_)
              · skip
                have hE : a.getD k 0 ≠ b.getD k 0 := h_15
                first
                  | (exfalso; omega)
                  | (
                    refine c_cond_t rfl ?_
                    refine c_seq ?_
                    refine c_region ?_
                    refine r_val .none rfl (p_assign rfl) ?_
                    refine r_nil ?_
                    refine e_next ?_
                    refine c_ret ?_
                    refine e_ret_block ?_
                    refine e_ret_then ?_
                    refine e_ret_then ?_
                    refine e_ret_block ?_
                    refine e_ret_then ?_
                    refine e_ret1 Try.results54 (.tmp rfl .nil) (fun w hm => ⟨?_, hm.since⟩)
                    first
                    | exact congrArg Value.bool (decide_eq_false (ne_of_len (by omega))).symm
                    | exact congrArg Value.bool (decide_eq_false (ne_of_get hE)).symm
                    | (have hk := hphi.2.2; rw [List.take_of_length_le (by omega), List.take_of_length_le (by omega)] at hk; exact congrArg Value.bool (decide_eq_true hk).symm)
                    )
              · skip
                have hE : a.getD k 0 = b.getD k 0 := Decidable.not_not.1 (h_15)
                first
                  | (exfalso; omega)
                  | (
                    refine c_cond_f rfl ?_
                    refine c_skip ?_
                    refine e_norm_block ?_
                    refine e_next ?_
                    refine c_region ?_
                    refine r_val .none rfl (p_add rfl rfl (by omega)) ?_
                    refine r_val .none rfl (p_move rfl) ?_
                    refine r_nil ?_
                    refine e_round (k + 1) ⟨⟨by omega, hphi.2.1, take_eq_succ (d := 0) (by omega) (by omega) hphi.2.2 hE⟩, by omega⟩ rfl ⟨rfl, rfl, rfl, rfl, trivial⟩ (.nil)
                    )
              )
        · skip
          first
            | (exfalso; omega)
            | (
              refine c_cond_f rfl ?_
              refine c_exit ?_
              refine e_exit_then ?_
              refine e_exit_then ?_
              refine e_exit_block ?_
              refine e_next ?_
              refine c_seq ?_
              refine c_region ?_
              refine r_val .none rfl (p_assign rfl) ?_
              refine r_nil ?_
              refine e_next ?_
              refine c_ret ?_
              refine e_ret1 Try.results54 (.tmp rfl .nil) (fun w hm => ⟨?_, hm.since⟩)
              first
              | exact congrArg Value.bool (decide_eq_false (ne_of_len (by omega))).symm
              | exact congrArg Value.bool (decide_eq_false (ne_of_get hE)).symm
              | (have hk := hphi.2.2; rw [List.take_of_length_le (by omega), List.take_of_length_le (by omega)] at hk; exact congrArg Value.bool (decide_eq_true hk).symm)
              )
        )
theorem c_walk_s (n : Nat) (ih : WalkIs n) (vl vw : Value) (l : List CT) (v : Nat) (way : List Int) (p : Nat) (z0 : List (List Int × Value)) {G : Ghost} {F : Nat → Prop} (hz : SizeOf.sizeOf l ≤ n + 1) (hsz : way.length + sizeL l ≤ 1000) (hlz : z0.length + sizeL l ≤ 3000) (hs : Cs G vl l) (hwy : SlL G vw 1 cI 0 way) (hz0 : WyC G z0) (w : World) (hG : Has G w) (hA : (outA 55 57 p (z0)).holds w F) (hFG : ∀ b, F b → G b = none) :
    Calls Try.prog 46 #[vl, Value.int .i64 (v : Nat), vw, Value.pointer (some ⟨p, 0, none⟩)] w (Ret fun r w' => ∃ G' z', GNew w F G G' ∧ Has G' w' ∧ (r = .tuple #[] ∧ z'.map Prod.fst = z0.map Prod.fst ++ wysF l v way ∧ WyC G' z') ∧ KeptG (outA 55 57 p (z')) F G' w w') := by
  refine enterO (args := [_, _, _, _]) (G := G) (A := outA 55 57 p (z0)) (l := [(0, vl), (1, Value.int .i64 (v : Nat)), (2, vw), (3, Value.pointer (some ⟨p, 0, none⟩))]) Try.func46 rfl Try.ntmps46 hG hA hFG ⟨rfl, rfl, rfl, rfl, trivial⟩ (Nat.le_of_ble_eq_true rfl) ?_
  obtain ⟨rs, hr, hp, rfl⟩ := hs.inv
  have hbd := hr.bound
  refine c_seq ?_
  refine c_region ?_
  refine r_val .none rfl (p_move rfl) ?_
  refine r_val .none rfl (p_leng Try.underlying25 rfl hr) ?_
  have bd_1 := (hr).bound
  refine r_val .none rfl (p_move rfl) ?_
  refine r_nil ?_
  refine e_next ?_
  refine c_block ?_
  refine c_name (d := 1) rfl (fun u_2 hu_2 => ?_)
  refine c_name (d := 2) rfl (fun u_3 hu_3 => ?_)
  refine c_name (d := 3) rfl (fun u_4 hu_4 => ?_)
  refine c_name (d := 11) rfl (fun u_5 hu_5 => ?_)
  refine c_name (d := 12) rfl (fun u_6 hu_6 => ?_)
  refine c_loop (σ := Nat × List (List Int × Value) × Ghost) (fun s => [(13, Value.int .i64 (s.1 : Nat)), (1, u_2), (2, u_3), (3, u_4), (11, u_5), (12, u_6)]) (fun s => [outA 55 57 p (s.2.1)]) (fun s => s.2.2) (fun s => s.1 ≤ rs.length ∧ s.2.1.map Prod.fst = z0.map Prod.fst ++ wysF ((rs.map Prod.fst).take s.1) v way ∧ WyC s.2.2 s.2.1 ∧ GNew w F G s.2.2) (fun s => rs.length - s.1) ((0, z0, _)) ⟨Nat.zero_le _, by simp [ways_nil], hz0, GNew.refl _ _ _⟩ rfl ⟨rfl, rfl, rfl, rfl, rfl, rfl, trivial⟩ (.keep (fun _ _ h => h) (.nil)) (fun s hphi => ?_)
  subst hu_2
  subst hu_3
  subst hu_4
  subst hu_5
  subst hu_6
  obtain ⟨k, z, H⟩ := s
  obtain ⟨hk, hzq, hzc, hgn⟩ := hphi
  dsimp only at hk hzq hzc hgn ⊢
  have hzl : z.length = z0.length + (wysF ((rs.map Prod.fst).take k) v way).length := by have := congrArg List.length hzq; simpa using this
  have hcl := ways_len ((rs.map Prod.fst).take k) v way
  have hst0 := sizeL_take_le (rs.map Prod.fst) k
  have hll := sizeL_len (rs.map Prod.fst)
  rw [List.length_map] at hll
  replace hr := hr.mono hgn.le
  replace hwy := hwy.mono hgn.le
  replace hp := fun p hm0 => (hp p hm0).mono hgn.le
  refine c_seq ?_
  refine c_region ?_
  refine r_val .none rfl (p_lt rfl rfl) ?_
  refine r_nil ?_
  refine e_next ?_
  refine c_seq ?_
  refine c_splitd (d := 14) rfl (fun h_7 => ?_) (fun h_7 => ?_)
  · skip
    first
      | (exfalso; omega)
      | (
        refine c_cond_t rfl ?_
        refine c_skip ?_
        refine e_next ?_
        refine c_seq ?_
        refine c_block ?_
        refine c_seq ?_
        refine c_region ?_
        refine r_val .none rfl (p_move rfl) ?_
        refine r_iaddr_g .none rfl Try.underlying25 sz27 rfl hr rfl (by first | exact of_decide_eq_true rfl | omega) (fun p_9 o_10 R_8 => ?_)
        have hc_11 := hp _ (getD_mem (i := k) (d := d0) (by omega))
        have hkl := sizeL_len ((rs.map Prod.fst).take k)
        rw [List.length_take, List.length_map] at hkl
        have hsk := sizeL_take (rs := rs) (k := k) (by omega)
        have hsk2 := sizeL_take_le (rs.map Prod.fst) (k + 1)
        have hsq := size_eq (rs.getD k d0).1
        refine r_val .none rfl (p_ldga0 Try.underlying27 rfl sz27 rfl R_8 (by first | exact of_decide_eq_true rfl | omega) (rfl : _ = Value.agg #[_, _, _, _, _, _, _, _])) ?_
        refine r_alloc .none rfl zr27 (IsRow.lit _) (fun b_1 => ?_)
        refine r_val .none rfl (p_assign rfl) ?_
        refine r_stw (k := 0) .none sz27 rfl rfl (IsRow.lit _) (one_lit rfl (all_cons rfl (all_cons rfl (all_cons rfl (all_cons rfl (all_cons rfl (all_cons rfl (all_cons rfl (all_cons (hc_11).one rfl))))))))) rfl ?_
        refine r_nil ?_
        refine e_next ?_
        refine c_seq ?_
        refine c_region ?_
        refine r_val .none rfl (p_move rfl) ?_
        refine r_callrow (vs := [_]) .none rfl cl56 rfl (fun w hw => c_cloneI _ way hwy (by omega) w hw) (fun v_12 => ?_)
        refine r_val .none rfl (p_move rfl) ?_
        refine r_bslice (vs := [(0, Value.int _ _)]) (c := #[_]) .none rfl Try.underlying57 el3 rfl rfl rfl (bs3_10i2 _ _) (IsRow.lit _) (fun b_2 => ?_)
        refine r_append (k := 1) (k2 := 0) .none rfl Try.underlying57 el3 rfl (by decide) rfl rfl rfl rfl rfl (one_lit rfl rfl) (by simp only [maxLen]; omega) (by omega) (fun v_13 => ?_)
        refine r_row1 (k := 1) rfl (fun o_14 => ?_)
        refine r_val .none rfl (p_assign rfl) ?_
        refine r_nil ?_
        refine e_next ?_
        refine c_seq ?_
        refine c_seq ?_
        refine c_region ?_
        refine r_freeze (k := 1) rfl (fun G_15 hn_16 hs_17 => ?_)
        replace hr := hr.mono hn_16.le
        replace hwy := hwy.mono hn_16.le
        replace hp := fun p hm0 => (hp p hm0).mono hn_16.le
        replace hzc := WyC.mono hzc hn_16.le
        replace R_8 := R_8.mono hn_16.le
        replace hc_11 := hc_11.mono hn_16.le
        have hs2 : SlL G_15 v_13 1 cI 0 (way ++ [((k : Nat) : Int)]) := SlL.of2 0 (fun _ => rfl) (by simp) (by rw [List.flatMap_append, List.flatMap_cons, List.flatMap_nil, List.append_nil]; rfl) hs_17
        refine r_val .none rfl (p_field Try.underlying27 rfl sz3 rfl) ?_
        refine r_val .none rfl (p_ld (k := 1) Try.underlying3 rfl rfl rfl (by first | exact of_decide_eq_true rfl | omega) (rfl : _ = Value.int _ _)) ?_
        refine r_val .none rfl (p_eq rfl rfl) ?_
        refine r_nil ?_
        refine e_next ?_
        refine c_splitd (d := 25) rfl (fun h_18 => ?_) (fun h_18 => ?_)
        · skip
          have hk3 := h_18
          first
            | (exfalso; omega)
            | (
              refine c_cond_t rfl ?_
              refine c_seq ?_
              refine c_region ?_
              refine r_val .none rfl (p_field Try.underlying27 rfl sz25 rfl) ?_
              refine r_val .none rfl (p_ld (k := 1) Try.underlying25 rfl rfl rfl (by first | exact of_decide_eq_true rfl | omega) rfl) ?_
              refine r_val .none rfl (p_move rfl) ?_
              refine r_val .none rfl (p_move rfl) ?_
              refine r_val .none rfl (p_move rfl) ?_
              refine r_callox (k := 2) (vs := [_, _, _, _]) .none rfl cl46 rfl rfl (fun w F hw hA hFG => ih _ _ _ _ _ _ _ _ _ w (Nat.le_of_lt_succ (Nat.lt_of_lt_of_le (sub_size5 (by omega)) hz)) (by rw [List.length_append, List.length_singleton]; omega) (by omega) hc_11 hs2 hzc hw hA hFG) (fun G_19 v_22 z_24 hn_20 hr_21 => ?_)
              replace hr := hr.mono hn_20.le
              replace hwy := hwy.mono hn_20.le
              replace hp := fun p hm0 => (hp p hm0).mono hn_20.le
              replace hzc := WyC.mono hzc hn_20.le
              replace R_8 := R_8.mono hn_20.le
              replace hc_11 := hc_11.mono hn_20.le
              replace hs2 := hs2.mono hn_20.le
              obtain ⟨-, u_23q, u_23c⟩ := hr_21
              refine r_nil ?_
              refine e_next ?_
              refine c_exit ?_
              refine e_exit_then ?_
              refine e_exit_block ?_
              refine e_next ?_
              refine c_region ?_
              refine r_val .none rfl (p_add rfl rfl (by omega)) ?_
              refine r_val .none rfl (p_move rfl) ?_
              refine r_nil ?_
              refine e_round ((k + 1, z_24, _)) ⟨⟨by dsimp only; omega, by rw [u_23q, hzq, ways_ncc (by omega) hk3, List.append_assoc], u_23c, ((hgn.trans hn_16).trans hn_20)⟩, by dsimp only; omega⟩ rfl ⟨rfl, rfl, rfl, rfl, rfl, rfl, trivial⟩ (.drop (.drop (.keep (fun _ _ h => h) (.nil))))
              )
        · skip
          have hk3 := h_18
          first
            | (exfalso; omega)
            | (
              refine c_cond_f rfl ?_
              refine c_skip ?_
              refine e_next ?_
              refine c_seq ?_
              refine c_region ?_
              refine r_freezeX (k := 1) rfl (fun G_25 hn_26 hR_27 => ?_)
              replace hr := hr.mono hn_26.le
              replace hwy := hwy.mono hn_26.le
              replace hp := fun p hm0 => (hp p hm0).mono hn_26.le
              replace hzc := WyC.mono hzc hn_26.le
              replace R_8 := R_8.mono hn_26.le
              replace hc_11 := hc_11.mono hn_26.le
              replace hs2 := hs2.mono hn_26.le
              have hR_28 : RowAt G_25 b_1 0 8 (at_ [Value.int .i64 (rs.getD k d0).1.h.k, Value.bool (rs.getD k d0).1.h.v0, Value.int .i64 (rs.getD k d0).1.h.n0, Value.bool (rs.getD k d0).1.h.v1, Value.int .i64 (rs.getD k d0).1.h.n1, Value.bool (rs.getD k d0).1.h.v2, Value.int .i64 (rs.getD k d0).1.h.n2, (rs.getD k d0).2]) := RowAt.congr hR_27 (fun i hi => by match i, hi with | 0, _ => rfl | 1, _ => rfl | 2, _ => rfl | 3, _ => rfl | 4, _ => rfl | 5, _ => rfl | 6, _ => rfl | 7, _ => rfl)
              refine r_val .none rfl (p_field Try.underlying27 rfl sz24 rfl) ?_
              refine r_val .none rfl (p_slarr_all Try.underlying24 sz23 rfl (by decide)) ?_
              have hs_29 := slarr_g (n := 3) (m := 3) (sz := 2) (RowAt.sub (j := 1) (m := 6) hR_28 (by decide)) (by decide) (by decide)
              have hT := terms_all hs_29
              refine r_val .none rfl (p_move rfl) ?_
              refine r_val .none rfl (p_build (vs := [(0, Value.bool _), (1, Value.int _ _)]) rfl (bl23_0b1_1i1 _ _)) ?_
              refine r_call (vs := [_, _]) .none rfl cl57 rfl (fun w hw => c_ctT _ (termsL (rs.getD k d0).1.h) (true, ((v : Nat) : Int)) hT w hw) ?_
              refine r_nil ?_
              refine e_next ?_
              refine c_split (d := 36) rfl (fun h_30 => ?_) (fun h_30 => ?_)
              · skip
                have ho : ownV (rs.getD k d0).1.h v = true := terms_own.symm.trans h_30
                first
                  | (exfalso; omega)
                  | (
                    refine c_cond_t rfl ?_
                    refine c_region ?_
                    refine r_front (k := 1) rfl ?_
                    refine r_unpackout (fun ov => ?_)
                    refine r_row1 (k := 1) rfl (fun o1 => ?_)
                    refine r_val .none rfl (p_move rfl) ?_
                    refine r_val .none rfl (p_move rfl) ?_
                    refine r_val .none rfl (p_nilcheck rfl) ?_
                    refine r_val .none rfl (p_ld (k := 0) Try.underlying55 rfl rfl rfl (by first | exact of_decide_eq_true rfl | omega) rfl) ?_
                    refine r_val .none rfl (p_move rfl) ?_
                    obtain ⟨a_31, c_32, rfl⟩ := SlG.len hs2
                    refine r_bslice (vs := [(0, Value.slice _ _ _)]) (c := #[_]) .none rfl Try.underlying55 el57 rfl rfl rfl (bs57_10s3 _ _ _) (IsRow.lit _) (fun b_3 => ?_)
                    refine r_append (k := 2) (k2 := 0) .none rfl Try.underlying55 el57 rfl (by decide) rfl rfl rfl rfl rfl (one_lit rfl rfl) (by simp only [maxLen]; omega) (by omega) (fun v_33 => ?_)
                    refine r_row1 (k := 2) rfl (fun o_34 => ?_)
                    refine r_val .none rfl (p_nilcheck rfl) ?_
                    refine r_st (k := 1) .none sz55 rfl rfl o_34 rfl (by first | exact of_decide_eq_true rfl | omega) ?_
                    refine r_front (k := 1) rfl ?_
                    refine r_front (k := 2) rfl ?_
                    refine r_packout (rs := z ++ [(way ++ [((k : Nat) : Int)], Value.slice a_31 (way ++ [((k : Nat) : Int)]).length c_32)]) rfl (by simp) (by rw [List.flatMap_append]; rfl) ?_
                    refine r_nil ?_
                    refine e_norm_block ?_
                    refine e_next ?_
                    refine c_region ?_
                    refine r_val .none rfl (p_add rfl rfl (by omega)) ?_
                    refine r_val .none rfl (p_move rfl) ?_
                    refine r_nil ?_
                    refine e_round ((k + 1, z ++ [(way ++ [((k : Nat) : Int)], Value.slice a_31 (way ++ [((k : Nat) : Int)]).length c_32)], _)) ⟨⟨by dsimp only; omega, by rw [List.map_append, hzq, ways_own (by omega) hk3 ho, List.append_assoc]; rfl, WyC.snoc hzc hs2, ((hgn.trans hn_16).trans hn_26)⟩, by dsimp only; omega⟩ rfl ⟨rfl, rfl, rfl, rfl, rfl, rfl, trivial⟩ (.keep (fun _ _ h => h) (.drop (.drop (.nil))))
                    )
              · skip
                have ho : ownV (rs.getD k d0).1.h v = false := terms_own.symm.trans h_30
                first
                  | (exfalso; omega)
                  | (
                    refine c_cond_f rfl ?_
                    refine c_skip ?_
                    refine e_norm_block ?_
                    refine e_next ?_
                    refine c_region ?_
                    refine r_val .none rfl (p_add rfl rfl (by omega)) ?_
                    refine r_val .none rfl (p_move rfl) ?_
                    refine r_nil ?_
                    refine e_round ((k + 1, z, _)) ⟨⟨by dsimp only; omega, by rw [hzq, ways_no (by omega) hk3 ho], hzc, ((hgn.trans hn_16).trans hn_26)⟩, by dsimp only; omega⟩ rfl ⟨rfl, rfl, rfl, rfl, rfl, rfl, trivial⟩ (.drop (.keep (fun _ _ h => h) (.nil)))
                    )
              )
        )
  · skip
    first
      | (exfalso; omega)
      | (
        refine c_cond_f rfl ?_
        refine c_exit ?_
        refine e_exit_then ?_
        refine e_exit_then ?_
        refine e_exit_block ?_
        refine e_end0 Try.results46 (fun w hm => ⟨_, z, hgn, hm.has, ⟨rfl, by rw [hzq, List.take_of_length_le (by simp; omega)], hzc⟩, hm.keptG [outA _ _ p z] (.keep (fun _ _ h => h) (.nil)) (outA _ _ p z) (fun F' h => starL_one h)⟩)
        )
theorem c_walk_n : ∀ n, WalkIs n
  | 0 => fun vl vw l v way p z0 G F w hz _ _ _ _ _ _ _ _ => absurd hz (by cases l <;> simp)
  | n + 1 => fun vl vw l v way p z0 G F w hz hsz hlz hs hwy hz0 hG hA hFG => c_walk_s n (c_walk_n n) vl vw l v way p z0 hz hsz hlz hs hwy hz0 w hG hA hFG
theorem c_walk (vl vw : Value) (l : List CT) (v : Nat) (way : List Int) (p : Nat) (z0 : List (List Int × Value)) {G : Ghost} {F : Nat → Prop} (hsz : way.length + sizeL l ≤ 1000) (hlz : z0.length + sizeL l ≤ 3000) (hs : Cs G vl l) (hwy : SlL G vw 1 cI 0 way) (hz0 : WyC G z0) (w : World) (hG : Has G w) (hA : (outA 55 57 p (z0)).holds w F) (hFG : ∀ b, F b → G b = none) : Calls Try.prog 46 #[vl, Value.int .i64 (v : Nat), vw, Value.pointer (some ⟨p, 0, none⟩)] w (Ret fun r w' => ∃ G' z', GNew w F G G' ∧ Has G' w' ∧ (r = .tuple #[] ∧ z'.map Prod.fst = z0.map Prod.fst ++ wysF l v way ∧ WyC G' z') ∧ KeptG (outA 55 57 p (z')) F G' w w') := c_walk_n _ vl vw l v way p z0 G F w (Nat.le_refl _) hsz hlz hs hwy hz0 hG hA hFG
theorem c_places (nm : ByteArray) (cv : Value) (l : List CT) (v : Nat) {G : Ghost} (hsz : sizeL l ≤ 1000) (hs : Cs G cv l) (w : World) (hG : Has G w) :
    Calls Try.prog 26 #[Value.agg #[Value.string nm, cv], Value.int .i64 (v : Nat)] w (Ret fun r w' => ∃ G', GNew w nX G G' ∧ Has G' w' ∧ Ls (fun G v l => SlL G v 1 cI 0 l) ([] : List Int) G' r (wysF l v []) ∧ Since nX w w') := by
  refine enter (args := [_, _]) (X := nX) (G := G) (l := [(0, Value.agg #[Value.string nm, cv]), (1, Value.int .i64 (v : Nat))]) Try.func26 rfl Try.ntmps26 hG ⟨rfl, rfl, trivial⟩ (Nat.le_of_ble_eq_true rfl) ?_
  refine c_seq ?_
  refine c_region ?_
  refine r_box .none rfl rfl (IsRow.lit _) (fun b_1 => ?_)
  refine r_val .none rfl (p_assign rfl) ?_
  refine r_nil ?_
  refine e_next ?_
  refine c_seq ?_
  refine c_region ?_
  refine r_alloc .none rfl zr55 (IsRow.lit [_]) (fun b_2 => ?_)
  refine r_nil ?_
  refine e_next ?_
  refine c_seq ?_
  refine c_region ?_
  refine r_front (k := 0) rfl ?_
  refine r_nilrow 57 1 ?_
  refine r_packout (rs := ([] : List (List Int × Value))) rfl rfl rfl ?_
  refine r_val .none rfl (p_field Try.underlying46 rfl sz25 rfl) ?_
  refine r_val .none rfl (p_ld (k := 1) Try.underlying25 rfl rfl rfl (by first | exact of_decide_eq_true rfl | omega) rfl) ?_
  refine r_val .none rfl (p_move rfl) ?_
  refine r_callox (k := 0) (vs := [_, _, _, _]) .none rfl cl46 rfl rfl (fun w F hw hA hFG => c_walk _ _ l v [] _ [] (by simp; omega) (by simp; omega) hs (SlG.nil _ _ _) (by simp [WyC]) w hw hA hFG) (fun G_1 v_4 z_6 hn_2 hr_3 => ?_)
  replace hs := hs.mono hn_2.le
  obtain ⟨-, u_5q, u_5c⟩ := hr_3
  refine r_nil ?_
  refine e_next ?_
  refine c_seq ?_
  refine c_region ?_
  refine r_unpackout (fun ov => ?_)
  refine r_row1 (k := 1) rfl (fun o1 => ?_)
  refine r_val .none rfl (p_ld (k := 0) Try.underlying55 rfl rfl rfl (by first | exact of_decide_eq_true rfl | omega) rfl) ?_
  refine r_val .none rfl (p_assign rfl) ?_
  refine r_nil ?_
  refine e_next ?_
  refine c_ret ?_
  refine e_freeze (k := 1) rfl (fun G_7 hn_8 hs_9 => ?_)
  replace hs := hs.mono hn_8.le
  replace u_5c := WyC.mono u_5c hn_8.le
  refine e_ret1 Try.results26 (.tmp rfl .nil) (fun w hm => ⟨_, (hn_2.trans hn_8), hm.has, ?_, hm.since⟩)
  rw [show wysF l v [] = z_6.map Prod.fst by rw [u_5q]; rfl]
  exact Ls.mk _ (SlL.of (([] : List Int), Value.slice none 0 0) (fun _ => rfl) rfl hs_9) u_5c
end Go.Proofs.Ytpcpbfajadgmpaa

/- Walks: what Go functions of this chapter come to, each as a function on plain data; no condition but those that each theorem names. Printed by a program of this work (gen.py). -/
namespace Go.Proofs.Ytpcpbfajadgmpaa
open Go.Gx Go.Gx.T1 Go.Gx.T3 Go.Gx.T4 Go.Gx.T3 Go.Gx.T5 Go.Gx.T1 Go.Gx.T8 Go.Gx.T6 Go.Gx.T4 Go.Gx.T3 Go.Gx.T6 Go.Gx.T8 Go.Gx.T4 Go.Gx.T3 Go.Gx.T8 Go.Gx.T4 Go.Gx.T3 Go.Gx.T8 Go.Gx.T6 Go.Gx.T4 Go.Gx.T3
theorem sz46 : SzIs Try.prog 46 2 := by
  unfold SzIs
  kernel_rfl
theorem sz57 : SzIs Try.prog 57 1 := by
  unfold SzIs
  kernel_rfl
theorem zr57 : ZeroIs Try.prog 57 (Value.slice none 0 0) := by
  unfold ZeroIs
  kernel_rfl
theorem cl51 : Callable Try.prog 51 := callable Try.func51 (by kernel_rfl) rfl
theorem cl52 : Callable Try.prog 52 := callable Try.func52 (by kernel_rfl) rfl
theorem cl53 : Callable Try.prog 53 := callable Try.func53 (by kernel_rfl) rfl
theorem cl54 : Callable Try.prog 54 := callable Try.func54 (by kernel_rfl) rfl
theorem cl60 : Callable Try.prog 60 := callable Try.func60 (by kernel_rfl) rfl
theorem c_at5 (nm : ByteArray) (cv wv : Value) (l : List CT) (j : Nat) (wy : List Int) {G : Ghost} (hs : Cs G cv l) (hwy : SlL G wv 1 cI 0 ((j : Int) :: wy)) (hj : j < l.length) (hok : okW (l.getD j d0.1) wy) (w : World) (hG : Has G w) :
    Calls Try.prog 51 #[Value.agg #[Value.string nm, cv], wv] w (Ret fun r w' => ∃ G', GNew w nX G G' ∧ Has G' w' ∧ (∃ u, r = Value.agg #[Value.int .i64 (desc (l.getD j d0.1) wy).h.k, Value.bool (desc (l.getD j d0.1) wy).h.v0, Value.int .i64 (desc (l.getD j d0.1) wy).h.n0, Value.bool (desc (l.getD j d0.1) wy).h.v1, Value.int .i64 (desc (l.getD j d0.1) wy).h.n1, Value.bool (desc (l.getD j d0.1) wy).h.v2, Value.int .i64 (desc (l.getD j d0.1) wy).h.n2, u]) ∧ Since nX w w') := by
  refine enter (args := [_, _]) (X := nX) (G := G) (l := [(0, Value.agg #[Value.string nm, cv]), (1, wv)]) Try.func51 rfl Try.ntmps51 hG ⟨rfl, rfl, trivial⟩ (Nat.le_of_ble_eq_true rfl) ?_
  obtain ⟨rs, hr, hp, hl⟩ := hs.inv
  have hbd := hr.bound
  have hlr : l.length = rs.length := by rw [hl]; simp
  have hgd : l.getD j d0.1 = (rs.getD j d0).1 := by rw [hl]; simp only [List.getD, List.getElem?_map]; cases rs[j]? <;> rfl
  have hl1 : (((j : Nat) : Int) :: wy).length = wy.length + 1 := rfl
  refine c_seq ?_
  refine c_region ?_
  refine r_box .none rfl rfl (IsRow.lit _) (fun b_1 => ?_)
  refine r_alloc .none rfl zr27 (IsRow.lit _) (fun b_2 => ?_)
  refine r_nil ?_
  refine e_next ?_
  refine c_seq ?_
  refine c_region_d (fun _ => false) _ mixed (.keep (fun _ _ h => h) (.keep (fun _ _ h => h) (.nil))) ?_
  refine d_val1 0 rfl rfl (by kernel_rfl) (fun _ _ => rfl) .none rfl (p_field Try.underlying46 rfl sz25 rfl) ?_
  refine d_val1 1 rfl rfl (by kernel_rfl) (fun _ _ => rfl) .none rfl (p_ld (k := 1) Try.underlying25 rfl rfl rfl (by first | exact of_decide_eq_true rfl | omega) rfl) ?_
  refine d_val1 2 rfl rfl (by kernel_rfl) (fun _ _ => rfl) .none rfl (p_move rfl) ?_
  refine d_iaddr_g 3 (k := 0) rfl rfl (by kernel_rfl) (fun _ _ => rfl) .none rfl Try.underlying57 sz3 rfl hwy rfl (by first | exact of_decide_eq_true rfl | omega) (fun p_2 o_3 R_1 => ?_)
  refine d_val1 4 rfl rfl (by kernel_rfl) (fun _ _ => rfl) .none rfl (p_ldg0 Try.underlying3 rfl rfl R_1 (by first | exact of_decide_eq_true rfl | omega) (rfl : _ = Value.int .i64 ((j : Nat) : Int))) ?_
  refine d_iaddr_g 5 rfl rfl (by kernel_rfl) (fun _ _ => rfl) .none rfl Try.underlying25 sz27 rfl hr rfl (by first | exact of_decide_eq_true rfl | omega) (fun p_5 o_6 R_4 => ?_)
  have hc_7 := hp _ (getD_mem (i := j) (d := d0) (by omega))
  refine d_val1 6 rfl rfl (by kernel_rfl) (fun _ _ => rfl) .none rfl (p_ldga0 Try.underlying27 rfl sz27 rfl R_4 (by first | exact of_decide_eq_true rfl | omega) (rfl : _ = Value.agg #[_, _, _, _, _, _, _, _])) ?_
  refine d_eff 7 rfl (by kernel_rfl) (fun K_8 hKK_8 hcK_8 => ?_)
  refine r_alloc .none rfl zr27 (IsRow.lit _) (fun b_3 => ?_)
  refine r_nil (e_d (i := 7) (brk := (fun _ => false)) (ph' := true) hKK_8 hcK_8 rfl (fun _ => GLe.refl _) (fun _ => .drop (.keep (fun _ _ h => h) (.keep (fun _ _ h => h) (.nil)))) ?_)
  clear hKK_8 hcK_8 K_8
  refine d_eff 8 rfl (by kernel_rfl) (fun K_9 hKK_9 hcK_9 => ?_)
  refine r_stw (k := 0) .none sz27 rfl rfl (IsRow.lit _) (one_lit rfl (all_cons rfl (all_cons rfl (all_cons rfl (all_cons rfl (all_cons rfl (all_cons rfl (all_cons rfl (all_cons (hc_7).one rfl))))))))) rfl ?_
  refine r_nil (e_d (i := 8) (brk := (fun _ => false)) (ph' := true) hKK_9 hcK_9 rfl (fun _ => GLe.refl _) (fun _ => .drop (.keep (fun _ _ h => h) (.keep (fun _ _ h => h) (.nil)))) ?_)
  clear hKK_9 hcK_9 K_9
  refine d_nil (by kernel_rfl) ?_
  refine e_next ?_
  refine c_seq ?_
  refine c_seq ?_
  refine c_region ?_
  refine r_val .none rfl (p_move rfl) ?_
  refine r_slice (1) (_) (q' := .i64) .none rfl Try.underlying57 sz3 rfl hwy rfl rfl (by first | exact of_decide_eq_true rfl | omega) (by first | exact of_decide_eq_true rfl | omega) (fun v_10 hs_11 => ?_)
  refine r_val .none rfl (p_leng Try.underlying57 rfl hs_11) ?_
  have bd_13 := (hs_11).bound
  refine r_val .none rfl (p_move rfl) ?_
  refine r_nil ?_
  refine e_next ?_
  refine c_block ?_
  refine c_name (d := 4) rfl (fun u_14 hu_14 => ?_)
  refine c_name (d := 5) rfl (fun u_15 hu_15 => ?_)
  refine c_name (d := 16) rfl (fun u_16 hu_16 => ?_)
  refine c_name (d := 17) rfl (fun u_17 hu_17 => ?_)
  refine c_nameL (k := 1) rfl (fun A_18 hA_18 => ?_)
  refine c_nameL (k := 2) rfl (fun A_19 hA_19 => ?_)
  refine c_loop (σ := Nat × CT × Value) (fun s => [(18, Value.int .i64 (s.1 : Nat)), (4, u_14), (5, u_15), (16, u_16), (17, u_17)]) (fun s => [box b_3 8 27 (at_ [.int .i64 s.2.1.h.k, .bool s.2.1.h.v0, .int .i64 s.2.1.h.n0, .bool s.2.1.h.v1, .int .i64 s.2.1.h.n1, .bool s.2.1.h.v2, .int .i64 s.2.1.h.n2, s.2.2]), A_18, A_19]) (fun _ => _) (fun s => s.1 ≤ wy.length ∧ okW s.2.1 (wy.drop s.1) ∧ desc s.2.1 (wy.drop s.1) = desc (l.getD j d0.1) wy ∧ Cs G s.2.2 s.2.1.subs) (fun s => wy.length - s.1) ((0, (rs.getD j d0).1, (rs.getD j d0).2)) ⟨Nat.zero_le _, by dsimp only; rw [← hgd]; exact hok, by dsimp only; rw [← hgd]; rfl, hp _ (getD_mem (by omega))⟩ rfl ⟨rfl, rfl, rfl, rfl, rfl, trivial⟩ (.keep (fun _ _ h => box_congr (fun i hi => by match i, hi with | 0, _ => rfl | 1, _ => rfl | 2, _ => rfl | 3, _ => rfl | 4, _ => rfl | 5, _ => rfl | 6, _ => rfl | 7, _ => rfl) _ _ h) (.keep (fun _ _ h => h) (.keep (fun _ _ h => h) (.nil)))) (fun s hphi => ?_)
  subst hu_14
  subst hu_15
  subst hu_16
  subst hu_17
  subst hA_18
  subst hA_19
  obtain ⟨k, c, sv⟩ := s
  obtain ⟨hk, hok2, hds, hcs⟩ := hphi
  dsimp only at hk hok2 hds hcs ⊢
  obtain ⟨rs2, hr2, hp2, hl2⟩ := hcs.inv
  have hl3 : c.subs.length = rs2.length := by rw [hl2]; simp
  refine c_seq ?_
  refine c_region ?_
  refine r_val .none rfl (p_lt rfl rfl) ?_
  refine r_nil ?_
  refine e_next ?_
  refine c_seq ?_
  refine c_splitd (d := 19) rfl (fun h_20 => ?_) (fun h_20 => ?_)
  · skip
    first
      | (exfalso; omega)
      | (
        refine c_cond_t rfl ?_
        refine c_skip ?_
        refine e_next ?_
        refine c_seq ?_
        refine c_block ?_
        refine c_seq ?_
        refine c_region ?_
        refine r_iaddr_g .none rfl Try.underlying57 sz3 rfl hs_11 rfl (by first | exact of_decide_eq_true rfl | omega) (fun p_22 o_23 R_21 => ?_)
        refine r_val .none rfl (p_ldg0 Try.underlying3 rfl rfl R_21 (by first | exact of_decide_eq_true rfl | omega) (rfl : _ = Value.int _ _)) ?_
        have hnx := okW_next (show k < wy.length by omega) hok2
        obtain ⟨ix, hix⟩ : ∃ ix : Nat, wy.getD k 0 = (ix : Int) := ⟨(wy.getD k 0).toNat, by omega⟩
        refine r_say (d := 21) (v := Value.int .i64 ((ix : Nat) : Int)) (congrArg (fun x => some (Value.int .i64 x)) ((show (((j : Nat) : Int) :: wy).getD (1 + k) 0 = wy.getD k 0 by rw [Nat.add_comm]; rfl).trans hix)) ?_
        refine r_val .none rfl (p_assign rfl) ?_
        refine r_nil ?_
        refine e_next ?_
        refine c_region ?_
        refine r_val .none rfl (p_field Try.underlying27 rfl sz25 rfl) ?_
        refine r_val .none rfl (p_ld (k := 0) Try.underlying25 rfl rfl rfl (by first | exact of_decide_eq_true rfl | omega) rfl) ?_
        refine r_val .none rfl (p_move rfl) ?_
        refine r_iaddr_g .none rfl Try.underlying25 sz27 rfl hr2 rfl (by first | exact of_decide_eq_true rfl | omega) (fun p_25 o_26 R_24 => ?_)
        have hc_27 := hp2 _ (getD_mem (i := ix) (d := d0) (by omega))
        refine r_val .none rfl (p_ldga0 Try.underlying27 rfl sz27 rfl R_24 (by first | exact of_decide_eq_true rfl | omega) (rfl : _ = Value.agg #[_, _, _, _, _, _, _, _])) ?_
        refine r_stw (k := 0) .none sz27 rfl rfl (IsRow.lit _) (one_lit rfl (all_cons rfl (all_cons rfl (all_cons rfl (all_cons rfl (all_cons rfl (all_cons rfl (all_cons rfl (all_cons (hc_27).one rfl))))))))) rfl ?_
        refine r_nil ?_
        refine e_norm_block ?_
        refine e_next ?_
        refine c_region ?_
        refine r_val .none rfl (p_add rfl rfl (by omega)) ?_
        refine r_val .none rfl (p_move rfl) ?_
        refine r_nil ?_
        refine e_round ((k + 1, (rs2.getD ix d0).1, (rs2.getD ix d0).2)) ⟨⟨by dsimp only; omega, by dsimp only; rw [← sub_at hl2, show ix = (wy.getD k 0).toNat by omega]; exact hnx.2, by dsimp only; rw [← sub_at hl2, show ix = (wy.getD k 0).toNat by omega, ← desc_next (by omega)]; exact hds, hp2 _ (getD_mem (by omega))⟩, by dsimp only; omega⟩ rfl ⟨rfl, rfl, rfl, rfl, rfl, trivial⟩ (.keep (fun _ _ h => box_congr (fun i hi => by match i, hi with | 0, _ => rfl | 1, _ => rfl | 2, _ => rfl | 3, _ => rfl | 4, _ => rfl | 5, _ => rfl | 6, _ => rfl | 7, _ => rfl) _ _ h) (.keep (fun _ _ h => h) (.keep (fun _ _ h => h) (.nil))))
        )
  · skip
    first
      | (exfalso; omega)
      | (
        refine c_cond_f rfl ?_
        refine c_exit ?_
        refine e_exit_then ?_
        refine e_exit_then ?_
        refine e_exit_block ?_
        refine e_next ?_
        refine c_seq ?_
        refine c_region ?_
        refine r_val .none rfl (p_ldw (k := 0) Try.underlying27 rfl sz27 rfl rfl (rfl : _ = Value.agg #[_, _, _, _, _, _, _, _])) ?_
        refine r_stw (k := 1) .none sz27 rfl rfl (IsRow.lit _) (one_lit rfl (all_cons rfl (all_cons rfl (all_cons rfl (all_cons rfl (all_cons rfl (all_cons rfl (all_cons rfl (all_cons hcs.one rfl))))))))) rfl ?_
        refine r_nil ?_
        refine e_next ?_
        refine c_ret ?_
        refine e_ret1 Try.results51 (.cell (k := 1) rfl Try.underlying27 rfl sz27 rfl (rfl : _ = Value.agg #[_, _, _, _, _, _, _, _]) .nil) (fun w hm => ⟨_, (GNew.refl _ _ _), hm.has, ?_, hm.since⟩)
        refine ⟨sv, ?_⟩
        rw [← hds, List.drop_eq_nil_of_le (by omega)]
        rfl
        )
theorem c_idxW (v : Value) (zs : List (List Int × Value)) (g : Nat) (cv : Value) (pf : List Int × Value → Bool) {G : Ghost} (hr : SlL G v 1 lC es5 zs) (hcg : Callable Try.prog g) (hcl : ∀ x ∈ zs, ∀ (w : World), Has G w → Calls Try.prog g #[x.2, cv] w (Ret fun r w' => r = Value.bool (pf x) ∧ Since nX w w')) (w : World) (hG : Has G w) :
    Calls Try.prog 60 #[v, Value.func (.func g) #[] #[cv]] w (Ret fun r w' => r = Value.int .i64 (idxF pf zs 0) ∧ Since nX w w') := by
  refine enter (args := [_, _]) (X := nX) (G := G) (l := [(0, v), (1, Value.func (.func g) #[] #[cv])]) Try.func60 rfl Try.ntmps60 hG ⟨rfl, rfl, trivial⟩ (Nat.le_of_ble_eq_true rfl) ?_
  have hbd := hr.bound
  refine c_seq ?_
  refine c_region ?_
  refine r_val .none rfl (p_assign rfl) ?_
  refine r_nil ?_
  refine e_next ?_
  refine c_seq ?_
  refine c_seq ?_
  refine c_region ?_
  refine r_val .none rfl (p_move rfl) ?_
  refine r_val .none rfl (p_leng Try.underlying55 rfl hr) ?_
  have bd_1 := (hr).bound
  refine r_val .none rfl (p_move rfl) ?_
  refine r_nil ?_
  refine e_next ?_
  refine c_block ?_
  refine c_name (d := 0) rfl (fun u_2 hu_2 => ?_)
  refine c_name (d := 1) rfl (fun u_3 hu_3 => ?_)
  refine c_name (d := 7) rfl (fun u_4 hu_4 => ?_)
  refine c_loop (σ := Nat) (fun k => [(8, Value.int .i64 (k : Nat)), (0, u_2), (1, u_3), (7, u_4)]) (fun k => []) (fun _ => _) (fun k => k ≤ zs.length ∧ idxF pf (zs.drop k) k = idxF pf zs 0) (fun k => zs.length - k) (0) ⟨Nat.zero_le _, rfl⟩ rfl ⟨rfl, rfl, rfl, rfl, trivial⟩ (.nil) (fun k hphi => ?_)
  subst hu_2
  subst hu_3
  subst hu_4
  refine c_seq ?_
  refine c_region ?_
  refine r_val .none rfl (p_lt rfl rfl) ?_
  refine r_nil ?_
  refine e_next ?_
  refine c_seq ?_
  refine c_splitd (d := 9) rfl (fun h_5 => ?_) (fun h_5 => ?_)
  · skip
    first
      | (exfalso; omega)
      | (
        refine c_cond_t rfl ?_
        refine c_skip ?_
        refine e_next ?_
        refine c_seq ?_
        refine c_block ?_
        refine c_seq ?_
        refine c_region ?_
        refine r_val .none rfl (p_move rfl) ?_
        refine r_val .none rfl (p_assign rfl) ?_
        refine r_nil ?_
        refine e_next ?_
        refine c_seq ?_
        refine c_region ?_
        refine r_val .none rfl (p_move rfl) ?_
        refine r_val .none rfl (p_move rfl) ?_
        refine r_val .none rfl (p_move rfl) ?_
        refine r_iaddr_g .none rfl Try.underlying55 sz57 rfl hr rfl (by first | exact of_decide_eq_true rfl | omega) (fun p_7 o_8 R_6 => ?_)
        refine r_val .none rfl (p_ldg0 Try.underlying57 rfl rfl R_6 (by first | exact of_decide_eq_true rfl | omega) rfl) ?_
        refine r_fun (cs := [_]) .none rfl ?_
        refine r_call (vs := [_, _]) .none rfl hcg rfl (fun w hw => hcl (zs.getD k es5) (getD_mem (by omega)) w hw) ?_
        refine r_nil ?_
        refine e_next ?_
        refine c_split (d := 16) rfl (fun h_9 => ?_) (fun h_9 => ?_)
        · skip
          have hE := h_9
          first
            | (exfalso; omega)
            | (
              refine c_cond_t rfl ?_
              refine c_seq ?_
              refine c_region ?_
              refine r_val .none rfl (p_move rfl) ?_
              refine r_val .none rfl (p_assign rfl) ?_
              refine r_nil ?_
              refine e_next ?_
              refine c_ret ?_
              refine e_ret_block ?_
              refine e_ret_then ?_
              refine e_ret_then ?_
              refine e_ret_block ?_
              refine e_ret_then ?_
              refine e_ret1 Try.results60 (.tmp rfl .nil) (fun w hm => ⟨?_, hm.since⟩)
              first
              | (rw [← hphi.2, idxF_yes (d := es5) (by omega) hE])
              | (rw [← hphi.2, List.drop_eq_nil_of_le (by omega)]; rfl)
              )
        · skip
          have hE := h_9
          first
            | (exfalso; omega)
            | (
              refine c_cond_f rfl ?_
              refine c_skip ?_
              refine e_norm_block ?_
              refine e_next ?_
              refine c_region ?_
              refine r_val .none rfl (p_add rfl rfl (by omega)) ?_
              refine r_val .none rfl (p_move rfl) ?_
              refine r_nil ?_
              refine e_round (k + 1) ⟨⟨by omega, by rw [← hphi.2, idxF_no (d := es5) (by omega) hE]⟩, by omega⟩ rfl ⟨rfl, rfl, rfl, rfl, trivial⟩ (.nil)
              )
        )
  · skip
    first
      | (exfalso; omega)
      | (
        refine c_cond_f rfl ?_
        refine c_exit ?_
        refine e_exit_then ?_
        refine e_exit_then ?_
        refine e_exit_block ?_
        refine e_next ?_
        refine c_seq ?_
        refine c_region ?_
        refine r_val .none rfl (p_assign rfl) ?_
        refine r_nil ?_
        refine e_next ?_
        refine c_ret ?_
        refine e_ret1 Try.results60 (.tmp rfl .nil) (fun w hm => ⟨?_, hm.since⟩)
        first
        | (rw [← hphi.2, idxF_yes (d := es5) (by omega) hE])
        | (rw [← hphi.2, List.drop_eq_nil_of_le (by omega)]; rfl)
        )
theorem c_ctW (v : Value) (zs : List (List Int × Value)) (g : Nat) (cv : Value) (pf : List Int × Value → Bool) {G : Ghost} (hr : SlL G v 1 lC es5 zs) (hcg : Callable Try.prog g) (hcl : ∀ x ∈ zs, ∀ (w : World), Has G w → Calls Try.prog g #[x.2, cv] w (Ret fun r w' => r = Value.bool (pf x) ∧ Since nX w w')) (w : World) (hG : Has G w) :
    Calls Try.prog 52 #[v, Value.func (.func g) #[] #[cv]] w (Ret fun r w' => r = Value.bool (decide (0 ≤ idxF pf zs 0)) ∧ Since nX w w') := by
  refine enter (args := [_, _]) (X := nX) (G := G) (l := [(0, v), (1, Value.func (.func g) #[] #[cv])]) Try.func52 rfl Try.ntmps52 hG ⟨rfl, rfl, trivial⟩ (Nat.le_of_ble_eq_true rfl) ?_
  refine c_seq ?_
  refine c_region ?_
  refine r_val .none rfl (p_assign rfl) ?_
  refine r_nil ?_
  refine e_next ?_
  refine c_seq ?_
  refine c_region ?_
  refine r_val .none rfl (p_move rfl) ?_
  refine r_val .none rfl (p_move rfl) ?_
  refine r_call (vs := [_, _]) .none rfl cl60 rfl (fun w hw => c_idxW _ _ _ _ _ hr hcg hcl w hw) ?_
  refine r_val .none rfl (p_ge rfl rfl) ?_
  refine r_val .none rfl (p_assign rfl) ?_
  refine r_nil ?_
  refine e_next ?_
  refine c_ret ?_
  refine e_ret1 Try.results52 (.tmp rfl .nil) (fun w hm => ⟨?_, hm.since⟩)
  rfl
theorem c_inp1 (x : List Int × Value) (p : Nat) (sv : Value) (sc : List Int) {G : Ghost} (hx : SlL G x.2 1 cI 0 x.1) (hR : RowAt G p 0 1 (at_ [sv])) (hsc : SlL G sv 1 cI 0 sc) (w : World) (hG : Has G w) :
    Calls Try.prog 53 #[x.2, Value.pointer (some ⟨p, 0, none⟩)] w (Ret fun r w' => r = Value.bool (!(begins sc x.1)) ∧ Since nX w w') := by
  refine enter (args := [_, _]) (X := nX) (G := G) (l := [(0, x.2), (1, Value.pointer (some ⟨p, 0, none⟩))]) Try.func53 rfl Try.ntmps53 hG ⟨rfl, rfl, trivial⟩ (Nat.le_of_ble_eq_true rfl) ?_
  refine c_seq ?_
  refine c_region ?_
  refine r_val .none rfl (p_assign rfl) ?_
  refine r_nil ?_
  refine e_next ?_
  refine c_seq ?_
  refine c_region_q mixed (by kernel_rfl) ?_
  refine q_val .none rfl (p_move rfl) ?_
  refine q_val .none rfl (p_leng Try.underlying57 rfl hx) ?_
  have bd_1 := (hx).bound
  refine q_val .none rfl (p_ldg0 Try.underlying57 rfl rfl hR (by first | exact of_decide_eq_true rfl | omega) rfl) ?_
  refine q_val .none rfl (p_leng Try.underlying57 rfl hsc) ?_
  have bd_2 := (hsc).bound
  refine q_val .none rfl (p_lt rfl rfl) ?_
  refine q_val .none rfl (p_move rfl) ?_
  refine' q_or (c := 9) (d := 17) [_, _, _, _, _, _, _, _] rfl (fun h_3 Q_4 hQ_5 => ?_) (fun h_3 Q_4 hQ_5 => ?_) ?_
  rotate_left 1
  · skip
    replace h_3 := of_decide_eq_false h_3
    refine q_val (.some rfl rfl) rfl (p_move rfl) ?_
    refine q_val (.some rfl rfl) rfl (p_ldg0 Try.underlying57 rfl rfl hR (by first | exact of_decide_eq_true rfl | omega) rfl) ?_
    refine q_val (.some rfl rfl) rfl (p_leng Try.underlying57 rfl hsc) ?_
    have bd_7 := (hsc).bound
    refine q_slice0 (sc.length) (.some rfl rfl) rfl Try.underlying57 sz3 rfl hx rfl (by first | exact of_decide_eq_true rfl | omega) (fun v_8 hs_9 => ?_)
    have htk := sl_take (cells := cI) (by omega) hs_9
    refine q_val (.some rfl rfl) rfl (p_ldg0 Try.underlying57 rfl rfl hR (by first | exact of_decide_eq_true rfl | omega) rfl) ?_
    refine q_call (vs := [_, _]) (.some rfl rfl) rfl cl54 rfl (fun w hw => c_eqI _ _ _ _ htk hsc w hw) ?_
    refine q_val (.some rfl rfl) rfl (p_not rfl) ?_
    refine q_val .none rfl (p_pick_f rfl rfl) ?_
    refine q_nil (e_fin (d := 17) hQ_5 rfl (by repeat (first | exact .refl | refine .put rfl ?_ | refine .say rfl ?_ | refine .say2 rfl (by first | assumption | simp_all) ?_)))
  · skip
    repeat (first | refine q_skip rfl (.no rfl rfl) ?_ | refine q_skip rfl (.un rfl rfl) ?_)
    refine q_val (by first | exact .none | exact .some rfl rfl) rfl (p_pick_t rfl rfl) ?_
    refine q_nil (e_fin (d := 17) hQ_5 rfl (by repeat (first | exact .refl | refine .put rfl ?_ | refine .say rfl ?_ | refine .say2 rfl (by first | assumption | simp_all) ?_)))
  refine q_val .none rfl (p_assign rfl) ?_
  refine q_nil ?_
  refine e_next ?_
  refine c_ret ?_
  refine e_ret1 Try.results53 (.tmp rfl .nil) (fun w hm => ⟨?_, hm.since⟩)
  exact congrArg Value.bool (begins_not sc x.1)
theorem c_inPl (nm : ByteArray) (cv wv : Value) (l : List CT) (v : Nat) {G : Ghost} (hs : Cs G cv l) (hW : Ls (fun G v l => SlL G v 1 cI 0 l) ([] : List Int) G wv (wysF l v [])) (w : World) (hG : Has G w) :
    Calls Try.prog 43 #[Value.agg #[Value.string nm, cv], wv] w (Ret fun r w' => r = Value.bool (inPl (wk l v 0)) ∧ Since nX w w') := by
  refine enter (args := [_, _]) (X := nX) (G := G) (l := [(0, Value.agg #[Value.string nm, cv]), (1, wv)]) Try.func43 rfl Try.ntmps43 hG ⟨rfl, rfl, trivial⟩ (Nat.le_of_ble_eq_true rfl) ?_
  obtain ⟨qs, hq, hqp, hql⟩ := hW
  have hbd := hq.bound
  refine c_seq ?_
  refine c_region ?_
  refine r_box .none rfl rfl (IsRow.lit _) (fun b_1 => ?_)
  refine r_val .none rfl (p_assign rfl) ?_
  refine r_nil ?_
  refine e_next ?_
  refine c_seq ?_
  refine c_seq ?_
  refine c_region ?_
  refine r_val .none rfl (p_move rfl) ?_
  refine r_val .none rfl (p_leng Try.underlying55 rfl hq) ?_
  have bd_1 := (hq).bound
  refine r_val .none rfl (p_eq rfl rfl) ?_
  refine r_nil ?_
  refine e_next ?_
  refine c_splitd (d := 8) rfl (fun h_2 => ?_) (fun h_2 => ?_)
  · skip
    first
      | (exfalso; omega)
      | (
        refine c_cond_t rfl ?_
        refine c_seq ?_
        refine c_region ?_
        refine r_val .none rfl (p_assign rfl) ?_
        refine r_nil ?_
        refine e_next ?_
        refine c_ret ?_
        refine e_ret_then ?_
        refine e_ret1 Try.results43 (.tmp rfl .nil) (fun w hm => ⟨?_, hm.since⟩)
        first
        | (rw [wk_empty hql (by omega)]; rfl)
        | (rw [inPl_ways hwk hql, ← all_not, ← idxF_any]; done)
        )
  · skip
    first
      | (exfalso; omega)
      | (
        refine c_cond_f rfl ?_
        refine c_skip ?_
        refine e_next ?_
        refine c_seq ?_
        refine c_region ?_
        refine r_val .none rfl (p_move rfl) ?_
        refine r_iaddr_g (i := 0) .none rfl Try.underlying55 sz57 rfl hq rfl (by first | exact of_decide_eq_true rfl | omega) (fun p_4 o_5 R_3 => ?_)
        have hq0 : 0 < qs.length := by omega
        have hw0 := hqp _ (getD_mem (i := 0) (d := es5) hq0)
        obtain ⟨p0, pt, hwk, hp0⟩ := wk_cons hql hq0
        obtain ⟨j, wy, hj1, hj2, hj3, hj4⟩ := wk_first hwk
        have hw1 : SlL G (qs.getD 0 es5).2 1 cI 0 ((j : Int) :: wy) := by rw [← hj1, ← hp0]; exact hw0
        have hlw : (((j : Nat) : Int) :: wy).length = wy.length + 1 := rfl
        refine r_val .none rfl (p_ldg0 Try.underlying57 rfl rfl R_3 (by first | exact of_decide_eq_true rfl | omega) rfl) ?_
        refine r_alloc .none rfl zr57 (IsRow.lit [_]) (fun b_2 => ?_)
        refine r_st (k := 0) .none sz57 rfl rfl (hw1).one rfl (by first | exact of_decide_eq_true rfl | omega) ?_
        refine r_nil ?_
        refine e_next ?_
        refine c_seq ?_
        refine c_seq ?_
        refine c_region ?_
        refine r_val .none rfl (p_ldw (k := 1) Try.underlying46 rfl sz46 rfl rfl (rfl : _ = Value.agg #[_, _])) ?_
        refine r_val .none rfl (p_ld (k := 0) Try.underlying57 rfl rfl rfl (by first | exact of_decide_eq_true rfl | omega) rfl) ?_
        refine r_callm (vs := [_, _]) .none rfl cl51 rfl (fun w hw => c_at5 nm _ _ l j wy hs hw1 hj2 hj3 w hw) (fun G_6 v_9 hn_7 hr_8 => ?_)
        replace hq := hq.mono hn_7.le
        replace hs := hs.mono hn_7.le
        replace hqp := fun p hm0 => (hqp p hm0).mono hn_7.le
        replace R_3 := R_3.mono hn_7.le
        replace hw1 := hw1.mono hn_7.le
        obtain ⟨u_10, rfl⟩ := hr_8
        refine r_val .none rfl (p_field1 Try.underlying27 rfl Try.underlying3 rfl sz3 rfl (IsRow.lit _) rfl (by first | exact of_decide_eq_true rfl | omega) (rfl : _ = Value.int _ _)) ?_
        refine r_val .none rfl (p_eq rfl rfl) ?_
        refine r_nil ?_
        refine e_next ?_
        refine c_splitd (d := 16) rfl (fun h_11 => ?_) (fun h_11 => ?_)
        · skip
          have hk1 : p0.2 = 1 := hj4.symm.trans h_11
          first
            | (exfalso; omega)
            | (
              refine c_cond_t rfl ?_
              refine c_region ?_
              refine r_val .none rfl (p_ld (k := 0) Try.underlying57 rfl rfl rfl (by first | exact of_decide_eq_true rfl | omega) rfl) ?_
              refine r_val .none rfl (p_ld (k := 0) Try.underlying57 rfl rfl rfl (by first | exact of_decide_eq_true rfl | omega) rfl) ?_
              refine r_val .none rfl (p_leng Try.underlying57 rfl hw1) ?_
              have bd_12 := (hw1).bound
              refine r_val .none rfl (p_sub rfl rfl (by omega)) ?_
              refine r_say (d := 20) (v := Value.int .i64 ((wy.length : Nat) : Int)) (congrArg (fun x => some (Value.int .i64 x)) (by omega)) ?_
              refine r_slice0 (wy.length) .none rfl Try.underlying57 sz3 rfl hw1 rfl (by first | exact of_decide_eq_true rfl | omega) (fun v_13 hs_14 => ?_)
              have hsc : SlL G_6 v_13 1 cI 0 (scopeOf p0) := by rw [scope_pos hk1 hj1]; exact sl_take (cells := cI) (by omega) hs_14
              refine r_st (k := 0) .none sz57 rfl rfl (hsc).one rfl (by first | exact of_decide_eq_true rfl | omega) ?_
              refine r_nil ?_
              refine e_next ?_
              refine c_seq ?_
              refine c_region ?_
              refine r_freezeX (k := 0) rfl (fun G_16 hn_17 hR_18 => ?_)
              replace hq := hq.mono hn_17.le
              replace hs := hs.mono hn_17.le
              replace hqp := fun p hm0 => (hqp p hm0).mono hn_17.le
              replace R_3 := R_3.mono hn_17.le
              replace hw1 := hw1.mono hn_17.le
              replace hs_14 := hs_14.mono hn_17.le
              replace hsc := hsc.mono hn_17.le
              have hR_19 : RowAt G_16 b_2 0 1 (at_ [v_13]) := RowAt.congr hR_18 (fun i hi => by match i, hi with | 0, _ => rfl)
              refine r_val .none rfl (p_move rfl) ?_
              refine r_val .none rfl (p_mkfunc (vs := [_]) rfl) ?_
              refine r_call (vs := [_, _]) .none rfl cl52 rfl (fun w hw => c_ctW _ qs _ _ (fun q => !(begins (scopeOf p0) q.1)) hq cl53 (fun x hx w hw => c_inp1 x _ _ (scopeOf p0) (hqp x hx) hR_19 hsc w hw) w hw) ?_
              refine r_val .none rfl (p_not rfl) ?_
              refine r_val .none rfl (p_assign rfl) ?_
              refine r_nil ?_
              refine e_next ?_
              refine c_ret ?_
              refine e_ret1 Try.results43 (.tmp rfl .nil) (fun w hm => ⟨?_, hm.since⟩)
              first
              | (rw [wk_empty hql (by omega)]; rfl)
              | (rw [inPl_ways hwk hql, ← all_not, ← idxF_any]; done)
              )
        · skip
          have hk1 : ¬ p0.2 = 1 := fun hx => (h_11) (hj4.trans hx)
          first
            | (exfalso; omega)
            | (
              refine c_cond_f rfl ?_
              refine c_skip ?_
              refine e_next ?_
              refine c_seq ?_
              refine c_region ?_
              have hsc : SlL G_6 (qs.getD 0 es5).2 1 cI 0 (scopeOf p0) := by rw [scope_neg hk1, hj1]; exact hw1
              refine r_freezeX (k := 0) rfl (fun G_20 hn_21 hR_22 => ?_)
              replace hq := hq.mono hn_21.le
              replace hs := hs.mono hn_21.le
              replace hqp := fun p hm0 => (hqp p hm0).mono hn_21.le
              replace R_3 := R_3.mono hn_21.le
              replace hw1 := hw1.mono hn_21.le
              replace hsc := hsc.mono hn_21.le
              have hR_23 : RowAt G_20 b_2 0 1 (at_ [(qs.getD 0 es5).2]) := RowAt.congr hR_22 (fun i hi => by match i, hi with | 0, _ => rfl)
              refine r_val .none rfl (p_move rfl) ?_
              refine r_val .none rfl (p_mkfunc (vs := [_]) rfl) ?_
              refine r_call (vs := [_, _]) .none rfl cl52 rfl (fun w hw => c_ctW _ qs _ _ (fun q => !(begins (scopeOf p0) q.1)) hq cl53 (fun x hx w hw => c_inp1 x _ _ (scopeOf p0) (hqp x hx) hR_23 hsc w hw) w hw) ?_
              refine r_val .none rfl (p_not rfl) ?_
              refine r_val .none rfl (p_assign rfl) ?_
              refine r_nil ?_
              refine e_next ?_
              refine c_ret ?_
              refine e_ret1 Try.results43 (.tmp rfl .nil) (fun w hm => ⟨?_, hm.since⟩)
              first
              | (rw [wk_empty hql (by omega)]; rfl)
              | (rw [inPl_ways hwk hql, ← all_not, ← idxF_any]; done)
              )
        )
end Go.Proofs.Ytpcpbfajadgmpaa

/- Walks: what Go functions of this chapter come to, each as a function on plain data; no condition but those that each theorem names. Printed by a program of this work (gen.py). -/
namespace Go.Proofs.Ytpcpbfajadgmpaa
open Go.Gx Go.Gx.T3 Go.Gx.T4 Go.Gx.T3
theorem sz4 : SzIs Try.prog 4 1 := by
  unfold SzIs
  kernel_rfl
theorem lf24 : leafT Try.prog 9 24 = some [4, 3, 4, 3, 4, 3] := by
  kernel_rfl
theorem ef24 : eqT Try.prog 9 24 = true := by
  kernel_rfl
theorem eg24 : Try.prog.eqGuardType Try.prog.depth 24 = false := by
  kernel_rfl
theorem cl13 : Callable Try.prog 13 := callable Try.func13 (by kernel_rfl) rfl
theorem cl35 : Callable Try.prog 35 := callable Try.func35 (by kernel_rfl) rfl
theorem cl36 : Callable Try.prog 36 := callable Try.func36 (by kernel_rfl) rfl
theorem bl24_  : Program.built Try.prog 24 [] = some #[Value.bool false, Value.int .i64 0, Value.bool false, Value.int .i64 0, Value.bool false, Value.int .i64 0] := by
  kernel_rfl
def CheckIs (n : Nat) : Prop := ∀ (c : CT) (sv : Value) (d : Int) (G : Ghost) (w : World), SizeOf.sizeOf c ≤ n → Cs G sv c.subs → Has G w → Calls Try.prog 13 #[Value.agg #[Value.int .i64 c.h.k, Value.bool c.h.v0, Value.int .i64 c.h.n0, Value.bool c.h.v1, Value.int .i64 c.h.n1, Value.bool c.h.v2, Value.int .i64 c.h.n2, sv], Value.int .i64 d] w (Ret fun r w' => r = Value.int .i64 (check c d) ∧ Since nX w w')
theorem c_right (b : Bool) (n : Int)  (w : World)  :
    Calls Try.prog 36 #[Value.agg #[Value.bool b, Value.int .i64 n]] w (Ret fun r w' => r = Value.bool (termRight b n) ∧ Since nX w w') := by
  refine enter (args := [_]) (X := nX) (G := (fun _ => none)) (l := [(0, Value.agg #[Value.bool b, Value.int .i64 n])]) Try.func36 rfl Try.ntmps36 (fun _ _ h => by cases h) ⟨rfl, trivial⟩ (Nat.le_of_ble_eq_true rfl) ?_
  refine c_seq ?_
  refine c_region ?_
  refine r_box .none rfl rfl (IsRow.lit _) (fun b_1 => ?_)
  refine r_val .none rfl (p_assign rfl) ?_
  refine r_nil ?_
  refine e_next ?_
  refine c_seq ?_
  refine c_region ?_
  refine r_val .none rfl (p_assign rfl) ?_
  refine r_nil ?_
  refine e_next ?_
  refine c_seq ?_
  refine c_seq ?_
  refine c_region ?_
  refine r_val .none rfl (p_field Try.underlying23 rfl sz4 rfl) ?_
  refine r_val .none rfl (p_ld (k := 0) Try.underlying4 rfl rfl rfl (by first | exact of_decide_eq_true rfl | omega) (rfl : _ = Value.bool _)) ?_
  refine r_nil ?_
  refine e_next ?_
  refine' c_join (c := 5) (D1 := [(3, .int .i64 _)]) (D2 := [(3, .int .i64 _)]) rfl (.cons .int (.nil)) (fun h_3 hQ_4 => ?_) (fun h_3 hQ_4 => ?_) ?_
  rotate_left 2
  · skip
    refine c_region ?_
    refine r_val .none rfl (p_assign rfl) ?_
    refine r_nil ?_
    refine e_finD hQ_4 ⟨rfl, trivial⟩ (by repeat (first | exact .refl | refine .put rfl ?_ | refine .say rfl (by first | assumption | simp_all) ?_))
  · skip
    refine c_skip ?_
    refine e_finD hQ_4 ⟨rfl, trivial⟩ (by repeat (first | exact .refl | refine .put rfl ?_ | refine .say rfl (by first | assumption | simp_all) ?_))
  refine e_next ?_
  refine c_seq ?_
  refine c_region ?_
  refine r_val .none rfl (p_field Try.underlying23 rfl sz3 rfl) ?_
  refine r_val .none rfl (p_ld (k := 0) Try.underlying3 rfl rfl rfl (by first | exact of_decide_eq_true rfl | omega) (rfl : _ = Value.int _ _)) ?_
  refine r_val .none rfl (p_ge rfl rfl) ?_
  refine r_val .none rfl (p_move rfl) ?_
  refine' r_and (c := 9) (d := 14) [_, _, _, _, _] rfl (fun h_5 Q_6 hQ_7 => ?_) (fun h_5 Q_6 hQ_7 => ?_) ?_
  rotate_left 1
  · skip
    replace h_5 := of_decide_eq_true h_5
    refine r_val (.some rfl rfl) rfl (p_field Try.underlying23 rfl sz3 rfl) ?_
    refine r_val (.some rfl rfl) rfl (p_ld (k := 0) Try.underlying3 rfl rfl rfl (by first | exact of_decide_eq_true rfl | omega) (rfl : _ = Value.int _ _)) ?_
    refine r_val (.some rfl rfl) rfl (p_move rfl) ?_
    refine r_val (.some rfl rfl) rfl (p_le rfl rfl) ?_
    refine r_val .none rfl (p_pick_t rfl rfl) ?_
    refine r_nil (e_fin (d := 14) hQ_7 rfl (by repeat (first | exact .refl | refine .put rfl ?_ | refine .say rfl ?_ | refine .say2 rfl (by first | assumption | simp_all) ?_)))
  · skip
    repeat (first | refine r_skip rfl (.no rfl rfl) ?_ | refine r_skip rfl (.un rfl rfl) ?_)
    refine r_val (by first | exact .none | exact .some rfl rfl) rfl (p_pick_f rfl rfl) ?_
    refine r_nil (e_fin (d := 14) hQ_7 rfl (by repeat (first | exact .refl | refine .put rfl ?_ | refine .say rfl ?_ | refine .say2 rfl (by first | assumption | simp_all) ?_)))
  refine r_val .none rfl (p_assign rfl) ?_
  refine r_nil ?_
  refine e_next ?_
  refine c_ret ?_
  refine e_ret1 Try.results36 (.tmp rfl .nil) (fun w hm => ⟨?_, hm.since⟩)
  simp_all [termRight]; try omega
theorem c_group (n : Nat) (ih : CheckIs n) (c : CT) (sv : Value) (d : Int) {G : Ghost} (hz : SizeOf.sizeOf c ≤ n + 1) (hs : Cs G sv c.subs) (hd : 1 ≤ d ∧ d ≤ 3) (w : World) (hG : Has G w) :
    Calls Try.prog 35 #[Value.agg #[Value.int .i64 c.h.k, Value.bool c.h.v0, Value.int .i64 c.h.n0, Value.bool c.h.v1, Value.int .i64 c.h.n1, Value.bool c.h.v2, Value.int .i64 c.h.n2, sv], Value.int .i64 d] w (Ret fun r w' => r = Value.int .i64 (if headNone c.h = false then 4 else if c.subs.length = 0 then 2 else checkL c.subs (d + 1)) ∧ Since nX w w') := by
  refine enter (args := [_, _]) (X := nX) (G := G) (l := [(0, Value.agg #[Value.int .i64 c.h.k, Value.bool c.h.v0, Value.int .i64 c.h.n0, Value.bool c.h.v1, Value.int .i64 c.h.n1, Value.bool c.h.v2, Value.int .i64 c.h.n2, sv]), (1, Value.int .i64 d)]) Try.func35 rfl Try.ntmps35 hG ⟨rfl, rfl, trivial⟩ (Nat.le_of_ble_eq_true rfl) ?_
  obtain ⟨rs, hr, hp, hl⟩ := hs.inv
  have hlen : c.subs.length = rs.length := by rw [hl]; simp
  have hbd := hr.bound
  refine c_seq ?_
  refine c_region ?_
  refine r_box .none rfl rfl (IsRow.lit _) (fun b_1 => ?_)
  refine r_val .none rfl (p_assign rfl) ?_
  refine r_nil ?_
  refine e_next ?_
  refine c_seq ?_
  refine c_block ?_
  refine c_seq ?_
  refine c_region ?_
  refine r_val .none rfl (p_field Try.underlying27 rfl sz24 rfl) ?_
  refine r_val .none rfl (p_lda (k := 0) Try.underlying24 rfl sz24 rfl rfl (by first | exact of_decide_eq_true rfl | omega) (rfl : _ = Value.agg #[_, _, _, _, _, _])) ?_
  refine r_val .none rfl (p_build (vs := []) rfl (bl24_ )) ?_
  refine r_val .none rfl (p_nea rfl rfl (eq_flat Try.underlying24 rfl lf24 ef24 eg24 (.cons (.bool Try.underlying4) (.cons (.int Try.underlying3) (.cons (.bool Try.underlying4) (.cons (.int Try.underlying3) (.cons (.bool Try.underlying4) (.cons (.int Try.underlying3) (.nil))))))) (.cons (.bool Try.underlying4) (.cons (.int Try.underlying3) (.cons (.bool Try.underlying4) (.cons (.int Try.underlying3) (.cons (.bool Try.underlying4) (.cons (.int Try.underlying3) (.nil))))))))) ?_
  refine r_val .none rfl (p_assign rfl) ?_
  refine r_nil ?_
  refine e_next ?_
  refine c_splitn (d := 8) rfl (fun h_1 => ?_) (fun h_1 => ?_)
  · skip
    have hN : headNone c.h = false := (headNone_cs c.h).symm.trans h_1
    first
      | (exfalso; omega)
      | (
        refine c_cond_t rfl ?_
        refine c_seq ?_
        refine c_region ?_
        refine r_val .none rfl (p_assign rfl) ?_
        refine r_nil ?_
        refine e_next ?_
        refine c_ret ?_
        refine e_ret_block ?_
        refine e_ret_then ?_
        refine e_ret1 Try.results35 (.tmp rfl .nil) (fun w hm => ⟨?_, hm.since⟩)
        first
        | (rw [if_pos hN]; done)
        | (rw [if_neg (by rw [hN]; decide), if_pos (by omega)]; done)
        | (rw [if_neg (by rw [hN]; decide), if_neg (by omega), ← hphi.2, map_drop (i := k) (d := d0) (by omega), checkL_no hE]; done)
        | (rw [if_neg (by rw [hN]; decide), if_neg (by omega), ← hphi.2, List.drop_eq_nil_of_le (by simp; omega), checkL]; done)
        )
  · skip
    have hN : headNone c.h = true := (headNone_cs c.h).symm.trans h_1
    first
      | (exfalso; omega)
      | (
        refine c_cond_f rfl ?_
        refine c_seq ?_
        refine c_region ?_
        refine r_val .none rfl (p_field Try.underlying27 rfl sz25 rfl) ?_
        refine r_val .none rfl (p_ld (k := 0) Try.underlying25 rfl rfl rfl (by first | exact of_decide_eq_true rfl | omega) rfl) ?_
        refine r_val .none rfl (p_leng Try.underlying25 rfl hr) ?_
        have bd_2 := (hr).bound
        refine r_val .none rfl (p_eq rfl rfl) ?_
        refine r_val .none rfl (p_assign rfl) ?_
        refine r_nil ?_
        refine e_next ?_
        refine c_splitd (d := 13) rfl (fun h_3 => ?_) (fun h_3 => ?_)
        · skip
          first
            | (exfalso; omega)
            | (
              refine c_cond_t rfl ?_
              refine c_seq ?_
              refine c_region ?_
              refine r_val .none rfl (p_assign rfl) ?_
              refine r_nil ?_
              refine e_next ?_
              refine c_ret ?_
              refine e_ret_block ?_
              refine e_ret_then ?_
              refine e_ret1 Try.results35 (.tmp rfl .nil) (fun w hm => ⟨?_, hm.since⟩)
              first
              | (rw [if_pos hN]; done)
              | (rw [if_neg (by rw [hN]; decide), if_pos (by omega)]; done)
              | (rw [if_neg (by rw [hN]; decide), if_neg (by omega), ← hphi.2, map_drop (i := k) (d := d0) (by omega), checkL_no hE]; done)
              | (rw [if_neg (by rw [hN]; decide), if_neg (by omega), ← hphi.2, List.drop_eq_nil_of_le (by simp; omega), checkL]; done)
              )
        · skip
          first
            | (exfalso; omega)
            | (
              refine c_cond_f rfl ?_
              refine c_skip ?_
              refine e_norm_block ?_
              refine e_next ?_
              refine c_seq ?_
              refine c_seq ?_
              refine c_region ?_
              refine r_val .none rfl (p_field Try.underlying27 rfl sz25 rfl) ?_
              refine r_val .none rfl (p_ld (k := 0) Try.underlying25 rfl rfl rfl (by first | exact of_decide_eq_true rfl | omega) rfl) ?_
              refine r_val .none rfl (p_leng Try.underlying25 rfl hr) ?_
              have bd_4 := (hr).bound
              refine r_val .none rfl (p_move rfl) ?_
              refine r_nil ?_
              refine e_next ?_
              refine c_block ?_
              refine c_name (d := 1) rfl (fun u_5 hu_5 => ?_)
              refine c_name (d := 19) rfl (fun u_6 hu_6 => ?_)
              refine c_name (d := 20) rfl (fun u_7 hu_7 => ?_)
              refine c_nameL (k := 0) rfl (fun A_8 hA_8 => ?_)
              refine c_loop (σ := Nat) (fun k => [(21, Value.int .i64 (k : Nat)), (1, u_5), (19, u_6), (20, u_7)]) (fun k => [A_8]) (fun _ => _) (fun k => k ≤ rs.length ∧ checkL ((rs.map Prod.fst).drop k) (d + 1) = checkL c.subs (d + 1)) (fun k => rs.length - k) (0) ⟨Nat.zero_le _, by rw [hl]; rfl⟩ rfl ⟨rfl, rfl, rfl, rfl, trivial⟩ (.keep (fun _ _ h => h) (.nil)) (fun k hphi => ?_)
              subst hu_5
              subst hu_6
              subst hu_7
              subst hA_8
              refine c_seq ?_
              refine c_region ?_
              refine r_val .none rfl (p_lt rfl rfl) ?_
              refine r_nil ?_
              refine e_next ?_
              refine c_seq ?_
              refine c_splitd (d := 22) rfl (fun h_9 => ?_) (fun h_9 => ?_)
              · skip
                first
                  | (exfalso; omega)
                  | (
                    refine c_cond_t rfl ?_
                    refine c_skip ?_
                    refine e_next ?_
                    refine c_seq ?_
                    refine c_block ?_
                    refine c_seq ?_
                    refine c_region ?_
                    refine r_iaddr_g .none rfl Try.underlying25 sz27 rfl hr rfl (by first | exact of_decide_eq_true rfl | omega) (fun p_11 o_12 R_10 => ?_)
                    have hc_13 := hp _ (getD_mem (i := k) (d := d0) (by omega))
                    refine r_val .none rfl (p_ldga0 Try.underlying27 rfl sz27 rfl R_10 (by first | exact of_decide_eq_true rfl | omega) (rfl : _ = Value.agg #[_, _, _, _, _, _, _, _])) ?_
                    refine r_alloc .none rfl zr27 (IsRow.lit _) (fun b_2 => ?_)
                    refine r_stw (k := 0) .none sz27 rfl rfl (IsRow.lit _) (one_lit rfl (all_cons rfl (all_cons rfl (all_cons rfl (all_cons rfl (all_cons rfl (all_cons rfl (all_cons rfl (all_cons (hc_13).one rfl))))))))) rfl ?_
                    refine r_nil ?_
                    refine e_next ?_
                    refine c_seq ?_
                    refine c_region ?_
                    refine r_val .none rfl (p_ldw (k := 0) Try.underlying27 rfl sz27 rfl rfl (rfl : _ = Value.agg #[_, _, _, _, _, _, _, _])) ?_
                    refine r_val .none rfl (p_move rfl) ?_
                    refine r_val .none rfl (p_add rfl rfl (by omega)) ?_
                    refine r_call (vs := [_, _]) .none rfl cl13 rfl (fun w hw => ih (rs.getD k d0).1 _ _ _ w (size_at hl (by omega) hz) hc_13 hw) ?_
                    refine r_val .none rfl (p_assign rfl) ?_
                    refine r_nil ?_
                    refine e_next ?_
                    refine c_seq ?_
                    refine c_region ?_
                    refine r_val .none rfl (p_move rfl) ?_
                    refine r_val .none rfl (p_ne rfl rfl) ?_
                    refine r_nil ?_
                    refine e_next ?_
                    refine c_splitd (d := 30) rfl (fun h_14 => ?_) (fun h_14 => ?_)
                    · skip
                      have hE := h_14
                      first
                        | (exfalso; omega)
                        | (
                          refine c_cond_t rfl ?_
                          refine c_seq ?_
                          refine c_region ?_
                          refine r_val .none rfl (p_move rfl) ?_
                          refine r_val .none rfl (p_assign rfl) ?_
                          refine r_nil ?_
                          refine e_next ?_
                          refine c_ret ?_
                          refine e_ret_block ?_
                          refine e_ret_then ?_
                          refine e_ret_then ?_
                          refine e_ret_block ?_
                          refine e_ret_then ?_
                          refine e_ret1 Try.results35 (.tmp rfl .nil) (fun w hm => ⟨?_, hm.since⟩)
                          first
                          | (rw [if_pos hN]; done)
                          | (rw [if_neg (by rw [hN]; decide), if_pos (by omega)]; done)
                          | (rw [if_neg (by rw [hN]; decide), if_neg (by omega), ← hphi.2, map_drop (i := k) (d := d0) (by omega), checkL_no hE]; done)
                          | (rw [if_neg (by rw [hN]; decide), if_neg (by omega), ← hphi.2, List.drop_eq_nil_of_le (by simp; omega), checkL]; done)
                          )
                    · skip
                      have hE := Decidable.not_not.1 h_14
                      first
                        | (exfalso; omega)
                        | (
                          refine c_cond_f rfl ?_
                          refine c_skip ?_
                          refine e_norm_block ?_
                          refine e_next ?_
                          refine c_region ?_
                          refine r_val .none rfl (p_add rfl rfl (by omega)) ?_
                          refine r_val .none rfl (p_move rfl) ?_
                          refine r_nil ?_
                          refine e_round (k + 1) ⟨⟨by omega, by rw [← hphi.2, map_drop (i := k) (d := d0) (by omega), checkL_ok hE]⟩, by omega⟩ rfl ⟨rfl, rfl, rfl, rfl, trivial⟩ (.drop (.keep (fun _ _ h => h) (.nil)))
                          )
                    )
              · skip
                first
                  | (exfalso; omega)
                  | (
                    refine c_cond_f rfl ?_
                    refine c_exit ?_
                    refine e_exit_then ?_
                    refine e_exit_then ?_
                    refine e_exit_block ?_
                    refine e_next ?_
                    refine c_seq ?_
                    refine c_region ?_
                    refine r_val .none rfl (p_assign rfl) ?_
                    refine r_nil ?_
                    refine e_next ?_
                    refine c_ret ?_
                    refine e_ret1 Try.results35 (.tmp rfl .nil) (fun w hm => ⟨?_, hm.since⟩)
                    first
                    | (rw [if_pos hN]; done)
                    | (rw [if_neg (by rw [hN]; decide), if_pos (by omega)]; done)
                    | (rw [if_neg (by rw [hN]; decide), if_neg (by omega), ← hphi.2, map_drop (i := k) (d := d0) (by omega), checkL_no hE]; done)
                    | (rw [if_neg (by rw [hN]; decide), if_neg (by omega), ← hphi.2, List.drop_eq_nil_of_le (by simp; omega), checkL]; done)
                    )
              )
        )
theorem c_check_s (n : Nat) (ih : CheckIs n) (c : CT) (sv : Value) (d : Int) {G : Ghost} (hz : SizeOf.sizeOf c ≤ n + 1) (hs : Cs G sv c.subs) (w : World) (hG : Has G w) :
    Calls Try.prog 13 #[Value.agg #[Value.int .i64 c.h.k, Value.bool c.h.v0, Value.int .i64 c.h.n0, Value.bool c.h.v1, Value.int .i64 c.h.n1, Value.bool c.h.v2, Value.int .i64 c.h.n2, sv], Value.int .i64 d] w (Ret fun r w' => r = Value.int .i64 (check c d) ∧ Since nX w w') := by
  refine enter (args := [_, _]) (X := nX) (G := G) (l := [(0, Value.agg #[Value.int .i64 c.h.k, Value.bool c.h.v0, Value.int .i64 c.h.n0, Value.bool c.h.v1, Value.int .i64 c.h.n1, Value.bool c.h.v2, Value.int .i64 c.h.n2, sv]), (1, Value.int .i64 d)]) Try.func13 rfl Try.ntmps13 hG ⟨rfl, rfl, trivial⟩ (Nat.le_of_ble_eq_true rfl) ?_
  obtain ⟨rs, hr, hp, hl⟩ := hs.inv
  have hlen : c.subs.length = rs.length := by rw [hl]; simp
  have hbd := hr.bound
  refine c_seq ?_
  refine c_region ?_
  refine r_box .none rfl rfl (IsRow.lit _) (fun b_1 => ?_)
  refine r_val .none rfl (p_assign rfl) ?_
  refine r_nil ?_
  refine e_next ?_
  refine c_seq ?_
  refine c_region ?_
  refine r_val .none rfl (p_move rfl) ?_
  refine r_val .none rfl (p_max rfl rfl) ?_
  refine r_val .none rfl (p_assign rfl) ?_
  refine r_nil ?_
  refine e_next ?_
  refine c_seq ?_
  refine c_block ?_
  refine c_seq ?_
  refine c_region ?_
  refine r_val .none rfl (p_move rfl) ?_
  refine r_val .none rfl (p_gt rfl rfl) ?_
  refine r_val .none rfl (p_assign rfl) ?_
  refine r_nil ?_
  refine e_next ?_
  refine c_splitd (d := 7) rfl (fun h_1 => ?_) (fun h_1 => ?_)
  · skip
    first
      | (exfalso; omega)
      | (
        refine c_cond_t rfl ?_
        refine c_seq ?_
        refine c_region ?_
        refine r_val .none rfl (p_assign rfl) ?_
        refine r_nil ?_
        refine e_next ?_
        refine c_ret ?_
        refine e_ret_block ?_
        refine e_ret_then ?_
        refine e_ret1 Try.results13 (.tmp rfl .nil) (fun w hm => ⟨?_, hm.since⟩)
        rw [check_eq]
        have e5 : (0 : Int) = rs.length ∨ 0 < rs.length := (by omega)
        first
        | exact congrArg (Value.int .i64) (if_pos (by omega)).symm
        | exact congrArg (Value.int .i64) ((if_neg (by omega)).trans (if_pos (by omega))).symm
        | exact congrArg (Value.int .i64) ((if_neg (by omega)).trans ((if_neg (by omega)).trans (if_pos (by omega)))).symm
        | exact congrArg (Value.int .i64) ((if_neg (by omega)).trans ((if_neg (by omega)).trans ((if_neg (by omega)).trans (if_pos (by rcases hT with ((hT | hT) | hT) | hT <;> first | (left; simp [headOk, hT]; done) | (right; omega)))))).symm
        | exact congrArg (Value.int .i64) ((if_neg (by omega)).trans ((if_neg (by omega)).trans ((if_neg (by omega)).trans (if_neg (by obtain ⟨⟨⟨t0, t1⟩, t2⟩, t3⟩ := hT; rintro (hx | hx) <;> first | omega | (simp [headOk, t0, t1, t2] at hx; done)))))).symm
        )
  · skip
    first
      | (exfalso; omega)
      | (
        refine c_cond_f rfl ?_
        refine c_seq ?_
        refine c_region ?_
        refine r_val .none rfl (p_field Try.underlying27 rfl sz3 rfl) ?_
        refine r_val .none rfl (p_ld (k := 0) Try.underlying3 rfl rfl rfl (by first | exact of_decide_eq_true rfl | omega) (rfl : _ = Value.int _ _)) ?_
        refine r_val .none rfl (p_eq rfl rfl) ?_
        refine r_val .none rfl (p_assign rfl) ?_
        refine r_nil ?_
        refine e_next ?_
        refine c_splitd (d := 10) rfl (fun h_2 => ?_) (fun h_2 => ?_)
        · skip
          first
            | (exfalso; omega)
            | (
              refine c_cond_t rfl ?_
              refine c_seq ?_
              refine c_region ?_
              refine r_val .none rfl (p_ldw (k := 0) Try.underlying27 rfl sz27 rfl rfl (rfl : _ = Value.agg #[_, _, _, _, _, _, _, _])) ?_
              refine r_val .none rfl (p_move rfl) ?_
              refine r_call (vs := [_, _]) .none rfl cl35 rfl (fun w hw => c_group n ih c sv _ hz hs (by omega) w hw) ?_
              refine r_val .none rfl (p_assign rfl) ?_
              refine r_nil ?_
              refine e_next ?_
              refine c_ret ?_
              refine e_ret_block ?_
              refine e_ret_then ?_
              refine e_ret1 Try.results13 (.tmp rfl .nil) (fun w hm => ⟨?_, hm.since⟩)
              rw [check_eq]
              have e5 : (0 : Int) = rs.length ∨ 0 < rs.length := (by omega)
              first
              | exact congrArg (Value.int .i64) (if_pos (by omega)).symm
              | exact congrArg (Value.int .i64) ((if_neg (by omega)).trans (if_pos (by omega))).symm
              | exact congrArg (Value.int .i64) ((if_neg (by omega)).trans ((if_neg (by omega)).trans (if_pos (by omega)))).symm
              | exact congrArg (Value.int .i64) ((if_neg (by omega)).trans ((if_neg (by omega)).trans ((if_neg (by omega)).trans (if_pos (by rcases hT with ((hT | hT) | hT) | hT <;> first | (left; simp [headOk, hT]; done) | (right; omega)))))).symm
              | exact congrArg (Value.int .i64) ((if_neg (by omega)).trans ((if_neg (by omega)).trans ((if_neg (by omega)).trans (if_neg (by obtain ⟨⟨⟨t0, t1⟩, t2⟩, t3⟩ := hT; rintro (hx | hx) <;> first | omega | (simp [headOk, t0, t1, t2] at hx; done)))))).symm
              )
        · skip
          first
            | (exfalso; omega)
            | (
              refine c_cond_f rfl ?_
              refine c_seq ?_
              refine c_region ?_
              refine r_val .none rfl (p_field Try.underlying27 rfl sz3 rfl) ?_
              refine r_val .none rfl (p_ld (k := 0) Try.underlying3 rfl rfl rfl (by first | exact of_decide_eq_true rfl | omega) (rfl : _ = Value.int _ _)) ?_
              refine r_val .none rfl (p_ne rfl rfl) ?_
              refine r_val .none rfl (p_move rfl) ?_
              refine' r_and (c := 21) (d := 25) [_, _, _, _] rfl (fun h_3 Q_4 hQ_5 => ?_) (fun h_3 Q_4 hQ_5 => ?_) ?_
              rotate_left 1
              · skip
                replace h_3 := of_decide_eq_true h_3
                refine r_val (.some rfl rfl) rfl (p_field Try.underlying27 rfl sz3 rfl) ?_
                refine r_val (.some rfl rfl) rfl (p_ld (k := 0) Try.underlying3 rfl rfl rfl (by first | exact of_decide_eq_true rfl | omega) (rfl : _ = Value.int _ _)) ?_
                refine r_val (.some rfl rfl) rfl (p_ne rfl rfl) ?_
                refine r_val .none rfl (p_pick_t rfl rfl) ?_
                refine r_nil (e_fin (d := 25) hQ_5 rfl (by repeat (first | exact .refl | refine .put rfl ?_ | refine .say rfl ?_ | refine .say2 rfl (by first | assumption | simp_all) ?_)))
              · skip
                repeat (first | refine r_skip rfl (.no rfl rfl) ?_ | refine r_skip rfl (.un rfl rfl) ?_)
                refine r_val (by first | exact .none | exact .some rfl rfl) rfl (p_pick_f rfl rfl) ?_
                refine r_nil (e_fin (d := 25) hQ_5 rfl (by repeat (first | exact .refl | refine .put rfl ?_ | refine .say rfl ?_ | refine .say2 rfl (by first | assumption | simp_all) ?_)))
              refine r_val .none rfl (p_assign rfl) ?_
              refine r_nil ?_
              refine e_next ?_
              refine c_split (d := 17) rfl (fun h_7 => ?_) (fun h_7 => ?_)
              · skip
                try simp only [norms] at h_7
                first
                  | (exfalso; omega)
                  | (
                    refine c_cond_t rfl ?_
                    refine c_seq ?_
                    refine c_region ?_
                    refine r_val .none rfl (p_assign rfl) ?_
                    refine r_nil ?_
                    refine e_next ?_
                    refine c_ret ?_
                    refine e_ret_block ?_
                    refine e_ret_then ?_
                    refine e_ret1 Try.results13 (.tmp rfl .nil) (fun w hm => ⟨?_, hm.since⟩)
                    rw [check_eq]
                    have e5 : (0 : Int) = rs.length ∨ 0 < rs.length := (by omega)
                    first
                    | exact congrArg (Value.int .i64) (if_pos (by omega)).symm
                    | exact congrArg (Value.int .i64) ((if_neg (by omega)).trans (if_pos (by omega))).symm
                    | exact congrArg (Value.int .i64) ((if_neg (by omega)).trans ((if_neg (by omega)).trans (if_pos (by omega)))).symm
                    | exact congrArg (Value.int .i64) ((if_neg (by omega)).trans ((if_neg (by omega)).trans ((if_neg (by omega)).trans (if_pos (by rcases hT with ((hT | hT) | hT) | hT <;> first | (left; simp [headOk, hT]; done) | (right; omega)))))).symm
                    | exact congrArg (Value.int .i64) ((if_neg (by omega)).trans ((if_neg (by omega)).trans ((if_neg (by omega)).trans (if_neg (by obtain ⟨⟨⟨t0, t1⟩, t2⟩, t3⟩ := hT; rintro (hx | hx) <;> first | omega | (simp [headOk, t0, t1, t2] at hx; done)))))).symm
                    )
              · skip
                try simp only [norms] at h_7
                first
                  | (exfalso; omega)
                  | (
                    refine c_cond_f rfl ?_
                    refine c_seq ?_
                    refine c_region ?_
                    refine r_val .none rfl (p_field Try.underlying27 rfl sz24 rfl) ?_
                    refine r_val .none rfl (p_iaddr (k := 0) Try.underlying24 sz23 rfl rfl (by first | exact of_decide_eq_true rfl | omega)) ?_
                    refine r_val .none rfl (p_lda (k := 0) Try.underlying23 rfl sz23 rfl rfl (by first | exact of_decide_eq_true rfl | omega) (rfl : _ = Value.agg #[_, _])) ?_
                    refine r_call (vs := [_]) .none rfl cl36 rfl (fun w hw => c_right _ _ w) ?_
                    refine r_val .none rfl (p_not rfl) ?_
                    refine r_val .none rfl (p_move rfl) ?_
                    refine' r_or (c := 32) (d := 38) [_, _, _, _, _, _] rfl (fun h_8 Q_9 hQ_10 => ?_) (fun h_8 Q_9 hQ_10 => ?_) ?_
                    rotate_left 1
                    · skip
                      try simp only [norms] at h_8
                      refine r_val (.some rfl rfl) rfl (p_field Try.underlying27 rfl sz24 rfl) ?_
                      refine r_val (.some rfl rfl) rfl (p_iaddr (k := 1) Try.underlying24 sz23 rfl rfl (by first | exact of_decide_eq_true rfl | omega)) ?_
                      refine r_val (.some rfl rfl) rfl (p_lda (k := 0) Try.underlying23 rfl sz23 rfl rfl (by first | exact of_decide_eq_true rfl | omega) (rfl : _ = Value.agg #[_, _])) ?_
                      refine r_call (vs := [_]) (.some rfl rfl) rfl cl36 rfl (fun w hw => c_right _ _ w) ?_
                      refine r_val (.some rfl rfl) rfl (p_not rfl) ?_
                      refine r_val .none rfl (p_pick_f rfl rfl) ?_
                      refine r_nil (e_fin (d := 38) hQ_10 rfl (by repeat (first | exact .refl | refine .put rfl ?_ | refine .say rfl ?_ | refine .say2 rfl (by first | assumption | simp_all) ?_)))
                    · skip
                      repeat (first | refine r_skip rfl (.no rfl rfl) ?_ | refine r_skip rfl (.un rfl rfl) ?_)
                      refine r_val (by first | exact .none | exact .some rfl rfl) rfl (p_pick_t rfl rfl) ?_
                      refine r_nil (e_fin (d := 38) hQ_10 rfl (by repeat (first | exact .refl | refine .put rfl ?_ | refine .say rfl ?_ | refine .say2 rfl (by first | assumption | simp_all) ?_)))
                    refine r_val .none rfl (p_move rfl) ?_
                    refine' r_or (c := 39) (d := 45) [_, _, _, _, _, _] rfl (fun h_12 Q_13 hQ_14 => ?_) (fun h_12 Q_13 hQ_14 => ?_) ?_
                    rotate_left 1
                    · skip
                      try simp only [norms] at h_12
                      refine r_val (.some rfl rfl) rfl (p_field Try.underlying27 rfl sz24 rfl) ?_
                      refine r_val (.some rfl rfl) rfl (p_iaddr (k := 2) Try.underlying24 sz23 rfl rfl (by first | exact of_decide_eq_true rfl | omega)) ?_
                      refine r_val (.some rfl rfl) rfl (p_lda (k := 0) Try.underlying23 rfl sz23 rfl rfl (by first | exact of_decide_eq_true rfl | omega) (rfl : _ = Value.agg #[_, _])) ?_
                      refine r_call (vs := [_]) (.some rfl rfl) rfl cl36 rfl (fun w hw => c_right _ _ w) ?_
                      refine r_val (.some rfl rfl) rfl (p_not rfl) ?_
                      refine r_val .none rfl (p_pick_f rfl rfl) ?_
                      refine r_nil (e_fin (d := 45) hQ_14 rfl (by repeat (first | exact .refl | refine .put rfl ?_ | refine .say rfl ?_ | refine .say2 rfl (by first | assumption | simp_all) ?_)))
                    · skip
                      repeat (first | refine r_skip rfl (.no rfl rfl) ?_ | refine r_skip rfl (.un rfl rfl) ?_)
                      refine r_val (by first | exact .none | exact .some rfl rfl) rfl (p_pick_t rfl rfl) ?_
                      refine r_nil (e_fin (d := 45) hQ_14 rfl (by repeat (first | exact .refl | refine .put rfl ?_ | refine .say rfl ?_ | refine .say2 rfl (by first | assumption | simp_all) ?_)))
                    refine r_val .none rfl (p_move rfl) ?_
                    refine' r_or (c := 46) (d := 51) [_, _, _, _, _] rfl (fun h_16 Q_17 hQ_18 => ?_) (fun h_16 Q_17 hQ_18 => ?_) ?_
                    rotate_left 1
                    · skip
                      try simp only [norms] at h_16
                      refine r_val (.some rfl rfl) rfl (p_field Try.underlying27 rfl sz25 rfl) ?_
                      refine r_val (.some rfl rfl) rfl (p_ld (k := 0) Try.underlying25 rfl rfl rfl (by first | exact of_decide_eq_true rfl | omega) rfl) ?_
                      refine r_val (.some rfl rfl) rfl (p_leng Try.underlying25 rfl hr) ?_
                      have bd_20 := (hr).bound
                      refine r_val (.some rfl rfl) rfl (p_gt rfl rfl) ?_
                      refine r_val .none rfl (p_pick_f rfl rfl) ?_
                      refine r_nil (e_fin (d := 51) hQ_18 rfl (by repeat (first | exact .refl | refine .put rfl ?_ | refine .say rfl ?_ | refine .say2 rfl (by first | assumption | simp_all) ?_)))
                    · skip
                      repeat (first | refine r_skip rfl (.no rfl rfl) ?_ | refine r_skip rfl (.un rfl rfl) ?_)
                      refine r_val (by first | exact .none | exact .some rfl rfl) rfl (p_pick_t rfl rfl) ?_
                      refine r_nil (e_fin (d := 51) hQ_18 rfl (by repeat (first | exact .refl | refine .put rfl ?_ | refine .say rfl ?_ | refine .say2 rfl (by first | assumption | simp_all) ?_)))
                    refine r_val .none rfl (p_assign rfl) ?_
                    refine r_nil ?_
                    refine e_next ?_
                    refine c_split (d := 26) rfl (fun h_21 => ?_) (fun h_21 => ?_)
                    · skip
                      try simp only [norms] at h_21
                      have hT := h_21
                      first
                        | (exfalso; omega)
                        | (
                          refine c_cond_t rfl ?_
                          refine c_seq ?_
                          refine c_region ?_
                          refine r_val .none rfl (p_assign rfl) ?_
                          refine r_nil ?_
                          refine e_next ?_
                          refine c_ret ?_
                          refine e_ret_block ?_
                          refine e_ret_then ?_
                          refine e_ret1 Try.results13 (.tmp rfl .nil) (fun w hm => ⟨?_, hm.since⟩)
                          rw [check_eq]
                          have e5 : (0 : Int) = rs.length ∨ 0 < rs.length := (by omega)
                          first
                          | exact congrArg (Value.int .i64) (if_pos (by omega)).symm
                          | exact congrArg (Value.int .i64) ((if_neg (by omega)).trans (if_pos (by omega))).symm
                          | exact congrArg (Value.int .i64) ((if_neg (by omega)).trans ((if_neg (by omega)).trans (if_pos (by omega)))).symm
                          | exact congrArg (Value.int .i64) ((if_neg (by omega)).trans ((if_neg (by omega)).trans ((if_neg (by omega)).trans (if_pos (by rcases hT with ((hT | hT) | hT) | hT <;> first | (left; simp [headOk, hT]; done) | (right; omega)))))).symm
                          | exact congrArg (Value.int .i64) ((if_neg (by omega)).trans ((if_neg (by omega)).trans ((if_neg (by omega)).trans (if_neg (by obtain ⟨⟨⟨t0, t1⟩, t2⟩, t3⟩ := hT; rintro (hx | hx) <;> first | omega | (simp [headOk, t0, t1, t2] at hx; done)))))).symm
                          )
                    · skip
                      try simp only [norms] at h_21
                      have hT := h_21
                      first
                        | (exfalso; omega)
                        | (
                          refine c_cond_f rfl ?_
                          refine c_skip ?_
                          refine e_norm_block ?_
                          refine e_next ?_
                          refine c_seq ?_
                          refine c_region ?_
                          refine r_val .none rfl (p_assign rfl) ?_
                          refine r_nil ?_
                          refine e_next ?_
                          refine c_ret ?_
                          refine e_ret1 Try.results13 (.tmp rfl .nil) (fun w hm => ⟨?_, hm.since⟩)
                          rw [check_eq]
                          have e5 : (0 : Int) = rs.length ∨ 0 < rs.length := (by omega)
                          first
                          | exact congrArg (Value.int .i64) (if_pos (by omega)).symm
                          | exact congrArg (Value.int .i64) ((if_neg (by omega)).trans (if_pos (by omega))).symm
                          | exact congrArg (Value.int .i64) ((if_neg (by omega)).trans ((if_neg (by omega)).trans (if_pos (by omega)))).symm
                          | exact congrArg (Value.int .i64) ((if_neg (by omega)).trans ((if_neg (by omega)).trans ((if_neg (by omega)).trans (if_pos (by rcases hT with ((hT | hT) | hT) | hT <;> first | (left; simp [headOk, hT]; done) | (right; omega)))))).symm
                          | exact congrArg (Value.int .i64) ((if_neg (by omega)).trans ((if_neg (by omega)).trans ((if_neg (by omega)).trans (if_neg (by obtain ⟨⟨⟨t0, t1⟩, t2⟩, t3⟩ := hT; rintro (hx | hx) <;> first | omega | (simp [headOk, t0, t1, t2] at hx; done)))))).symm
                          )
                    )
              )
        )
theorem c_check_n : ∀ n, CheckIs n
  | 0 => fun c sv d G w hz hs hG => absurd hz (by have := size_subs c; omega)
  | n + 1 => fun c sv d G w hz hs hG => c_check_s n (c_check_n n) c sv d hz hs w hG
theorem c_check (c : CT) (sv : Value) (d : Int) {G : Ghost} (hs : Cs G sv c.subs) (w : World) (hG : Has G w) : Calls Try.prog 13 #[Value.agg #[Value.int .i64 c.h.k, Value.bool c.h.v0, Value.int .i64 c.h.n0, Value.bool c.h.v1, Value.int .i64 c.h.n1, Value.bool c.h.v2, Value.int .i64 c.h.n2, sv], Value.int .i64 d] w (Ret fun r w' => r = Value.int .i64 (check c d) ∧ Since nX w w') := c_check_n _ c sv d G w (Nat.le_refl _) hs hG
end Go.Proofs.Ytpcpbfajadgmpaa

/- Walks: what Go functions of this chapter come to, each as a function on plain data; no condition but those that each theorem names. Printed by a program of this work (gen.py). -/
namespace Go.Proofs.Ytpcpbfajadgmpaa
open Go.Gx Go.Gx.T3 Go.Gx.T4 Go.Gx.T3
theorem zr3 : ZeroIs Try.prog 3 (Value.int .i64 0) := by
  unfold ZeroIs
  kernel_rfl
theorem cl34 : Callable Try.prog 34 := callable Try.func34 (by kernel_rfl) rfl
def SmallIs (n : Nat) : Prop := ∀ (c : CT) (sv : Value) (deep m x : Int) (p : Nat) (G : Ghost) (F : Nat → Prop) (w : World), SizeOf.sizeOf c ≤ n → 0 ≤ x ∧ x ≤ m ∧ m ≤ 1000 ∧ deep ≤ 5 ∧ -1 ≤ deep → Cs G sv c.subs → Has G w → (cntA 3 p x).holds w F → (∀ b, F b → G b = none) → Calls Try.prog 34 #[Value.agg #[Value.int .i64 c.h.k, Value.bool c.h.v0, Value.int .i64 c.h.n0, Value.bool c.h.v1, Value.int .i64 c.h.n1, Value.bool c.h.v2, Value.int .i64 c.h.n2, sv], Value.int .i64 deep, Value.int .i64 m, Value.pointer (some ⟨p, 0, none⟩)] w (Ret fun r w' => r = Value.bool (small m c deep x).1 ∧ Kept (cntA 3 p (small m c deep x).2) F w w')
theorem c_small_s (n : Nat) (ih : SmallIs n) (c : CT) (sv : Value) (deep m x : Int) (p : Nat) {F : Nat → Prop} {G : Ghost} (hz : SizeOf.sizeOf c ≤ n + 1) (hb : 0 ≤ x ∧ x ≤ m ∧ m ≤ 1000 ∧ deep ≤ 5 ∧ -1 ≤ deep) (hs : Cs G sv c.subs) (w : World) (hG : Has G w) (hA : (cntA 3 p x).holds w F) (hFG : ∀ b, F b → G b = none) :
    Calls Try.prog 34 #[Value.agg #[Value.int .i64 c.h.k, Value.bool c.h.v0, Value.int .i64 c.h.n0, Value.bool c.h.v1, Value.int .i64 c.h.n1, Value.bool c.h.v2, Value.int .i64 c.h.n2, sv], Value.int .i64 deep, Value.int .i64 m, Value.pointer (some ⟨p, 0, none⟩)] w (Ret fun r w' => r = Value.bool (small m c deep x).1 ∧ Kept (cntA 3 p (small m c deep x).2) F w w') := by
  refine enterO (args := [_, _, _, _]) (G := G) (A := cntA 3 p x) (l := [(0, Value.agg #[Value.int .i64 c.h.k, Value.bool c.h.v0, Value.int .i64 c.h.n0, Value.bool c.h.v1, Value.int .i64 c.h.n1, Value.bool c.h.v2, Value.int .i64 c.h.n2, sv]), (1, Value.int .i64 deep), (2, Value.int .i64 m), (3, Value.pointer (some ⟨p, 0, none⟩))]) Try.func34 rfl Try.ntmps34 hG hA hFG ⟨rfl, rfl, rfl, rfl, trivial⟩ (Nat.le_of_ble_eq_true rfl) ?_
  obtain ⟨rs, hr, hp, hl⟩ := hs.inv
  have hlen : c.subs.length = rs.length := by rw [hl]; simp
  have hbd := hr.bound
  refine c_seq ?_
  refine c_region ?_
  refine r_box .none rfl rfl (IsRow.lit _) (fun b_1 => ?_)
  refine r_val .none rfl (p_assign rfl) ?_
  refine r_nil ?_
  refine e_next ?_
  refine c_seq ?_
  refine c_seq ?_
  refine c_region ?_
  refine r_val .none rfl (p_move rfl) ?_
  refine r_val .none rfl (p_nilcheck rfl) ?_
  refine r_val .none rfl (p_ld (k := 1) Try.underlying3 rfl rfl rfl (by first | exact of_decide_eq_true rfl | omega) (rfl : _ = Value.int _ _)) ?_
  refine r_val .none rfl (p_add rfl rfl (by omega)) ?_
  refine r_val .none rfl (p_nilcheck rfl) ?_
  refine r_st (k := 1) .none sz3 rfl rfl rfl rfl (by first | exact of_decide_eq_true rfl | omega) ?_
  refine r_nil ?_
  refine e_next ?_
  refine c_seq ?_
  refine c_region ?_
  refine r_val .none rfl (p_move rfl) ?_
  refine r_val .none rfl (p_nilcheck rfl) ?_
  refine r_val .none rfl (p_ld (k := 1) Try.underlying3 rfl rfl rfl (by first | exact of_decide_eq_true rfl | omega) (rfl : _ = Value.int _ _)) ?_
  refine r_val .none rfl (p_move rfl) ?_
  refine r_val .none rfl (p_gt rfl rfl) ?_
  refine r_val .none rfl (p_move rfl) ?_
  refine' r_or (c := 21) (d := 24) [_, _, _] rfl (fun h_1 Q_2 hQ_3 => ?_) (fun h_1 Q_2 hQ_3 => ?_) ?_
  rotate_left 1
  · skip
    replace h_1 := of_decide_eq_false h_1
    refine r_val (.some rfl rfl) rfl (p_move rfl) ?_
    refine r_val (.some rfl rfl) rfl (p_lt rfl rfl) ?_
    refine r_val .none rfl (p_pick_f rfl rfl) ?_
    refine r_nil (e_fin (d := 24) hQ_3 rfl (by repeat (first | exact .refl | refine .put rfl ?_ | refine .say rfl ?_ | refine .say2 rfl (by first | assumption | simp_all) ?_)))
  · skip
    repeat (first | refine r_skip rfl (.no rfl rfl) ?_ | refine r_skip rfl (.un rfl rfl) ?_)
    refine r_val (by first | exact .none | exact .some rfl rfl) rfl (p_pick_t rfl rfl) ?_
    refine r_nil (e_fin (d := 24) hQ_3 rfl (by repeat (first | exact .refl | refine .put rfl ?_ | refine .say rfl ?_ | refine .say2 rfl (by first | assumption | simp_all) ?_)))
  refine r_nil ?_
  refine e_next ?_
  refine c_split (d := 24) rfl (fun h_5 => ?_) (fun h_5 => ?_)
  · skip
    try simp only [norms] at h_5
    first
      | (exfalso; omega)
      | (
        refine c_cond_t rfl ?_
        refine c_seq ?_
        refine c_region ?_
        refine r_val .none rfl (p_assign rfl) ?_
        refine r_nil ?_
        refine e_next ?_
        refine c_ret ?_
        refine e_ret_then ?_
        refine e_ret1 Try.results34 (.tmp rfl .nil) (fun w hm => ?_)
        first
        | (have he : small m c deep x = (false, x + 1) := (by rw [small_eq, if_pos (by omega)]); have he2 := congrArg Prod.snd he; refine ⟨?_, hm.kept [cntA 3 p ((small m c deep x).2)] (.drop (.keep (fun _ _ h => by first | exact h | (have e : (small m c deep x).2 = _ := he2; rw [e]; exact box_congr (fun i hi => by match i, hi with | 0, _ => rfl) _ _ h)) (.nil))) (cntA 3 p ((small m c deep x).2)) (fun F' h => starL_one h)⟩; rw [he]; done)
        | (have he : small m c deep x = (false, (small m (rs.getD k d0).1 (deep - 1) t).2) := (by rw [small_eq, if_neg (by omega), ← hs3, map_drop (i := k) (d := d0) (by omega), smallL_no hE]); have he2 := congrArg Prod.snd he; refine ⟨?_, hm.kept [cntA 3 p ((small m c deep x).2)] (.drop (.keep (fun _ _ h => by first | exact h | (have e : (small m c deep x).2 = _ := he2; rw [e]; exact box_congr (fun i hi => by match i, hi with | 0, _ => rfl) _ _ h)) (.nil))) (cntA 3 p ((small m c deep x).2)) (fun F' h => starL_one h)⟩; rw [he]; done)
        | (have he : small m c deep x = (true, t) := (by rw [small_eq, if_neg (by omega), ← hs3, List.drop_eq_nil_of_le (by simp; omega), smallL]); have he2 := congrArg Prod.snd he; refine ⟨?_, hm.kept [cntA 3 p ((small m c deep x).2)] (.drop (.keep (fun _ _ h => by first | exact h | (have e : (small m c deep x).2 = _ := he2; rw [e]; exact box_congr (fun i hi => by match i, hi with | 0, _ => rfl) _ _ h)) (.nil))) (cntA 3 p ((small m c deep x).2)) (fun F' h => starL_one h)⟩; rw [he]; done)
        )
  · skip
    try simp only [norms] at h_5
    first
      | (exfalso; omega)
      | (
        refine c_cond_f rfl ?_
        refine c_skip ?_
        refine e_next ?_
        refine c_seq ?_
        refine c_seq ?_
        refine c_region ?_
        refine r_val .none rfl (p_field Try.underlying27 rfl sz25 rfl) ?_
        refine r_val .none rfl (p_ld (k := 0) Try.underlying25 rfl rfl rfl (by first | exact of_decide_eq_true rfl | omega) rfl) ?_
        refine r_val .none rfl (p_leng Try.underlying25 rfl hr) ?_
        have bd_6 := (hr).bound
        refine r_val .none rfl (p_move rfl) ?_
        refine r_nil ?_
        refine e_next ?_
        refine c_block ?_
        refine c_name (d := 1) rfl (fun u_7 hu_7 => ?_)
        refine c_name (d := 2) rfl (fun u_8 hu_8 => ?_)
        refine c_name (d := 3) rfl (fun u_9 hu_9 => ?_)
        refine c_name (d := 26) rfl (fun u_10 hu_10 => ?_)
        refine c_name (d := 27) rfl (fun u_11 hu_11 => ?_)
        refine c_nameL (k := 0) rfl (fun A_12 hA_12 => ?_)
        refine c_loop (σ := Nat × Int) (fun s => [(28, Value.int .i64 (s.1 : Nat)), (1, u_7), (2, u_8), (3, u_9), (26, u_10), (27, u_11)]) (fun s => [A_12, box p 1 3 (at_ [.int .i64 s.2])]) (fun _ => _) (fun s => s.1 ≤ rs.length ∧ (0 ≤ s.2 ∧ s.2 ≤ m) ∧ smallL m ((rs.map Prod.fst).drop s.1) (deep - 1) s.2 = smallL m c.subs (deep - 1) (x + 1)) (fun s => rs.length - s.1) ((0, x + 1)) ⟨Nat.zero_le _, by dsimp only; omega, by rw [hl]; rfl⟩ rfl ⟨rfl, rfl, rfl, rfl, rfl, rfl, trivial⟩ (.keep (fun _ _ h => h) (.keep (fun _ _ h => box_congr (fun i hi => by match i, hi with | 0, _ => rfl) _ _ h) (.nil))) (fun s hphi => ?_)
        subst hu_7
        subst hu_8
        subst hu_9
        subst hu_10
        subst hu_11
        subst hA_12
        obtain ⟨k, t⟩ := s
        obtain ⟨hk, ht, hs3⟩ := hphi
        dsimp only at hk ht hs3 ⊢
        refine c_seq ?_
        refine c_region ?_
        refine r_val .none rfl (p_lt rfl rfl) ?_
        refine r_nil ?_
        refine e_next ?_
        refine c_seq ?_
        refine c_splitd (d := 29) rfl (fun h_13 => ?_) (fun h_13 => ?_)
        · skip
          first
            | (exfalso; omega)
            | (
              refine c_cond_t rfl ?_
              refine c_skip ?_
              refine e_next ?_
              refine c_seq ?_
              refine c_block ?_
              refine c_seq ?_
              refine c_region ?_
              refine r_iaddr_g .none rfl Try.underlying25 sz27 rfl hr rfl (by first | exact of_decide_eq_true rfl | omega) (fun p_15 o_16 R_14 => ?_)
              have hc_17 := hp _ (getD_mem (i := k) (d := d0) (by omega))
              refine r_val .none rfl (p_ldga0 Try.underlying27 rfl sz27 rfl R_14 (by first | exact of_decide_eq_true rfl | omega) (rfl : _ = Value.agg #[_, _, _, _, _, _, _, _])) ?_
              refine r_alloc .none rfl zr27 (IsRow.lit _) (fun b_2 => ?_)
              refine r_stw (k := 0) .none sz27 rfl rfl (IsRow.lit _) (one_lit rfl (all_cons rfl (all_cons rfl (all_cons rfl (all_cons rfl (all_cons rfl (all_cons rfl (all_cons rfl (all_cons (hc_17).one rfl))))))))) rfl ?_
              refine r_nil ?_
              refine e_next ?_
              refine c_seq ?_
              refine c_region ?_
              refine r_val .none rfl (p_ldw (k := 0) Try.underlying27 rfl sz27 rfl rfl (rfl : _ = Value.agg #[_, _, _, _, _, _, _, _])) ?_
              refine r_val .none rfl (p_move rfl) ?_
              refine r_val .none rfl (p_sub rfl rfl (by omega)) ?_
              refine r_val .none rfl (p_move rfl) ?_
              refine r_val .none rfl (p_move rfl) ?_
              refine r_callo (k := 2) (vs := [_, _, _, _]) .none rfl cl34 rfl rfl (fun w F hw hA hFG => ih (rs.getD k d0).1 _ _ _ _ _ _ _ w (size_at hl (by omega) hz) (by omega) hc_17 hw hA hFG) ?_
              refine r_val .none rfl (p_not rfl) ?_
              refine r_nil ?_
              refine e_next ?_
              refine c_splitn (d := 38) rfl (fun h_18 => ?_) (fun h_18 => ?_)
              · skip
                have hE := h_18
                first
                  | (exfalso; omega)
                  | (
                    refine c_cond_t rfl ?_
                    refine c_seq ?_
                    refine c_region ?_
                    refine r_val .none rfl (p_assign rfl) ?_
                    refine r_nil ?_
                    refine e_next ?_
                    refine c_ret ?_
                    refine e_ret_block ?_
                    refine e_ret_then ?_
                    refine e_ret_then ?_
                    refine e_ret_block ?_
                    refine e_ret_then ?_
                    refine e_ret1 Try.results34 (.tmp rfl .nil) (fun w hm => ?_)
                    first
                    | (have he : small m c deep x = (false, x + 1) := (by rw [small_eq, if_pos (by omega)]); have he2 := congrArg Prod.snd he; refine ⟨?_, hm.kept [cntA 3 p ((small m c deep x).2)] (.drop (.drop (.keep (fun _ _ h => by first | exact h | (have e : (small m c deep x).2 = _ := he2; rw [e]; exact box_congr (fun i hi => by match i, hi with | 0, _ => rfl) _ _ h)) (.nil)))) (cntA 3 p ((small m c deep x).2)) (fun F' h => starL_one h)⟩; rw [he]; done)
                    | (have he : small m c deep x = (false, (small m (rs.getD k d0).1 (deep - 1) t).2) := (by rw [small_eq, if_neg (by omega), ← hs3, map_drop (i := k) (d := d0) (by omega), smallL_no hE]); have he2 := congrArg Prod.snd he; refine ⟨?_, hm.kept [cntA 3 p ((small m c deep x).2)] (.drop (.drop (.keep (fun _ _ h => by first | exact h | (have e : (small m c deep x).2 = _ := he2; rw [e]; exact box_congr (fun i hi => by match i, hi with | 0, _ => rfl) _ _ h)) (.nil)))) (cntA 3 p ((small m c deep x).2)) (fun F' h => starL_one h)⟩; rw [he]; done)
                    | (have he : small m c deep x = (true, t) := (by rw [small_eq, if_neg (by omega), ← hs3, List.drop_eq_nil_of_le (by simp; omega), smallL]); have he2 := congrArg Prod.snd he; refine ⟨?_, hm.kept [cntA 3 p ((small m c deep x).2)] (.drop (.drop (.keep (fun _ _ h => by first | exact h | (have e : (small m c deep x).2 = _ := he2; rw [e]; exact box_congr (fun i hi => by match i, hi with | 0, _ => rfl) _ _ h)) (.nil)))) (cntA 3 p ((small m c deep x).2)) (fun F' h => starL_one h)⟩; rw [he]; done)
                    )
              · skip
                have hE := h_18
                first
                  | (exfalso; omega)
                  | (
                    refine c_cond_f rfl ?_
                    refine c_skip ?_
                    refine e_norm_block ?_
                    refine e_next ?_
                    refine c_region ?_
                    refine r_val .none rfl (p_add rfl rfl (by omega)) ?_
                    refine r_val .none rfl (p_move rfl) ?_
                    refine r_nil ?_
                    refine e_round ((k + 1, (small m (rs.getD k d0).1 (deep - 1) t).2)) ⟨⟨by dsimp only; omega, by have := small_lt m (rs.getD k d0).1 (deep - 1) t ht.1 ht.2; exact ⟨by dsimp only; omega, this.2.2 hE⟩, by rw [← hs3, map_drop (i := k) (d := d0) (by omega), smallL_yes hE]⟩, by dsimp only; omega⟩ rfl ⟨rfl, rfl, rfl, rfl, rfl, rfl, trivial⟩ (.drop (.keep (fun _ _ h => h) (.keep (fun _ _ h => h) (.nil))))
                    )
              )
        · skip
          first
            | (exfalso; omega)
            | (
              refine c_cond_f rfl ?_
              refine c_exit ?_
              refine e_exit_then ?_
              refine e_exit_then ?_
              refine e_exit_block ?_
              refine e_next ?_
              refine c_seq ?_
              refine c_region ?_
              refine r_val .none rfl (p_assign rfl) ?_
              refine r_nil ?_
              refine e_next ?_
              refine c_ret ?_
              refine e_ret1 Try.results34 (.tmp rfl .nil) (fun w hm => ?_)
              first
              | (have he : small m c deep x = (false, x + 1) := (by rw [small_eq, if_pos (by omega)]); have he2 := congrArg Prod.snd he; refine ⟨?_, hm.kept [cntA 3 p ((small m c deep x).2)] (.drop (.keep (fun _ _ h => by first | exact h | (have e : (small m c deep x).2 = _ := he2; rw [e]; exact box_congr (fun i hi => by match i, hi with | 0, _ => rfl) _ _ h)) (.nil))) (cntA 3 p ((small m c deep x).2)) (fun F' h => starL_one h)⟩; rw [he]; done)
              | (have he : small m c deep x = (false, (small m (rs.getD k d0).1 (deep - 1) t).2) := (by rw [small_eq, if_neg (by omega), ← hs3, map_drop (i := k) (d := d0) (by omega), smallL_no hE]); have he2 := congrArg Prod.snd he; refine ⟨?_, hm.kept [cntA 3 p ((small m c deep x).2)] (.drop (.keep (fun _ _ h => by first | exact h | (have e : (small m c deep x).2 = _ := he2; rw [e]; exact box_congr (fun i hi => by match i, hi with | 0, _ => rfl) _ _ h)) (.nil))) (cntA 3 p ((small m c deep x).2)) (fun F' h => starL_one h)⟩; rw [he]; done)
              | (have he : small m c deep x = (true, t) := (by rw [small_eq, if_neg (by omega), ← hs3, List.drop_eq_nil_of_le (by simp; omega), smallL]); have he2 := congrArg Prod.snd he; refine ⟨?_, hm.kept [cntA 3 p ((small m c deep x).2)] (.drop (.keep (fun _ _ h => by first | exact h | (have e : (small m c deep x).2 = _ := he2; rw [e]; exact box_congr (fun i hi => by match i, hi with | 0, _ => rfl) _ _ h)) (.nil))) (cntA 3 p ((small m c deep x).2)) (fun F' h => starL_one h)⟩; rw [he]; done)
              )
        )
theorem c_small_n : ∀ n, SmallIs n
  | 0 => fun c sv deep m x p G F w hz hb hs hG hA hFG => absurd hz (by have := size_subs c; omega)
  | n + 1 => fun c sv deep m x p G F w hz hb hs hG hA hFG => c_small_s n (c_small_n n) c sv deep m x p hz hb hs w hG hA hFG
theorem c_small (c : CT) (sv : Value) (deep m x : Int) (p : Nat) {G : Ghost} {F : Nat → Prop} (hb : 0 ≤ x ∧ x ≤ m ∧ m ≤ 1000 ∧ deep ≤ 5 ∧ -1 ≤ deep) (hs : Cs G sv c.subs) (w : World) (hG : Has G w) (hA : (cntA 3 p x).holds w F) (hFG : ∀ b, F b → G b = none) : Calls Try.prog 34 #[Value.agg #[Value.int .i64 c.h.k, Value.bool c.h.v0, Value.int .i64 c.h.n0, Value.bool c.h.v1, Value.int .i64 c.h.n1, Value.bool c.h.v2, Value.int .i64 c.h.n2, sv], Value.int .i64 deep, Value.int .i64 m, Value.pointer (some ⟨p, 0, none⟩)] w (Ret fun r w' => r = Value.bool (small m c deep x).1 ∧ Kept (cntA 3 p (small m c deep x).2) F w w') := c_small_n _ c sv deep m x p G F w (Nat.le_refl _) hb hs hG hA hFG
theorem c_Small (c : CT) (sv : Value) (m : Int) {G : Ghost} (hm : 0 ≤ m ∧ m ≤ 1000) (hs : Cs G sv c.subs) (w : World) (hG : Has G w) :
    Calls Try.prog 11 #[Value.agg #[Value.int .i64 c.h.k, Value.bool c.h.v0, Value.int .i64 c.h.n0, Value.bool c.h.v1, Value.int .i64 c.h.n1, Value.bool c.h.v2, Value.int .i64 c.h.n2, sv], Value.int .i64 m] w (Ret fun r w' => r = Value.bool (small m c 5 0).1 ∧ Since nX w w') := by
  refine enter (args := [_, _]) (X := nX) (G := G) (l := [(0, Value.agg #[Value.int .i64 c.h.k, Value.bool c.h.v0, Value.int .i64 c.h.n0, Value.bool c.h.v1, Value.int .i64 c.h.n1, Value.bool c.h.v2, Value.int .i64 c.h.n2, sv]), (1, Value.int .i64 m)]) Try.func11 rfl Try.ntmps11 hG ⟨rfl, rfl, trivial⟩ (Nat.le_of_ble_eq_true rfl) ?_
  refine c_seq ?_
  refine c_region ?_
  refine r_box .none rfl rfl (IsRow.lit _) (fun b_1 => ?_)
  refine r_val .none rfl (p_assign rfl) ?_
  refine r_nil ?_
  refine e_next ?_
  refine c_seq ?_
  refine c_region ?_
  refine r_alloc .none rfl zr3 (IsRow.lit [_]) (fun b_2 => ?_)
  refine r_st (k := 0) .none sz3 rfl rfl rfl rfl (by first | exact of_decide_eq_true rfl | omega) ?_
  refine r_nil ?_
  refine e_next ?_
  refine c_seq ?_
  refine c_region ?_
  refine r_val .none rfl (p_ldw (k := 1) Try.underlying27 rfl sz27 rfl rfl (rfl : _ = Value.agg #[_, _, _, _, _, _, _, _])) ?_
  refine r_val .none rfl (p_move rfl) ?_
  refine r_callo (k := 0) (vs := [_, _, _, _]) .none rfl cl34 rfl rfl (fun w F hw hA hFG => c_small c sv 5 m 0 _ (by omega) hs w hw (box_congr (fun i hi => by match i, hi with | 0, _ => rfl) _ _ hA) hFG) ?_
  refine r_val .none rfl (p_assign rfl) ?_
  refine r_nil ?_
  refine e_next ?_
  refine c_ret ?_
  refine e_ret1 Try.results11 (.tmp rfl .nil) (fun w hm => ⟨?_, hm.since⟩)
  rfl
end Go.Proofs.Ytpcpbfajadgmpaa

/- Walks: what Go functions of this chapter come to, each as a function on plain data; no condition but those that each theorem names. Printed by a program of this work (gen.py). -/
namespace Go.Proofs.Ytpcpbfajadgmpaa
open Go.Gx Go.Gx.T3 Go.Gx.T4 Go.Gx.T3
theorem sz34 : SzIs Try.prog 34 2 := by
  unfold SzIs
  kernel_rfl
theorem sz35 : SzIs Try.prog 35 6 := by
  unfold SzIs
  kernel_rfl
theorem sz36 : SzIs Try.prog 36 1 := by
  unfold SzIs
  kernel_rfl
theorem sz38 : SzIs Try.prog 38 8 := by
  unfold SzIs
  kernel_rfl
theorem zr38 : ZeroIs Try.prog 38 (Value.agg #[Value.int .i64 0, Value.int .i64 0, Value.int .i64 0, Value.int .i64 0, Value.int .i64 0, Value.int .i64 0, Value.int .i64 0, Value.slice none 0 0]) := by
  unfold ZeroIs
  kernel_rfl
theorem cl14 : Callable Try.prog 14 := callable Try.func14 (by kernel_rfl) rfl
theorem cl37 : Callable Try.prog 37 := callable Try.func37 (by kernel_rfl) rfl
def RcheckIs (n : Nat) : Prop := ∀ (c : CT) (sv : Value) (d : Int) (G : Ghost) (w : World), SizeOf.sizeOf c ≤ n → 1 ≤ d → Rs G sv c.subs → Has G w → Calls Try.prog 14 #[Value.agg #[Value.int .i64 c.h.k, Value.int .i64 (vi c.h.v0), Value.int .i64 c.h.n0, Value.int .i64 (vi c.h.v1), Value.int .i64 c.h.n1, Value.int .i64 (vi c.h.v2), Value.int .i64 c.h.n2, sv], Value.int .i64 d] w (Ret fun r w' => r = Value.int .i64 (check c d) ∧ Since nX w w')
theorem c_rright (b : Bool) (n : Int)  (w : World)  :
    Calls Try.prog 37 #[Value.agg #[Value.int .i64 (vi b), Value.int .i64 n]] w (Ret fun r w' => r = Value.bool (termRight b n) ∧ Since nX w w') := by
  refine enter (args := [_]) (X := nX) (G := (fun _ => none)) (l := [(0, Value.agg #[Value.int .i64 (vi b), Value.int .i64 n])]) Try.func37 rfl Try.ntmps37 (fun _ _ h => by cases h) ⟨rfl, trivial⟩ (Nat.le_of_ble_eq_true rfl) ?_
  refine c_seq ?_
  refine c_region ?_
  refine r_box .none rfl rfl (IsRow.lit _) (fun b_1 => ?_)
  refine r_val .none rfl (p_assign rfl) ?_
  refine r_nil ?_
  refine e_next ?_
  refine c_seq ?_
  refine c_seq ?_
  refine c_region ?_
  refine r_val .none rfl (p_field Try.underlying34 rfl sz3 rfl) ?_
  refine r_val .none rfl (p_ld (k := 0) Try.underlying3 rfl rfl rfl (by first | exact of_decide_eq_true rfl | omega) (rfl : _ = Value.int _ _)) ?_
  refine r_val .none rfl (p_eq rfl rfl) ?_
  refine r_nil ?_
  refine e_next ?_
  refine c_splitd (d := 5) rfl (fun h_1 => ?_) (fun h_1 => ?_)
  · skip
    refine c_cond_t rfl ?_
    refine c_seq ?_
    refine c_region ?_
    refine r_val .none rfl (p_field Try.underlying34 rfl sz3 rfl) ?_
    refine r_val .none rfl (p_ld (k := 0) Try.underlying3 rfl rfl rfl (by first | exact of_decide_eq_true rfl | omega) (rfl : _ = Value.int _ _)) ?_
    refine r_val .none rfl (p_ge rfl rfl) ?_
    refine r_val .none rfl (p_move rfl) ?_
    refine' r_and (c := 9) (d := 13) [_, _, _, _] rfl (fun h_2 Q_3 hQ_4 => ?_) (fun h_2 Q_3 hQ_4 => ?_) ?_
    rotate_left 1
    · skip
      replace h_2 := of_decide_eq_true h_2
      refine r_val (.some rfl rfl) rfl (p_field Try.underlying34 rfl sz3 rfl) ?_
      refine r_val (.some rfl rfl) rfl (p_ld (k := 0) Try.underlying3 rfl rfl rfl (by first | exact of_decide_eq_true rfl | omega) (rfl : _ = Value.int _ _)) ?_
      refine r_val (.some rfl rfl) rfl (p_le rfl rfl) ?_
      refine r_val .none rfl (p_pick_t rfl rfl) ?_
      refine r_nil (e_fin (d := 13) hQ_4 rfl (by repeat (first | exact .refl | refine .put rfl ?_ | refine .say rfl ?_ | refine .say2 rfl (by first | assumption | simp_all) ?_)))
    · skip
      repeat (first | refine r_skip rfl (.no rfl rfl) ?_ | refine r_skip rfl (.un rfl rfl) ?_)
      refine r_val (by first | exact .none | exact .some rfl rfl) rfl (p_pick_f rfl rfl) ?_
      refine r_nil (e_fin (d := 13) hQ_4 rfl (by repeat (first | exact .refl | refine .put rfl ?_ | refine .say rfl ?_ | refine .say2 rfl (by first | assumption | simp_all) ?_)))
    refine r_val .none rfl (p_assign rfl) ?_
    refine r_nil ?_
    refine e_next ?_
    refine c_ret ?_
    refine e_ret_then ?_
    refine e_ret1 Try.results37 (.tmp rfl .nil) (fun w hm => ⟨?_, hm.since⟩)
    (cases b <;> simp_all [termRight, vi] <;> try omega)
  · skip
    refine c_cond_f rfl ?_
    refine c_skip ?_
    refine e_next ?_
    refine c_seq ?_
    refine c_region ?_
    refine r_val .none rfl (p_field Try.underlying34 rfl sz3 rfl) ?_
    refine r_val .none rfl (p_ld (k := 0) Try.underlying3 rfl rfl rfl (by first | exact of_decide_eq_true rfl | omega) (rfl : _ = Value.int _ _)) ?_
    refine r_val .none rfl (p_ge rfl rfl) ?_
    refine r_val .none rfl (p_move rfl) ?_
    refine' r_and (c := 17) (d := 21) [_, _, _, _] rfl (fun h_6 Q_7 hQ_8 => ?_) (fun h_6 Q_7 hQ_8 => ?_) ?_
    rotate_left 1
    · skip
      replace h_6 := of_decide_eq_true h_6
      refine r_val (.some rfl rfl) rfl (p_field Try.underlying34 rfl sz3 rfl) ?_
      refine r_val (.some rfl rfl) rfl (p_ld (k := 0) Try.underlying3 rfl rfl rfl (by first | exact of_decide_eq_true rfl | omega) (rfl : _ = Value.int _ _)) ?_
      refine r_val (.some rfl rfl) rfl (p_le rfl rfl) ?_
      refine r_val .none rfl (p_pick_t rfl rfl) ?_
      refine r_nil (e_fin (d := 21) hQ_8 rfl (by repeat (first | exact .refl | refine .put rfl ?_ | refine .say rfl ?_ | refine .say2 rfl (by first | assumption | simp_all) ?_)))
    · skip
      repeat (first | refine r_skip rfl (.no rfl rfl) ?_ | refine r_skip rfl (.un rfl rfl) ?_)
      refine r_val (by first | exact .none | exact .some rfl rfl) rfl (p_pick_f rfl rfl) ?_
      refine r_nil (e_fin (d := 21) hQ_8 rfl (by repeat (first | exact .refl | refine .put rfl ?_ | refine .say rfl ?_ | refine .say2 rfl (by first | assumption | simp_all) ?_)))
    refine r_val .none rfl (p_assign rfl) ?_
    refine r_nil ?_
    refine e_next ?_
    refine c_ret ?_
    refine e_ret1 Try.results37 (.tmp rfl .nil) (fun w hm => ⟨?_, hm.since⟩)
    (cases b <;> simp_all [termRight, vi] <;> try omega)
theorem c_rcheck_s (n : Nat) (ih : RcheckIs n) (c : CT) (sv : Value) (d : Int) {G : Ghost} (hz : SizeOf.sizeOf c ≤ n + 1) (hd : 1 ≤ d) (hs : Rs G sv c.subs) (w : World) (hG : Has G w) :
    Calls Try.prog 14 #[Value.agg #[Value.int .i64 c.h.k, Value.int .i64 (vi c.h.v0), Value.int .i64 c.h.n0, Value.int .i64 (vi c.h.v1), Value.int .i64 c.h.n1, Value.int .i64 (vi c.h.v2), Value.int .i64 c.h.n2, sv], Value.int .i64 d] w (Ret fun r w' => r = Value.int .i64 (check c d) ∧ Since nX w w') := by
  refine enter (args := [_, _]) (X := nX) (G := G) (l := [(0, Value.agg #[Value.int .i64 c.h.k, Value.int .i64 (vi c.h.v0), Value.int .i64 c.h.n0, Value.int .i64 (vi c.h.v1), Value.int .i64 c.h.n1, Value.int .i64 (vi c.h.v2), Value.int .i64 c.h.n2, sv]), (1, Value.int .i64 d)]) Try.func14 rfl Try.ntmps14 hG ⟨rfl, rfl, trivial⟩ (Nat.le_of_ble_eq_true rfl) ?_
  obtain ⟨rs, hr, hp, hl⟩ := hs.inv
  have hlen : c.subs.length = rs.length := by rw [hl]; simp
  have hbd := hr.bound
  have hb0 : vi c.h.v0 = 0 ∨ vi c.h.v0 = 1 := (by cases c.h.v0 <;> simp [vi])
  have hb1 : vi c.h.v1 = 0 ∨ vi c.h.v1 = 1 := (by cases c.h.v1 <;> simp [vi])
  have hb2 : vi c.h.v2 = 0 ∨ vi c.h.v2 = 1 := (by cases c.h.v2 <;> simp [vi])
  refine c_seq ?_
  refine c_region ?_
  refine r_box .none rfl rfl (IsRow.lit _) (fun b_1 => ?_)
  refine r_val .none rfl (p_assign rfl) ?_
  refine r_nil ?_
  refine e_next ?_
  refine c_seq ?_
  refine c_seq ?_
  refine c_region ?_
  refine r_val .none rfl (p_move rfl) ?_
  refine r_val .none rfl (p_gt rfl rfl) ?_
  refine r_nil ?_
  refine e_next ?_
  refine c_splitd (d := 11) rfl (fun h_1 => ?_) (fun h_1 => ?_)
  · skip
    first
      | (exfalso; omega)
      | (
        refine c_cond_t rfl ?_
        refine c_seq ?_
        refine c_region ?_
        refine r_val .none rfl (p_assign rfl) ?_
        refine r_nil ?_
        refine e_next ?_
        refine c_ret ?_
        refine e_ret_then ?_
        refine e_ret1 Try.results14 (.tmp rfl .nil) (fun w hm => ⟨?_, hm.since⟩)
        rw [check_eq c d, show max d 1 = d by omega]
        have e5 : (0 : Int) = rs.length ∨ 0 < rs.length := (by omega)
        first
        | exact congrArg (Value.int .i64) (if_pos (by omega)).symm
        | exact congrArg (Value.int .i64) ((if_neg (by omega)).trans ((if_neg (by omega)).trans (if_pos (by omega)))).symm
        | exact congrArg (Value.int .i64) ((if_neg (by omega)).trans ((if_neg (by omega)).trans ((if_neg (by omega)).trans (if_pos (by first | (right; omega) | (left; simp_all [headOk]; done)))))).symm
        | exact congrArg (Value.int .i64) ((if_neg (by omega)).trans ((if_neg (by omega)).trans ((if_neg (by omega)).trans (if_neg (by rintro (hx | hx) <;> first | omega | (simp_all [headOk]; done)))))).symm
        | exact congrArg (Value.int .i64) ((if_neg (by omega)).trans ((if_pos (by omega)).trans (if_pos (headNone_no (by omega))))).symm
        | exact congrArg (Value.int .i64) ((if_neg (by omega)).trans ((if_pos (by omega)).trans ((if_neg (headNone_yes (by omega))).trans (if_pos (by omega))))).symm
        | exact congrArg (Value.int .i64) ((if_neg (by omega)).trans ((if_pos (by omega)).trans ((if_neg (headNone_yes (by omega))).trans ((if_neg (by omega)).trans (by rw [← hphi.2, map_drop (i := k) (d := d0) (by omega), checkL_no hE]))))).symm
        | exact congrArg (Value.int .i64) ((if_neg (by omega)).trans ((if_pos (by omega)).trans ((if_neg (headNone_yes (by omega))).trans ((if_neg (by omega)).trans (by rw [← hphi.2, List.drop_eq_nil_of_le (by simp; omega), checkL]))))).symm
        )
  · skip
    first
      | (exfalso; omega)
      | (
        refine c_cond_f rfl ?_
        refine c_skip ?_
        refine e_next ?_
        refine c_seq ?_
        refine c_seq ?_
        refine c_region ?_
        refine r_val .none rfl (p_field Try.underlying38 rfl sz3 rfl) ?_
        refine r_val .none rfl (p_ld (k := 0) Try.underlying3 rfl rfl rfl (by first | exact of_decide_eq_true rfl | omega) (rfl : _ = Value.int _ _)) ?_
        refine r_val .none rfl (p_lt rfl rfl) ?_
        refine r_val .none rfl (p_move rfl) ?_
        refine' r_or (c := 15) (d := 19) [_, _, _, _] rfl (fun h_2 Q_3 hQ_4 => ?_) (fun h_2 Q_3 hQ_4 => ?_) ?_
        rotate_left 1
        · skip
          replace h_2 := of_decide_eq_false h_2
          refine r_val (.some rfl rfl) rfl (p_field Try.underlying38 rfl sz3 rfl) ?_
          refine r_val (.some rfl rfl) rfl (p_ld (k := 0) Try.underlying3 rfl rfl rfl (by first | exact of_decide_eq_true rfl | omega) (rfl : _ = Value.int _ _)) ?_
          refine r_val (.some rfl rfl) rfl (p_gt rfl rfl) ?_
          refine r_val .none rfl (p_pick_f rfl rfl) ?_
          refine r_nil (e_fin (d := 19) hQ_4 rfl (by repeat (first | exact .refl | refine .put rfl ?_ | refine .say rfl ?_ | refine .say2 rfl (by first | assumption | simp_all) ?_)))
        · skip
          repeat (first | refine r_skip rfl (.no rfl rfl) ?_ | refine r_skip rfl (.un rfl rfl) ?_)
          refine r_val (by first | exact .none | exact .some rfl rfl) rfl (p_pick_t rfl rfl) ?_
          refine r_nil (e_fin (d := 19) hQ_4 rfl (by repeat (first | exact .refl | refine .put rfl ?_ | refine .say rfl ?_ | refine .say2 rfl (by first | assumption | simp_all) ?_)))
        refine r_nil ?_
        refine e_next ?_
        refine c_split (d := 19) rfl (fun h_6 => ?_) (fun h_6 => ?_)
        · skip
          try simp only [norms] at h_6
          first
            | (exfalso; omega)
            | (
              refine c_cond_t rfl ?_
              refine c_seq ?_
              refine c_region ?_
              refine r_val .none rfl (p_assign rfl) ?_
              refine r_nil ?_
              refine e_next ?_
              refine c_ret ?_
              refine e_ret_then ?_
              refine e_ret1 Try.results14 (.tmp rfl .nil) (fun w hm => ⟨?_, hm.since⟩)
              rw [check_eq c d, show max d 1 = d by omega]
              have e5 : (0 : Int) = rs.length ∨ 0 < rs.length := (by omega)
              first
              | exact congrArg (Value.int .i64) (if_pos (by omega)).symm
              | exact congrArg (Value.int .i64) ((if_neg (by omega)).trans ((if_neg (by omega)).trans (if_pos (by omega)))).symm
              | exact congrArg (Value.int .i64) ((if_neg (by omega)).trans ((if_neg (by omega)).trans ((if_neg (by omega)).trans (if_pos (by first | (right; omega) | (left; simp_all [headOk]; done)))))).symm
              | exact congrArg (Value.int .i64) ((if_neg (by omega)).trans ((if_neg (by omega)).trans ((if_neg (by omega)).trans (if_neg (by rintro (hx | hx) <;> first | omega | (simp_all [headOk]; done)))))).symm
              | exact congrArg (Value.int .i64) ((if_neg (by omega)).trans ((if_pos (by omega)).trans (if_pos (headNone_no (by omega))))).symm
              | exact congrArg (Value.int .i64) ((if_neg (by omega)).trans ((if_pos (by omega)).trans ((if_neg (headNone_yes (by omega))).trans (if_pos (by omega))))).symm
              | exact congrArg (Value.int .i64) ((if_neg (by omega)).trans ((if_pos (by omega)).trans ((if_neg (headNone_yes (by omega))).trans ((if_neg (by omega)).trans (by rw [← hphi.2, map_drop (i := k) (d := d0) (by omega), checkL_no hE]))))).symm
              | exact congrArg (Value.int .i64) ((if_neg (by omega)).trans ((if_pos (by omega)).trans ((if_neg (headNone_yes (by omega))).trans ((if_neg (by omega)).trans (by rw [← hphi.2, List.drop_eq_nil_of_le (by simp; omega), checkL]))))).symm
              )
        · skip
          try simp only [norms] at h_6
          first
            | (exfalso; omega)
            | (
              refine c_cond_f rfl ?_
              refine c_skip ?_
              refine e_next ?_
              refine c_seq ?_
              refine c_seq ?_
              refine c_region ?_
              refine r_val .none rfl (p_field Try.underlying38 rfl sz3 rfl) ?_
              refine r_val .none rfl (p_ld (k := 0) Try.underlying3 rfl rfl rfl (by first | exact of_decide_eq_true rfl | omega) (rfl : _ = Value.int _ _)) ?_
              refine r_val .none rfl (p_lt rfl rfl) ?_
              refine r_nil ?_
              refine e_next ?_
              refine c_splitd (d := 22) rfl (fun h_7 => ?_) (fun h_7 => ?_)
              · skip
                first
                  | (exfalso; omega)
                  | (
                    refine c_cond_t rfl ?_
                    refine c_seq ?_
                    refine c_seq ?_
                    refine c_region ?_
                    refine r_val .none rfl (p_assign rfl) ?_
                    refine r_nil ?_
                    refine e_next ?_
                    refine c_block ?_
                    refine c_unroll 4 ?_
                    refine l_round (n := 3) ?_
                    refine c_seq ?_
                    refine c_seq ?_
                    refine c_region ?_
                    refine r_val .none rfl (p_move rfl) ?_
                    refine r_val .none rfl (p_lt rfl rfl) ?_
                    refine r_say (d := 24) (v := Value.bool true) rfl ?_
                    refine r_nil ?_
                    refine e_next ?_
                    refine c_cond_t rfl ?_
                    refine c_skip ?_
                    refine e_next ?_
                    refine c_seq ?_
                    refine c_block ?_
                    refine c_seq ?_
                    refine c_region ?_
                    refine r_val .none rfl (p_move rfl) ?_
                    refine r_val .none rfl (p_field Try.underlying38 rfl sz35 rfl) ?_
                    refine r_val .none rfl (p_iaddr (k := 0) Try.underlying35 sz34 rfl rfl (by first | exact of_decide_eq_true rfl | omega)) ?_
                    refine r_val .none rfl (p_lda (k := 0) Try.underlying34 rfl sz34 rfl rfl (by first | exact of_decide_eq_true rfl | omega) (rfl : _ = Value.agg #[_, _])) ?_
                    refine r_call (vs := [_]) .none rfl cl37 rfl (fun w hw => c_rright _ _ w) ?_
                    refine r_val .none rfl (p_not rfl) ?_
                    refine r_nil ?_
                    refine e_next ?_
                    refine c_splitn (d := 32) rfl (fun h_8 => ?_) (fun h_8 => ?_)
                    · skip
                      first
                        | (exfalso; omega)
                        | (
                          refine c_cond_t rfl ?_
                          refine c_seq ?_
                          refine c_region ?_
                          refine r_val .none rfl (p_assign rfl) ?_
                          refine r_nil ?_
                          refine e_next ?_
                          refine c_ret ?_
                          refine e_ret_block ?_
                          refine e_ret_then ?_
                          refine e_ret_then ?_
                          refine e_ret_block ?_
                          refine e_ret_then ?_
                          refine e_ret_then ?_
                          refine e_ret1 Try.results14 (.tmp rfl .nil) (fun w hm => ⟨?_, hm.since⟩)
                          rw [check_eq c d, show max d 1 = d by omega]
                          have e5 : (0 : Int) = rs.length ∨ 0 < rs.length := (by omega)
                          first
                          | exact congrArg (Value.int .i64) (if_pos (by omega)).symm
                          | exact congrArg (Value.int .i64) ((if_neg (by omega)).trans ((if_neg (by omega)).trans (if_pos (by omega)))).symm
                          | exact congrArg (Value.int .i64) ((if_neg (by omega)).trans ((if_neg (by omega)).trans ((if_neg (by omega)).trans (if_pos (by first | (right; omega) | (left; simp_all [headOk]; done)))))).symm
                          | exact congrArg (Value.int .i64) ((if_neg (by omega)).trans ((if_neg (by omega)).trans ((if_neg (by omega)).trans (if_neg (by rintro (hx | hx) <;> first | omega | (simp_all [headOk]; done)))))).symm
                          | exact congrArg (Value.int .i64) ((if_neg (by omega)).trans ((if_pos (by omega)).trans (if_pos (headNone_no (by omega))))).symm
                          | exact congrArg (Value.int .i64) ((if_neg (by omega)).trans ((if_pos (by omega)).trans ((if_neg (headNone_yes (by omega))).trans (if_pos (by omega))))).symm
                          | exact congrArg (Value.int .i64) ((if_neg (by omega)).trans ((if_pos (by omega)).trans ((if_neg (headNone_yes (by omega))).trans ((if_neg (by omega)).trans (by rw [← hphi.2, map_drop (i := k) (d := d0) (by omega), checkL_no hE]))))).symm
                          | exact congrArg (Value.int .i64) ((if_neg (by omega)).trans ((if_pos (by omega)).trans ((if_neg (headNone_yes (by omega))).trans ((if_neg (by omega)).trans (by rw [← hphi.2, List.drop_eq_nil_of_le (by simp; omega), checkL]))))).symm
                          )
                    · skip
                      first
                        | (exfalso; omega)
                        | (
                          refine c_cond_f rfl ?_
                          refine c_skip ?_
                          refine e_norm_block ?_
                          refine e_next ?_
                          refine c_region ?_
                          refine r_val .none rfl (p_move rfl) ?_
                          refine r_val .none rfl (p_add rfl rfl (by omega)) ?_
                          refine r_val .none rfl (p_assign rfl) ?_
                          refine r_nil ?_
                          refine e_again ?_
                          refine l_round (n := 2) ?_
                          refine c_seq ?_
                          refine c_seq ?_
                          refine c_region ?_
                          refine r_val .none rfl (p_move rfl) ?_
                          refine r_val .none rfl (p_lt rfl rfl) ?_
                          refine r_say (d := 24) (v := Value.bool true) rfl ?_
                          refine r_nil ?_
                          refine e_next ?_
                          refine c_cond_t rfl ?_
                          refine c_skip ?_
                          refine e_next ?_
                          refine c_seq ?_
                          refine c_block ?_
                          refine c_seq ?_
                          refine c_region ?_
                          refine r_val .none rfl (p_move rfl) ?_
                          refine r_val .none rfl (p_field Try.underlying38 rfl sz35 rfl) ?_
                          refine r_val .none rfl (p_iaddr (k := 1) Try.underlying35 sz34 rfl rfl (by first | exact of_decide_eq_true rfl | omega)) ?_
                          refine r_val .none rfl (p_lda (k := 0) Try.underlying34 rfl sz34 rfl rfl (by first | exact of_decide_eq_true rfl | omega) (rfl : _ = Value.agg #[_, _])) ?_
                          refine r_call (vs := [_]) .none rfl cl37 rfl (fun w hw => c_rright _ _ w) ?_
                          refine r_val .none rfl (p_not rfl) ?_
                          refine r_nil ?_
                          refine e_next ?_
                          refine c_splitn (d := 32) rfl (fun h_9 => ?_) (fun h_9 => ?_)
                          · skip
                            first
                              | (exfalso; omega)
                              | (
                                refine c_cond_t rfl ?_
                                refine c_seq ?_
                                refine c_region ?_
                                refine r_val .none rfl (p_assign rfl) ?_
                                refine r_nil ?_
                                refine e_next ?_
                                refine c_ret ?_
                                refine e_ret_block ?_
                                refine e_ret_then ?_
                                refine e_ret_then ?_
                                refine e_ret_block ?_
                                refine e_ret_then ?_
                                refine e_ret_then ?_
                                refine e_ret1 Try.results14 (.tmp rfl .nil) (fun w hm => ⟨?_, hm.since⟩)
                                rw [check_eq c d, show max d 1 = d by omega]
                                have e5 : (0 : Int) = rs.length ∨ 0 < rs.length := (by omega)
                                first
                                | exact congrArg (Value.int .i64) (if_pos (by omega)).symm
                                | exact congrArg (Value.int .i64) ((if_neg (by omega)).trans ((if_neg (by omega)).trans (if_pos (by omega)))).symm
                                | exact congrArg (Value.int .i64) ((if_neg (by omega)).trans ((if_neg (by omega)).trans ((if_neg (by omega)).trans (if_pos (by first | (right; omega) | (left; simp_all [headOk]; done)))))).symm
                                | exact congrArg (Value.int .i64) ((if_neg (by omega)).trans ((if_neg (by omega)).trans ((if_neg (by omega)).trans (if_neg (by rintro (hx | hx) <;> first | omega | (simp_all [headOk]; done)))))).symm
                                | exact congrArg (Value.int .i64) ((if_neg (by omega)).trans ((if_pos (by omega)).trans (if_pos (headNone_no (by omega))))).symm
                                | exact congrArg (Value.int .i64) ((if_neg (by omega)).trans ((if_pos (by omega)).trans ((if_neg (headNone_yes (by omega))).trans (if_pos (by omega))))).symm
                                | exact congrArg (Value.int .i64) ((if_neg (by omega)).trans ((if_pos (by omega)).trans ((if_neg (headNone_yes (by omega))).trans ((if_neg (by omega)).trans (by rw [← hphi.2, map_drop (i := k) (d := d0) (by omega), checkL_no hE]))))).symm
                                | exact congrArg (Value.int .i64) ((if_neg (by omega)).trans ((if_pos (by omega)).trans ((if_neg (headNone_yes (by omega))).trans ((if_neg (by omega)).trans (by rw [← hphi.2, List.drop_eq_nil_of_le (by simp; omega), checkL]))))).symm
                                )
                          · skip
                            first
                              | (exfalso; omega)
                              | (
                                refine c_cond_f rfl ?_
                                refine c_skip ?_
                                refine e_norm_block ?_
                                refine e_next ?_
                                refine c_region ?_
                                refine r_val .none rfl (p_move rfl) ?_
                                refine r_val .none rfl (p_add rfl rfl (by omega)) ?_
                                refine r_val .none rfl (p_assign rfl) ?_
                                refine r_nil ?_
                                refine e_again ?_
                                refine l_round (n := 1) ?_
                                refine c_seq ?_
                                refine c_seq ?_
                                refine c_region ?_
                                refine r_val .none rfl (p_move rfl) ?_
                                refine r_val .none rfl (p_lt rfl rfl) ?_
                                refine r_say (d := 24) (v := Value.bool true) rfl ?_
                                refine r_nil ?_
                                refine e_next ?_
                                refine c_cond_t rfl ?_
                                refine c_skip ?_
                                refine e_next ?_
                                refine c_seq ?_
                                refine c_block ?_
                                refine c_seq ?_
                                refine c_region ?_
                                refine r_val .none rfl (p_move rfl) ?_
                                refine r_val .none rfl (p_field Try.underlying38 rfl sz35 rfl) ?_
                                refine r_val .none rfl (p_iaddr (k := 2) Try.underlying35 sz34 rfl rfl (by first | exact of_decide_eq_true rfl | omega)) ?_
                                refine r_val .none rfl (p_lda (k := 0) Try.underlying34 rfl sz34 rfl rfl (by first | exact of_decide_eq_true rfl | omega) (rfl : _ = Value.agg #[_, _])) ?_
                                refine r_call (vs := [_]) .none rfl cl37 rfl (fun w hw => c_rright _ _ w) ?_
                                refine r_val .none rfl (p_not rfl) ?_
                                refine r_nil ?_
                                refine e_next ?_
                                refine c_splitn (d := 32) rfl (fun h_10 => ?_) (fun h_10 => ?_)
                                · skip
                                  first
                                    | (exfalso; omega)
                                    | (
                                      refine c_cond_t rfl ?_
                                      refine c_seq ?_
                                      refine c_region ?_
                                      refine r_val .none rfl (p_assign rfl) ?_
                                      refine r_nil ?_
                                      refine e_next ?_
                                      refine c_ret ?_
                                      refine e_ret_block ?_
                                      refine e_ret_then ?_
                                      refine e_ret_then ?_
                                      refine e_ret_block ?_
                                      refine e_ret_then ?_
                                      refine e_ret_then ?_
                                      refine e_ret1 Try.results14 (.tmp rfl .nil) (fun w hm => ⟨?_, hm.since⟩)
                                      rw [check_eq c d, show max d 1 = d by omega]
                                      have e5 : (0 : Int) = rs.length ∨ 0 < rs.length := (by omega)
                                      first
                                      | exact congrArg (Value.int .i64) (if_pos (by omega)).symm
                                      | exact congrArg (Value.int .i64) ((if_neg (by omega)).trans ((if_neg (by omega)).trans (if_pos (by omega)))).symm
                                      | exact congrArg (Value.int .i64) ((if_neg (by omega)).trans ((if_neg (by omega)).trans ((if_neg (by omega)).trans (if_pos (by first | (right; omega) | (left; simp_all [headOk]; done)))))).symm
                                      | exact congrArg (Value.int .i64) ((if_neg (by omega)).trans ((if_neg (by omega)).trans ((if_neg (by omega)).trans (if_neg (by rintro (hx | hx) <;> first | omega | (simp_all [headOk]; done)))))).symm
                                      | exact congrArg (Value.int .i64) ((if_neg (by omega)).trans ((if_pos (by omega)).trans (if_pos (headNone_no (by omega))))).symm
                                      | exact congrArg (Value.int .i64) ((if_neg (by omega)).trans ((if_pos (by omega)).trans ((if_neg (headNone_yes (by omega))).trans (if_pos (by omega))))).symm
                                      | exact congrArg (Value.int .i64) ((if_neg (by omega)).trans ((if_pos (by omega)).trans ((if_neg (headNone_yes (by omega))).trans ((if_neg (by omega)).trans (by rw [← hphi.2, map_drop (i := k) (d := d0) (by omega), checkL_no hE]))))).symm
                                      | exact congrArg (Value.int .i64) ((if_neg (by omega)).trans ((if_pos (by omega)).trans ((if_neg (headNone_yes (by omega))).trans ((if_neg (by omega)).trans (by rw [← hphi.2, List.drop_eq_nil_of_le (by simp; omega), checkL]))))).symm
                                      )
                                · skip
                                  first
                                    | (exfalso; omega)
                                    | (
                                      refine c_cond_f rfl ?_
                                      refine c_skip ?_
                                      refine e_norm_block ?_
                                      refine e_next ?_
                                      refine c_region ?_
                                      refine r_val .none rfl (p_move rfl) ?_
                                      refine r_val .none rfl (p_add rfl rfl (by omega)) ?_
                                      refine r_val .none rfl (p_assign rfl) ?_
                                      refine r_nil ?_
                                      refine e_again ?_
                                      refine l_round (n := 0) ?_
                                      refine c_seq ?_
                                      refine c_seq ?_
                                      refine c_region ?_
                                      refine r_val .none rfl (p_move rfl) ?_
                                      refine r_val .none rfl (p_lt rfl rfl) ?_
                                      refine r_say (d := 24) (v := Value.bool false) rfl ?_
                                      refine r_nil ?_
                                      refine e_next ?_
                                      refine c_cond_f rfl ?_
                                      refine c_exit ?_
                                      refine e_exit_then ?_
                                      refine e_exit_then ?_
                                      refine e_exit_block ?_
                                      refine e_next ?_
                                      refine c_seq ?_
                                      refine c_seq ?_
                                      refine c_region ?_
                                      refine r_val .none rfl (p_field Try.underlying38 rfl sz36 rfl) ?_
                                      refine r_val .none rfl (p_ld (k := 0) Try.underlying36 rfl rfl rfl (by first | exact of_decide_eq_true rfl | omega) rfl) ?_
                                      refine r_val .none rfl (p_leng Try.underlying36 rfl hr) ?_
                                      have bd_11 := (hr).bound
                                      refine r_val .none rfl (p_gt rfl rfl) ?_
                                      refine r_nil ?_
                                      refine e_next ?_
                                      refine c_splitd (d := 36) rfl (fun h_12 => ?_) (fun h_12 => ?_)
                                      · skip
                                        first
                                          | (exfalso; omega)
                                          | (
                                            refine c_cond_t rfl ?_
                                            refine c_seq ?_
                                            refine c_region ?_
                                            refine r_val .none rfl (p_assign rfl) ?_
                                            refine r_nil ?_
                                            refine e_next ?_
                                            refine c_ret ?_
                                            refine e_ret_then ?_
                                            refine e_ret_then ?_
                                            refine e_ret1 Try.results14 (.tmp rfl .nil) (fun w hm => ⟨?_, hm.since⟩)
                                            rw [check_eq c d, show max d 1 = d by omega]
                                            have e5 : (0 : Int) = rs.length ∨ 0 < rs.length := (by omega)
                                            first
                                            | exact congrArg (Value.int .i64) (if_pos (by omega)).symm
                                            | exact congrArg (Value.int .i64) ((if_neg (by omega)).trans ((if_neg (by omega)).trans (if_pos (by omega)))).symm
                                            | exact congrArg (Value.int .i64) ((if_neg (by omega)).trans ((if_neg (by omega)).trans ((if_neg (by omega)).trans (if_pos (by first | (right; omega) | (left; simp_all [headOk]; done)))))).symm
                                            | exact congrArg (Value.int .i64) ((if_neg (by omega)).trans ((if_neg (by omega)).trans ((if_neg (by omega)).trans (if_neg (by rintro (hx | hx) <;> first | omega | (simp_all [headOk]; done)))))).symm
                                            | exact congrArg (Value.int .i64) ((if_neg (by omega)).trans ((if_pos (by omega)).trans (if_pos (headNone_no (by omega))))).symm
                                            | exact congrArg (Value.int .i64) ((if_neg (by omega)).trans ((if_pos (by omega)).trans ((if_neg (headNone_yes (by omega))).trans (if_pos (by omega))))).symm
                                            | exact congrArg (Value.int .i64) ((if_neg (by omega)).trans ((if_pos (by omega)).trans ((if_neg (headNone_yes (by omega))).trans ((if_neg (by omega)).trans (by rw [← hphi.2, map_drop (i := k) (d := d0) (by omega), checkL_no hE]))))).symm
                                            | exact congrArg (Value.int .i64) ((if_neg (by omega)).trans ((if_pos (by omega)).trans ((if_neg (headNone_yes (by omega))).trans ((if_neg (by omega)).trans (by rw [← hphi.2, List.drop_eq_nil_of_le (by simp; omega), checkL]))))).symm
                                            )
                                      · skip
                                        first
                                          | (exfalso; omega)
                                          | (
                                            refine c_cond_f rfl ?_
                                            refine c_skip ?_
                                            refine e_next ?_
                                            refine c_seq ?_
                                            refine c_region ?_
                                            refine r_val .none rfl (p_assign rfl) ?_
                                            refine r_nil ?_
                                            refine e_next ?_
                                            refine c_ret ?_
                                            refine e_ret_then ?_
                                            refine e_ret1 Try.results14 (.tmp rfl .nil) (fun w hm => ⟨?_, hm.since⟩)
                                            rw [check_eq c d, show max d 1 = d by omega]
                                            have e5 : (0 : Int) = rs.length ∨ 0 < rs.length := (by omega)
                                            first
                                            | exact congrArg (Value.int .i64) (if_pos (by omega)).symm
                                            | exact congrArg (Value.int .i64) ((if_neg (by omega)).trans ((if_neg (by omega)).trans (if_pos (by omega)))).symm
                                            | exact congrArg (Value.int .i64) ((if_neg (by omega)).trans ((if_neg (by omega)).trans ((if_neg (by omega)).trans (if_pos (by first | (right; omega) | (left; simp_all [headOk]; done)))))).symm
                                            | exact congrArg (Value.int .i64) ((if_neg (by omega)).trans ((if_neg (by omega)).trans ((if_neg (by omega)).trans (if_neg (by rintro (hx | hx) <;> first | omega | (simp_all [headOk]; done)))))).symm
                                            | exact congrArg (Value.int .i64) ((if_neg (by omega)).trans ((if_pos (by omega)).trans (if_pos (headNone_no (by omega))))).symm
                                            | exact congrArg (Value.int .i64) ((if_neg (by omega)).trans ((if_pos (by omega)).trans ((if_neg (headNone_yes (by omega))).trans (if_pos (by omega))))).symm
                                            | exact congrArg (Value.int .i64) ((if_neg (by omega)).trans ((if_pos (by omega)).trans ((if_neg (headNone_yes (by omega))).trans ((if_neg (by omega)).trans (by rw [← hphi.2, map_drop (i := k) (d := d0) (by omega), checkL_no hE]))))).symm
                                            | exact congrArg (Value.int .i64) ((if_neg (by omega)).trans ((if_pos (by omega)).trans ((if_neg (headNone_yes (by omega))).trans ((if_neg (by omega)).trans (by rw [← hphi.2, List.drop_eq_nil_of_le (by simp; omega), checkL]))))).symm
                                            )
                                      )
                                )
                          )
                    )
              · skip
                first
                  | (exfalso; omega)
                  | (
                    refine c_cond_f rfl ?_
                    refine c_skip ?_
                    refine e_next ?_
                    refine c_seq ?_
                    refine c_seq ?_
                    refine c_region ?_
                    refine r_val .none rfl (p_assign rfl) ?_
                    refine r_nil ?_
                    refine e_next ?_
                    refine c_block ?_
                    refine c_unroll 4 ?_
                    refine l_round (n := 3) ?_
                    refine c_seq ?_
                    refine c_seq ?_
                    refine c_region ?_
                    refine r_val .none rfl (p_move rfl) ?_
                    refine r_val .none rfl (p_lt rfl rfl) ?_
                    refine r_say (d := 38) (v := Value.bool true) rfl ?_
                    refine r_nil ?_
                    refine e_next ?_
                    refine c_cond_t rfl ?_
                    refine c_skip ?_
                    refine e_next ?_
                    refine c_seq ?_
                    refine c_block ?_
                    refine c_seq ?_
                    refine c_region ?_
                    refine r_val .none rfl (p_move rfl) ?_
                    refine r_val .none rfl (p_field Try.underlying38 rfl sz35 rfl) ?_
                    refine r_val .none rfl (p_iaddr (k := 0) Try.underlying35 sz34 rfl rfl (by first | exact of_decide_eq_true rfl | omega)) ?_
                    refine r_val .none rfl (p_field Try.underlying34 rfl sz3 rfl) ?_
                    refine r_val .none rfl (p_ld (k := 0) Try.underlying3 rfl rfl rfl (by first | exact of_decide_eq_true rfl | omega) (rfl : _ = Value.int _ _)) ?_
                    refine r_val .none rfl (p_ne rfl rfl) ?_
                    refine r_val .none rfl (p_move rfl) ?_
                    refine' r_or (c := 47) (d := 54) [_, _, _, _, _, _, _] rfl (fun h_13 Q_14 hQ_15 => ?_) (fun h_13 Q_14 hQ_15 => ?_) ?_
                    rotate_left 1
                    · skip
                      replace h_13 := of_decide_eq_false h_13
                      refine r_val (.some rfl rfl) rfl (p_move rfl) ?_
                      refine r_val (.some rfl rfl) rfl (p_field Try.underlying38 rfl sz35 rfl) ?_
                      refine r_val (.some rfl rfl) rfl (p_iaddr (k := 0) Try.underlying35 sz34 rfl rfl (by first | exact of_decide_eq_true rfl | omega)) ?_
                      refine r_val (.some rfl rfl) rfl (p_field Try.underlying34 rfl sz3 rfl) ?_
                      refine r_val (.some rfl rfl) rfl (p_ld (k := 0) Try.underlying3 rfl rfl rfl (by first | exact of_decide_eq_true rfl | omega) (rfl : _ = Value.int _ _)) ?_
                      refine r_val (.some rfl rfl) rfl (p_ne rfl rfl) ?_
                      refine r_val .none rfl (p_pick_f rfl rfl) ?_
                      refine r_nil (e_fin (d := 54) hQ_15 rfl (by repeat (first | exact .refl | refine .put rfl ?_ | refine .say rfl ?_ | refine .say2 rfl (by first | assumption | simp_all) ?_)))
                    · skip
                      repeat (first | refine r_skip rfl (.no rfl rfl) ?_ | refine r_skip rfl (.un rfl rfl) ?_)
                      refine r_val (by first | exact .none | exact .some rfl rfl) rfl (p_pick_t rfl rfl) ?_
                      refine r_nil (e_fin (d := 54) hQ_15 rfl (by repeat (first | exact .refl | refine .put rfl ?_ | refine .say rfl ?_ | refine .say2 rfl (by first | assumption | simp_all) ?_)))
                    refine r_nil ?_
                    refine e_next ?_
                    refine c_split (d := 54) rfl (fun h_17 => ?_) (fun h_17 => ?_)
                    · skip
                      try simp only [norms] at h_17
                      first
                        | (exfalso; omega)
                        | (
                          refine c_cond_t rfl ?_
                          refine c_seq ?_
                          refine c_region ?_
                          refine r_val .none rfl (p_assign rfl) ?_
                          refine r_nil ?_
                          refine e_next ?_
                          refine c_ret ?_
                          refine e_ret_block ?_
                          refine e_ret_then ?_
                          refine e_ret_then ?_
                          refine e_ret_block ?_
                          refine e_ret_then ?_
                          refine e_ret1 Try.results14 (.tmp rfl .nil) (fun w hm => ⟨?_, hm.since⟩)
                          rw [check_eq c d, show max d 1 = d by omega]
                          have e5 : (0 : Int) = rs.length ∨ 0 < rs.length := (by omega)
                          first
                          | exact congrArg (Value.int .i64) (if_pos (by omega)).symm
                          | exact congrArg (Value.int .i64) ((if_neg (by omega)).trans ((if_neg (by omega)).trans (if_pos (by omega)))).symm
                          | exact congrArg (Value.int .i64) ((if_neg (by omega)).trans ((if_neg (by omega)).trans ((if_neg (by omega)).trans (if_pos (by first | (right; omega) | (left; simp_all [headOk]; done)))))).symm
                          | exact congrArg (Value.int .i64) ((if_neg (by omega)).trans ((if_neg (by omega)).trans ((if_neg (by omega)).trans (if_neg (by rintro (hx | hx) <;> first | omega | (simp_all [headOk]; done)))))).symm
                          | exact congrArg (Value.int .i64) ((if_neg (by omega)).trans ((if_pos (by omega)).trans (if_pos (headNone_no (by omega))))).symm
                          | exact congrArg (Value.int .i64) ((if_neg (by omega)).trans ((if_pos (by omega)).trans ((if_neg (headNone_yes (by omega))).trans (if_pos (by omega))))).symm
                          | exact congrArg (Value.int .i64) ((if_neg (by omega)).trans ((if_pos (by omega)).trans ((if_neg (headNone_yes (by omega))).trans ((if_neg (by omega)).trans (by rw [← hphi.2, map_drop (i := k) (d := d0) (by omega), checkL_no hE]))))).symm
                          | exact congrArg (Value.int .i64) ((if_neg (by omega)).trans ((if_pos (by omega)).trans ((if_neg (headNone_yes (by omega))).trans ((if_neg (by omega)).trans (by rw [← hphi.2, List.drop_eq_nil_of_le (by simp; omega), checkL]))))).symm
                          )
                    · skip
                      try simp only [norms] at h_17
                      first
                        | (exfalso; omega)
                        | (
                          refine c_cond_f rfl ?_
                          refine c_skip ?_
                          refine e_norm_block ?_
                          refine e_next ?_
                          refine c_region ?_
                          refine r_val .none rfl (p_move rfl) ?_
                          refine r_val .none rfl (p_add rfl rfl (by omega)) ?_
                          refine r_val .none rfl (p_assign rfl) ?_
                          refine r_nil ?_
                          refine e_again ?_
                          refine l_round (n := 2) ?_
                          refine c_seq ?_
                          refine c_seq ?_
                          refine c_region ?_
                          refine r_val .none rfl (p_move rfl) ?_
                          refine r_val .none rfl (p_lt rfl rfl) ?_
                          refine r_say (d := 38) (v := Value.bool true) rfl ?_
                          refine r_nil ?_
                          refine e_next ?_
                          refine c_cond_t rfl ?_
                          refine c_skip ?_
                          refine e_next ?_
                          refine c_seq ?_
                          refine c_block ?_
                          refine c_seq ?_
                          refine c_region ?_
                          refine r_val .none rfl (p_move rfl) ?_
                          refine r_val .none rfl (p_field Try.underlying38 rfl sz35 rfl) ?_
                          refine r_val .none rfl (p_iaddr (k := 1) Try.underlying35 sz34 rfl rfl (by first | exact of_decide_eq_true rfl | omega)) ?_
                          refine r_val .none rfl (p_field Try.underlying34 rfl sz3 rfl) ?_
                          refine r_val .none rfl (p_ld (k := 0) Try.underlying3 rfl rfl rfl (by first | exact of_decide_eq_true rfl | omega) (rfl : _ = Value.int _ _)) ?_
                          refine r_val .none rfl (p_ne rfl rfl) ?_
                          refine r_val .none rfl (p_move rfl) ?_
                          refine r_splitd (d := 47) rfl (fun h_18 => ?_) (fun h_18 => ?_)
                          · skip
                            first
                              | (exfalso; omega)
                              | (
                                refine r_skip rfl (.no rfl rfl) ?_
                                refine r_skip rfl (.no rfl rfl) ?_
                                refine r_skip rfl (.no rfl rfl) ?_
                                refine r_skip rfl (.no rfl rfl) ?_
                                refine r_skip rfl (.no rfl rfl) ?_
                                refine r_skip rfl (.no rfl rfl) ?_
                                refine r_val .none rfl (p_pick_t rfl rfl) ?_
                                refine r_nil ?_
                                refine e_next ?_
                                refine c_cond_t rfl ?_
                                refine c_seq ?_
                                refine c_region ?_
                                refine r_val .none rfl (p_assign rfl) ?_
                                refine r_nil ?_
                                refine e_next ?_
                                refine c_ret ?_
                                refine e_ret_block ?_
                                refine e_ret_then ?_
                                refine e_ret_then ?_
                                refine e_ret_block ?_
                                refine e_ret_then ?_
                                refine e_ret1 Try.results14 (.tmp rfl .nil) (fun w hm => ⟨?_, hm.since⟩)
                                rw [check_eq c d, show max d 1 = d by omega]
                                have e5 : (0 : Int) = rs.length ∨ 0 < rs.length := (by omega)
                                first
                                | exact congrArg (Value.int .i64) (if_pos (by omega)).symm
                                | exact congrArg (Value.int .i64) ((if_neg (by omega)).trans ((if_neg (by omega)).trans (if_pos (by omega)))).symm
                                | exact congrArg (Value.int .i64) ((if_neg (by omega)).trans ((if_neg (by omega)).trans ((if_neg (by omega)).trans (if_pos (by first | (right; omega) | (left; simp_all [headOk]; done)))))).symm
                                | exact congrArg (Value.int .i64) ((if_neg (by omega)).trans ((if_neg (by omega)).trans ((if_neg (by omega)).trans (if_neg (by rintro (hx | hx) <;> first | omega | (simp_all [headOk]; done)))))).symm
                                | exact congrArg (Value.int .i64) ((if_neg (by omega)).trans ((if_pos (by omega)).trans (if_pos (headNone_no (by omega))))).symm
                                | exact congrArg (Value.int .i64) ((if_neg (by omega)).trans ((if_pos (by omega)).trans ((if_neg (headNone_yes (by omega))).trans (if_pos (by omega))))).symm
                                | exact congrArg (Value.int .i64) ((if_neg (by omega)).trans ((if_pos (by omega)).trans ((if_neg (headNone_yes (by omega))).trans ((if_neg (by omega)).trans (by rw [← hphi.2, map_drop (i := k) (d := d0) (by omega), checkL_no hE]))))).symm
                                | exact congrArg (Value.int .i64) ((if_neg (by omega)).trans ((if_pos (by omega)).trans ((if_neg (headNone_yes (by omega))).trans ((if_neg (by omega)).trans (by rw [← hphi.2, List.drop_eq_nil_of_le (by simp; omega), checkL]))))).symm
                                )
                          · skip
                            first
                              | (exfalso; omega)
                              | (
                                refine r_val (.some rfl rfl) rfl (p_move rfl) ?_
                                refine r_val (.some rfl rfl) rfl (p_field Try.underlying38 rfl sz35 rfl) ?_
                                refine r_val (.some rfl rfl) rfl (p_iaddr (k := 1) Try.underlying35 sz34 rfl rfl (by first | exact of_decide_eq_true rfl | omega)) ?_
                                refine r_val (.some rfl rfl) rfl (p_field Try.underlying34 rfl sz3 rfl) ?_
                                refine r_val (.some rfl rfl) rfl (p_ld (k := 0) Try.underlying3 rfl rfl rfl (by first | exact of_decide_eq_true rfl | omega) (rfl : _ = Value.int _ _)) ?_
                                refine r_val (.some rfl rfl) rfl (p_ne rfl rfl) ?_
                                refine r_val .none rfl (p_pick_f rfl rfl) ?_
                                refine r_nil ?_
                                refine e_next ?_
                                refine c_splitd (d := 54) rfl (fun h_19 => ?_) (fun h_19 => ?_)
                                · skip
                                  first
                                    | (exfalso; omega)
                                    | (
                                      refine c_cond_t rfl ?_
                                      refine c_seq ?_
                                      refine c_region ?_
                                      refine r_val .none rfl (p_assign rfl) ?_
                                      refine r_nil ?_
                                      refine e_next ?_
                                      refine c_ret ?_
                                      refine e_ret_block ?_
                                      refine e_ret_then ?_
                                      refine e_ret_then ?_
                                      refine e_ret_block ?_
                                      refine e_ret_then ?_
                                      refine e_ret1 Try.results14 (.tmp rfl .nil) (fun w hm => ⟨?_, hm.since⟩)
                                      rw [check_eq c d, show max d 1 = d by omega]
                                      have e5 : (0 : Int) = rs.length ∨ 0 < rs.length := (by omega)
                                      first
                                      | exact congrArg (Value.int .i64) (if_pos (by omega)).symm
                                      | exact congrArg (Value.int .i64) ((if_neg (by omega)).trans ((if_neg (by omega)).trans (if_pos (by omega)))).symm
                                      | exact congrArg (Value.int .i64) ((if_neg (by omega)).trans ((if_neg (by omega)).trans ((if_neg (by omega)).trans (if_pos (by first | (right; omega) | (left; simp_all [headOk]; done)))))).symm
                                      | exact congrArg (Value.int .i64) ((if_neg (by omega)).trans ((if_neg (by omega)).trans ((if_neg (by omega)).trans (if_neg (by rintro (hx | hx) <;> first | omega | (simp_all [headOk]; done)))))).symm
                                      | exact congrArg (Value.int .i64) ((if_neg (by omega)).trans ((if_pos (by omega)).trans (if_pos (headNone_no (by omega))))).symm
                                      | exact congrArg (Value.int .i64) ((if_neg (by omega)).trans ((if_pos (by omega)).trans ((if_neg (headNone_yes (by omega))).trans (if_pos (by omega))))).symm
                                      | exact congrArg (Value.int .i64) ((if_neg (by omega)).trans ((if_pos (by omega)).trans ((if_neg (headNone_yes (by omega))).trans ((if_neg (by omega)).trans (by rw [← hphi.2, map_drop (i := k) (d := d0) (by omega), checkL_no hE]))))).symm
                                      | exact congrArg (Value.int .i64) ((if_neg (by omega)).trans ((if_pos (by omega)).trans ((if_neg (headNone_yes (by omega))).trans ((if_neg (by omega)).trans (by rw [← hphi.2, List.drop_eq_nil_of_le (by simp; omega), checkL]))))).symm
                                      )
                                · skip
                                  first
                                    | (exfalso; omega)
                                    | (
                                      refine c_cond_f rfl ?_
                                      refine c_skip ?_
                                      refine e_norm_block ?_
                                      refine e_next ?_
                                      refine c_region ?_
                                      refine r_val .none rfl (p_move rfl) ?_
                                      refine r_val .none rfl (p_add rfl rfl (by omega)) ?_
                                      refine r_val .none rfl (p_assign rfl) ?_
                                      refine r_nil ?_
                                      refine e_again ?_
                                      refine l_round (n := 1) ?_
                                      refine c_seq ?_
                                      refine c_seq ?_
                                      refine c_region ?_
                                      refine r_val .none rfl (p_move rfl) ?_
                                      refine r_val .none rfl (p_lt rfl rfl) ?_
                                      refine r_say (d := 38) (v := Value.bool true) rfl ?_
                                      refine r_nil ?_
                                      refine e_next ?_
                                      refine c_cond_t rfl ?_
                                      refine c_skip ?_
                                      refine e_next ?_
                                      refine c_seq ?_
                                      refine c_block ?_
                                      refine c_seq ?_
                                      refine c_region ?_
                                      refine r_val .none rfl (p_move rfl) ?_
                                      refine r_val .none rfl (p_field Try.underlying38 rfl sz35 rfl) ?_
                                      refine r_val .none rfl (p_iaddr (k := 2) Try.underlying35 sz34 rfl rfl (by first | exact of_decide_eq_true rfl | omega)) ?_
                                      refine r_val .none rfl (p_field Try.underlying34 rfl sz3 rfl) ?_
                                      refine r_val .none rfl (p_ld (k := 0) Try.underlying3 rfl rfl rfl (by first | exact of_decide_eq_true rfl | omega) (rfl : _ = Value.int _ _)) ?_
                                      refine r_val .none rfl (p_ne rfl rfl) ?_
                                      refine r_val .none rfl (p_move rfl) ?_
                                      refine r_splitd (d := 47) rfl (fun h_20 => ?_) (fun h_20 => ?_)
                                      · skip
                                        first
                                          | (exfalso; omega)
                                          | (
                                            refine r_skip rfl (.no rfl rfl) ?_
                                            refine r_skip rfl (.no rfl rfl) ?_
                                            refine r_skip rfl (.no rfl rfl) ?_
                                            refine r_skip rfl (.no rfl rfl) ?_
                                            refine r_skip rfl (.no rfl rfl) ?_
                                            refine r_skip rfl (.no rfl rfl) ?_
                                            refine r_val .none rfl (p_pick_t rfl rfl) ?_
                                            refine r_nil ?_
                                            refine e_next ?_
                                            refine c_cond_t rfl ?_
                                            refine c_seq ?_
                                            refine c_region ?_
                                            refine r_val .none rfl (p_assign rfl) ?_
                                            refine r_nil ?_
                                            refine e_next ?_
                                            refine c_ret ?_
                                            refine e_ret_block ?_
                                            refine e_ret_then ?_
                                            refine e_ret_then ?_
                                            refine e_ret_block ?_
                                            refine e_ret_then ?_
                                            refine e_ret1 Try.results14 (.tmp rfl .nil) (fun w hm => ⟨?_, hm.since⟩)
                                            rw [check_eq c d, show max d 1 = d by omega]
                                            have e5 : (0 : Int) = rs.length ∨ 0 < rs.length := (by omega)
                                            first
                                            | exact congrArg (Value.int .i64) (if_pos (by omega)).symm
                                            | exact congrArg (Value.int .i64) ((if_neg (by omega)).trans ((if_neg (by omega)).trans (if_pos (by omega)))).symm
                                            | exact congrArg (Value.int .i64) ((if_neg (by omega)).trans ((if_neg (by omega)).trans ((if_neg (by omega)).trans (if_pos (by first | (right; omega) | (left; simp_all [headOk]; done)))))).symm
                                            | exact congrArg (Value.int .i64) ((if_neg (by omega)).trans ((if_neg (by omega)).trans ((if_neg (by omega)).trans (if_neg (by rintro (hx | hx) <;> first | omega | (simp_all [headOk]; done)))))).symm
                                            | exact congrArg (Value.int .i64) ((if_neg (by omega)).trans ((if_pos (by omega)).trans (if_pos (headNone_no (by omega))))).symm
                                            | exact congrArg (Value.int .i64) ((if_neg (by omega)).trans ((if_pos (by omega)).trans ((if_neg (headNone_yes (by omega))).trans (if_pos (by omega))))).symm
                                            | exact congrArg (Value.int .i64) ((if_neg (by omega)).trans ((if_pos (by omega)).trans ((if_neg (headNone_yes (by omega))).trans ((if_neg (by omega)).trans (by rw [← hphi.2, map_drop (i := k) (d := d0) (by omega), checkL_no hE]))))).symm
                                            | exact congrArg (Value.int .i64) ((if_neg (by omega)).trans ((if_pos (by omega)).trans ((if_neg (headNone_yes (by omega))).trans ((if_neg (by omega)).trans (by rw [← hphi.2, List.drop_eq_nil_of_le (by simp; omega), checkL]))))).symm
                                            )
                                      · skip
                                        first
                                          | (exfalso; omega)
                                          | (
                                            refine r_val (.some rfl rfl) rfl (p_move rfl) ?_
                                            refine r_val (.some rfl rfl) rfl (p_field Try.underlying38 rfl sz35 rfl) ?_
                                            refine r_val (.some rfl rfl) rfl (p_iaddr (k := 2) Try.underlying35 sz34 rfl rfl (by first | exact of_decide_eq_true rfl | omega)) ?_
                                            refine r_val (.some rfl rfl) rfl (p_field Try.underlying34 rfl sz3 rfl) ?_
                                            refine r_val (.some rfl rfl) rfl (p_ld (k := 0) Try.underlying3 rfl rfl rfl (by first | exact of_decide_eq_true rfl | omega) (rfl : _ = Value.int _ _)) ?_
                                            refine r_val (.some rfl rfl) rfl (p_ne rfl rfl) ?_
                                            refine r_val .none rfl (p_pick_f rfl rfl) ?_
                                            refine r_nil ?_
                                            refine e_next ?_
                                            refine c_splitd (d := 54) rfl (fun h_21 => ?_) (fun h_21 => ?_)
                                            · skip
                                              first
                                                | (exfalso; omega)
                                                | (
                                                  refine c_cond_t rfl ?_
                                                  refine c_seq ?_
                                                  refine c_region ?_
                                                  refine r_val .none rfl (p_assign rfl) ?_
                                                  refine r_nil ?_
                                                  refine e_next ?_
                                                  refine c_ret ?_
                                                  refine e_ret_block ?_
                                                  refine e_ret_then ?_
                                                  refine e_ret_then ?_
                                                  refine e_ret_block ?_
                                                  refine e_ret_then ?_
                                                  refine e_ret1 Try.results14 (.tmp rfl .nil) (fun w hm => ⟨?_, hm.since⟩)
                                                  rw [check_eq c d, show max d 1 = d by omega]
                                                  have e5 : (0 : Int) = rs.length ∨ 0 < rs.length := (by omega)
                                                  first
                                                  | exact congrArg (Value.int .i64) (if_pos (by omega)).symm
                                                  | exact congrArg (Value.int .i64) ((if_neg (by omega)).trans ((if_neg (by omega)).trans (if_pos (by omega)))).symm
                                                  | exact congrArg (Value.int .i64) ((if_neg (by omega)).trans ((if_neg (by omega)).trans ((if_neg (by omega)).trans (if_pos (by first | (right; omega) | (left; simp_all [headOk]; done)))))).symm
                                                  | exact congrArg (Value.int .i64) ((if_neg (by omega)).trans ((if_neg (by omega)).trans ((if_neg (by omega)).trans (if_neg (by rintro (hx | hx) <;> first | omega | (simp_all [headOk]; done)))))).symm
                                                  | exact congrArg (Value.int .i64) ((if_neg (by omega)).trans ((if_pos (by omega)).trans (if_pos (headNone_no (by omega))))).symm
                                                  | exact congrArg (Value.int .i64) ((if_neg (by omega)).trans ((if_pos (by omega)).trans ((if_neg (headNone_yes (by omega))).trans (if_pos (by omega))))).symm
                                                  | exact congrArg (Value.int .i64) ((if_neg (by omega)).trans ((if_pos (by omega)).trans ((if_neg (headNone_yes (by omega))).trans ((if_neg (by omega)).trans (by rw [← hphi.2, map_drop (i := k) (d := d0) (by omega), checkL_no hE]))))).symm
                                                  | exact congrArg (Value.int .i64) ((if_neg (by omega)).trans ((if_pos (by omega)).trans ((if_neg (headNone_yes (by omega))).trans ((if_neg (by omega)).trans (by rw [← hphi.2, List.drop_eq_nil_of_le (by simp; omega), checkL]))))).symm
                                                  )
                                            · skip
                                              first
                                                | (exfalso; omega)
                                                | (
                                                  refine c_cond_f rfl ?_
                                                  refine c_skip ?_
                                                  refine e_norm_block ?_
                                                  refine e_next ?_
                                                  refine c_region ?_
                                                  refine r_val .none rfl (p_move rfl) ?_
                                                  refine r_val .none rfl (p_add rfl rfl (by omega)) ?_
                                                  refine r_val .none rfl (p_assign rfl) ?_
                                                  refine r_nil ?_
                                                  refine e_again ?_
                                                  refine l_round (n := 0) ?_
                                                  refine c_seq ?_
                                                  refine c_seq ?_
                                                  refine c_region ?_
                                                  refine r_val .none rfl (p_move rfl) ?_
                                                  refine r_val .none rfl (p_lt rfl rfl) ?_
                                                  refine r_say (d := 38) (v := Value.bool false) rfl ?_
                                                  refine r_nil ?_
                                                  refine e_next ?_
                                                  refine c_cond_f rfl ?_
                                                  refine c_exit ?_
                                                  refine e_exit_then ?_
                                                  refine e_exit_then ?_
                                                  refine e_exit_block ?_
                                                  refine e_next ?_
                                                  refine c_seq ?_
                                                  refine c_seq ?_
                                                  refine c_region ?_
                                                  refine r_val .none rfl (p_field Try.underlying38 rfl sz36 rfl) ?_
                                                  refine r_val .none rfl (p_ld (k := 0) Try.underlying36 rfl rfl rfl (by first | exact of_decide_eq_true rfl | omega) rfl) ?_
                                                  refine r_val .none rfl (p_leng Try.underlying36 rfl hr) ?_
                                                  have bd_22 := (hr).bound
                                                  refine r_val .none rfl (p_eq rfl rfl) ?_
                                                  refine r_nil ?_
                                                  refine e_next ?_
                                                  refine c_splitd (d := 58) rfl (fun h_23 => ?_) (fun h_23 => ?_)
                                                  · skip
                                                    first
                                                      | (exfalso; omega)
                                                      | (
                                                        refine c_cond_t rfl ?_
                                                        refine c_seq ?_
                                                        refine c_region ?_
                                                        refine r_val .none rfl (p_assign rfl) ?_
                                                        refine r_nil ?_
                                                        refine e_next ?_
                                                        refine c_ret ?_
                                                        refine e_ret_then ?_
                                                        refine e_ret1 Try.results14 (.tmp rfl .nil) (fun w hm => ⟨?_, hm.since⟩)
                                                        rw [check_eq c d, show max d 1 = d by omega]
                                                        have e5 : (0 : Int) = rs.length ∨ 0 < rs.length := (by omega)
                                                        first
                                                        | exact congrArg (Value.int .i64) (if_pos (by omega)).symm
                                                        | exact congrArg (Value.int .i64) ((if_neg (by omega)).trans ((if_neg (by omega)).trans (if_pos (by omega)))).symm
                                                        | exact congrArg (Value.int .i64) ((if_neg (by omega)).trans ((if_neg (by omega)).trans ((if_neg (by omega)).trans (if_pos (by first | (right; omega) | (left; simp_all [headOk]; done)))))).symm
                                                        | exact congrArg (Value.int .i64) ((if_neg (by omega)).trans ((if_neg (by omega)).trans ((if_neg (by omega)).trans (if_neg (by rintro (hx | hx) <;> first | omega | (simp_all [headOk]; done)))))).symm
                                                        | exact congrArg (Value.int .i64) ((if_neg (by omega)).trans ((if_pos (by omega)).trans (if_pos (headNone_no (by omega))))).symm
                                                        | exact congrArg (Value.int .i64) ((if_neg (by omega)).trans ((if_pos (by omega)).trans ((if_neg (headNone_yes (by omega))).trans (if_pos (by omega))))).symm
                                                        | exact congrArg (Value.int .i64) ((if_neg (by omega)).trans ((if_pos (by omega)).trans ((if_neg (headNone_yes (by omega))).trans ((if_neg (by omega)).trans (by rw [← hphi.2, map_drop (i := k) (d := d0) (by omega), checkL_no hE]))))).symm
                                                        | exact congrArg (Value.int .i64) ((if_neg (by omega)).trans ((if_pos (by omega)).trans ((if_neg (headNone_yes (by omega))).trans ((if_neg (by omega)).trans (by rw [← hphi.2, List.drop_eq_nil_of_le (by simp; omega), checkL]))))).symm
                                                        )
                                                  · skip
                                                    first
                                                      | (exfalso; omega)
                                                      | (
                                                        refine c_cond_f rfl ?_
                                                        refine c_skip ?_
                                                        refine e_next ?_
                                                        refine c_seq ?_
                                                        refine c_seq ?_
                                                        refine c_region ?_
                                                        refine r_val .none rfl (p_field Try.underlying38 rfl sz36 rfl) ?_
                                                        refine r_val .none rfl (p_ld (k := 0) Try.underlying36 rfl rfl rfl (by first | exact of_decide_eq_true rfl | omega) rfl) ?_
                                                        refine r_val .none rfl (p_leng Try.underlying36 rfl hr) ?_
                                                        have bd_24 := (hr).bound
                                                        refine r_val .none rfl (p_move rfl) ?_
                                                        refine r_nil ?_
                                                        refine e_next ?_
                                                        refine c_block ?_
                                                        refine c_name (d := 1) rfl (fun u_25 hu_25 => ?_)
                                                        refine c_name (d := 60) rfl (fun u_26 hu_26 => ?_)
                                                        refine c_name (d := 61) rfl (fun u_27 hu_27 => ?_)
                                                        refine c_nameL (k := 0) rfl (fun A_28 hA_28 => ?_)
                                                        refine c_loop (σ := Nat) (fun k => [(62, Value.int .i64 (k : Nat)), (1, u_25), (60, u_26), (61, u_27)]) (fun k => [A_28]) (fun _ => _) (fun k => k ≤ rs.length ∧ checkL ((rs.map Prod.fst).drop k) (d + 1) = checkL c.subs (d + 1)) (fun k => rs.length - k) (0) ⟨Nat.zero_le _, by rw [hl]; rfl⟩ rfl ⟨rfl, rfl, rfl, rfl, trivial⟩ (.keep (fun _ _ h => h) (.nil)) (fun k hphi => ?_)
                                                        subst hu_25
                                                        subst hu_26
                                                        subst hu_27
                                                        subst hA_28
                                                        refine c_seq ?_
                                                        refine c_region ?_
                                                        refine r_val .none rfl (p_lt rfl rfl) ?_
                                                        refine r_nil ?_
                                                        refine e_next ?_
                                                        refine c_seq ?_
                                                        refine c_splitd (d := 63) rfl (fun h_29 => ?_) (fun h_29 => ?_)
                                                        · skip
                                                          first
                                                            | (exfalso; omega)
                                                            | (
                                                              refine c_cond_t rfl ?_
                                                              refine c_skip ?_
                                                              refine e_next ?_
                                                              refine c_seq ?_
                                                              refine c_block ?_
                                                              refine c_seq ?_
                                                              refine c_region ?_
                                                              refine r_iaddr_g .none rfl Try.underlying36 sz38 rfl hr rfl (by first | exact of_decide_eq_true rfl | omega) (fun p_31 o_32 R_30 => ?_)
                                                              have hc_33 := hp _ (getD_mem (i := k) (d := d0) (by omega))
                                                              refine r_val .none rfl (p_ldga0 Try.underlying38 rfl sz38 rfl R_30 (by first | exact of_decide_eq_true rfl | omega) (rfl : _ = Value.agg #[_, _, _, _, _, _, _, _])) ?_
                                                              refine r_alloc .none rfl zr38 (IsRow.lit _) (fun b_2 => ?_)
                                                              refine r_stw (k := 0) .none sz38 rfl rfl (IsRow.lit _) (one_lit rfl (all_cons rfl (all_cons rfl (all_cons rfl (all_cons rfl (all_cons rfl (all_cons rfl (all_cons rfl (all_cons (hc_33).one rfl))))))))) rfl ?_
                                                              refine r_nil ?_
                                                              refine e_next ?_
                                                              refine c_seq ?_
                                                              refine c_region ?_
                                                              refine r_val .none rfl (p_ldw (k := 0) Try.underlying38 rfl sz38 rfl rfl (rfl : _ = Value.agg #[_, _, _, _, _, _, _, _])) ?_
                                                              refine r_val .none rfl (p_move rfl) ?_
                                                              refine r_val .none rfl (p_add rfl rfl (by omega)) ?_
                                                              refine r_call (vs := [_, _]) .none rfl cl14 rfl (fun w hw => ih (rs.getD k d0).1 _ _ _ w (size_at hl (by omega) hz) (by omega) hc_33 hw) ?_
                                                              refine r_val .none rfl (p_assign rfl) ?_
                                                              refine r_nil ?_
                                                              refine e_next ?_
                                                              refine c_seq ?_
                                                              refine c_region ?_
                                                              refine r_val .none rfl (p_move rfl) ?_
                                                              refine r_val .none rfl (p_ne rfl rfl) ?_
                                                              refine r_nil ?_
                                                              refine e_next ?_
                                                              refine c_splitd (d := 71) rfl (fun h_34 => ?_) (fun h_34 => ?_)
                                                              · skip
                                                                have hE := h_34
                                                                first
                                                                  | (exfalso; omega)
                                                                  | (
                                                                    refine c_cond_t rfl ?_
                                                                    refine c_seq ?_
                                                                    refine c_region ?_
                                                                    refine r_val .none rfl (p_move rfl) ?_
                                                                    refine r_val .none rfl (p_assign rfl) ?_
                                                                    refine r_nil ?_
                                                                    refine e_next ?_
                                                                    refine c_ret ?_
                                                                    refine e_ret_block ?_
                                                                    refine e_ret_then ?_
                                                                    refine e_ret_then ?_
                                                                    refine e_ret_block ?_
                                                                    refine e_ret_then ?_
                                                                    refine e_ret1 Try.results14 (.tmp rfl .nil) (fun w hm => ⟨?_, hm.since⟩)
                                                                    rw [check_eq c d, show max d 1 = d by omega]
                                                                    have e5 : (0 : Int) = rs.length ∨ 0 < rs.length := (by omega)
                                                                    first
                                                                    | exact congrArg (Value.int .i64) (if_pos (by omega)).symm
                                                                    | exact congrArg (Value.int .i64) ((if_neg (by omega)).trans ((if_neg (by omega)).trans (if_pos (by omega)))).symm
                                                                    | exact congrArg (Value.int .i64) ((if_neg (by omega)).trans ((if_neg (by omega)).trans ((if_neg (by omega)).trans (if_pos (by first | (right; omega) | (left; simp_all [headOk]; done)))))).symm
                                                                    | exact congrArg (Value.int .i64) ((if_neg (by omega)).trans ((if_neg (by omega)).trans ((if_neg (by omega)).trans (if_neg (by rintro (hx | hx) <;> first | omega | (simp_all [headOk]; done)))))).symm
                                                                    | exact congrArg (Value.int .i64) ((if_neg (by omega)).trans ((if_pos (by omega)).trans (if_pos (headNone_no (by omega))))).symm
                                                                    | exact congrArg (Value.int .i64) ((if_neg (by omega)).trans ((if_pos (by omega)).trans ((if_neg (headNone_yes (by omega))).trans (if_pos (by omega))))).symm
                                                                    | exact congrArg (Value.int .i64) ((if_neg (by omega)).trans ((if_pos (by omega)).trans ((if_neg (headNone_yes (by omega))).trans ((if_neg (by omega)).trans (by rw [← hphi.2, map_drop (i := k) (d := d0) (by omega), checkL_no hE]))))).symm
                                                                    | exact congrArg (Value.int .i64) ((if_neg (by omega)).trans ((if_pos (by omega)).trans ((if_neg (headNone_yes (by omega))).trans ((if_neg (by omega)).trans (by rw [← hphi.2, List.drop_eq_nil_of_le (by simp; omega), checkL]))))).symm
                                                                    )
                                                              · skip
                                                                have hE := Decidable.not_not.1 h_34
                                                                first
                                                                  | (exfalso; omega)
                                                                  | (
                                                                    refine c_cond_f rfl ?_
                                                                    refine c_skip ?_
                                                                    refine e_norm_block ?_
                                                                    refine e_next ?_
                                                                    refine c_region ?_
                                                                    refine r_val .none rfl (p_add rfl rfl (by omega)) ?_
                                                                    refine r_val .none rfl (p_move rfl) ?_
                                                                    refine r_nil ?_
                                                                    refine e_round (k + 1) ⟨⟨by omega, by rw [← hphi.2, map_drop (i := k) (d := d0) (by omega), checkL_ok hE]⟩, by omega⟩ rfl ⟨rfl, rfl, rfl, rfl, trivial⟩ (.drop (.keep (fun _ _ h => h) (.nil)))
                                                                    )
                                                              )
                                                        · skip
                                                          first
                                                            | (exfalso; omega)
                                                            | (
                                                              refine c_cond_f rfl ?_
                                                              refine c_exit ?_
                                                              refine e_exit_then ?_
                                                              refine e_exit_then ?_
                                                              refine e_exit_block ?_
                                                              refine e_next ?_
                                                              refine c_seq ?_
                                                              refine c_region ?_
                                                              refine r_val .none rfl (p_assign rfl) ?_
                                                              refine r_nil ?_
                                                              refine e_next ?_
                                                              refine c_ret ?_
                                                              refine e_ret1 Try.results14 (.tmp rfl .nil) (fun w hm => ⟨?_, hm.since⟩)
                                                              rw [check_eq c d, show max d 1 = d by omega]
                                                              have e5 : (0 : Int) = rs.length ∨ 0 < rs.length := (by omega)
                                                              first
                                                              | exact congrArg (Value.int .i64) (if_pos (by omega)).symm
                                                              | exact congrArg (Value.int .i64) ((if_neg (by omega)).trans ((if_neg (by omega)).trans (if_pos (by omega)))).symm
                                                              | exact congrArg (Value.int .i64) ((if_neg (by omega)).trans ((if_neg (by omega)).trans ((if_neg (by omega)).trans (if_pos (by first | (right; omega) | (left; simp_all [headOk]; done)))))).symm
                                                              | exact congrArg (Value.int .i64) ((if_neg (by omega)).trans ((if_neg (by omega)).trans ((if_neg (by omega)).trans (if_neg (by rintro (hx | hx) <;> first | omega | (simp_all [headOk]; done)))))).symm
                                                              | exact congrArg (Value.int .i64) ((if_neg (by omega)).trans ((if_pos (by omega)).trans (if_pos (headNone_no (by omega))))).symm
                                                              | exact congrArg (Value.int .i64) ((if_neg (by omega)).trans ((if_pos (by omega)).trans ((if_neg (headNone_yes (by omega))).trans (if_pos (by omega))))).symm
                                                              | exact congrArg (Value.int .i64) ((if_neg (by omega)).trans ((if_pos (by omega)).trans ((if_neg (headNone_yes (by omega))).trans ((if_neg (by omega)).trans (by rw [← hphi.2, map_drop (i := k) (d := d0) (by omega), checkL_no hE]))))).symm
                                                              | exact congrArg (Value.int .i64) ((if_neg (by omega)).trans ((if_pos (by omega)).trans ((if_neg (headNone_yes (by omega))).trans ((if_neg (by omega)).trans (by rw [← hphi.2, List.drop_eq_nil_of_le (by simp; omega), checkL]))))).symm
                                                              )
                                                        )
                                                  )
                                            )
                                      )
                                )
                          )
                    )
              )
        )
theorem c_rcheck_n : ∀ n, RcheckIs n
  | 0 => fun c sv d G w hz hd hs hG => absurd hz (by have := size_subs c; omega)
  | n + 1 => fun c sv d G w hz hd hs hG => c_rcheck_s n (c_rcheck_n n) c sv d hz hd hs w hG
theorem c_rcheck (c : CT) (sv : Value) (d : Int) {G : Ghost} (hd : 1 ≤ d) (hs : Rs G sv c.subs) (w : World) (hG : Has G w) : Calls Try.prog 14 #[Value.agg #[Value.int .i64 c.h.k, Value.int .i64 (vi c.h.v0), Value.int .i64 c.h.n0, Value.int .i64 (vi c.h.v1), Value.int .i64 c.h.n1, Value.int .i64 (vi c.h.v2), Value.int .i64 c.h.n2, sv], Value.int .i64 d] w (Ret fun r w' => r = Value.int .i64 (check c d) ∧ Since nX w w') := c_rcheck_n _ c sv d G w (Nat.le_refl _) hd hs hG
end Go.Proofs.Ytpcpbfajadgmpaa

/- Walks: what Go functions of this chapter come to, each as a function on plain data; no condition but those that each theorem names. Printed by a program of this work (gen.py). -/
namespace Go.Proofs.Ytpcpbfajadgmpaa
open Go.Gx Go.Gx.T3 Go.Gx.T4 Go.Gx.T3
theorem zr23 : ZeroIs Try.prog 23 (Value.agg #[Value.bool false, Value.int .i64 0]) := by
  unfold ZeroIs
  kernel_rfl
theorem zr35 : ZeroIs Try.prog 35 (Value.agg #[Value.int .i64 0, Value.int .i64 0, Value.int .i64 0, Value.int .i64 0, Value.int .i64 0, Value.int .i64 0]) := by
  unfold ZeroIs
  kernel_rfl
theorem cl15 : Callable Try.prog 15 := callable Try.func15 (by kernel_rfl) rfl
theorem cl38 : Callable Try.prog 38 := callable Try.func38 (by kernel_rfl) rfl
theorem bl38_0i1_1a6 (x0 : Int) (x1 : Value) (x2 : Value) (x3 : Value) (x4 : Value) (x5 : Value) (x6 : Value) : Program.built Try.prog 38 [(0, Value.int .i64 x0), (1, Value.agg #[x1, x2, x3, x4, x5, x6])] = some #[Value.int .i64 x0, x1, x2, x3, x4, x5, x6, Value.slice none 0 0] := by
  kernel_rfl
theorem bs38_10a8 (a0 a1 a2 a3 a4 a5 a6 a7 : Value) : Instr.fill (fun i => some (i * 8, 8)) ((Array.range (1 * 8)).map ((Value.agg #[Value.int .i64 0, Value.int .i64 0, Value.int .i64 0, Value.int .i64 0, Value.int .i64 0, Value.int .i64 0, Value.int .i64 0, Value.slice none 0 0]).cells[· % (Value.agg #[Value.int .i64 0, Value.int .i64 0, Value.int .i64 0, Value.int .i64 0, Value.int .i64 0, Value.int .i64 0, Value.int .i64 0, Value.slice none 0 0]).cells.size]!)) [(0, Value.agg #[a0, a1, a2, a3, a4, a5, a6, a7])] = some #[a0, a1, a2, a3, a4, a5, a6, a7] := by
  kernel_rfl
theorem el38 : ElemIs Try.prog 38 8 80 (Value.agg #[Value.int .i64 0, Value.int .i64 0, Value.int .i64 0, Value.int .i64 0, Value.int .i64 0, Value.int .i64 0, Value.int .i64 0, Value.slice none 0 0]) := by
  unfold ElemIs
  kernel_rfl
def RefIs (n : Nat) : Prop := ∀ (c : CT) (sv : Value) (G : Ghost) (w : World), SizeOf.sizeOf c ≤ n → size c ≤ 1000 → Cs G sv c.subs → Has G w → Calls Try.prog 15 #[Value.agg #[Value.int .i64 c.h.k, Value.bool c.h.v0, Value.int .i64 c.h.n0, Value.bool c.h.v1, Value.int .i64 c.h.n1, Value.bool c.h.v2, Value.int .i64 c.h.n2, sv]] w (Ret fun r w' => ∃ G', GNew w nX G G' ∧ Has G' w' ∧ (∃ u, r = Value.agg #[Value.int .i64 c.h.k, Value.int .i64 (vi c.h.v0), Value.int .i64 c.h.n0, Value.int .i64 (vi c.h.v1), Value.int .i64 c.h.n1, Value.int .i64 (vi c.h.v2), Value.int .i64 c.h.n2, u] ∧ Rs G' u c.subs) ∧ Since nX w w')
theorem c_ref (v0 : Bool) (n0 : Int) (v1 : Bool) (n1 : Int) (v2 : Bool) (n2 : Int)  (w : World)  :
    Calls Try.prog 38 #[Value.agg #[Value.bool v0, Value.int .i64 n0, Value.bool v1, Value.int .i64 n1, Value.bool v2, Value.int .i64 n2]] w (Ret fun r w' => r = Value.agg #[Value.int .i64 (vi v0), Value.int .i64 n0, Value.int .i64 (vi v1), Value.int .i64 n1, Value.int .i64 (vi v2), Value.int .i64 n2] ∧ Since nX w w') := by
  refine enter (args := [_]) (X := nX) (G := (fun _ => none)) (l := [(0, Value.agg #[Value.bool v0, Value.int .i64 n0, Value.bool v1, Value.int .i64 n1, Value.bool v2, Value.int .i64 n2])]) Try.func38 rfl Try.ntmps38 (fun _ _ h => by cases h) ⟨rfl, trivial⟩ (Nat.le_of_ble_eq_true rfl) ?_
  refine c_seq ?_
  refine c_region ?_
  refine r_box .none rfl rfl (IsRow.lit _) (fun b_1 => ?_)
  refine r_alloc .none rfl zr35 (IsRow.lit _) (fun b_2 => ?_)
  refine r_nil ?_
  refine e_next ?_
  refine c_seq ?_
  refine c_region ?_
  refine r_alloc .none rfl zr35 (IsRow.lit _) (fun b_3 => ?_)
  refine r_nil ?_
  refine e_next ?_
  refine c_seq ?_
  refine c_seq ?_
  refine c_region ?_
  refine r_val .none rfl (p_ldw (k := 2) Try.underlying24 rfl sz24 rfl rfl (rfl : _ = Value.agg #[_, _, _, _, _, _])) ?_
  refine r_val .none rfl (p_move rfl) ?_
  refine r_nil ?_
  refine e_next ?_
  refine c_block ?_
  refine c_unroll 4 ?_
  refine l_round (n := 3) ?_
  refine c_seq ?_
  refine c_region ?_
  refine r_val .none rfl (p_lt rfl rfl) ?_
  refine r_say (d := 8) (v := Value.bool true) rfl ?_
  refine r_nil ?_
  refine e_next ?_
  refine c_seq ?_
  refine c_cond_t rfl ?_
  refine c_skip ?_
  refine e_next ?_
  refine c_seq ?_
  refine c_block ?_
  refine c_seq ?_
  refine c_region ?_
  refine r_val .none rfl (p_move rfl) ?_
  refine r_val .none rfl (p_indexa (k := 0) Try.underlying24 Try.underlying23 rfl sz23 rfl (IsRow.lit _) rfl rfl (by first | exact of_decide_eq_true rfl | omega) (rfl : _ = Value.agg #[_, _])) ?_
  refine r_alloc .none rfl zr23 (IsRow.lit _) (fun b_4 => ?_)
  refine r_val .none rfl (p_assign rfl) ?_
  refine r_stw (k := 0) .none sz23 rfl rfl (IsRow.lit _) (one_lit rfl rfl) rfl ?_
  refine r_nil ?_
  refine e_next ?_
  refine c_seq ?_
  refine c_region ?_
  refine r_val .none rfl (p_move rfl) ?_
  refine r_val .none rfl (p_field Try.underlying23 rfl sz3 rfl) ?_
  refine r_val .none rfl (p_ld (k := 0) Try.underlying3 rfl rfl rfl (by first | exact of_decide_eq_true rfl | omega) (rfl : _ = Value.int _ _)) ?_
  refine r_val .none rfl (p_iaddr (k := 0) Try.underlying35 sz34 rfl rfl (by first | exact of_decide_eq_true rfl | omega)) ?_
  refine r_val .none rfl (p_field Try.underlying34 rfl sz3 rfl) ?_
  refine r_st (k := 1) .none sz3 rfl rfl rfl rfl (by first | exact of_decide_eq_true rfl | omega) ?_
  refine r_nil ?_
  refine e_next ?_
  refine c_seq ?_
  refine c_region ?_
  refine r_val .none rfl (p_field Try.underlying23 rfl sz4 rfl) ?_
  refine r_val .none rfl (p_ld (k := 0) Try.underlying4 rfl rfl rfl (by first | exact of_decide_eq_true rfl | omega) (rfl : _ = Value.bool _)) ?_
  refine r_nil ?_
  refine e_next ?_
  refine c_split (d := 17) rfl (fun h_1 => ?_) (fun h_1 => ?_)
  · skip
    first
      | (exfalso; omega)
      | (
        refine c_cond_t rfl ?_
        refine c_region ?_
        refine r_val .none rfl (p_move rfl) ?_
        refine r_val .none rfl (p_iaddr (k := 0) Try.underlying35 sz34 rfl rfl (by first | exact of_decide_eq_true rfl | omega)) ?_
        refine r_val .none rfl (p_field Try.underlying34 rfl sz3 rfl) ?_
        refine r_st (k := 1) .none sz3 rfl rfl rfl rfl (by first | exact of_decide_eq_true rfl | omega) ?_
        refine r_nil ?_
        refine e_norm_block ?_
        refine e_next ?_
        refine c_region ?_
        refine r_val .none rfl (p_add rfl rfl (by omega)) ?_
        refine r_val .none rfl (p_move rfl) ?_
        refine r_nil ?_
        refine e_again ?_
        refine l_round (n := 2) ?_
        refine c_seq ?_
        refine c_region ?_
        refine r_val .none rfl (p_lt rfl rfl) ?_
        refine r_say (d := 8) (v := Value.bool true) rfl ?_
        refine r_nil ?_
        refine e_next ?_
        refine c_seq ?_
        refine c_cond_t rfl ?_
        refine c_skip ?_
        refine e_next ?_
        refine c_seq ?_
        refine c_block ?_
        refine c_seq ?_
        refine c_region ?_
        refine r_val .none rfl (p_move rfl) ?_
        refine r_val .none rfl (p_indexa (k := 1) Try.underlying24 Try.underlying23 rfl sz23 rfl (IsRow.lit _) rfl rfl (by first | exact of_decide_eq_true rfl | omega) (rfl : _ = Value.agg #[_, _])) ?_
        refine r_alloc .none rfl zr23 (IsRow.lit _) (fun b_5 => ?_)
        refine r_val .none rfl (p_assign rfl) ?_
        refine r_stw (k := 0) .none sz23 rfl rfl (IsRow.lit _) (one_lit rfl rfl) rfl ?_
        refine r_nil ?_
        refine e_next ?_
        refine c_seq ?_
        refine c_region ?_
        refine r_val .none rfl (p_move rfl) ?_
        refine r_val .none rfl (p_field Try.underlying23 rfl sz3 rfl) ?_
        refine r_val .none rfl (p_ld (k := 0) Try.underlying3 rfl rfl rfl (by first | exact of_decide_eq_true rfl | omega) (rfl : _ = Value.int _ _)) ?_
        refine r_val .none rfl (p_iaddr (k := 1) Try.underlying35 sz34 rfl rfl (by first | exact of_decide_eq_true rfl | omega)) ?_
        refine r_val .none rfl (p_field Try.underlying34 rfl sz3 rfl) ?_
        refine r_st (k := 2) .none sz3 rfl rfl rfl rfl (by first | exact of_decide_eq_true rfl | omega) ?_
        refine r_nil ?_
        refine e_next ?_
        refine c_seq ?_
        refine c_region ?_
        refine r_val .none rfl (p_field Try.underlying23 rfl sz4 rfl) ?_
        refine r_val .none rfl (p_ld (k := 0) Try.underlying4 rfl rfl rfl (by first | exact of_decide_eq_true rfl | omega) (rfl : _ = Value.bool _)) ?_
        refine r_nil ?_
        refine e_next ?_
        refine c_split (d := 17) rfl (fun h_2 => ?_) (fun h_2 => ?_)
        · skip
          first
            | (exfalso; omega)
            | (
              refine c_cond_t rfl ?_
              refine c_region ?_
              refine r_val .none rfl (p_move rfl) ?_
              refine r_val .none rfl (p_iaddr (k := 1) Try.underlying35 sz34 rfl rfl (by first | exact of_decide_eq_true rfl | omega)) ?_
              refine r_val .none rfl (p_field Try.underlying34 rfl sz3 rfl) ?_
              refine r_st (k := 2) .none sz3 rfl rfl rfl rfl (by first | exact of_decide_eq_true rfl | omega) ?_
              refine r_nil ?_
              refine e_norm_block ?_
              refine e_next ?_
              refine c_region ?_
              refine r_val .none rfl (p_add rfl rfl (by omega)) ?_
              refine r_val .none rfl (p_move rfl) ?_
              refine r_nil ?_
              refine e_again ?_
              refine l_round (n := 1) ?_
              refine c_seq ?_
              refine c_region ?_
              refine r_val .none rfl (p_lt rfl rfl) ?_
              refine r_say (d := 8) (v := Value.bool true) rfl ?_
              refine r_nil ?_
              refine e_next ?_
              refine c_seq ?_
              refine c_cond_t rfl ?_
              refine c_skip ?_
              refine e_next ?_
              refine c_seq ?_
              refine c_block ?_
              refine c_seq ?_
              refine c_region ?_
              refine r_val .none rfl (p_move rfl) ?_
              refine r_val .none rfl (p_indexa (k := 2) Try.underlying24 Try.underlying23 rfl sz23 rfl (IsRow.lit _) rfl rfl (by first | exact of_decide_eq_true rfl | omega) (rfl : _ = Value.agg #[_, _])) ?_
              refine r_alloc .none rfl zr23 (IsRow.lit _) (fun b_6 => ?_)
              refine r_val .none rfl (p_assign rfl) ?_
              refine r_stw (k := 0) .none sz23 rfl rfl (IsRow.lit _) (one_lit rfl rfl) rfl ?_
              refine r_nil ?_
              refine e_next ?_
              refine c_seq ?_
              refine c_region ?_
              refine r_val .none rfl (p_move rfl) ?_
              refine r_val .none rfl (p_field Try.underlying23 rfl sz3 rfl) ?_
              refine r_val .none rfl (p_ld (k := 0) Try.underlying3 rfl rfl rfl (by first | exact of_decide_eq_true rfl | omega) (rfl : _ = Value.int _ _)) ?_
              refine r_val .none rfl (p_iaddr (k := 2) Try.underlying35 sz34 rfl rfl (by first | exact of_decide_eq_true rfl | omega)) ?_
              refine r_val .none rfl (p_field Try.underlying34 rfl sz3 rfl) ?_
              refine r_st (k := 3) .none sz3 rfl rfl rfl rfl (by first | exact of_decide_eq_true rfl | omega) ?_
              refine r_nil ?_
              refine e_next ?_
              refine c_seq ?_
              refine c_region ?_
              refine r_val .none rfl (p_field Try.underlying23 rfl sz4 rfl) ?_
              refine r_val .none rfl (p_ld (k := 0) Try.underlying4 rfl rfl rfl (by first | exact of_decide_eq_true rfl | omega) (rfl : _ = Value.bool _)) ?_
              refine r_nil ?_
              refine e_next ?_
              refine c_split (d := 17) rfl (fun h_3 => ?_) (fun h_3 => ?_)
              · skip
                first
                  | (exfalso; omega)
                  | (
                    refine c_cond_t rfl ?_
                    refine c_region ?_
                    refine r_val .none rfl (p_move rfl) ?_
                    refine r_val .none rfl (p_iaddr (k := 2) Try.underlying35 sz34 rfl rfl (by first | exact of_decide_eq_true rfl | omega)) ?_
                    refine r_val .none rfl (p_field Try.underlying34 rfl sz3 rfl) ?_
                    refine r_st (k := 3) .none sz3 rfl rfl rfl rfl (by first | exact of_decide_eq_true rfl | omega) ?_
                    refine r_nil ?_
                    refine e_norm_block ?_
                    refine e_next ?_
                    refine c_region ?_
                    refine r_val .none rfl (p_add rfl rfl (by omega)) ?_
                    refine r_val .none rfl (p_move rfl) ?_
                    refine r_nil ?_
                    refine e_again ?_
                    refine l_round (n := 0) ?_
                    refine c_seq ?_
                    refine c_region ?_
                    refine r_val .none rfl (p_lt rfl rfl) ?_
                    refine r_say (d := 8) (v := Value.bool false) rfl ?_
                    refine r_nil ?_
                    refine e_next ?_
                    refine c_seq ?_
                    refine c_cond_f rfl ?_
                    refine c_exit ?_
                    refine e_exit_then ?_
                    refine e_exit_then ?_
                    refine e_exit_block ?_
                    refine e_next ?_
                    refine c_seq ?_
                    refine c_region ?_
                    refine r_val .none rfl (p_ldw (k := 3) Try.underlying35 rfl sz35 rfl rfl (rfl : _ = Value.agg #[_, _, _, _, _, _])) ?_
                    refine r_stw (k := 4) .none sz35 rfl rfl (IsRow.lit _) (one_lit rfl rfl) rfl ?_
                    refine r_nil ?_
                    refine e_next ?_
                    refine c_ret ?_
                    refine e_ret1 Try.results38 (.cell (k := 4) rfl Try.underlying35 rfl sz35 rfl (rfl : _ = Value.agg #[_, _, _, _, _, _]) .nil) (fun w hm => ⟨?_, hm.since⟩)
                    subst_vars; rfl
                    )
              · skip
                first
                  | (exfalso; omega)
                  | (
                    refine c_cond_f rfl ?_
                    refine c_skip ?_
                    refine e_norm_block ?_
                    refine e_next ?_
                    refine c_region ?_
                    refine r_val .none rfl (p_add rfl rfl (by omega)) ?_
                    refine r_val .none rfl (p_move rfl) ?_
                    refine r_nil ?_
                    refine e_again ?_
                    refine l_round (n := 0) ?_
                    refine c_seq ?_
                    refine c_region ?_
                    refine r_val .none rfl (p_lt rfl rfl) ?_
                    refine r_say (d := 8) (v := Value.bool false) rfl ?_
                    refine r_nil ?_
                    refine e_next ?_
                    refine c_seq ?_
                    refine c_cond_f rfl ?_
                    refine c_exit ?_
                    refine e_exit_then ?_
                    refine e_exit_then ?_
                    refine e_exit_block ?_
                    refine e_next ?_
                    refine c_seq ?_
                    refine c_region ?_
                    refine r_val .none rfl (p_ldw (k := 3) Try.underlying35 rfl sz35 rfl rfl (rfl : _ = Value.agg #[_, _, _, _, _, _])) ?_
                    refine r_stw (k := 4) .none sz35 rfl rfl (IsRow.lit _) (one_lit rfl rfl) rfl ?_
                    refine r_nil ?_
                    refine e_next ?_
                    refine c_ret ?_
                    refine e_ret1 Try.results38 (.cell (k := 4) rfl Try.underlying35 rfl sz35 rfl (rfl : _ = Value.agg #[_, _, _, _, _, _]) .nil) (fun w hm => ⟨?_, hm.since⟩)
                    subst_vars; rfl
                    )
              )
        · skip
          first
            | (exfalso; omega)
            | (
              refine c_cond_f rfl ?_
              refine c_skip ?_
              refine e_norm_block ?_
              refine e_next ?_
              refine c_region ?_
              refine r_val .none rfl (p_add rfl rfl (by omega)) ?_
              refine r_val .none rfl (p_move rfl) ?_
              refine r_nil ?_
              refine e_again ?_
              refine l_round (n := 1) ?_
              refine c_seq ?_
              refine c_region ?_
              refine r_val .none rfl (p_lt rfl rfl) ?_
              refine r_say (d := 8) (v := Value.bool true) rfl ?_
              refine r_nil ?_
              refine e_next ?_
              refine c_seq ?_
              refine c_cond_t rfl ?_
              refine c_skip ?_
              refine e_next ?_
              refine c_seq ?_
              refine c_block ?_
              refine c_seq ?_
              refine c_region ?_
              refine r_val .none rfl (p_move rfl) ?_
              refine r_val .none rfl (p_indexa (k := 2) Try.underlying24 Try.underlying23 rfl sz23 rfl (IsRow.lit _) rfl rfl (by first | exact of_decide_eq_true rfl | omega) (rfl : _ = Value.agg #[_, _])) ?_
              refine r_alloc .none rfl zr23 (IsRow.lit _) (fun b_7 => ?_)
              refine r_val .none rfl (p_assign rfl) ?_
              refine r_stw (k := 0) .none sz23 rfl rfl (IsRow.lit _) (one_lit rfl rfl) rfl ?_
              refine r_nil ?_
              refine e_next ?_
              refine c_seq ?_
              refine c_region ?_
              refine r_val .none rfl (p_move rfl) ?_
              refine r_val .none rfl (p_field Try.underlying23 rfl sz3 rfl) ?_
              refine r_val .none rfl (p_ld (k := 0) Try.underlying3 rfl rfl rfl (by first | exact of_decide_eq_true rfl | omega) (rfl : _ = Value.int _ _)) ?_
              refine r_val .none rfl (p_iaddr (k := 2) Try.underlying35 sz34 rfl rfl (by first | exact of_decide_eq_true rfl | omega)) ?_
              refine r_val .none rfl (p_field Try.underlying34 rfl sz3 rfl) ?_
              refine r_st (k := 3) .none sz3 rfl rfl rfl rfl (by first | exact of_decide_eq_true rfl | omega) ?_
              refine r_nil ?_
              refine e_next ?_
              refine c_seq ?_
              refine c_region ?_
              refine r_val .none rfl (p_field Try.underlying23 rfl sz4 rfl) ?_
              refine r_val .none rfl (p_ld (k := 0) Try.underlying4 rfl rfl rfl (by first | exact of_decide_eq_true rfl | omega) (rfl : _ = Value.bool _)) ?_
              refine r_nil ?_
              refine e_next ?_
              refine c_split (d := 17) rfl (fun h_4 => ?_) (fun h_4 => ?_)
              · skip
                first
                  | (exfalso; omega)
                  | (
                    refine c_cond_t rfl ?_
                    refine c_region ?_
                    refine r_val .none rfl (p_move rfl) ?_
                    refine r_val .none rfl (p_iaddr (k := 2) Try.underlying35 sz34 rfl rfl (by first | exact of_decide_eq_true rfl | omega)) ?_
                    refine r_val .none rfl (p_field Try.underlying34 rfl sz3 rfl) ?_
                    refine r_st (k := 3) .none sz3 rfl rfl rfl rfl (by first | exact of_decide_eq_true rfl | omega) ?_
                    refine r_nil ?_
                    refine e_norm_block ?_
                    refine e_next ?_
                    refine c_region ?_
                    refine r_val .none rfl (p_add rfl rfl (by omega)) ?_
                    refine r_val .none rfl (p_move rfl) ?_
                    refine r_nil ?_
                    refine e_again ?_
                    refine l_round (n := 0) ?_
                    refine c_seq ?_
                    refine c_region ?_
                    refine r_val .none rfl (p_lt rfl rfl) ?_
                    refine r_say (d := 8) (v := Value.bool false) rfl ?_
                    refine r_nil ?_
                    refine e_next ?_
                    refine c_seq ?_
                    refine c_cond_f rfl ?_
                    refine c_exit ?_
                    refine e_exit_then ?_
                    refine e_exit_then ?_
                    refine e_exit_block ?_
                    refine e_next ?_
                    refine c_seq ?_
                    refine c_region ?_
                    refine r_val .none rfl (p_ldw (k := 3) Try.underlying35 rfl sz35 rfl rfl (rfl : _ = Value.agg #[_, _, _, _, _, _])) ?_
                    refine r_stw (k := 4) .none sz35 rfl rfl (IsRow.lit _) (one_lit rfl rfl) rfl ?_
                    refine r_nil ?_
                    refine e_next ?_
                    refine c_ret ?_
                    refine e_ret1 Try.results38 (.cell (k := 4) rfl Try.underlying35 rfl sz35 rfl (rfl : _ = Value.agg #[_, _, _, _, _, _]) .nil) (fun w hm => ⟨?_, hm.since⟩)
                    subst_vars; rfl
                    )
              · skip
                first
                  | (exfalso; omega)
                  | (
                    refine c_cond_f rfl ?_
                    refine c_skip ?_
                    refine e_norm_block ?_
                    refine e_next ?_
                    refine c_region ?_
                    refine r_val .none rfl (p_add rfl rfl (by omega)) ?_
                    refine r_val .none rfl (p_move rfl) ?_
                    refine r_nil ?_
                    refine e_again ?_
                    refine l_round (n := 0) ?_
                    refine c_seq ?_
                    refine c_region ?_
                    refine r_val .none rfl (p_lt rfl rfl) ?_
                    refine r_say (d := 8) (v := Value.bool false) rfl ?_
                    refine r_nil ?_
                    refine e_next ?_
                    refine c_seq ?_
                    refine c_cond_f rfl ?_
                    refine c_exit ?_
                    refine e_exit_then ?_
                    refine e_exit_then ?_
                    refine e_exit_block ?_
                    refine e_next ?_
                    refine c_seq ?_
                    refine c_region ?_
                    refine r_val .none rfl (p_ldw (k := 3) Try.underlying35 rfl sz35 rfl rfl (rfl : _ = Value.agg #[_, _, _, _, _, _])) ?_
                    refine r_stw (k := 4) .none sz35 rfl rfl (IsRow.lit _) (one_lit rfl rfl) rfl ?_
                    refine r_nil ?_
                    refine e_next ?_
                    refine c_ret ?_
                    refine e_ret1 Try.results38 (.cell (k := 4) rfl Try.underlying35 rfl sz35 rfl (rfl : _ = Value.agg #[_, _, _, _, _, _]) .nil) (fun w hm => ⟨?_, hm.since⟩)
                    subst_vars; rfl
                    )
              )
        )
  · skip
    first
      | (exfalso; omega)
      | (
        refine c_cond_f rfl ?_
        refine c_skip ?_
        refine e_norm_block ?_
        refine e_next ?_
        refine c_region ?_
        refine r_val .none rfl (p_add rfl rfl (by omega)) ?_
        refine r_val .none rfl (p_move rfl) ?_
        refine r_nil ?_
        refine e_again ?_
        refine l_round (n := 2) ?_
        refine c_seq ?_
        refine c_region ?_
        refine r_val .none rfl (p_lt rfl rfl) ?_
        refine r_say (d := 8) (v := Value.bool true) rfl ?_
        refine r_nil ?_
        refine e_next ?_
        refine c_seq ?_
        refine c_cond_t rfl ?_
        refine c_skip ?_
        refine e_next ?_
        refine c_seq ?_
        refine c_block ?_
        refine c_seq ?_
        refine c_region ?_
        refine r_val .none rfl (p_move rfl) ?_
        refine r_val .none rfl (p_indexa (k := 1) Try.underlying24 Try.underlying23 rfl sz23 rfl (IsRow.lit _) rfl rfl (by first | exact of_decide_eq_true rfl | omega) (rfl : _ = Value.agg #[_, _])) ?_
        refine r_alloc .none rfl zr23 (IsRow.lit _) (fun b_8 => ?_)
        refine r_val .none rfl (p_assign rfl) ?_
        refine r_stw (k := 0) .none sz23 rfl rfl (IsRow.lit _) (one_lit rfl rfl) rfl ?_
        refine r_nil ?_
        refine e_next ?_
        refine c_seq ?_
        refine c_region ?_
        refine r_val .none rfl (p_move rfl) ?_
        refine r_val .none rfl (p_field Try.underlying23 rfl sz3 rfl) ?_
        refine r_val .none rfl (p_ld (k := 0) Try.underlying3 rfl rfl rfl (by first | exact of_decide_eq_true rfl | omega) (rfl : _ = Value.int _ _)) ?_
        refine r_val .none rfl (p_iaddr (k := 1) Try.underlying35 sz34 rfl rfl (by first | exact of_decide_eq_true rfl | omega)) ?_
        refine r_val .none rfl (p_field Try.underlying34 rfl sz3 rfl) ?_
        refine r_st (k := 2) .none sz3 rfl rfl rfl rfl (by first | exact of_decide_eq_true rfl | omega) ?_
        refine r_nil ?_
        refine e_next ?_
        refine c_seq ?_
        refine c_region ?_
        refine r_val .none rfl (p_field Try.underlying23 rfl sz4 rfl) ?_
        refine r_val .none rfl (p_ld (k := 0) Try.underlying4 rfl rfl rfl (by first | exact of_decide_eq_true rfl | omega) (rfl : _ = Value.bool _)) ?_
        refine r_nil ?_
        refine e_next ?_
        refine c_split (d := 17) rfl (fun h_5 => ?_) (fun h_5 => ?_)
        · skip
          first
            | (exfalso; omega)
            | (
              refine c_cond_t rfl ?_
              refine c_region ?_
              refine r_val .none rfl (p_move rfl) ?_
              refine r_val .none rfl (p_iaddr (k := 1) Try.underlying35 sz34 rfl rfl (by first | exact of_decide_eq_true rfl | omega)) ?_
              refine r_val .none rfl (p_field Try.underlying34 rfl sz3 rfl) ?_
              refine r_st (k := 2) .none sz3 rfl rfl rfl rfl (by first | exact of_decide_eq_true rfl | omega) ?_
              refine r_nil ?_
              refine e_norm_block ?_
              refine e_next ?_
              refine c_region ?_
              refine r_val .none rfl (p_add rfl rfl (by omega)) ?_
              refine r_val .none rfl (p_move rfl) ?_
              refine r_nil ?_
              refine e_again ?_
              refine l_round (n := 1) ?_
              refine c_seq ?_
              refine c_region ?_
              refine r_val .none rfl (p_lt rfl rfl) ?_
              refine r_say (d := 8) (v := Value.bool true) rfl ?_
              refine r_nil ?_
              refine e_next ?_
              refine c_seq ?_
              refine c_cond_t rfl ?_
              refine c_skip ?_
              refine e_next ?_
              refine c_seq ?_
              refine c_block ?_
              refine c_seq ?_
              refine c_region ?_
              refine r_val .none rfl (p_move rfl) ?_
              refine r_val .none rfl (p_indexa (k := 2) Try.underlying24 Try.underlying23 rfl sz23 rfl (IsRow.lit _) rfl rfl (by first | exact of_decide_eq_true rfl | omega) (rfl : _ = Value.agg #[_, _])) ?_
              refine r_alloc .none rfl zr23 (IsRow.lit _) (fun b_9 => ?_)
              refine r_val .none rfl (p_assign rfl) ?_
              refine r_stw (k := 0) .none sz23 rfl rfl (IsRow.lit _) (one_lit rfl rfl) rfl ?_
              refine r_nil ?_
              refine e_next ?_
              refine c_seq ?_
              refine c_region ?_
              refine r_val .none rfl (p_move rfl) ?_
              refine r_val .none rfl (p_field Try.underlying23 rfl sz3 rfl) ?_
              refine r_val .none rfl (p_ld (k := 0) Try.underlying3 rfl rfl rfl (by first | exact of_decide_eq_true rfl | omega) (rfl : _ = Value.int _ _)) ?_
              refine r_val .none rfl (p_iaddr (k := 2) Try.underlying35 sz34 rfl rfl (by first | exact of_decide_eq_true rfl | omega)) ?_
              refine r_val .none rfl (p_field Try.underlying34 rfl sz3 rfl) ?_
              refine r_st (k := 3) .none sz3 rfl rfl rfl rfl (by first | exact of_decide_eq_true rfl | omega) ?_
              refine r_nil ?_
              refine e_next ?_
              refine c_seq ?_
              refine c_region ?_
              refine r_val .none rfl (p_field Try.underlying23 rfl sz4 rfl) ?_
              refine r_val .none rfl (p_ld (k := 0) Try.underlying4 rfl rfl rfl (by first | exact of_decide_eq_true rfl | omega) (rfl : _ = Value.bool _)) ?_
              refine r_nil ?_
              refine e_next ?_
              refine c_split (d := 17) rfl (fun h_6 => ?_) (fun h_6 => ?_)
              · skip
                first
                  | (exfalso; omega)
                  | (
                    refine c_cond_t rfl ?_
                    refine c_region ?_
                    refine r_val .none rfl (p_move rfl) ?_
                    refine r_val .none rfl (p_iaddr (k := 2) Try.underlying35 sz34 rfl rfl (by first | exact of_decide_eq_true rfl | omega)) ?_
                    refine r_val .none rfl (p_field Try.underlying34 rfl sz3 rfl) ?_
                    refine r_st (k := 3) .none sz3 rfl rfl rfl rfl (by first | exact of_decide_eq_true rfl | omega) ?_
                    refine r_nil ?_
                    refine e_norm_block ?_
                    refine e_next ?_
                    refine c_region ?_
                    refine r_val .none rfl (p_add rfl rfl (by omega)) ?_
                    refine r_val .none rfl (p_move rfl) ?_
                    refine r_nil ?_
                    refine e_again ?_
                    refine l_round (n := 0) ?_
                    refine c_seq ?_
                    refine c_region ?_
                    refine r_val .none rfl (p_lt rfl rfl) ?_
                    refine r_say (d := 8) (v := Value.bool false) rfl ?_
                    refine r_nil ?_
                    refine e_next ?_
                    refine c_seq ?_
                    refine c_cond_f rfl ?_
                    refine c_exit ?_
                    refine e_exit_then ?_
                    refine e_exit_then ?_
                    refine e_exit_block ?_
                    refine e_next ?_
                    refine c_seq ?_
                    refine c_region ?_
                    refine r_val .none rfl (p_ldw (k := 3) Try.underlying35 rfl sz35 rfl rfl (rfl : _ = Value.agg #[_, _, _, _, _, _])) ?_
                    refine r_stw (k := 4) .none sz35 rfl rfl (IsRow.lit _) (one_lit rfl rfl) rfl ?_
                    refine r_nil ?_
                    refine e_next ?_
                    refine c_ret ?_
                    refine e_ret1 Try.results38 (.cell (k := 4) rfl Try.underlying35 rfl sz35 rfl (rfl : _ = Value.agg #[_, _, _, _, _, _]) .nil) (fun w hm => ⟨?_, hm.since⟩)
                    subst_vars; rfl
                    )
              · skip
                first
                  | (exfalso; omega)
                  | (
                    refine c_cond_f rfl ?_
                    refine c_skip ?_
                    refine e_norm_block ?_
                    refine e_next ?_
                    refine c_region ?_
                    refine r_val .none rfl (p_add rfl rfl (by omega)) ?_
                    refine r_val .none rfl (p_move rfl) ?_
                    refine r_nil ?_
                    refine e_again ?_
                    refine l_round (n := 0) ?_
                    refine c_seq ?_
                    refine c_region ?_
                    refine r_val .none rfl (p_lt rfl rfl) ?_
                    refine r_say (d := 8) (v := Value.bool false) rfl ?_
                    refine r_nil ?_
                    refine e_next ?_
                    refine c_seq ?_
                    refine c_cond_f rfl ?_
                    refine c_exit ?_
                    refine e_exit_then ?_
                    refine e_exit_then ?_
                    refine e_exit_block ?_
                    refine e_next ?_
                    refine c_seq ?_
                    refine c_region ?_
                    refine r_val .none rfl (p_ldw (k := 3) Try.underlying35 rfl sz35 rfl rfl (rfl : _ = Value.agg #[_, _, _, _, _, _])) ?_
                    refine r_stw (k := 4) .none sz35 rfl rfl (IsRow.lit _) (one_lit rfl rfl) rfl ?_
                    refine r_nil ?_
                    refine e_next ?_
                    refine c_ret ?_
                    refine e_ret1 Try.results38 (.cell (k := 4) rfl Try.underlying35 rfl sz35 rfl (rfl : _ = Value.agg #[_, _, _, _, _, _]) .nil) (fun w hm => ⟨?_, hm.since⟩)
                    subst_vars; rfl
                    )
              )
        · skip
          first
            | (exfalso; omega)
            | (
              refine c_cond_f rfl ?_
              refine c_skip ?_
              refine e_norm_block ?_
              refine e_next ?_
              refine c_region ?_
              refine r_val .none rfl (p_add rfl rfl (by omega)) ?_
              refine r_val .none rfl (p_move rfl) ?_
              refine r_nil ?_
              refine e_again ?_
              refine l_round (n := 1) ?_
              refine c_seq ?_
              refine c_region ?_
              refine r_val .none rfl (p_lt rfl rfl) ?_
              refine r_say (d := 8) (v := Value.bool true) rfl ?_
              refine r_nil ?_
              refine e_next ?_
              refine c_seq ?_
              refine c_cond_t rfl ?_
              refine c_skip ?_
              refine e_next ?_
              refine c_seq ?_
              refine c_block ?_
              refine c_seq ?_
              refine c_region ?_
              refine r_val .none rfl (p_move rfl) ?_
              refine r_val .none rfl (p_indexa (k := 2) Try.underlying24 Try.underlying23 rfl sz23 rfl (IsRow.lit _) rfl rfl (by first | exact of_decide_eq_true rfl | omega) (rfl : _ = Value.agg #[_, _])) ?_
              refine r_alloc .none rfl zr23 (IsRow.lit _) (fun b_10 => ?_)
              refine r_val .none rfl (p_assign rfl) ?_
              refine r_stw (k := 0) .none sz23 rfl rfl (IsRow.lit _) (one_lit rfl rfl) rfl ?_
              refine r_nil ?_
              refine e_next ?_
              refine c_seq ?_
              refine c_region ?_
              refine r_val .none rfl (p_move rfl) ?_
              refine r_val .none rfl (p_field Try.underlying23 rfl sz3 rfl) ?_
              refine r_val .none rfl (p_ld (k := 0) Try.underlying3 rfl rfl rfl (by first | exact of_decide_eq_true rfl | omega) (rfl : _ = Value.int _ _)) ?_
              refine r_val .none rfl (p_iaddr (k := 2) Try.underlying35 sz34 rfl rfl (by first | exact of_decide_eq_true rfl | omega)) ?_
              refine r_val .none rfl (p_field Try.underlying34 rfl sz3 rfl) ?_
              refine r_st (k := 3) .none sz3 rfl rfl rfl rfl (by first | exact of_decide_eq_true rfl | omega) ?_
              refine r_nil ?_
              refine e_next ?_
              refine c_seq ?_
              refine c_region ?_
              refine r_val .none rfl (p_field Try.underlying23 rfl sz4 rfl) ?_
              refine r_val .none rfl (p_ld (k := 0) Try.underlying4 rfl rfl rfl (by first | exact of_decide_eq_true rfl | omega) (rfl : _ = Value.bool _)) ?_
              refine r_nil ?_
              refine e_next ?_
              refine c_split (d := 17) rfl (fun h_7 => ?_) (fun h_7 => ?_)
              · skip
                first
                  | (exfalso; omega)
                  | (
                    refine c_cond_t rfl ?_
                    refine c_region ?_
                    refine r_val .none rfl (p_move rfl) ?_
                    refine r_val .none rfl (p_iaddr (k := 2) Try.underlying35 sz34 rfl rfl (by first | exact of_decide_eq_true rfl | omega)) ?_
                    refine r_val .none rfl (p_field Try.underlying34 rfl sz3 rfl) ?_
                    refine r_st (k := 3) .none sz3 rfl rfl rfl rfl (by first | exact of_decide_eq_true rfl | omega) ?_
                    refine r_nil ?_
                    refine e_norm_block ?_
                    refine e_next ?_
                    refine c_region ?_
                    refine r_val .none rfl (p_add rfl rfl (by omega)) ?_
                    refine r_val .none rfl (p_move rfl) ?_
                    refine r_nil ?_
                    refine e_again ?_
                    refine l_round (n := 0) ?_
                    refine c_seq ?_
                    refine c_region ?_
                    refine r_val .none rfl (p_lt rfl rfl) ?_
                    refine r_say (d := 8) (v := Value.bool false) rfl ?_
                    refine r_nil ?_
                    refine e_next ?_
                    refine c_seq ?_
                    refine c_cond_f rfl ?_
                    refine c_exit ?_
                    refine e_exit_then ?_
                    refine e_exit_then ?_
                    refine e_exit_block ?_
                    refine e_next ?_
                    refine c_seq ?_
                    refine c_region ?_
                    refine r_val .none rfl (p_ldw (k := 3) Try.underlying35 rfl sz35 rfl rfl (rfl : _ = Value.agg #[_, _, _, _, _, _])) ?_
                    refine r_stw (k := 4) .none sz35 rfl rfl (IsRow.lit _) (one_lit rfl rfl) rfl ?_
                    refine r_nil ?_
                    refine e_next ?_
                    refine c_ret ?_
                    refine e_ret1 Try.results38 (.cell (k := 4) rfl Try.underlying35 rfl sz35 rfl (rfl : _ = Value.agg #[_, _, _, _, _, _]) .nil) (fun w hm => ⟨?_, hm.since⟩)
                    subst_vars; rfl
                    )
              · skip
                first
                  | (exfalso; omega)
                  | (
                    refine c_cond_f rfl ?_
                    refine c_skip ?_
                    refine e_norm_block ?_
                    refine e_next ?_
                    refine c_region ?_
                    refine r_val .none rfl (p_add rfl rfl (by omega)) ?_
                    refine r_val .none rfl (p_move rfl) ?_
                    refine r_nil ?_
                    refine e_again ?_
                    refine l_round (n := 0) ?_
                    refine c_seq ?_
                    refine c_region ?_
                    refine r_val .none rfl (p_lt rfl rfl) ?_
                    refine r_say (d := 8) (v := Value.bool false) rfl ?_
                    refine r_nil ?_
                    refine e_next ?_
                    refine c_seq ?_
                    refine c_cond_f rfl ?_
                    refine c_exit ?_
                    refine e_exit_then ?_
                    refine e_exit_then ?_
                    refine e_exit_block ?_
                    refine e_next ?_
                    refine c_seq ?_
                    refine c_region ?_
                    refine r_val .none rfl (p_ldw (k := 3) Try.underlying35 rfl sz35 rfl rfl (rfl : _ = Value.agg #[_, _, _, _, _, _])) ?_
                    refine r_stw (k := 4) .none sz35 rfl rfl (IsRow.lit _) (one_lit rfl rfl) rfl ?_
                    refine r_nil ?_
                    refine e_next ?_
                    refine c_ret ?_
                    refine e_ret1 Try.results38 (.cell (k := 4) rfl Try.underlying35 rfl sz35 rfl (rfl : _ = Value.agg #[_, _, _, _, _, _]) .nil) (fun w hm => ⟨?_, hm.since⟩)
                    subst_vars; rfl
                    )
              )
        )
theorem c_ref4_s (n : Nat) (ih : RefIs n) (c : CT) (sv : Value)  {G : Ghost} (hz : SizeOf.sizeOf c ≤ n + 1) (hsz : size c ≤ 1000) (hs : Cs G sv c.subs) (w : World) (hG : Has G w) :
    Calls Try.prog 15 #[Value.agg #[Value.int .i64 c.h.k, Value.bool c.h.v0, Value.int .i64 c.h.n0, Value.bool c.h.v1, Value.int .i64 c.h.n1, Value.bool c.h.v2, Value.int .i64 c.h.n2, sv]] w (Ret fun r w' => ∃ G', GNew w nX G G' ∧ Has G' w' ∧ (∃ u, r = Value.agg #[Value.int .i64 c.h.k, Value.int .i64 (vi c.h.v0), Value.int .i64 c.h.n0, Value.int .i64 (vi c.h.v1), Value.int .i64 c.h.n1, Value.int .i64 (vi c.h.v2), Value.int .i64 c.h.n2, u] ∧ Rs G' u c.subs) ∧ Since nX w w') := by
  refine enter (args := [_]) (X := nX) (G := G) (l := [(0, Value.agg #[Value.int .i64 c.h.k, Value.bool c.h.v0, Value.int .i64 c.h.n0, Value.bool c.h.v1, Value.int .i64 c.h.n1, Value.bool c.h.v2, Value.int .i64 c.h.n2, sv])]) Try.func15 rfl Try.ntmps15 hG ⟨rfl, trivial⟩ (Nat.le_of_ble_eq_true rfl) ?_
  obtain ⟨rs, hr, hp, hl⟩ := hs.inv
  have hlen : c.subs.length = rs.length := by rw [hl]; simp
  have hbd := hr.bound
  have hl1 := size_len hl hsz
  refine c_seq ?_
  refine c_region ?_
  refine r_box .none rfl rfl (IsRow.lit _) (fun b_1 => ?_)
  refine r_alloc .none rfl zr38 (IsRow.lit _) (fun b_2 => ?_)
  refine r_nil ?_
  refine e_next ?_
  refine c_seq ?_
  refine c_region_d (fun _ => false) _ mixed (.keep (fun _ _ h => h) (.keep (fun _ _ h => h) (.nil))) ?_
  refine d_val1 0 rfl rfl (by kernel_rfl) (fun _ _ => rfl) .none rfl (p_field Try.underlying27 rfl sz3 rfl) ?_
  refine d_val1 1 rfl rfl (by kernel_rfl) (fun _ _ => rfl) .none rfl (p_ld (k := 1) Try.underlying3 rfl rfl rfl (by first | exact of_decide_eq_true rfl | omega) (rfl : _ = Value.int _ _)) ?_
  refine d_val1 2 rfl rfl (by kernel_rfl) (fun _ _ => rfl) .none rfl (p_field Try.underlying27 rfl sz24 rfl) ?_
  refine d_val1 3 rfl rfl (by kernel_rfl) (fun _ _ => rfl) .none rfl (p_lda (k := 1) Try.underlying24 rfl sz24 rfl rfl (by first | exact of_decide_eq_true rfl | omega) (rfl : _ = Value.agg #[_, _, _, _, _, _])) ?_
  refine d_eff2 4 6 rfl rfl (by kernel_rfl) (fun K_1 hKK_1 hcK_1 => ?_) (fun K_1 hKK_1 hcK_1 => ?_)
  · skip
    refine r_call (vs := [_]) .none rfl cl38 rfl (fun w hw => c_ref _ _ _ _ _ _ w) ?_
    refine r_nil (e_d (i := 4) (brk := (fun _ => false)) (ph' := true) hKK_1 hcK_1 rfl (fun _ => GLe.refl _) (fun _ => .keep (fun _ _ h => h) (.keep (fun _ _ h => h) (.nil))) ?_)
    clear hKK_1 hcK_1 K_1
    refine d_val1 5 rfl rfl (by kernel_rfl) (fun _ _ => rfl) .none rfl (p_build (vs := [(0, Value.int _ _), (1, Value.agg #[_, _, _, _, _, _])]) rfl (bl38_0i1_1a6 _ _ _ _ _ _ _)) ?_
    refine d_eff 6 rfl (by kernel_rfl) (fun K_2 hKK_2 hcK_2 => ?_)
    refine r_alloc .none rfl zr38 (IsRow.lit _) (fun b_3 => ?_)
    refine r_nil (e_d (i := 6) (brk := (fun _ => false)) (ph' := true) hKK_2 hcK_2 rfl (fun _ => GLe.refl _) (fun _ => .drop (.keep (fun _ _ h => h) (.keep (fun _ _ h => h) (.nil)))) ?_)
    clear hKK_2 hcK_2 K_2
    refine d_eff 7 rfl (by kernel_rfl) (fun K_3 hKK_3 hcK_3 => ?_)
    refine r_stw (k := 0) .none sz38 rfl rfl (IsRow.lit _) (one_lit rfl rfl) rfl ?_
    refine r_nil (e_d (i := 7) (brk := (fun _ => false)) (ph' := true) hKK_3 hcK_3 rfl (fun _ => GLe.refl _) (fun _ => .drop (.keep (fun _ _ h => h) (.keep (fun _ _ h => h) (.nil)))) ?_)
    clear hKK_3 hcK_3 K_3
    refine d_nil (by kernel_rfl) ?_
    refine e_next ?_
    refine c_seq ?_
    refine c_seq ?_
    refine c_region ?_
    refine r_val .none rfl (p_field Try.underlying27 rfl sz25 rfl) ?_
    refine r_val .none rfl (p_ld (k := 2) Try.underlying25 rfl rfl rfl (by first | exact of_decide_eq_true rfl | omega) rfl) ?_
    refine r_val .none rfl (p_leng Try.underlying25 rfl hr) ?_
    have bd_4 := (hr).bound
    refine r_val .none rfl (p_move rfl) ?_
    refine r_nil ?_
    refine e_next ?_
    refine c_block ?_
    refine c_nilrow 38 8 ?_
    refine c_name (d := 2) rfl (fun u_5 hu_5 => ?_)
    refine c_name (d := 3) rfl (fun u_6 hu_6 => ?_)
    refine c_name (d := 13) rfl (fun u_7 hu_7 => ?_)
    refine c_name (d := 14) rfl (fun u_8 hu_8 => ?_)
    refine c_nameL (k := 2) rfl (fun A_9 hA_9 => ?_)
    refine c_nameL (k := 3) rfl (fun A_10 hA_10 => ?_)
    refine c_loop (σ := Nat × Value × List (CT × Value) × Ghost) (fun s => [(15, Value.int .i64 (s.1 : Nat)), (2, u_5), (3, u_6), (13, u_7), (14, u_8)]) (fun s => [rowA (s.2.1) 38 8 (s.2.2.1).length ((s.2.2.1).flatMap rvC), box b_3 8 38 (at_ [.int .i64 c.h.k, .int .i64 (vi c.h.v0), .int .i64 c.h.n0, .int .i64 (vi c.h.v1), .int .i64 c.h.n1, .int .i64 (vi c.h.v2), .int .i64 c.h.n2, s.2.1]), A_9, A_10]) (fun s => s.2.2.2) (fun s => s.1 ≤ rs.length ∧ s.2.2.1.map Prod.fst = (rs.map Prod.fst).take s.1 ∧ (∀ p ∈ s.2.2.1, Rs s.2.2.2 p.2 p.1.subs) ∧ GNew w nX G s.2.2.2) (fun s => rs.length - s.1) ((0, _, [], _)) ⟨Nat.zero_le _, rfl, by simp, GNew.refl _ _ _⟩ rfl ⟨rfl, rfl, rfl, rfl, rfl, trivial⟩ (.keep (fun _ _ h => rowA_nil rfl _ _ h) (.keep (fun _ _ h => box_congr (fun i hi => by match i, hi with | 0, _ => rfl | 1, _ => rfl | 2, _ => rfl | 3, _ => rfl | 4, _ => rfl | 5, _ => rfl | 6, _ => rfl | 7, _ => rfl) _ _ h) (.keep (fun _ _ h => h) (.keep (fun _ _ h => h) (.nil))))) (fun s hphi => ?_)
    subst hu_5
    subst hu_6
    subst hu_7
    subst hu_8
    subst hA_9
    subst hA_10
    obtain ⟨k, v, qs, H⟩ := s
    obtain ⟨hk, hq, hqs, hgn⟩ := hphi
    dsimp only at hk hq hqs hgn ⊢
    have hql : qs.length ≤ k := (by have := congrArg List.length hq; simp at this; omega)
    refine c_row1 (k := 0) rfl (fun ov => ?_)
    refine c_rowlen (k := 0) rfl (fun l63 => ?_)
    replace hp := fun p hm0 => (hp p hm0).mono hgn.le
    replace hr := hr.mono hgn.le
    refine c_seq ?_
    refine c_region ?_
    refine r_val .none rfl (p_lt rfl rfl) ?_
    refine r_nil ?_
    refine e_next ?_
    refine c_seq ?_
    refine c_splitd (d := 16) rfl (fun h_11 => ?_) (fun h_11 => ?_)
    · skip
      first
        | (exfalso; omega)
        | (
          refine c_cond_t rfl ?_
          refine c_skip ?_
          refine e_next ?_
          refine c_seq ?_
          refine c_block ?_
          refine c_seq ?_
          refine c_region ?_
          refine r_iaddr_g .none rfl Try.underlying25 sz27 rfl hr rfl (by first | exact of_decide_eq_true rfl | omega) (fun p_13 o_14 R_12 => ?_)
          have hc_15 := hp _ (getD_mem (i := k) (d := d0) (by omega))
          refine r_val .none rfl (p_ldga0 Try.underlying27 rfl sz27 rfl R_12 (by first | exact of_decide_eq_true rfl | omega) (rfl : _ = Value.agg #[_, _, _, _, _, _, _, _])) ?_
          refine r_alloc .none rfl zr27 (IsRow.lit _) (fun b_4 => ?_)
          refine r_stw (k := 0) .none sz27 rfl rfl (IsRow.lit _) (one_lit rfl (all_cons rfl (all_cons rfl (all_cons rfl (all_cons rfl (all_cons rfl (all_cons rfl (all_cons rfl (all_cons (hc_15).one rfl))))))))) rfl ?_
          refine r_nil ?_
          refine e_next ?_
          refine c_region_d (fun j => [5, 6, 7].contains j) _ mixed (.keep (fun _ _ h => h) (.keep (fun _ _ h => h) (.keep (fun _ _ h => h) (.keep (fun _ _ h => h) (.keep (fun _ _ h => h) (.nil)))))) ?_
          refine d_val1 0 rfl rfl (by kernel_rfl) (fun j hj => by have h : 7 < j := (Nat.lt_of_lt_of_le (by decide : 7 < 8) hj); simp; omega) .none rfl (p_field Try.underlying38 rfl sz36 rfl) ?_
          refine d_val1 1 rfl rfl (by kernel_rfl) (fun j hj => by have h : 7 < j := (Nat.lt_of_lt_of_le (by decide : 7 < 8) hj); simp; omega) .none rfl (p_ld (k := 2) Try.underlying36 rfl rfl rfl (by first | exact of_decide_eq_true rfl | omega) rfl) ?_
          refine d_val1 2 rfl rfl (by kernel_rfl) (fun j hj => by have h : 7 < j := (Nat.lt_of_lt_of_le (by decide : 7 < 8) hj); simp; omega) .none rfl (p_ldw (k := 0) Try.underlying27 rfl sz27 rfl rfl (rfl : _ = Value.agg #[_, _, _, _, _, _, _, _])) ?_
          refine d_eff 3 rfl (by kernel_rfl) (fun K_16 hKK_16 hcK_16 => ?_)
          refine r_callm (vs := [_]) .none rfl cl15 rfl (fun w hw => ih (rs.getD k d0).1 _ _ w (size_at hl (by omega) hz) (size_child hl (by omega) hsz) hc_15 hw) (fun G_17 v_20 hn_18 hr_19 => ?_)
          replace hp := fun p hm0 => (hp p hm0).mono hn_18.le
          replace hr := hr.mono hn_18.le
          replace hqs := fun p hm0 => (hqs p hm0).mono hn_18.le
          replace R_12 := R_12.mono hn_18.le
          replace hc_15 := hc_15.mono hn_18.le
          obtain ⟨u_21, rfl, u_21s⟩ := hr_19
          refine r_nil (e_d (i := 3) (brk := (fun j => [5, 6, 7].contains j)) (ph' := true) hKK_16 hcK_16 rfl (fun _ => hn_18.le) (fun _ => .keep (fun _ _ h => h) (.keep (fun _ _ h => h) (.keep (fun _ _ h => h) (.keep (fun _ _ h => h) (.keep (fun _ _ h => h) (.nil)))))) ?_)
          clear hKK_16 hcK_16 K_16
          refine d_eff 4 rfl (by kernel_rfl) (fun K_22 hKK_22 hcK_22 => ?_)
          refine r_bslice (vs := [(0, Value.agg #[_, _, _, _, _, _, _, _])]) (c := #[_, _, _, _, _, _, _, _]) .none rfl Try.underlying36 el38 rfl rfl rfl (bs38_10a8 _ _ _ _ _ _ _ _) (IsRow.lit _) (fun b_5 => ?_)
          refine r_nil (e_d (i := 4) (brk := (fun j => [5, 6, 7].contains j)) (ph' := true) hKK_22 hcK_22 rfl (fun _ => hn_18.le) (fun _ => .drop (.keep (fun _ _ h => h) (.keep (fun _ _ h => h) (.keep (fun _ _ h => h) (.keep (fun _ _ h => h) (.keep (fun _ _ h => h) (.nil))))))) ?_)
          clear hKK_22 hcK_22 K_22
          refine d_eff 5 rfl (by kernel_rfl) (fun K_23 hKK_23 hcK_23 => ?_)
          refine r_append (k := 2) (k2 := 0) .none rfl Try.underlying36 el38 rfl (by decide) rfl rfl rfl rfl rfl (one_lit rfl (all_cons rfl (all_cons rfl (all_cons rfl (all_cons rfl (all_cons rfl (all_cons rfl (all_cons rfl (all_cons (u_21s).one rfl))))))))) (by simp only [maxLen]; omega) (by omega) (fun v_24 => ?_)
          refine r_row1 (k := 2) rfl (fun o_25 => ?_)
          refine r_nil (e_d (i := 5) (brk := (fun j => [5, 6, 7].contains j)) (ph' := false) hKK_23 hcK_23 rfl (fun h => by cases h) (fun h => by cases h) ?_)
          clear hKK_23 hcK_23 K_23
          refine d_val2 6 rfl rfl (by kernel_rfl) .none rfl (fun _ => p_field Try.underlying38 rfl sz36 rfl) ?_
          refine d_eff 7 rfl (by kernel_rfl) (fun K_26 hKK_26 hcK_26 => ?_)
          refine r_st (k := 3) .none sz36 rfl rfl o_25 rfl (by first | exact of_decide_eq_true rfl | omega) ?_
          refine r_nil (e_d (i := 7) (brk := (fun j => [5, 6, 7].contains j)) (ph' := false) hKK_26 hcK_26 rfl (fun h => by cases h) (fun h => by cases h) ?_)
          clear hKK_26 hcK_26 K_26
          refine d_nil (by kernel_rfl) ?_
          refine e_norm_block ?_
          refine e_next ?_
          refine c_region ?_
          refine r_val .none rfl (p_add rfl rfl (by omega)) ?_
          refine r_val .none rfl (p_move rfl) ?_
          refine r_nil ?_
          refine e_round ((k + 1, _, qs ++ [((rs.getD k d0).1, u_21)], _)) ⟨⟨by dsimp only; omega, by rw [map_take (d := d0) (by omega), List.map_append, hq]; rfl, (fun p hp' => by rcases List.mem_append.1 hp' with h | h; exact hqs p h; rw [List.mem_singleton.1 h]; exact u_21s), (hgn.trans hn_18)⟩, by dsimp only; omega⟩ rfl ⟨rfl, rfl, rfl, rfl, rfl, trivial⟩ (.drop (.drop (.keep (fun _ _ h => rowA_snoc (l := qs) (x := ((rs.getD k d0).1, u_21)) rfl rfl rfl rfl _ _ h) (.keep (fun _ _ h => box_congr (fun i hi => by match i, hi with | 0, _ => rfl | 1, _ => rfl | 2, _ => rfl | 3, _ => rfl | 4, _ => rfl | 5, _ => rfl | 6, _ => rfl | 7, _ => rfl) _ _ h) (.keep (fun _ _ h => h) (.keep (fun _ _ h => h) (.nil)))))))
          )
    · skip
      first
        | (exfalso; omega)
        | (
          refine c_cond_f rfl ?_
          refine c_exit ?_
          refine e_exit_then ?_
          refine e_exit_then ?_
          refine e_exit_block ?_
          refine e_next ?_
          refine c_seq ?_
          refine c_region ?_
          refine r_val .none rfl (p_ldw (k := 1) Try.underlying38 rfl sz38 rfl rfl (rfl : _ = Value.agg #[_, _, _, _, _, _, _, _])) ?_
          refine r_stw (k := 2) .none sz38 rfl rfl (IsRow.lit _) (one_lit rfl (all_cons rfl (all_cons rfl (all_cons rfl (all_cons rfl (all_cons rfl (all_cons rfl (all_cons rfl (all_cons ov rfl))))))))) rfl ?_
          refine r_nil ?_
          refine e_next ?_
          refine c_ret ?_
          refine e_freeze (k := 0) rfl (fun G_27 hn_28 hs_29 => ?_)
          replace hp := fun p hm0 => (hp p hm0).mono hn_28.le
          replace hr := hr.mono hn_28.le
          replace hqs := fun p hm0 => (hqs p hm0).mono hn_28.le
          refine e_ret1 Try.results15 (.cell (k := 1) rfl Try.underlying38 rfl sz38 rfl (rfl : _ = Value.agg #[_, _, _, _, _, _, _, _]) .nil) (fun w hm => ⟨_, (hgn.trans hn_28), hm.has, ⟨_, rfl, ?_⟩, hm.since⟩)
          rw [show c.subs = qs.map Prod.fst by rw [hl, hq, List.take_of_length_le (by simp; omega)]]
          exact Tr.mk qs (SlL.of d0 (fun _ => rfl) rfl hs_29) hqs
          )
  · skip
    refine r_alloc .none rfl zr38 (IsRow.lit _) (fun b_6 => ?_)
    refine r_nil (e_d (i := 6) (brk := (fun _ => false)) (ph' := true) hKK_1 hcK_1 rfl (fun _ => GLe.refl _) (fun _ => .drop (.keep (fun _ _ h => h) (.keep (fun _ _ h => h) (.nil)))) ?_)
    clear hKK_1 hcK_1 K_1
    refine d_eff 4 rfl (by kernel_rfl) (fun K_30 hKK_30 hcK_30 => ?_)
    refine r_call (vs := [_]) .none rfl cl38 rfl (fun w hw => c_ref _ _ _ _ _ _ w) ?_
    refine r_nil (e_d (i := 4) (brk := (fun _ => false)) (ph' := true) hKK_30 hcK_30 rfl (fun _ => GLe.refl _) (fun _ => .drop (.keep (fun _ _ h => h) (.keep (fun _ _ h => h) (.nil)))) ?_)
    clear hKK_30 hcK_30 K_30
    refine d_val1 5 rfl rfl (by kernel_rfl) (fun _ _ => rfl) .none rfl (p_build (vs := [(0, Value.int _ _), (1, Value.agg #[_, _, _, _, _, _])]) rfl (bl38_0i1_1a6 _ _ _ _ _ _ _)) ?_
    refine d_eff 7 rfl (by kernel_rfl) (fun K_31 hKK_31 hcK_31 => ?_)
    refine r_stw (k := 0) .none sz38 rfl rfl (IsRow.lit _) (one_lit rfl rfl) rfl ?_
    refine r_nil (e_d (i := 7) (brk := (fun _ => false)) (ph' := true) hKK_31 hcK_31 rfl (fun _ => GLe.refl _) (fun _ => .drop (.keep (fun _ _ h => h) (.keep (fun _ _ h => h) (.nil)))) ?_)
    clear hKK_31 hcK_31 K_31
    refine d_nil (by kernel_rfl) ?_
    refine e_next ?_
    refine c_seq ?_
    refine c_seq ?_
    refine c_region ?_
    refine r_val .none rfl (p_field Try.underlying27 rfl sz25 rfl) ?_
    refine r_val .none rfl (p_ld (k := 2) Try.underlying25 rfl rfl rfl (by first | exact of_decide_eq_true rfl | omega) rfl) ?_
    refine r_val .none rfl (p_leng Try.underlying25 rfl hr) ?_
    have bd_32 := (hr).bound
    refine r_val .none rfl (p_move rfl) ?_
    refine r_nil ?_
    refine e_next ?_
    refine c_block ?_
    refine c_nilrow 38 8 ?_
    refine c_name (d := 2) rfl (fun u_33 hu_33 => ?_)
    refine c_name (d := 3) rfl (fun u_34 hu_34 => ?_)
    refine c_name (d := 13) rfl (fun u_35 hu_35 => ?_)
    refine c_name (d := 14) rfl (fun u_36 hu_36 => ?_)
    refine c_nameL (k := 2) rfl (fun A_37 hA_37 => ?_)
    refine c_nameL (k := 3) rfl (fun A_38 hA_38 => ?_)
    refine c_loop (σ := Nat × Value × List (CT × Value) × Ghost) (fun s => [(15, Value.int .i64 (s.1 : Nat)), (2, u_33), (3, u_34), (13, u_35), (14, u_36)]) (fun s => [rowA (s.2.1) 38 8 (s.2.2.1).length ((s.2.2.1).flatMap rvC), box b_6 8 38 (at_ [.int .i64 c.h.k, .int .i64 (vi c.h.v0), .int .i64 c.h.n0, .int .i64 (vi c.h.v1), .int .i64 c.h.n1, .int .i64 (vi c.h.v2), .int .i64 c.h.n2, s.2.1]), A_37, A_38]) (fun s => s.2.2.2) (fun s => s.1 ≤ rs.length ∧ s.2.2.1.map Prod.fst = (rs.map Prod.fst).take s.1 ∧ (∀ p ∈ s.2.2.1, Rs s.2.2.2 p.2 p.1.subs) ∧ GNew w nX G s.2.2.2) (fun s => rs.length - s.1) ((0, _, [], _)) ⟨Nat.zero_le _, rfl, by simp, GNew.refl _ _ _⟩ rfl ⟨rfl, rfl, rfl, rfl, rfl, trivial⟩ (.keep (fun _ _ h => rowA_nil rfl _ _ h) (.keep (fun _ _ h => box_congr (fun i hi => by match i, hi with | 0, _ => rfl | 1, _ => rfl | 2, _ => rfl | 3, _ => rfl | 4, _ => rfl | 5, _ => rfl | 6, _ => rfl | 7, _ => rfl) _ _ h) (.keep (fun _ _ h => h) (.keep (fun _ _ h => h) (.nil))))) (fun s hphi => ?_)
    subst hu_33
    subst hu_34
    subst hu_35
    subst hu_36
    subst hA_37
    subst hA_38
    obtain ⟨k, v, qs, H⟩ := s
    obtain ⟨hk, hq, hqs, hgn⟩ := hphi
    dsimp only at hk hq hqs hgn ⊢
    have hql : qs.length ≤ k := (by have := congrArg List.length hq; simp at this; omega)
    refine c_row1 (k := 0) rfl (fun ov => ?_)
    refine c_rowlen (k := 0) rfl (fun l63 => ?_)
    replace hp := fun p hm0 => (hp p hm0).mono hgn.le
    replace hr := hr.mono hgn.le
    refine c_seq ?_
    refine c_region ?_
    refine r_val .none rfl (p_lt rfl rfl) ?_
    refine r_nil ?_
    refine e_next ?_
    refine c_seq ?_
    refine c_splitd (d := 16) rfl (fun h_39 => ?_) (fun h_39 => ?_)
    · skip
      first
        | (exfalso; omega)
        | (
          refine c_cond_t rfl ?_
          refine c_skip ?_
          refine e_next ?_
          refine c_seq ?_
          refine c_block ?_
          refine c_seq ?_
          refine c_region ?_
          refine r_iaddr_g .none rfl Try.underlying25 sz27 rfl hr rfl (by first | exact of_decide_eq_true rfl | omega) (fun p_41 o_42 R_40 => ?_)
          have hc_43 := hp _ (getD_mem (i := k) (d := d0) (by omega))
          refine r_val .none rfl (p_ldga0 Try.underlying27 rfl sz27 rfl R_40 (by first | exact of_decide_eq_true rfl | omega) (rfl : _ = Value.agg #[_, _, _, _, _, _, _, _])) ?_
          refine r_alloc .none rfl zr27 (IsRow.lit _) (fun b_7 => ?_)
          refine r_stw (k := 0) .none sz27 rfl rfl (IsRow.lit _) (one_lit rfl (all_cons rfl (all_cons rfl (all_cons rfl (all_cons rfl (all_cons rfl (all_cons rfl (all_cons rfl (all_cons (hc_43).one rfl))))))))) rfl ?_
          refine r_nil ?_
          refine e_next ?_
          refine c_region_d (fun j => [5, 6, 7].contains j) _ mixed (.keep (fun _ _ h => h) (.keep (fun _ _ h => h) (.keep (fun _ _ h => h) (.keep (fun _ _ h => h) (.keep (fun _ _ h => h) (.nil)))))) ?_
          refine d_val1 0 rfl rfl (by kernel_rfl) (fun j hj => by have h : 7 < j := (Nat.lt_of_lt_of_le (by decide : 7 < 8) hj); simp; omega) .none rfl (p_field Try.underlying38 rfl sz36 rfl) ?_
          refine d_val1 1 rfl rfl (by kernel_rfl) (fun j hj => by have h : 7 < j := (Nat.lt_of_lt_of_le (by decide : 7 < 8) hj); simp; omega) .none rfl (p_ld (k := 2) Try.underlying36 rfl rfl rfl (by first | exact of_decide_eq_true rfl | omega) rfl) ?_
          refine d_val1 2 rfl rfl (by kernel_rfl) (fun j hj => by have h : 7 < j := (Nat.lt_of_lt_of_le (by decide : 7 < 8) hj); simp; omega) .none rfl (p_ldw (k := 0) Try.underlying27 rfl sz27 rfl rfl (rfl : _ = Value.agg #[_, _, _, _, _, _, _, _])) ?_
          refine d_eff 3 rfl (by kernel_rfl) (fun K_44 hKK_44 hcK_44 => ?_)
          refine r_callm (vs := [_]) .none rfl cl15 rfl (fun w hw => ih (rs.getD k d0).1 _ _ w (size_at hl (by omega) hz) (size_child hl (by omega) hsz) hc_43 hw) (fun G_45 v_48 hn_46 hr_47 => ?_)
          replace hp := fun p hm0 => (hp p hm0).mono hn_46.le
          replace hr := hr.mono hn_46.le
          replace hqs := fun p hm0 => (hqs p hm0).mono hn_46.le
          replace R_40 := R_40.mono hn_46.le
          replace hc_43 := hc_43.mono hn_46.le
          obtain ⟨u_49, rfl, u_49s⟩ := hr_47
          refine r_nil (e_d (i := 3) (brk := (fun j => [5, 6, 7].contains j)) (ph' := true) hKK_44 hcK_44 rfl (fun _ => hn_46.le) (fun _ => .keep (fun _ _ h => h) (.keep (fun _ _ h => h) (.keep (fun _ _ h => h) (.keep (fun _ _ h => h) (.keep (fun _ _ h => h) (.nil)))))) ?_)
          clear hKK_44 hcK_44 K_44
          refine d_eff 4 rfl (by kernel_rfl) (fun K_50 hKK_50 hcK_50 => ?_)
          refine r_bslice (vs := [(0, Value.agg #[_, _, _, _, _, _, _, _])]) (c := #[_, _, _, _, _, _, _, _]) .none rfl Try.underlying36 el38 rfl rfl rfl (bs38_10a8 _ _ _ _ _ _ _ _) (IsRow.lit _) (fun b_8 => ?_)
          refine r_nil (e_d (i := 4) (brk := (fun j => [5, 6, 7].contains j)) (ph' := true) hKK_50 hcK_50 rfl (fun _ => hn_46.le) (fun _ => .drop (.keep (fun _ _ h => h) (.keep (fun _ _ h => h) (.keep (fun _ _ h => h) (.keep (fun _ _ h => h) (.keep (fun _ _ h => h) (.nil))))))) ?_)
          clear hKK_50 hcK_50 K_50
          refine d_eff 5 rfl (by kernel_rfl) (fun K_51 hKK_51 hcK_51 => ?_)
          refine r_append (k := 2) (k2 := 0) .none rfl Try.underlying36 el38 rfl (by decide) rfl rfl rfl rfl rfl (one_lit rfl (all_cons rfl (all_cons rfl (all_cons rfl (all_cons rfl (all_cons rfl (all_cons rfl (all_cons rfl (all_cons (u_49s).one rfl))))))))) (by simp only [maxLen]; omega) (by omega) (fun v_52 => ?_)
          refine r_row1 (k := 2) rfl (fun o_53 => ?_)
          refine r_nil (e_d (i := 5) (brk := (fun j => [5, 6, 7].contains j)) (ph' := false) hKK_51 hcK_51 rfl (fun h => by cases h) (fun h => by cases h) ?_)
          clear hKK_51 hcK_51 K_51
          refine d_val2 6 rfl rfl (by kernel_rfl) .none rfl (fun _ => p_field Try.underlying38 rfl sz36 rfl) ?_
          refine d_eff 7 rfl (by kernel_rfl) (fun K_54 hKK_54 hcK_54 => ?_)
          refine r_st (k := 3) .none sz36 rfl rfl o_53 rfl (by first | exact of_decide_eq_true rfl | omega) ?_
          refine r_nil (e_d (i := 7) (brk := (fun j => [5, 6, 7].contains j)) (ph' := false) hKK_54 hcK_54 rfl (fun h => by cases h) (fun h => by cases h) ?_)
          clear hKK_54 hcK_54 K_54
          refine d_nil (by kernel_rfl) ?_
          refine e_norm_block ?_
          refine e_next ?_
          refine c_region ?_
          refine r_val .none rfl (p_add rfl rfl (by omega)) ?_
          refine r_val .none rfl (p_move rfl) ?_
          refine r_nil ?_
          refine e_round ((k + 1, _, qs ++ [((rs.getD k d0).1, u_49)], _)) ⟨⟨by dsimp only; omega, by rw [map_take (d := d0) (by omega), List.map_append, hq]; rfl, (fun p hp' => by rcases List.mem_append.1 hp' with h | h; exact hqs p h; rw [List.mem_singleton.1 h]; exact u_49s), (hgn.trans hn_46)⟩, by dsimp only; omega⟩ rfl ⟨rfl, rfl, rfl, rfl, rfl, trivial⟩ (.drop (.drop (.keep (fun _ _ h => rowA_snoc (l := qs) (x := ((rs.getD k d0).1, u_49)) rfl rfl rfl rfl _ _ h) (.keep (fun _ _ h => box_congr (fun i hi => by match i, hi with | 0, _ => rfl | 1, _ => rfl | 2, _ => rfl | 3, _ => rfl | 4, _ => rfl | 5, _ => rfl | 6, _ => rfl | 7, _ => rfl) _ _ h) (.keep (fun _ _ h => h) (.keep (fun _ _ h => h) (.nil)))))))
          )
    · skip
      first
        | (exfalso; omega)
        | (
          refine c_cond_f rfl ?_
          refine c_exit ?_
          refine e_exit_then ?_
          refine e_exit_then ?_
          refine e_exit_block ?_
          refine e_next ?_
          refine c_seq ?_
          refine c_region ?_
          refine r_val .none rfl (p_ldw (k := 1) Try.underlying38 rfl sz38 rfl rfl (rfl : _ = Value.agg #[_, _, _, _, _, _, _, _])) ?_
          refine r_stw (k := 2) .none sz38 rfl rfl (IsRow.lit _) (one_lit rfl (all_cons rfl (all_cons rfl (all_cons rfl (all_cons rfl (all_cons rfl (all_cons rfl (all_cons rfl (all_cons ov rfl))))))))) rfl ?_
          refine r_nil ?_
          refine e_next ?_
          refine c_ret ?_
          refine e_freeze (k := 0) rfl (fun G_55 hn_56 hs_57 => ?_)
          replace hp := fun p hm0 => (hp p hm0).mono hn_56.le
          replace hr := hr.mono hn_56.le
          replace hqs := fun p hm0 => (hqs p hm0).mono hn_56.le
          refine e_ret1 Try.results15 (.cell (k := 1) rfl Try.underlying38 rfl sz38 rfl (rfl : _ = Value.agg #[_, _, _, _, _, _, _, _]) .nil) (fun w hm => ⟨_, (hgn.trans hn_56), hm.has, ⟨_, rfl, ?_⟩, hm.since⟩)
          rw [show c.subs = qs.map Prod.fst by rw [hl, hq, List.take_of_length_le (by simp; omega)]]
          exact Tr.mk qs (SlL.of d0 (fun _ => rfl) rfl hs_57) hqs
          )
theorem c_ref4_n : ∀ n, RefIs n
  | 0 => fun c sv G w hz hsz hs hG => absurd hz (by have := size_subs c; omega)
  | n + 1 => fun c sv G w hz hsz hs hG => c_ref4_s n (c_ref4_n n) c sv hz hsz hs w hG
theorem c_ref4 (c : CT) (sv : Value) {G : Ghost} (hsz : size c ≤ 1000) (hs : Cs G sv c.subs) (w : World) (hG : Has G w) : Calls Try.prog 15 #[Value.agg #[Value.int .i64 c.h.k, Value.bool c.h.v0, Value.int .i64 c.h.n0, Value.bool c.h.v1, Value.int .i64 c.h.n1, Value.bool c.h.v2, Value.int .i64 c.h.n2, sv]] w (Ret fun r w' => ∃ G', GNew w nX G G' ∧ Has G' w' ∧ (∃ u, r = Value.agg #[Value.int .i64 c.h.k, Value.int .i64 (vi c.h.v0), Value.int .i64 c.h.n0, Value.int .i64 (vi c.h.v1), Value.int .i64 c.h.n1, Value.int .i64 (vi c.h.v2), Value.int .i64 c.h.n2, u] ∧ Rs G' u c.subs) ∧ Since nX w w') := c_ref4_n _ c sv G w (Nat.le_refl _) hsz hs hG
end Go.Proofs.Ytpcpbfajadgmpaa
