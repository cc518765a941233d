/- Texts of this work, laid together: a logic of steps, plain laws, and walks of Go functions, each without a condition but those that its theorems name. -/
import Derived.Test.YtdcaehepmkhciaaKAlphaPlays3
import Derived.Test.YtdcaehepmkhciaaRows
/- Walks: what Go functions of this chapter come to, each as a function on plain data; no condition but those that each theorem names. Printed by a program of this work (gen.py). -/
namespace Go.Proofs.Ytdcaehepmkhciaa
open Go.Gx Go.Gx Go.Gx.T10 Go.Gx.T12 Go.Gx.T10 Go.Gx.T11
theorem sz63 : SzIs Try.prog 63 1 := by
 unfold SzIs
 kernel_rfl
theorem bl146_0i1_1a3 (x0 : Int) (x1 : Value) (x2 : Value) (x3 : Value) : Program.built Try.prog 146 [(0, Value.int .i64 x0), (1, Value.agg #[x1, x2, x3])] = some #[Value.int .i64 x0, x1, x2, x3] := by
 kernel_rfl
theorem bs146_10a4 (a0 a1 a2 a3 : Value) : Instr.fill (fun i => some (i * 4, 4)) ((Array.range (1 * 4)).map ((Value.agg #[Value.int .i64 0, Value.int .i64 0, Value.int .i64 0, Value.int .i64 0]).cells[· % (Value.agg #[Value.int .i64 0, Value.int .i64 0, Value.int .i64 0, Value.int .i64 0]).cells.size]!)) [(0, Value.agg #[a0, a1, a2, a3])] = some #[a0, a1, a2, a3] := by
 kernel_rfl
theorem el146 : ElemIs Try.prog 146 4 32 (Value.agg #[Value.int .i64 0, Value.int .i64 0, Value.int .i64 0, Value.int .i64 0]) := by
 unfold ElemIs
 kernel_rfl
def fineO (k t : Tri) (fs : List FD) : Bool := keyR k && triRight t && decide (fs.length ≤ 20) && fs.all fun f => triRight f.2
theorem all_getD {fs : List FD} (h : ∀ q, q < fs.length → triRight (fs.getD q (0, zT)).2 = true) : (fs.all fun f => triRight f.2) = true := List.all_eq_true.2 fun f hf => by
 obtain ⟨q, hq, e⟩ := List.getElem_of_mem hf
 have := h q hq
 simpa [List.getD, hq, e] using this
theorem all_not {fs : List FD} {q : Nat} (hq : q < fs.length) (h : triRight (fs.getD q (0, zT)).2 = false) : (fs.all fun f => triRight f.2) = false := by
 cases e : fs.all fun f => triRight f.2 with
 | false => rfl
 | true => rw [List.all_eq_true.1 e _ (getD_mem (i := q) (d := (0, zT)) hq)] at h; cases h
theorem lst_eq {α : Type} (d : α) {a b : List α} (hl : a.length = b.length) (h : ∀ i, i < a.length → a.getD i d = b.getD i d) : a = b := by
  apply List.ext_getElem?
  intro i
  by_cases hi : i < a.length
  · have := h i hi
    simp [List.getD, hi, show i < b.length by omega] at this
    rw [List.getElem?_eq_getElem hi, List.getElem?_eq_getElem (by omega), this]
  · rw [List.getElem?_eq_none (by omega), List.getElem?_eq_none (by omega)]
theorem c_ref12 (v : Value) (fs : List FD) {G : Ghost} (hs : SlL G v 4 fC (0, zT) fs) (hn : fs.length ≤ 1000) (w : World) (hG : Has G w) :
  Calls Try.prog 38 #[v] w (Ret fun r w' => Since nX w w' ∧ ∃ F', (rowA r 146 4 fs.length (fs.flatMap fC)).holds w' F' ∧ ∀ b, F' b → w.heap.size ≤ b) := by
 refine enter (args := [_]) (X := nX) (G := G) (l := [(0, v)]) Try.func38 rfl Try.ntmps38 hG ⟨rfl, trivial⟩ (Nat.le_of_ble_eq_true rfl) ?_
 refine c_seq ?_
 refine c_region ?_
 refine r_val .none rfl (p_assign rfl) ?_
 refine r_nil ?_
 refine e_next ?_
 refine c_seq ?_
 refine c_region ?_
 refine r_val .none rfl (p_assign rfl) ?_
 refine r_nil ?_
 refine e_next ?_
 refine c_seq ?_
 refine c_seq ?_
 refine c_region ?_
 refine r_val .none rfl (p_move rfl) ?_
 refine r_val .none rfl (p_leng Try.underlying63 rfl hs) ?_
 have bd_1 := (hs).bound
 refine r_val .none rfl (p_move rfl) ?_
 refine r_nil ?_
 refine e_next ?_
 refine c_block ?_
 refine c_nilrow 146 4 ?_
 refine c_name (d := 2) rfl (fun u_2 hu_2 => ?_)
 refine c_name (d := 6) rfl (fun u_3 hu_3 => ?_)
 refine c_name (d := 7) rfl (fun u_4 hu_4 => ?_)
 refine c_loop (σ := Nat × Value) (fun s' => [(8, Value.int .i64 (s'.1 : Nat)), (3, s'.2), (2, u_2), (6, u_3), (7, u_4)]) (fun s' => [rowA (s'.2) 146 4 ((fs.take s'.1)).length (((fs.take s'.1)).flatMap fC)]) (fun _ => _) (fun s' => s'.1 ≤ fs.length) (fun s' => fs.length - s'.1) ((0, _)) (Nat.zero_le _) rfl ⟨rfl, rfl, rfl, rfl, rfl, trivial⟩ (.keep (fun _ _ h => rowA_nil rfl _ _ h) (.nil)) (fun s' hphi => ?_)
 subst hu_2
 subst hu_3
 subst hu_4
 obtain ⟨j, ov⟩ := s'
 dsimp only at hphi ⊢
 have hfl : (fs.take j).length ≤ 1000 := by rw [List.length_take]; omega
 refine c_seq ?_
 refine c_region ?_
 refine r_val .none rfl (p_lt rfl rfl) ?_
 refine r_nil ?_
 refine e_next ?_
 refine c_seq ?_
 refine c_splitd (d := 9) rfl (fun h_5 => ?_) (fun h_5 => ?_)
 ·
  first
   | (exfalso; omega)
   | (
    refine c_cond_t rfl ?_
    refine c_skip ?_
    refine e_next ?_
    refine c_seq ?_
    refine c_block ?_
    refine c_seq ?_
    refine c_region ?_
    refine r_iaddr_g .none rfl Try.underlying63 sz66 rfl hs rfl (by first | exact of_decide_eq_true rfl | omega) (fun p_7 o_8 R_6 => ?_)
    refine r_val .none rfl (p_ldga0 Try.underlying66 rfl sz66 rfl R_6 (by first | exact of_decide_eq_true rfl | omega) (rfl : _ = Value.agg #[_, _, _, _])) ?_
    refine r_alloc .none rfl zr66 (IsRow.lit _) (fun b_1 => ?_)
    refine r_stw (k := 0) .none sz66 rfl rfl (IsRow.lit _) (one_lit rfl rfl) rfl ?_
    refine r_nil ?_
    refine e_next ?_
    refine c_region ?_
    refine r_val .none rfl (p_move rfl) ?_
    refine r_val .none rfl (p_field Try.underlying66 rfl sz3 rfl) ?_
    refine r_val .none rfl (p_ld (k := 0) Try.underlying3 rfl rfl rfl (by first | exact of_decide_eq_true rfl | omega) (rfl : _ = Value.int _ _)) ?_
    refine r_val .none rfl (p_field Try.underlying66 rfl sz61 rfl) ?_
    refine r_val .none rfl (p_lda (k := 0) Try.underlying61 rfl sz61 rfl rfl (by first | exact of_decide_eq_true rfl | omega) (rfl : _ = Value.agg #[_, _, _])) ?_
    refine r_val .none rfl (p_build (vs := [(0, Value.int _ _), (1, Value.agg #[_, _, _])]) rfl (bl146_0i1_1a3 _ _ _ _)) ?_
    refine r_bslice (vs := [(0, Value.agg #[_, _, _, _])]) (c := #[_, _, _, _]) .none rfl Try.underlying85 el146 rfl rfl rfl (bs146_10a4 _ _ _ _) (IsRow.lit _) (fun b_2 => ?_)
    refine r_append (k := 2) (k2 := 0) .none rfl Try.underlying85 el146 rfl (by decide) rfl rfl rfl rfl rfl (one_lit rfl rfl) (by simp only [maxLen]; omega) (by omega) (fun v_9 => ?_)
    refine r_row1 (k := 2) rfl (fun o_10 => ?_)
    refine r_val .none rfl (p_assign rfl) ?_
    refine r_nil ?_
    refine e_norm_block ?_
    refine e_next ?_
    refine c_region ?_
    refine r_val .none rfl (p_add rfl rfl (by omega)) ?_
    refine r_val .none rfl (p_move rfl) ?_
    refine r_nil ?_
    refine e_round ((j + 1, _)) ⟨by dsimp only; omega, by dsimp only; omega⟩ rfl ⟨rfl, rfl, rfl, rfl, rfl, trivial⟩ (.drop (.drop (.keep (fun _ _ h => rowA_snoc (take_next (0, zT) (by omega)) rfl rfl rfl _ _ h) (.nil))))
    )
 ·
  first
   | (exfalso; omega)
   | (
    refine c_cond_f rfl ?_
    refine c_exit ?_
    refine e_exit_then ?_
    refine e_exit_then ?_
    refine e_exit_block ?_
    refine e_next ?_
    refine c_seq ?_
    refine c_region ?_
    refine r_val .none rfl (p_move rfl) ?_
    refine r_val .none rfl (p_assign rfl) ?_
    refine r_nil ?_
    refine e_next ?_
    refine c_ret ?_
    refine e_ret1 Try.results38 (.tmp rfl .nil) (fun w hm => hm.made [rowA ov 146 4 (fs).length ((fs).flatMap fC)] (.keep (fun _ _ h => rowA_congr (by rw [List.take_of_length_le (by omega)]) (by rw [List.take_of_length_le (by omega)]) _ _ h) (.nil)) _ (fun F' h => starL_one1 h))
    )
theorem c_fine12 (kd id : Int) (k t : Tri) (fv : Value) (fs : List FD) {G : Ghost} (hf : SlL G fv 4 fC (0, zT) fs) (w : World) (hG : Has G w) :
  Calls Try.prog 36 #[Value.agg #[.int .i64 kd, .int .i64 k.1, .int .i64 k.2.1, .int .i64 k.2.2, .int .i64 t.1, .int .i64 t.2.1, .int .i64 t.2.2, .int .i64 id, fv]] w (Ret fun r w' => r = Value.bool (fineO k t fs) ∧ Since nX w w') := by
 refine enter (args := [_]) (X := nX) (G := G) (l := [(0, Value.agg #[.int .i64 kd, .int .i64 k.1, .int .i64 k.2.1, .int .i64 k.2.2, .int .i64 t.1, .int .i64 t.2.1, .int .i64 t.2.2, .int .i64 id, fv])]) Try.func36 rfl Try.ntmps36 hG ⟨rfl, trivial⟩ (Nat.le_of_ble_eq_true rfl) ?_
 refine c_seq ?_
 refine c_region ?_
 refine r_box .none rfl rfl (IsRow.lit _) (fun b_1 => ?_)
 refine r_val .none rfl (p_assign rfl) ?_
 refine r_nil ?_
 refine e_next ?_
 refine c_seq ?_
 refine c_seq ?_
 refine c_region ?_
 refine r_val .none rfl (p_field Try.underlying82 rfl sz61 rfl) ?_
 refine r_val .none rfl (p_lda (k := 0) Try.underlying61 rfl sz61 rfl rfl (by first | exact of_decide_eq_true rfl | omega) (rfl : _ = Value.agg #[_, _, _])) ?_
 refine r_call (vs := [_]) .none rfl cl26 rfl (fun w hw => c_r7right k w) ?_
 refine r_val .none rfl (p_not rfl) ?_
 refine r_val .none rfl (p_move rfl) ?_
 refine r_splitn (d := 9) rfl (fun h_1 => ?_) (fun h_1 => ?_)
 ·
  have hA : keyR k = false := by (have h9 := h_1; simpa using h9)
  first
   | (exfalso; first | omega | assumption)
   | (
    refine r_skip rfl (.no rfl rfl) ?_
    refine r_skip rfl (.no rfl rfl) ?_
    refine r_skip rfl (.no rfl rfl) ?_
    refine r_skip rfl (.no rfl rfl) ?_
    refine r_val .none rfl (p_pick_t rfl rfl) ?_
    refine r_val .none rfl (p_move rfl) ?_
    refine r_skip rfl (.no rfl rfl) ?_
    refine r_skip rfl (.no rfl rfl) ?_
    refine r_skip rfl (.no rfl rfl) ?_
    refine r_skip rfl (.no rfl rfl) ?_
    refine r_val .none rfl (p_pick_t rfl rfl) ?_
    refine r_nil ?_
    refine e_next ?_
    refine c_cond_t rfl ?_
    refine c_seq ?_
    refine c_region ?_
    refine r_val .none rfl (p_assign rfl) ?_
    refine r_nil ?_
    refine e_next ?_
    refine c_ret ?_
    refine e_ret_then ?_
    refine e_ret1 Try.results36 (.tmp rfl .nil) (fun w hm => ⟨?_, hm.since⟩)
    first
    | (rw [fineO, hA]; rfl)
    | (rw [fineO, hA, hB]; rfl)
    | (rw [fineO, hA, hB, decide_eq_false hC]; rfl)
    | (rw [fineO, hA, hB, decide_eq_true hC, all_not (by omega) hE]; rfl)
    | (rw [fineO, hA, hB, decide_eq_true hC, all_getD (fun q hq => hphi.2 q (by omega))]; rfl)
    )
 ·
  have hA : keyR k = true := by (have h9 := h_1; simpa using h9)
  first
   | (exfalso; first | omega | assumption)
   | (
    refine r_val (.some rfl rfl) rfl (p_field Try.underlying82 rfl sz61 rfl) ?_
    refine r_val (.some rfl rfl) rfl (p_lda (k := 0) Try.underlying61 rfl sz61 rfl rfl (by first | exact of_decide_eq_true rfl | omega) (rfl : _ = Value.agg #[_, _, _])) ?_
    refine r_call (vs := [_]) (.some rfl rfl) rfl cl27 rfl (fun w hw => c_rtri t w) ?_
    refine r_val (.some rfl rfl) rfl (p_not rfl) ?_
    refine r_val .none rfl (p_pick_f rfl rfl) ?_
    refine r_val .none rfl (p_move rfl) ?_
    refine r_splitn (d := 15) rfl (fun h_2 => ?_) (fun h_2 => ?_)
    ·
     have hB : triRight t = false := by (have h9 := h_2; simpa using h9)
     first
      | (exfalso; first | omega | assumption)
      | (
       refine r_skip rfl (.no rfl rfl) ?_
       refine r_skip rfl (.no rfl rfl) ?_
       refine r_skip rfl (.no rfl rfl) ?_
       refine r_skip rfl (.no rfl rfl) ?_
       refine r_val .none rfl (p_pick_t rfl rfl) ?_
       refine r_nil ?_
       refine e_next ?_
       refine c_cond_t rfl ?_
       refine c_seq ?_
       refine c_region ?_
       refine r_val .none rfl (p_assign rfl) ?_
       refine r_nil ?_
       refine e_next ?_
       refine c_ret ?_
       refine e_ret_then ?_
       refine e_ret1 Try.results36 (.tmp rfl .nil) (fun w hm => ⟨?_, hm.since⟩)
       first
       | (rw [fineO, hA]; rfl)
       | (rw [fineO, hA, hB]; rfl)
       | (rw [fineO, hA, hB, decide_eq_false hC]; rfl)
       | (rw [fineO, hA, hB, decide_eq_true hC, all_not (by omega) hE]; rfl)
       | (rw [fineO, hA, hB, decide_eq_true hC, all_getD (fun q hq => hphi.2 q (by omega))]; rfl)
       )
    ·
     have hB : triRight t = true := by (have h9 := h_2; simpa using h9)
     first
      | (exfalso; first | omega | assumption)
      | (
       refine r_val (.some rfl rfl) rfl (p_field Try.underlying82 rfl sz63 rfl) ?_
       refine r_val (.some rfl rfl) rfl (p_ld (k := 0) Try.underlying63 rfl rfl rfl (by first | exact of_decide_eq_true rfl | omega) rfl) ?_
       refine r_val (.some rfl rfl) rfl (p_leng Try.underlying63 rfl hf) ?_
       have bd_3 := (hf).bound
       refine r_val (.some rfl rfl) rfl (p_gt rfl rfl) ?_
       refine r_val .none rfl (p_pick_f rfl rfl) ?_
       refine r_nil ?_
       refine e_next ?_
       refine c_splitd (d := 20) rfl (fun h_4 => ?_) (fun h_4 => ?_)
       ·
        have hC : ¬ fs.length ≤ 20 := by (have h9 := h_4; omega)
        first
         | (exfalso; first | omega | assumption)
         | (
          refine c_cond_t rfl ?_
          refine c_seq ?_
          refine c_region ?_
          refine r_val .none rfl (p_assign rfl) ?_
          refine r_nil ?_
          refine e_next ?_
          refine c_ret ?_
          refine e_ret_then ?_
          refine e_ret1 Try.results36 (.tmp rfl .nil) (fun w hm => ⟨?_, hm.since⟩)
          first
          | (rw [fineO, hA]; rfl)
          | (rw [fineO, hA, hB]; rfl)
          | (rw [fineO, hA, hB, decide_eq_false hC]; rfl)
          | (rw [fineO, hA, hB, decide_eq_true hC, all_not (by omega) hE]; rfl)
          | (rw [fineO, hA, hB, decide_eq_true hC, all_getD (fun q hq => hphi.2 q (by omega))]; rfl)
          )
       ·
        have hC : fs.length ≤ 20 := by (have h9 := h_4; omega)
        first
         | (exfalso; first | omega | assumption)
         | (
          refine c_cond_f rfl ?_
          refine c_skip ?_
          refine e_next ?_
          refine c_seq ?_
          refine c_seq ?_
          refine c_region ?_
          refine r_val .none rfl (p_field Try.underlying82 rfl sz63 rfl) ?_
          refine r_val .none rfl (p_ld (k := 0) Try.underlying63 rfl rfl rfl (by first | exact of_decide_eq_true rfl | omega) rfl) ?_
          refine r_val .none rfl (p_leng Try.underlying63 rfl hf) ?_
          have bd_5 := (hf).bound
          refine r_val .none rfl (p_move rfl) ?_
          refine r_nil ?_
          refine e_next ?_
          refine c_block ?_
          refine c_name (d := 22) rfl (fun u_6 hu_6 => ?_)
          refine c_name (d := 23) rfl (fun u_7 hu_7 => ?_)
          refine c_nameL (k := 0) rfl (fun A_8 hA_8 => ?_)
          refine c_loop (σ := Nat) (fun j => [(24, Value.int .i64 (j : Nat)), (22, u_6), (23, u_7)]) (fun j => [A_8]) (fun _ => _) (fun j => j ≤ fs.length ∧ ∀ q, q < j → triRight (fs.getD q (0, zT)).2 = true) (fun j => fs.length - j) (0) ⟨Nat.zero_le _, fun q h => absurd h (Nat.not_lt_zero _)⟩ rfl ⟨rfl, rfl, rfl, trivial⟩ (.keep (fun _ _ h => h) (.nil)) (fun j hphi => ?_)
          subst hu_6
          subst hu_7
          subst hA_8
          refine c_seq ?_
          refine c_region ?_
          refine r_val .none rfl (p_lt rfl rfl) ?_
          refine r_nil ?_
          refine e_next ?_
          refine c_seq ?_
          refine c_splitd (d := 25) rfl (fun h_9 => ?_) (fun h_9 => ?_)
          ·
           first
            | (exfalso; first | omega | assumption)
            | (
             refine c_cond_t rfl ?_
             refine c_skip ?_
             refine e_next ?_
             refine c_seq ?_
             refine c_block ?_
             refine c_seq ?_
             refine c_region ?_
             refine r_iaddr_g .none rfl Try.underlying63 sz66 rfl hf rfl (by first | exact of_decide_eq_true rfl | omega) (fun p_11 o_12 R_10 => ?_)
             refine r_val .none rfl (p_ldga0 Try.underlying66 rfl sz66 rfl R_10 (by first | exact of_decide_eq_true rfl | omega) (rfl : _ = Value.agg #[_, _, _, _])) ?_
             refine r_alloc .none rfl zr66 (IsRow.lit _) (fun b_2 => ?_)
             refine r_stw (k := 0) .none sz66 rfl rfl (IsRow.lit _) (one_lit rfl rfl) rfl ?_
             refine r_nil ?_
             refine e_next ?_
             refine c_seq ?_
             refine c_region ?_
             refine r_val .none rfl (p_field Try.underlying66 rfl sz61 rfl) ?_
             refine r_val .none rfl (p_lda (k := 0) Try.underlying61 rfl sz61 rfl rfl (by first | exact of_decide_eq_true rfl | omega) (rfl : _ = Value.agg #[_, _, _])) ?_
             refine r_call (vs := [_]) .none rfl cl27 rfl (fun w hw => c_rtri (fs.getD j (0, zT)).2 w) ?_
             refine r_val .none rfl (p_not rfl) ?_
             refine r_nil ?_
             refine e_next ?_
             refine c_splitn (d := 31) rfl (fun h_13 => ?_) (fun h_13 => ?_)
             ·
              have hE : triRight (fs.getD j (0, zT)).2 = false := by (have h9 := h_13; simpa using h9)
              first
               | (exfalso; first | omega | assumption)
               | (
                refine c_cond_t rfl ?_
                refine c_seq ?_
                refine c_region ?_
                refine r_val .none rfl (p_assign rfl) ?_
                refine r_nil ?_
                refine e_next ?_
                refine c_ret ?_
                refine e_ret_block ?_
                refine e_ret_then ?_
                refine e_ret_then ?_
                refine e_ret_block ?_
                refine e_ret_then ?_
                refine e_ret1 Try.results36 (.tmp rfl .nil) (fun w hm => ⟨?_, hm.since⟩)
                first
                | (rw [fineO, hA]; rfl)
                | (rw [fineO, hA, hB]; rfl)
                | (rw [fineO, hA, hB, decide_eq_false hC]; rfl)
                | (rw [fineO, hA, hB, decide_eq_true hC, all_not (by omega) hE]; rfl)
                | (rw [fineO, hA, hB, decide_eq_true hC, all_getD (fun q hq => hphi.2 q (by omega))]; rfl)
                )
             ·
              have hE : triRight (fs.getD j (0, zT)).2 = true := by (have h9 := h_13; simpa using h9)
              first
               | (exfalso; first | omega | assumption)
               | (
                refine c_cond_f rfl ?_
                refine c_skip ?_
                refine e_norm_block ?_
                refine e_next ?_
                refine c_region ?_
                refine r_val .none rfl (p_add rfl rfl (by omega)) ?_
                refine r_val .none rfl (p_move rfl) ?_
                refine r_nil ?_
                refine e_round (j + 1) ⟨⟨by omega, fun q hq => by by_cases e : q = j; (subst e; exact hE); exact hphi.2 q (by omega)⟩, by omega⟩ rfl ⟨rfl, rfl, rfl, trivial⟩ (.drop (.keep (fun _ _ h => h) (.nil)))
                )
             )
          ·
           first
            | (exfalso; first | omega | assumption)
            | (
             refine c_cond_f rfl ?_
             refine c_exit ?_
             refine e_exit_then ?_
             refine e_exit_then ?_
             refine e_exit_block ?_
             refine e_next ?_
             refine c_seq ?_
             refine c_region ?_
             refine r_val .none rfl (p_assign rfl) ?_
             refine r_nil ?_
             refine e_next ?_
             refine c_ret ?_
             refine e_ret1 Try.results36 (.tmp rfl .nil) (fun w hm => ⟨?_, hm.since⟩)
             first
             | (rw [fineO, hA]; rfl)
             | (rw [fineO, hA, hB]; rfl)
             | (rw [fineO, hA, hB, decide_eq_false hC]; rfl)
             | (rw [fineO, hA, hB, decide_eq_true hC, all_not (by omega) hE]; rfl)
             | (rw [fineO, hA, hB, decide_eq_true hC, all_getD (fun q hq => hphi.2 q (by omega))]; rfl)
             )
          )
       )
    )
theorem c_one12 (z : Bool)  (w : World)  :
  Calls Try.prog 44 #[Value.bool z] w (Ret fun r w' => r = Value.int .i64 (if z = true then 1 else 0) ∧ Since nX w w') := by
 refine enter (args := [_]) (X := nX) (G := (fun _ => none)) (l := [(0, Value.bool z)]) Try.func44 rfl Try.ntmps44 (fun _ _ h => by cases h) ⟨rfl, trivial⟩ (Nat.le_of_ble_eq_true rfl) ?_
 refine c_seq ?_
 refine c_region ?_
 refine r_val .none rfl (p_assign rfl) ?_
 refine r_nil ?_
 refine e_next ?_
 refine c_seq ?_
 refine c_seq ?_
 refine c_region ?_
 refine r_val .none rfl (p_move rfl) ?_
 refine r_nil ?_
 refine e_next ?_
 refine c_split (d := 3) rfl (fun h_1 => ?_) (fun h_1 => ?_)
 ·
  have hz : z = true := h_1
  first
   | (exfalso; omega)
   | (
    refine c_cond_t rfl ?_
    refine c_seq ?_
    refine c_region ?_
    refine r_val .none rfl (p_assign rfl) ?_
    refine r_nil ?_
    refine e_next ?_
    refine c_ret ?_
    refine e_ret_then ?_
    refine e_ret1 Try.results44 (.tmp rfl .nil) (fun w hm => ⟨?_, hm.since⟩)
    first
    | (rw [if_pos hz]; done)
    | (rw [if_neg hz]; done)
    )
 ·
  have hz : ¬ z = true := by (have h9 := h_1; simpa using h9)
  first
   | (exfalso; omega)
   | (
    refine c_cond_f rfl ?_
    refine c_skip ?_
    refine e_next ?_
    refine c_seq ?_
    refine c_region ?_
    refine r_val .none rfl (p_assign rfl) ?_
    refine r_nil ?_
    refine e_next ?_
    refine c_ret ?_
    refine e_ret1 Try.results44 (.tmp rfl .nil) (fun w hm => ⟨?_, hm.since⟩)
    first
    | (rw [if_pos hz]; done)
    | (rw [if_neg hz]; done)
    )
theorem c_keys12 (v v2 : Value) (a b : List Tri) {G : Ghost} (hs : SlL G v 3 triL (0, 0, 0) a) (hs2 : SlL G v2 3 triL (0, 0, 0) b) (w : World) (hG : Has G w) :
  Calls Try.prog 43 #[v, v2] w (Ret fun r w' => r = Value.bool (decide (a = b)) ∧ Since nX w w') := by
 refine enter (args := [_, _]) (X := nX) (G := G) (l := [(0, v), (1, v2)]) Try.func43 rfl Try.ntmps43 hG ⟨rfl, rfl, trivial⟩ (Nat.le_of_ble_eq_true rfl) ?_
 refine c_seq ?_
 refine c_region ?_
 refine r_val .none rfl (p_assign rfl) ?_
 refine r_nil ?_
 refine e_next ?_
 refine c_seq ?_
 refine c_seq ?_
 refine c_region ?_
 refine r_val .none rfl (p_move rfl) ?_
 refine r_val .none rfl (p_leng Try.underlying56 rfl hs) ?_
 have bd_1 := (hs).bound
 refine r_val .none rfl (p_move rfl) ?_
 refine r_val .none rfl (p_leng Try.underlying89 rfl hs2) ?_
 have bd_2 := (hs2).bound
 refine r_val .none rfl (p_ne rfl rfl) ?_
 refine r_nil ?_
 refine e_next ?_
 refine c_splitd (d := 10) rfl (fun h_3 => ?_) (fun h_3 => ?_)
 ·
  have hL := h_3
  first
   | (exfalso; omega)
   | (
    refine c_cond_t rfl ?_
    refine c_seq ?_
    refine c_region ?_
    refine r_val .none rfl (p_assign rfl) ?_
    refine r_nil ?_
    refine e_next ?_
    refine c_ret ?_
    refine e_ret_then ?_
    refine e_ret1 Try.results43 (.tmp rfl .nil) (fun w hm => ⟨?_, hm.since⟩)
    first
    | (rw [decide_eq_false (fun e => hL (by rw [e]))]; done)
    | (rw [decide_eq_false (fun e => hF (by rw [e]))]; done)
    | (rw [decide_eq_true (lst_eq (0, 0, 0) (by omega) (fun i hi => hphi.2 i (by omega)))]; done)
    )
 ·
  have hL := Decidable.not_not.1 h_3
  first
   | (exfalso; omega)
   | (
    refine c_cond_f rfl ?_
    refine c_skip ?_
    refine e_next ?_
    refine c_seq ?_
    refine c_seq ?_
    refine c_region ?_
    refine r_val .none rfl (p_move rfl) ?_
    refine r_val .none rfl (p_leng Try.underlying56 rfl hs) ?_
    have bd_4 := (hs).bound
    refine r_val .none rfl (p_move rfl) ?_
    refine r_nil ?_
    refine e_next ?_
    refine c_block ?_
    refine c_name (d := 0) rfl (fun u_5 hu_5 => ?_)
    refine c_name (d := 1) rfl (fun u_6 hu_6 => ?_)
    refine c_name (d := 12) rfl (fun u_7 hu_7 => ?_)
    refine c_loop (σ := Nat) (fun j => [(13, Value.int .i64 (j : Nat)), (0, u_5), (1, u_6), (12, u_7)]) (fun j => []) (fun _ => _) (fun j => j ≤ a.length ∧ ∀ i, i < j → a.getD i (0, 0, 0) = b.getD i (0, 0, 0)) (fun j => a.length - j) (0) ⟨Nat.zero_le _, fun i h => absurd h (Nat.not_lt_zero _)⟩ rfl ⟨rfl, rfl, rfl, rfl, trivial⟩ (.nil) (fun j hphi => ?_)
    subst hu_5
    subst hu_6
    subst hu_7
    refine c_seq ?_
    refine c_region ?_
    refine r_val .none rfl (p_lt rfl rfl) ?_
    refine r_nil ?_
    refine e_next ?_
    refine c_seq ?_
    refine c_splitd (d := 14) rfl (fun h_8 => ?_) (fun h_8 => ?_)
    ·
     first
      | (exfalso; omega)
      | (
       refine c_cond_t rfl ?_
       refine c_skip ?_
       refine e_next ?_
       refine c_seq ?_
       refine c_block ?_
       refine c_seq ?_
       refine c_region ?_
       refine r_val .none rfl (p_move rfl) ?_
       refine r_val .none rfl (p_assign rfl) ?_
       refine r_nil ?_
       refine e_next ?_
       refine c_seq ?_
       refine c_region_q mixed (by kernel_rfl) ?_
       refine q_val .none rfl (p_move rfl) ?_
       refine q_val .none rfl (p_move rfl) ?_
       refine q_iaddr_g .none rfl Try.underlying56 sz61 rfl hs rfl (by first | exact of_decide_eq_true rfl | omega) (fun p_10 o_11 R_9 => ?_)
       refine q_val .none rfl (p_ldga0 Try.underlying61 rfl sz61 rfl R_9 (by first | exact of_decide_eq_true rfl | omega) (rfl : _ = Value.agg #[_, _, _])) ?_
       refine q_val .none rfl (p_move rfl) ?_
       refine q_val .none rfl (p_move rfl) ?_
       refine q_iaddr_g .none rfl Try.underlying89 sz60 rfl hs2 rfl (by first | exact of_decide_eq_true rfl | omega) (fun p_13 o_14 R_12 => ?_)
       refine q_val .none rfl (p_ldga0 Try.underlying60 rfl sz60 rfl R_12 (by first | exact of_decide_eq_true rfl | omega) (rfl : _ = Value.agg #[_, _, _])) ?_
       refine q_val .none rfl (p_nea rfl rfl (eq_tri Try.underlying61 Try.underlying3 lf61 ef61 eg61 (a.getD j (0, 0, 0)) (b.getD j (0, 0, 0)))) ?_
       refine q_nil ?_
       refine e_next ?_
       refine c_splitn (d := 24) rfl (fun h_15 => ?_) (fun h_15 => ?_)
       ·
        have hF : ¬ a.getD j (0, 0, 0) = b.getD j (0, 0, 0) := by (have h9 := h_15; simpa using h9)
        first
         | (exfalso; omega)
         | (
          refine c_cond_t rfl ?_
          refine c_seq ?_
          refine c_region ?_
          refine r_val .none rfl (p_assign rfl) ?_
          refine r_nil ?_
          refine e_next ?_
          refine c_ret ?_
          refine e_ret_block ?_
          refine e_ret_then ?_
          refine e_ret_then ?_
          refine e_ret_block ?_
          refine e_ret_then ?_
          refine e_ret1 Try.results43 (.tmp rfl .nil) (fun w hm => ⟨?_, hm.since⟩)
          first
          | (rw [decide_eq_false (fun e => hL (by rw [e]))]; done)
          | (rw [decide_eq_false (fun e => hF (by rw [e]))]; done)
          | (rw [decide_eq_true (lst_eq (0, 0, 0) (by omega) (fun i hi => hphi.2 i (by omega)))]; done)
          )
       ·
        have hF : a.getD j (0, 0, 0) = b.getD j (0, 0, 0) := by (have h9 := h_15; simpa using h9)
        first
         | (exfalso; omega)
         | (
          refine c_cond_f rfl ?_
          refine c_skip ?_
          refine e_norm_block ?_
          refine e_next ?_
          refine c_region ?_
          refine r_val .none rfl (p_add rfl rfl (by omega)) ?_
          refine r_val .none rfl (p_move rfl) ?_
          refine r_nil ?_
          refine e_round (j + 1) ⟨⟨by omega, fun i hi => by by_cases e : i = j; (subst e; exact hF); exact hphi.2 i (by omega)⟩, by omega⟩ rfl ⟨rfl, rfl, rfl, rfl, trivial⟩ (.nil)
          )
       )
    ·
     first
      | (exfalso; omega)
      | (
       refine c_cond_f rfl ?_
       refine c_exit ?_
       refine e_exit_then ?_
       refine e_exit_then ?_
       refine e_exit_block ?_
       refine e_next ?_
       refine c_seq ?_
       refine c_region ?_
       refine r_val .none rfl (p_assign rfl) ?_
       refine r_nil ?_
       refine e_next ?_
       refine c_ret ?_
       refine e_ret1 Try.results43 (.tmp rfl .nil) (fun w hm => ⟨?_, hm.since⟩)
       first
       | (rw [decide_eq_false (fun e => hL (by rw [e]))]; done)
       | (rw [decide_eq_false (fun e => hF (by rw [e]))]; done)
       | (rw [decide_eq_true (lst_eq (0, 0, 0) (by omega) (fun i hi => hphi.2 i (by omega)))]; done)
       )
    )
end Go.Proofs.Ytdcaehepmkhciaa

/- Calls of the law of plays, and what is known of the document's list. -/
namespace Go.Gx.T12
open Go.Gx Go.Gx.T10 Go.Gx.T11
abbrev AOp := Int × Tri × Tri × Int × Value × List FD
def oZ : AOp := (0, (0, 0, 0), (0, 0, 0), 0, .slice none 0 0, [])
def opA (o : AOp) : List Value := [.int .i64 o.1, .int .i64 o.2.1.1, .int .i64 o.2.1.2.1, .int .i64 o.2.1.2.2, .int .i64 o.2.2.1.1, .int .i64 o.2.2.1.2.1, .int .i64 o.2.2.1.2.2, .int .i64 o.2.2.2.1, o.2.2.2.2.1]
def FOk (G : Ghost) (os : List AOp) : Prop := ∀ o ∈ os, SlL G o.2.2.2.2.1 4 fC (0, zT) o.2.2.2.2.2
theorem FOk.mono {G G' : Ghost} {os : List AOp} (h : FOk G os) (hle : GLe G G') : FOk G' os := fun o ho => (h o ho).mono hle
theorem fok_get {G : Ghost} {os : List AOp} (h : FOk G os) (i : Nat) : SlL G (os.getD i oZ).2.2.2.2.1 4 fC (0, zT) (os.getD i oZ).2.2.2.2.2 := by
  by_cases hi : i < os.length
  · refine h _ ?_
    rw [show os.getD i oZ = os[i] by simp [List.getD, hi]]
    exact List.getElem_mem hi
  · rw [show os.getD i oZ = oZ by simp [List.getD, hi]]
    exact SlG.nil _ _ _
def WOk (os : List AOp) : Prop := ∀ o ∈ os, wf64 o.2.2.2.1 ∧ ∀ f ∈ o.2.2.2.2.2, wf64 f.1
theorem wok_get {os : List AOp} (h : WOk os) (i : Nat) : wf64 (os.getD i oZ).2.2.2.1 ∧ ∀ f ∈ (os.getD i oZ).2.2.2.2.2, wf64 f.1 := by
  by_cases hi : i < os.length
  · refine h _ ?_
    rw [show os.getD i oZ = os[i] by simp [List.getD, hi]]
    exact List.getElem_mem hi
  · rw [show os.getD i oZ = oZ by simp [List.getD, hi]]
    exact ⟨⟨by decide, by decide⟩, fun f hf => by cases hf⟩
section
variable {u : List (Tri × Int)} {c : SC} {j m : Nat} {l : List MV}
theorem AgrA.lat (h : AgrA u c (eraM l) j m) {i : Nat} (hi : i < l.length) : lkp (eraM l) (l.getD i m0).1 = some ((l.getD i m0).2.1, (l.getD i m0).2.2.2) := by
  refine lkp_mem h.knd ?_
  have hm : l.getD i m0 ∈ l := by
    rw [show l.getD i m0 = l[i] by simp [List.getD, hi]]; exact List.getElem_mem hi
  exact List.mem_map.2 ⟨_, hm, rfl⟩
theorem AgrA.nb (h : AgrA u c (eraM l) j m) (hj : j ≤ 1000) : ∀ i, i < l.length → 1 ≤ (l.getD i m0).2.1 ∧ (l.getD i m0).2.1 ≤ 1000 := fun i hi => by
  have := (h.one _ _ _ (h.lat hi)).1
  omega
theorem AgrA.hlen (h : AgrA u c (eraM l) j m) : ∀ i, (l.getD i m0).2.2.2.length ≤ 20 + m := fun i => by
  by_cases hi : i < l.length
  · exact (h.one _ _ _ (h.lat hi)).2.2.1
  · rw [show l.getD i m0 = m0 by simp [List.getD, hi]]; simp [m0]
theorem AgrA.llen (h : AgrA u c (eraM l) j m) : l.length ≤ j := by have := h.len; rwa [eraM_len] at this
theorem AgrA.lh {e : EM} (h : AgrA u c e j m) (he : eraM l = e) (hm : 20 + m ≤ 1000) : (∀ i, (l.getD i m0).2.2.2.length ≤ 1000) ∧ l.length ≤ j := by
  subst he
  exact ⟨fun i => Nat.le_trans (h.hlen i) hm, h.llen⟩
theorem AgrA.goP {e : EM} (h : AgrA u c e j m) (ks : List Tri) {id : Int} (hid : wf64 id) : ∃ c', AgrA u c' (rDone rPut id ks e).2 j (m + ks.length) :=
  ⟨_, (dels_agree (p := putC) (q := rPut) (id := id) (fun c e m k h => h.put k hid) ks c e m h).1⟩
theorem AgrA.goT {e : EM} (h : AgrA u c e j m) (ks : List Tri) (id : Int) : ∃ c', AgrA u c' (rDone rTake id ks e).2 j (m + ks.length) :=
  ⟨_, (dels_agree (p := takeC) (q := rTake) (id := id) (fun c e m k h => ⟨(h.take k id).1.grow (Nat.le_refl _) (by omega), (h.take k id).2⟩) ks c e m h).1⟩
theorem rT_len (e : EM) (t : Tri) : (rTouched e t).length ≤ 8 := Nat.le_trans (List.length_filter_le _ _) (Nat.le_of_eq (allK_len t))
end
end Go.Gx.T12

/- Walks: what Go functions of this chapter come to, each as a function on plain data; no condition but those that each theorem names. Printed by a program of this work (gen.py). -/
namespace Go.Proofs.Ytdcaehepmkhciaa
open Go.Gx Go.Gx Go.Gx.T10 Go.Gx.T12 Go.Gx.T10 Go.Gx.T11
theorem sz82 : SzIs Try.prog 82 9 := by
 unfold SzIs
 kernel_rfl
theorem zr82 : ZeroIs Try.prog 82 (Value.agg #[Value.int .i64 0, Value.int .i64 0, Value.int .i64 0, Value.int .i64 0, Value.int .i64 0, Value.int .i64 0, Value.int .i64 0, Value.int .i64 0, Value.slice none 0 0]) := by
 unfold ZeroIs
 kernel_rfl
theorem cl34 : Callable Try.prog 34 := callable Try.func34 (by kernel_rfl) rfl
theorem cl35 : Callable Try.prog 35 := callable Try.func35 (by kernel_rfl) rfl
theorem cl36 : Callable Try.prog 36 := callable Try.func36 (by kernel_rfl) rfl
theorem cl37 : Callable Try.prog 37 := callable Try.func37 (by kernel_rfl) rfl
theorem cl38 : Callable Try.prog 38 := callable Try.func38 (by kernel_rfl) rfl
theorem cl39 : Callable Try.prog 39 := callable Try.func39 (by kernel_rfl) rfl
theorem cl40 : Callable Try.prog 40 := callable Try.func40 (by kernel_rfl) rfl
theorem cl41 : Callable Try.prog 41 := callable Try.func41 (by kernel_rfl) rfl
theorem cl42 : Callable Try.prog 42 := callable Try.func42 (by kernel_rfl) rfl
theorem cl43 : Callable Try.prog 43 := callable Try.func43 (by kernel_rfl) rfl
theorem cl44 : Callable Try.prog 44 := callable Try.func44 (by kernel_rfl) rfl
theorem cl47 : Callable Try.prog 47 := callable Try.func47 (by kernel_rfl) rfl
theorem cl48 : Callable Try.prog 48 := callable Try.func48 (by kernel_rfl) rfl
theorem cl49 : Callable Try.prog 49 := callable Try.func49 (by kernel_rfl) rfl
theorem bl80_  : Program.built Try.prog 80 [] = some #[Value.slice none 0 0] := by
 kernel_rfl
theorem fine_len {k t : Tri} {fs : List FD} (h : fineO k t fs = true) : fs.length ≤ 20 := by
 simp only [fineO, Bool.and_eq_true, decide_eq_true_eq] at h
 exact h.1.2
theorem rDone_len (q : EM → Tri → Int → Int × EM) (id : Int) : ∀ (ks : List Tri) (e : EM), (rDone q id ks e).1.length ≤ ks.length
 | [], e => Nat.le_refl _
 | k :: t, e => by
  have := rDone_len q id t (q e k id).2
  rw [rDone_head, List.length_append]
  split <;> simp <;> omega
set_option maxHeartbeats 2000000 in
set_option maxRecDepth 100000 in
theorem c_AlphaPlays (v : Value) (os : List AOp) {G : Ghost} (hs : SlL G v 9 opA oZ os) (hfo : FOk G os) (hwo : WOk os) (w : World) (hG : Has G w) :
  Calls Try.prog 7 #[v] w (Ret fun r w' => r = Value.bool true ∧ Since nX w w') := by
 refine enter (args := [_]) (X := nX) (G := G) (l := [(0, v)]) Try.func7 rfl Try.ntmps7 hG ⟨rfl, trivial⟩ (Nat.le_of_ble_eq_true rfl) ?_
 refine c_seq ?_
 refine c_region ?_
 refine r_val .none rfl (p_assign rfl) ?_
 refine r_nil ?_
 refine e_next ?_
 refine c_seq ?_
 refine c_region ?_
 refine r_callnew (vs := []) .none rfl cl24 rfl (fun w hw => c_snew w hw) (fun p_1 => ?_)
 refine r_val .none rfl (p_assign rfl) ?_
 refine r_nil ?_
 refine e_next ?_
 refine c_seq ?_
 refine c_seq ?_
 refine c_region ?_
 refine r_val .none rfl (p_move rfl) ?_
 refine r_val .none rfl (p_leng Try.underlying76 rfl hs) ?_
 have bd_2 := (hs).bound
 refine r_val .none rfl (p_gt rfl rfl) ?_
 refine r_val .none rfl (p_move rfl) ?_
 refine r_splitd (d := 21) rfl (fun h_3 => ?_) (fun h_3 => ?_)
 ·
  first
   | (exfalso; first | omega | assumption)
   | (
    refine r_skip rfl (.no rfl rfl) ?_
    refine r_skip rfl (.no rfl rfl) ?_
    refine r_val .none rfl (p_pick_t rfl rfl) ?_
    refine r_nil ?_
    refine e_next ?_
    refine c_cond_t rfl ?_
    refine c_seq ?_
    refine c_region ?_
    refine r_val .none rfl (p_move rfl) ?_
    refine r_val .none rfl (p_ne_ptr Try.underlying58 (by first | exact .inr rfl | exact .inl rfl) rfl rfl) ?_
    refine r_say (d := 26) (v := Value.bool true) rfl ?_
    refine r_val .none rfl (p_move rfl) ?_
    refine r_call (vs := []) (.some rfl rfl) rfl cl25 rfl (fun w hw => c_awake12 w) ?_
    refine r_val .none rfl (p_pick_t rfl rfl) ?_
    refine r_val .none rfl (p_assign rfl) ?_
    refine r_nil ?_
    refine e_next ?_
    refine c_ret ?_
    refine e_ret_then ?_
    refine e_ret1 Try.results7 (.tmp rfl .nil) (fun w hm => ⟨?_, hm.since⟩)
    first
    | rfl
    | (simp; done)
    )
 ·
  first
   | (exfalso; first | omega | assumption)
   | (
    refine r_val (.some rfl rfl) rfl (p_move rfl) ?_
    refine r_val (.some rfl rfl) rfl (p_eq_ptr Try.underlying58 (by first | exact .inr rfl | exact .inl rfl) rfl rfl) ?_
    refine r_say (d := 23) (v := Value.bool false) rfl ?_
    refine r_val .none rfl (p_pick_f rfl rfl) ?_
    refine r_nil ?_
    refine e_next ?_
    refine c_cond_f rfl ?_
    refine c_skip ?_
    refine e_next ?_
    refine c_seq ?_
    refine c_region ?_
    refine r_val .none rfl (p_build (vs := []) rfl (bl80_ )) ?_
    refine r_box .none rfl rfl (IsRow.lit _) (fun b_1 => ?_)
    refine r_val .none rfl (p_assign rfl) ?_
    refine r_nil ?_
    refine e_next ?_
    refine c_seq ?_
    refine c_seq ?_
    refine c_region ?_
    refine r_val .none rfl (p_move rfl) ?_
    refine r_nilrow 100 5 ?_
    refine r_front (k := 1) rfl ?_
    refine r_pack [_, _] ?_
    refine r_conv (B := robj 80 100 5 mC b_1 ([])) (k := 0) rfl (fun _ _ h => robj_mk h) ?_
    dsimp only [List.set_cons_zero, List.set_cons_succ]
    refine r_val .none rfl (p_leng Try.underlying76 rfl hs) ?_
    have bd_4 := (hs).bound
    refine r_val .none rfl (p_move rfl) ?_
    refine r_nil ?_
    refine e_next ?_
    refine c_block ?_
    refine c_name (d := 3) rfl (fun u_5 hu_5 => ?_)
    refine c_name (d := 4) rfl (fun u_6 hu_6 => ?_)
    refine c_name (d := 32) rfl (fun u_7 hu_7 => ?_)
    refine c_name (d := 33) rfl (fun u_8 hu_8 => ?_)
    refine c_loop (σ := Nat × List (Tri × Int) × Int × SC × List MV × Ghost) (fun s' => [(34, Value.int .i64 (s'.1 : Nat)), (3, u_5), (4, u_6), (32, u_7), (33, u_8)]) (fun s' => [robj 80 100 5 mC b_1 (s'.2.2.2.2.1), storeA p_1 s'.2.1 s'.2.2.1 s'.2.2.2.1]) (fun s' => s'.2.2.2.2.2) (fun s' => (s'.1 ≤ os.length ∧ AgrA s'.2.1 s'.2.2.2.1 (eraM s'.2.2.2.2.1) s'.1 (8 * s'.1) ∧ (-(s'.1 : Int) ≤ s'.2.2.1 ∧ s'.2.2.1 ≤ (s'.1 : Int)) ∧ MOk s'.2.2.2.2.2 s'.2.2.2.2.1) ∧ GNew w nX G s'.2.2.2.2.2) (fun s' => os.length - s'.1) ((0, [], 0, [], [], _)) ⟨⟨Nat.zero_le _, AgrA.nil, ⟨by simp, by simp⟩, MOk.nil⟩, GNew.refl _ _ _⟩ rfl ⟨rfl, rfl, rfl, rfl, rfl, trivial⟩ (.keep (fun _ _ h => h) (.keep (fun _ _ h => h) (.nil))) (fun s' hphi => ?_)
    subst hu_5
    subst hu_6
    subst hu_7
    subst hu_8
    obtain ⟨j, u, t, c, l, H⟩ := s'
    obtain ⟨⟨hj, ha, htb, hM⟩, hgn⟩ := hphi
    dsimp only at hj ha htb hM hgn ⊢
    have hll9 := ha.llen
    have hll : l.length ≤ 1000 := by omega
    have hhl : ∀ i, (l.getD i m0).2.2.2.length ≤ 1000 := fun i => Nat.le_trans (ha.hlen i) (by omega)
    replace hs := hs.mono hgn.le
    replace hfo := FOk.mono hfo hgn.le
    refine c_seq ?_
    refine c_region ?_
    refine r_val .none rfl (p_lt rfl rfl) ?_
    refine r_nil ?_
    refine e_next ?_
    refine c_seq ?_
    refine c_splitd (d := 35) rfl (fun h_9 => ?_) (fun h_9 => ?_)
    ·
     first
      | (exfalso; first | omega | assumption)
      | (
       refine c_cond_t rfl ?_
       refine c_skip ?_
       refine e_next ?_
       refine c_seq ?_
       refine c_block ?_
       refine c_seq ?_
       refine c_region ?_
       refine r_iaddr_g .none rfl Try.underlying76 sz82 rfl hs rfl (by first | exact of_decide_eq_true rfl | omega) (fun p_11 o_12 R_10 => ?_)
       refine r_val .none rfl (p_ldga0 Try.underlying82 rfl sz82 rfl R_10 (by first | exact of_decide_eq_true rfl | omega) (rfl : _ = Value.agg #[_, _, _, _, _, _, _, _, _])) ?_
       refine r_alloc .none rfl zr82 (IsRow.lit _) (fun b_2 => ?_)
       refine r_stw (k := 0) .none sz82 rfl rfl (IsRow.lit _) (one_lit rfl (all_cons rfl (all_cons rfl (all_cons rfl (all_cons rfl (all_cons rfl (all_cons rfl (all_cons rfl (all_cons rfl (all_cons ((fok_get hfo _)).one rfl)))))))))) rfl ?_
       refine r_nil ?_
       refine e_next ?_
       refine c_seq ?_
       refine c_seq ?_
       refine c_region ?_
       refine r_val .none rfl (p_ldw (k := 0) Try.underlying82 rfl sz82 rfl rfl (rfl : _ = Value.agg #[_, _, _, _, _, _, _, _, _])) ?_
       refine r_call (vs := [_]) .none rfl cl36 rfl (fun w hw => c_fine12 (os.getD j oZ).1 (os.getD j oZ).2.2.2.1 (os.getD j oZ).2.1 (os.getD j oZ).2.2.1 _ (os.getD j oZ).2.2.2.2.2 (fok_get hfo j) w hw) ?_
       refine r_val .none rfl (p_not rfl) ?_
       refine r_nil ?_
       refine e_next ?_
       refine c_splitn (d := 40) rfl (fun h_13 => ?_) (fun h_13 => ?_)
       ·
        first
         | (exfalso; first | omega | assumption)
         | (
          refine c_cond_t rfl ?_
          refine c_seq ?_
          refine c_region ?_
          refine r_call (vs := []) .none rfl cl25 rfl (fun w hw => c_awake12 w) ?_
          refine r_val .none rfl (p_assign rfl) ?_
          refine r_nil ?_
          refine e_next ?_
          refine c_ret ?_
          refine e_ret_then ?_
          refine e_ret_block ?_
          refine e_ret_then ?_
          refine e_ret_then ?_
          refine e_ret_block ?_
          refine e_ret_then ?_
          refine e_ret1 Try.results7 (.tmp rfl .nil) (fun w hm => ⟨?_, hm.since⟩)
          first
          | rfl
          | (simp; done)
          )
       ·
        have hl20 : (os.getD j oZ).2.2.2.2.2.length ≤ 20 := fine_len (k := (os.getD j oZ).2.1) (t := (os.getD j oZ).2.2.1) (by (have h9 := h_13; simpa using h9))
        first
         | (exfalso; first | omega | assumption)
         | (
          refine c_cond_f rfl ?_
          refine c_skip ?_
          refine e_next ?_
          refine c_seq ?_
          refine c_seq ?_
          refine c_region ?_
          refine r_val .none rfl (p_field Try.underlying82 rfl sz3 rfl) ?_
          refine r_val .none rfl (p_ld (k := 0) Try.underlying3 rfl rfl rfl (by first | exact of_decide_eq_true rfl | omega) (rfl : _ = Value.int _ _)) ?_
          refine r_nil ?_
          refine e_next ?_
          refine c_name (d := 3) rfl (fun u_14 hu_14 => ?_)
          refine c_name (d := 4) rfl (fun u_15 hu_15 => ?_)
          refine c_name (d := 6) rfl (fun u_16 hu_16 => ?_)
          refine c_name (d := 32) rfl (fun u_17 hu_17 => ?_)
          refine c_name (d := 33) rfl (fun u_18 hu_18 => ?_)
          refine c_name (d := 34) rfl (fun u_19 hu_19 => ?_)
          refine c_nameL (k := 0) rfl (fun A_20 hA_20 => ?_)
          refine c_cutE (σ := List (Tri × Int) × Int × SC × List MV × Ghost) (fun q' => [(3, u_14), (4, u_15), (6, u_16), (32, u_17), (33, u_18), (34, u_19)]) (fun q' => [A_20, robj 80 100 5 mC b_1 (q'.2.2.2.1), storeA p_1 q'.1 q'.2.1 q'.2.2.1]) (fun q' => q'.2.2.2.2) (fun q' => (AgrA q'.1 q'.2.2.1 (eraM q'.2.2.2.1) (j + 1) (8 * (j + 1)) ∧ (-((j : Int) + 1) ≤ q'.2.1 ∧ q'.2.1 ≤ (j : Int) + 1) ∧ MOk q'.2.2.2.2 q'.2.2.2.1) ∧ GNew w nX H q'.2.2.2.2) (fun q' hphi => ?_) ?_
          ·
           subst hu_14
           subst hu_15
           subst hu_16
           subst hu_17
           subst hu_18
           subst hu_19
           subst hA_20
           obtain ⟨u2, t2, c2, l2, HQ⟩ := q'
           obtain ⟨⟨ha2, htb2, hM2⟩, hgq⟩ := hphi
           dsimp only at ha2 htb2 hM2 hgq ⊢
           replace hs := hs.mono hgq.le
           replace hfo := FOk.mono hfo hgq.le
           replace hM := MOk.mono hM hgq.le
           replace R_10 := R_10.mono hgq.le
           refine c_seq ?_
           refine c_front (k := 1) rfl ?_
           refine c_unex (fun lv => ?_)
           refine c_unpack ?_
           refine c_row1 (k := 1) rfl (fun o1 => ?_)
           refine c_region_d (fun _ => false) _ mixed (.keep (fun _ _ h => h) (.keep (fun _ _ h => h) (.keep (fun _ _ h => h) (.keep (fun _ _ h => h) (.nil))))) ?_
           refine d_val1 0 rfl rfl (by kernel_rfl) (fun _ _ => rfl) .none rfl (p_move rfl) ?_
           refine d_val1 2 rfl rfl (by kernel_rfl) (fun _ _ => rfl) .none rfl (p_move rfl) ?_
           refine d_val1 3 rfl rfl (by kernel_rfl) (fun _ _ => rfl) .none rfl (p_nilcheck rfl) ?_
           refine d_val1 4 rfl rfl (by kernel_rfl) (fun _ _ => rfl) .none rfl (p_field Try.underlying80 rfl sz78 rfl) ?_
           refine d_val1 5 rfl rfl (by kernel_rfl) (fun _ _ => rfl) .none rfl (p_ld (k := 0) Try.underlying78 rfl rfl rfl (by first | exact of_decide_eq_true rfl | omega) rfl) ?_
           refine d_val1 6 rfl rfl (by kernel_rfl) (fun _ _ => rfl) .none rfl (p_leno (k := 1) Try.underlying78 rfl rfl) ?_
           refine d_eff 1 rfl (by kernel_rfl) (fun K_21 hKK_21 hcK_21 => ?_)
           refine r_callo (k := 3) (vs := [_]) .none rfl cl34 rfl rfl (fun w F hw hA hFG => c_slen _ u2 t2 c2 w hw hA hFG) ?_
           refine r_nil (e_d (i := 1) (brk := (fun _ => false)) (ph' := true) hKK_21 hcK_21 rfl (fun _ => GLe.refl _) (fun _ => .keep (fun _ _ h => h) (.keep (fun _ _ h => h) (.keep (fun _ _ h => h) (.keep (fun _ _ h => h) (.nil))))) ?_)
           clear hKK_21 hcK_21 K_21
           refine d_val1 7 rfl rfl (by kernel_rfl) (fun _ _ => rfl) .none rfl (p_ne rfl rfl) ?_
           refine d_say (d := 185) (v := Value.bool false) (congrArg (fun z => some (Value.bool z)) (decide_eq_false (fun h9 => h9 (by rw [ha2.ul, eraM_len])))) ?_
           refine d_val1 8 rfl rfl (by kernel_rfl) (fun _ _ => rfl) .none rfl (p_move rfl) ?_
           refine d_val1 9 rfl rfl (by kernel_rfl) (fun _ _ => rfl) (.some rfl rfl) rfl (p_move rfl) ?_
           refine d_val1 10 rfl rfl (by kernel_rfl) (fun _ _ => rfl) (.some rfl rfl) rfl (p_field Try.underlying82 rfl sz61 rfl) ?_
           refine d_val1 11 rfl rfl (by kernel_rfl) (fun _ _ => rfl) (.some rfl rfl) rfl (p_lda (k := 2) Try.underlying61 rfl sz61 rfl rfl (by first | exact of_decide_eq_true rfl | omega) (rfl : _ = Value.agg #[_, _, _])) ?_
           refine d_val1 13 rfl rfl (by kernel_rfl) (fun _ _ => rfl) (.some rfl rfl) rfl (p_move rfl) ?_
           refine d_val1 14 rfl rfl (by kernel_rfl) (fun _ _ => rfl) (.some rfl rfl) rfl (p_field Try.underlying82 rfl sz61 rfl) ?_
           refine d_val1 15 rfl rfl (by kernel_rfl) (fun _ _ => rfl) (.some rfl rfl) rfl (p_lda (k := 2) Try.underlying61 rfl sz61 rfl rfl (by first | exact of_decide_eq_true rfl | omega) (rfl : _ = Value.agg #[_, _, _])) ?_
           refine d_eff 12 rfl (by kernel_rfl) (fun K_22 hKK_22 hcK_22 => ?_)
           refine r_callo (k := 3) (vs := [_, _]) (.some rfl rfl) rfl cl47 rfl rfl (fun w F hw hA hFG => c_swanted _ (os.getD j oZ).2.1 u2 t2 c2 w hw hA hFG) ?_
           refine r_nil (e_d (i := 12) (brk := (fun _ => false)) (ph' := true) hKK_22 hcK_22 rfl (fun _ => GLe.refl _) (fun _ => .keep (fun _ _ h => h) (.keep (fun _ _ h => h) (.keep (fun _ _ h => h) (.keep (fun _ _ h => h) (.nil))))) ?_)
           clear hKK_22 hcK_22 K_22
           refine d_eff 16 rfl (by kernel_rfl) (fun K_23 hKK_23 hcK_23 => ?_)
           refine r_front (k := 1) rfl ?_
           refine r_front (k := 1) rfl ?_
           refine r_pack [_, _] ?_
           refine r_callo (k := 0) (vs := [_, _]) (.some rfl rfl) rfl cl48 rfl rfl (fun w F hw hA hFG => robv_see (cells := mC) m0 (fun _ => rfl) (R := fun r => r = Value.int .i64 (itM l2 (os.getD j oZ).2.1).2.1) (fun G' lv2 hle h1 h2 hG => c_xwanted _ lv2 l2 (os.getD j oZ).2.1 h1 h2 (hM2.mono hle) w hG) hw hA hFG) ?_
           refine r_unpack ?_
           refine r_front (k := 3) rfl ?_
           refine r_front (k := 3) rfl ?_
           refine r_front (k := 3) rfl ?_
           refine r_front (k := 3) rfl ?_
           refine r_nil (e_d (i := 16) (brk := (fun _ => false)) (ph' := true) hKK_23 hcK_23 rfl (fun _ => GLe.refl _) (fun _ => .keep (fun _ _ h => h) (.keep (fun _ _ h => h) (.keep (fun _ _ h => h) (.keep (fun _ _ h => h) (.nil))))) ?_)
           clear hKK_23 hcK_23 K_23
           refine d_val1 17 rfl rfl (by kernel_rfl) (fun _ _ => rfl) (.some rfl rfl) rfl (p_ne rfl rfl) ?_
           refine d_say (d := 195) (v := Value.bool false) (congrArg (fun z => some (Value.bool z)) (decide_eq_false (fun h9 => h9 (by rw [itM_n]; exact ha2.cnt (os.getD j oZ).2.1)))) ?_
           refine d_val1 18 rfl rfl (by kernel_rfl) (fun _ _ => rfl) .none rfl (p_pick_f rfl rfl) ?_
           refine d_val1 19 rfl rfl (by kernel_rfl) (fun _ _ => rfl) .none rfl (p_move rfl) ?_
           refine d_val1 20 rfl rfl (by kernel_rfl) (fun _ _ => rfl) (.some rfl rfl) rfl (p_move rfl) ?_
           refine d_val1 21 rfl rfl (by kernel_rfl) (fun _ _ => rfl) (.some rfl rfl) rfl (p_field Try.underlying82 rfl sz61 rfl) ?_
           refine d_val1 22 rfl rfl (by kernel_rfl) (fun _ _ => rfl) (.some rfl rfl) rfl (p_lda (k := 2) Try.underlying61 rfl sz61 rfl rfl (by first | exact of_decide_eq_true rfl | omega) (rfl : _ = Value.agg #[_, _, _])) ?_
           refine d_val1 24 rfl rfl (by kernel_rfl) (fun _ _ => rfl) (.some rfl rfl) rfl (p_move rfl) ?_
           refine d_val1 25 rfl rfl (by kernel_rfl) (fun _ _ => rfl) (.some rfl rfl) rfl (p_field Try.underlying82 rfl sz61 rfl) ?_
           refine d_val1 26 rfl rfl (by kernel_rfl) (fun _ _ => rfl) (.some rfl rfl) rfl (p_lda (k := 2) Try.underlying61 rfl sz61 rfl rfl (by first | exact of_decide_eq_true rfl | omega) (rfl : _ = Value.agg #[_, _, _])) ?_
           refine d_eff 23 rfl (by kernel_rfl) (fun K_24 hKK_24 hcK_24 => ?_)
           refine r_callom (k := 3) (vs := [_, _]) (.some rfl rfl) rfl cl33 rfl rfl (fun w F hw hA hFG => c_sitems _ (os.getD j oZ).2.1 u2 t2 c2 (ha2.wf (by omega) _) w hw hA hFG) (fun G_25 v_28 hn_26 hr_27 => ?_)
           replace hs := hs.mono hn_26.le
           replace hfo := FOk.mono hfo hn_26.le
           replace hM := MOk.mono hM hn_26.le
           replace R_10 := R_10.mono hn_26.le
           replace hM2 := MOk.mono hM2 hn_26.le
           have u_29 := hr_27
           refine r_nil (e_d (i := 23) (brk := (fun _ => false)) (ph' := true) hKK_24 hcK_24 rfl (fun _ => hn_26.le) (fun _ => .keep (fun _ _ h => h) (.keep (fun _ _ h => h) (.keep (fun _ _ h => h) (.keep (fun _ _ h => h) (.nil))))) ?_)
           clear hKK_24 hcK_24 K_24
           refine d_eff 27 rfl (by kernel_rfl) (fun K_30 hKK_30 hcK_30 => ?_)
           refine r_front (k := 1) rfl ?_
           refine r_front (k := 1) rfl ?_
           refine r_pack [_, _] ?_
           refine r_callo (k := 0) (vs := [_, _]) (.some rfl rfl) rfl cl49 rfl rfl (fun w F hw hA hFG => robv_see (cells := mC) m0 (fun _ => rfl) (R := fun r => r = (itM l2 (os.getD j oZ).2.1).2.2.1) (fun G' lv2 hle h1 h2 hG => c_xitems _ lv2 l2 (os.getD j oZ).2.1 h1 h2 (hM2.mono hle) w hG) hw hA hFG) ?_
           refine r_unpack ?_
           refine r_front (k := 3) rfl ?_
           refine r_front (k := 3) rfl ?_
           refine r_front (k := 3) rfl ?_
           refine r_front (k := 3) rfl ?_
           refine r_nil (e_d (i := 27) (brk := (fun _ => false)) (ph' := true) hKK_30 hcK_30 rfl (fun _ => hn_26.le) (fun _ => .keep (fun _ _ h => h) (.keep (fun _ _ h => h) (.keep (fun _ _ h => h) (.keep (fun _ _ h => h) (.nil))))) ?_)
           clear hKK_30 hcK_30 K_30
           refine d_eff 28 rfl (by kernel_rfl) (fun K_31 hKK_31 hcK_31 => ?_)
           refine r_call (vs := [_, _]) (.some rfl rfl) rfl cl32 rfl (fun w hw => c_ints12 _ _ _ _ u_29 (itM_ok hM2 (os.getD j oZ).2.1) w hw) ?_
           refine r_nil (e_d (i := 28) (brk := (fun _ => false)) (ph' := true) hKK_31 hcK_31 rfl (fun _ => hn_26.le) (fun _ => .keep (fun _ _ h => h) (.keep (fun _ _ h => h) (.keep (fun _ _ h => h) (.keep (fun _ _ h => h) (.nil))))) ?_)
           clear hKK_31 hcK_31 K_31
           refine d_say (d := 206) (v := Value.bool true) (congrArg (fun z => some (Value.bool z)) (decide_eq_true (by rw [itM_h]; exact ha2.items (os.getD j oZ).2.1))) ?_
           refine d_val1 29 rfl rfl (by kernel_rfl) (fun _ _ => rfl) (.some rfl rfl) rfl (p_not rfl) ?_
           refine d_say (d := 207) (v := Value.bool false) rfl ?_
           refine d_val1 30 rfl rfl (by kernel_rfl) (fun _ _ => rfl) .none rfl (p_pick_f rfl rfl) ?_
           refine d_val1 31 rfl rfl (by kernel_rfl) (fun _ _ => rfl) .none rfl (p_move rfl) ?_
           refine d_val1 32 rfl rfl (by kernel_rfl) (fun _ _ => rfl) (.some rfl rfl) rfl (p_move rfl) ?_
           refine d_val1 33 rfl rfl (by kernel_rfl) (fun _ _ => rfl) (.some rfl rfl) rfl (p_field Try.underlying82 rfl sz61 rfl) ?_
           refine d_val1 34 rfl rfl (by kernel_rfl) (fun _ _ => rfl) (.some rfl rfl) rfl (p_lda (k := 2) Try.underlying61 rfl sz61 rfl rfl (by first | exact of_decide_eq_true rfl | omega) (rfl : _ = Value.agg #[_, _, _])) ?_
           refine d_val1 36 rfl rfl (by kernel_rfl) (fun _ _ => rfl) (.some rfl rfl) rfl (p_move rfl) ?_
           refine d_val1 37 rfl rfl (by kernel_rfl) (fun _ _ => rfl) (.some rfl rfl) rfl (p_field Try.underlying82 rfl sz61 rfl) ?_
           refine d_val1 38 rfl rfl (by kernel_rfl) (fun _ _ => rfl) (.some rfl rfl) rfl (p_lda (k := 2) Try.underlying61 rfl sz61 rfl rfl (by first | exact of_decide_eq_true rfl | omega) (rfl : _ = Value.agg #[_, _, _])) ?_
           refine d_eff 35 rfl (by kernel_rfl) (fun K_33 hKK_33 hcK_33 => ?_)
           refine r_front (k := 3) rfl ?_
           refine r_callor (k := 0) (vs := [_, _]) (.some rfl rfl) rfl cl50 rfl rfl (fun w F hw hA hFG => c_stouched _ (os.getD j oZ).2.2.1 u2 t2 c2 w hw hA hFG) (fun r_32 => ?_)
           refine r_unpack ?_
           refine r_freeze (k := 0) rfl (fun G_34 hn_35 hs_36 => ?_)
           replace hs := hs.mono hn_35.le
           replace hfo := FOk.mono hfo hn_35.le
           replace hM := MOk.mono hM hn_35.le
           replace R_10 := R_10.mono hn_35.le
           replace hM2 := MOk.mono hM2 hn_35.le
           replace u_29 := u_29.mono hn_35.le
           have ht1 : SlL G_34 r_32 3 triL (0, 0, 0) (touched u2 (os.getD j oZ).2.2.1) := SlL.of (cells := triL) (0, 0, 0) (fun _ => rfl) rfl hs_36
           refine r_front (k := 3) rfl ?_
           refine r_front (k := 3) rfl ?_
           refine r_front (k := 3) rfl ?_
           refine r_nil (e_d (i := 35) (brk := (fun _ => false)) (ph' := true) hKK_33 hcK_33 rfl (fun _ => (hn_26.trans hn_35).le) (fun _ => .keep (fun _ _ h => h) (.keep (fun _ _ h => h) (.keep (fun _ _ h => h) (.keep (fun _ _ h => h) (.nil))))) ?_)
           clear hKK_33 hcK_33 K_33
           refine d_eff 39 rfl (by kernel_rfl) (fun K_38 hKK_38 hcK_38 => ?_)
           refine r_front (k := 1) rfl ?_
           refine r_front (k := 1) rfl ?_
           refine r_pack [_, _] ?_
           refine r_callor (k := 0) (vs := [_, _]) (.some rfl rfl) rfl cl40 rfl rfl (fun w F hw hA hFG => robv_seeR (cells := mC) m0 (fun _ => rfl) (Z := fun r => rowA r 60 3 (rTouched (eraM l2) (os.getD j oZ).2.2.1).length ((rTouched (eraM l2) (os.getD j oZ).2.2.1).flatMap triL)) (fun G' lv2 hle h1 h2 hG => c_xtouched _ lv2 l2 (os.getD j oZ).2.2.1 h1 h2 (hM2.mono hle) w hG) hw hA hFG) (fun r_37 => ?_)
           refine r_unpack ?_
           refine r_freeze (k := 0) rfl (fun G_39 hn_40 hs_41 => ?_)
           replace hs := hs.mono hn_40.le
           replace hfo := FOk.mono hfo hn_40.le
           replace hM := MOk.mono hM hn_40.le
           replace R_10 := R_10.mono hn_40.le
           replace hM2 := MOk.mono hM2 hn_40.le
           replace u_29 := u_29.mono hn_40.le
           replace ht1 := ht1.mono hn_40.le
           refine r_unpack ?_
           have ht2 : SlL G_39 r_37 3 triL (0, 0, 0) (rTouched (eraM l2) (os.getD j oZ).2.2.1) := SlL.of (cells := triL) (0, 0, 0) (fun _ => rfl) rfl hs_41
           refine r_front (k := 3) rfl ?_
           refine r_front (k := 3) rfl ?_
           refine r_front (k := 3) rfl ?_
           refine r_front (k := 3) rfl ?_
           refine r_nil (e_d (i := 39) (brk := (fun _ => false)) (ph' := true) hKK_38 hcK_38 rfl (fun _ => ((hn_26.trans hn_35).trans hn_40).le) (fun _ => .keep (fun _ _ h => h) (.keep (fun _ _ h => h) (.keep (fun _ _ h => h) (.keep (fun _ _ h => h) (.nil))))) ?_)
           clear hKK_38 hcK_38 K_38
           refine d_eff 40 rfl (by kernel_rfl) (fun K_42 hKK_42 hcK_42 => ?_)
           refine r_call (vs := [_, _]) (.some rfl rfl) rfl cl43 rfl (fun w hw => c_keys12 _ _ _ _ ht1 ht2 w hw) ?_
           refine r_nil (e_d (i := 40) (brk := (fun _ => false)) (ph' := true) hKK_42 hcK_42 rfl (fun _ => ((hn_26.trans hn_35).trans hn_40).le) (fun _ => .keep (fun _ _ h => h) (.keep (fun _ _ h => h) (.keep (fun _ _ h => h) (.keep (fun _ _ h => h) (.nil))))) ?_)
           clear hKK_42 hcK_42 K_42
           refine d_say (d := 218) (v := Value.bool true) (congrArg (fun z => some (Value.bool z)) (decide_eq_true (ha2.touch (os.getD j oZ).2.2.1))) ?_
           refine d_val1 41 rfl rfl (by kernel_rfl) (fun _ _ => rfl) (.some rfl rfl) rfl (p_not rfl) ?_
           refine d_say (d := 219) (v := Value.bool false) rfl ?_
           refine d_val1 42 rfl rfl (by kernel_rfl) (fun _ _ => rfl) .none rfl (p_pick_f rfl rfl) ?_
           refine d_nil (by kernel_rfl) ?_
           refine e_next ?_
           refine c_cond_f rfl ?_
           refine c_skip ?_
           refine e_norm_block ?_
           refine e_next ?_
           refine c_region ?_
           refine r_front (k := 1) rfl ?_
           refine r_front (k := 1) rfl ?_
           refine r_pack [_, _] ?_
           refine r_conv (B := robj 80 100 5 mC b_1 (l2)) (k := 0) rfl (fun _ _ h => robj_mk h) ?_
           dsimp only [List.set_cons_zero, List.set_cons_succ]
           refine r_val .none rfl (p_add rfl rfl (by omega)) ?_
           refine r_val .none rfl (p_move rfl) ?_
           refine r_nil ?_
           refine e_front (k := 2) rfl ?_
           refine e_front (k := 1) rfl ?_
           refine e_round ((j + 1, u2, t2, c2, l2, _)) ⟨⟨⟨by dsimp only; omega, ha2, by dsimp only; omega, hM2⟩, ((((hgn.trans hgq).trans hn_26).trans hn_35).trans hn_40)⟩, by dsimp only; omega⟩ rfl ⟨rfl, rfl, rfl, rfl, rfl, trivial⟩ (.keep (fun _ _ h => h) (.keep (fun _ _ h => h) (.drop (.nil))))
          ·
           subst hu_14
           subst hu_15
           subst hu_16
           subst hu_17
           subst hu_18
           subst hu_19
           subst hA_20
           refine c_block ?_
           refine c_seq ?_
           refine c_region ?_
           refine r_val .none rfl (p_eq rfl rfl) ?_
           refine r_val .none rfl (p_assign rfl) ?_
           refine r_nil ?_
           refine e_next ?_
           refine c_splitd (d := 44) rfl (fun h_43 => ?_) (fun h_43 => ?_)
           ·
            skip
            first
             | (exfalso; first | omega | assumption)
             | (
              refine c_cond_t rfl ?_
              refine c_seq ?_
              refine c_region_d (fun _ => false) _ mixed (.keep (fun _ _ h => h) (.drop (.drop (.nil)))) ?_
              refine d_val1 0 rfl rfl (by kernel_rfl) (fun _ _ => rfl) .none rfl (p_move rfl) ?_
              refine d_val1 1 rfl rfl (by kernel_rfl) (fun _ _ => rfl) .none rfl (p_field Try.underlying82 rfl sz61 rfl) ?_
              refine d_val1 2 rfl rfl (by kernel_rfl) (fun _ _ => rfl) .none rfl (p_lda (k := 0) Try.underlying61 rfl sz61 rfl rfl (by first | exact of_decide_eq_true rfl | omega) (rfl : _ = Value.agg #[_, _, _])) ?_
              refine d_val1 3 rfl rfl (by kernel_rfl) (fun _ _ => rfl) .none rfl (p_field Try.underlying82 rfl sz63 rfl) ?_
              refine d_val1 4 rfl rfl (by kernel_rfl) (fun _ _ => rfl) .none rfl (p_ld (k := 0) Try.underlying63 rfl rfl rfl (by first | exact of_decide_eq_true rfl | omega) rfl) ?_
              refine d_val1 6 rfl rfl (by kernel_rfl) (fun _ _ => rfl) .none rfl (p_move rfl) ?_
              refine d_val1 7 rfl rfl (by kernel_rfl) (fun _ _ => rfl) .none rfl (p_field Try.underlying82 rfl sz61 rfl) ?_
              refine d_val1 8 rfl rfl (by kernel_rfl) (fun _ _ => rfl) .none rfl (p_lda (k := 0) Try.underlying61 rfl sz61 rfl rfl (by first | exact of_decide_eq_true rfl | omega) (rfl : _ = Value.agg #[_, _, _])) ?_
              refine d_val1 9 rfl rfl (by kernel_rfl) (fun _ _ => rfl) .none rfl (p_field Try.underlying82 rfl sz63 rfl) ?_
              refine d_val1 10 rfl rfl (by kernel_rfl) (fun _ _ => rfl) .none rfl (p_ld (k := 0) Try.underlying63 rfl rfl rfl (by first | exact of_decide_eq_true rfl | omega) rfl) ?_
              refine d_eff 5 rfl (by kernel_rfl) (fun K_44 hKK_44 hcK_44 => ?_)
              refine r_callo (k := 2) (vs := [_, _, _]) .none rfl cl28 rfl rfl (fun w F hw hA hFG => c_swant _ (os.getD j oZ).2.1 _ (os.getD j oZ).2.2.2.2.2 u t c (by have h9 := ha.cb (os.getD j oZ).2.1; omega) (by omega) (fok_get hfo j) (ha.hinv _) w hw hA hFG) ?_
              refine r_nil (e_d (i := 5) (brk := (fun _ => false)) (ph' := true) hKK_44 hcK_44 rfl (fun _ => GLe.refl _) (fun _ => .keep (fun _ _ h => h) (.drop (.drop (.nil)))) ?_)
              clear hKK_44 hcK_44 K_44
              have hw2 := ha.want (os.getD j oZ).2.1 (wok_get hwo j).2 hl20
              refine d_eff 11 rfl (by kernel_rfl) (fun K_46 hKK_46 hcK_46 => ?_)
              refine r_callrow (vs := [_]) .none rfl cl38 rfl (fun w hw => c_ref12 _ (os.getD j oZ).2.2.2.2.2 (fok_get hfo j) (by omega) w hw) (fun r_45 => ?_)
              refine r_freeze (k := 0) rfl (fun G_47 hn_48 hs_49 => ?_)
              replace hs := hs.mono hn_48.le
              replace hfo := FOk.mono hfo hn_48.le
              replace hM := MOk.mono hM hn_48.le
              replace R_10 := R_10.mono hn_48.le
              have hrf : SlL G_47 r_45 4 fC (0, zT) ((os.getD j oZ).2.2.2.2.2) := SlL.of (cells := fC) (0, zT) (fun _ => rfl) rfl hs_49
              refine r_nil (e_d (i := 11) (brk := (fun _ => false)) (ph' := true) hKK_46 hcK_46 rfl (fun _ => hn_48.le) (fun _ => .keep (fun _ _ h => h) (.drop (.drop (.nil)))) ?_)
              clear hKK_46 hcK_46 K_46
              refine d_eff 12 rfl (by kernel_rfl) (fun K_50 hKK_50 hcK_50 => ?_)
              refine r_callox (k := 1) (vs := [_, _, _]) .none rfl cl37 rfl rfl (fun w F hw hA hFG => c_xwant _ (os.getD j oZ).2.1 _ (os.getD j oZ).2.2.2.2.2 l hM hll hrf (by omega) (ha.nb (by omega)) w hw hA hFG) (fun G_51 v_54 z_56 hn_52 hr_53 => ?_)
              replace hs := hs.mono hn_52.le
              replace hfo := FOk.mono hfo hn_52.le
              replace hM := MOk.mono hM hn_52.le
              replace R_10 := R_10.mono hn_52.le
              replace hrf := hrf.mono hn_52.le
              obtain ⟨rfl, u_55e, u_55M⟩ := hr_53
              refine r_nil (e_d (i := 12) (brk := (fun _ => false)) (ph' := true) hKK_50 hcK_50 rfl (fun _ => (hn_48.trans hn_52).le) (fun _ => .keep (fun _ _ h => h) (.drop (.drop (.nil)))) ?_)
              clear hKK_50 hcK_50 K_50
              refine d_val1 13 rfl rfl (by kernel_rfl) (fun _ _ => rfl) .none rfl (p_ne rfl rfl) ?_
              refine d_say (d := 59) (v := Value.bool false) (congrArg (fun z => some (Value.bool z)) (decide_eq_false (fun h9 => h9 hw2.2))) ?_
              refine d_nil (by kernel_rfl) ?_
              refine e_next ?_
              refine c_cond_f rfl ?_
              refine c_skip ?_
              refine e_norm_block ?_
              refine e_front (k := 2) rfl ?_
              refine e_front (k := 2) rfl ?_
              refine e_front (k := 2) rfl ?_
              refine e_round ((tAdd u (os.getD j oZ).2.1, t + 1, wantC c (os.getD j oZ).2.1 (os.getD j oZ).2.2.2.2.2 (cnt u (os.getD j oZ).2.1), z_56, _)) ⟨⟨⟨by dsimp only; rw [u_55e]; exact hw2.1.grow (Nat.le_refl _) (by omega), by dsimp only; omega, u_55M⟩, (hn_48.trans hn_52)⟩, trivial⟩ rfl ⟨rfl, rfl, rfl, rfl, rfl, rfl, trivial⟩ (.keep (fun _ _ h => h) (.keep (fun _ _ h => h) (.keep (fun _ _ h => h) (.nil))))
              )
           ·
            first
             | (exfalso; first | omega | assumption)
             | (
              refine c_cond_f rfl ?_
              refine c_seq ?_
              refine c_region ?_
              refine r_val .none rfl (p_eq rfl rfl) ?_
              refine r_val .none rfl (p_assign rfl) ?_
              refine r_nil ?_
              refine e_next ?_
              refine c_splitd (d := 60) rfl (fun h_57 => ?_) (fun h_57 => ?_)
              ·
               skip
               first
                | (exfalso; first | omega | assumption)
                | (
                 refine c_cond_t rfl ?_
                 refine c_seq ?_
                 refine c_region ?_
                 refine r_val .none rfl (p_move rfl) ?_
                 refine r_val .none rfl (p_field Try.underlying82 rfl sz61 rfl) ?_
                 refine r_val .none rfl (p_lda (k := 0) Try.underlying61 rfl sz61 rfl rfl (by first | exact of_decide_eq_true rfl | omega) (rfl : _ = Value.agg #[_, _, _])) ?_
                 refine r_callo (k := 2) (vs := [_, _]) .none rfl cl35 rfl rfl (fun w F hw hA hFG => c_sdrop _ (os.getD j oZ).2.1 u t c (by have h9 := ha.cb (os.getD j oZ).2.1; omega) (by omega) w hw hA hFG) ?_
                 have hd2 := ha.drop (os.getD j oZ).2.1
                 refine r_val .none rfl (p_move rfl) ?_
                 refine r_val .none rfl (p_extract rfl rfl) ?_
                 refine r_val .none rfl (p_extract rfl rfl) ?_
                 refine r_val .none rfl (p_assign rfl) ?_
                 refine r_val .none rfl (p_assign rfl) ?_
                 refine r_nil ?_
                 refine e_next ?_
                 refine c_seq ?_
                 refine c_region ?_
                 refine r_val .none rfl (p_move rfl) ?_
                 refine r_val .none rfl (p_field Try.underlying82 rfl sz61 rfl) ?_
                 refine r_val .none rfl (p_lda (k := 0) Try.underlying61 rfl sz61 rfl rfl (by first | exact of_decide_eq_true rfl | omega) (rfl : _ = Value.agg #[_, _, _])) ?_
                 refine r_callox (k := 1) (vs := [_, _]) .none rfl cl39 rfl rfl (fun w F hw hA hFG => c_xdrop _ (os.getD j oZ).2.1 l hM hll (ha.nb (by omega)) w hw hA hFG) (fun G_58 v_61 z_63 hn_59 hr_60 => ?_)
                 replace hs := hs.mono hn_59.le
                 replace hfo := FOk.mono hfo hn_59.le
                 replace hM := MOk.mono hM hn_59.le
                 replace R_10 := R_10.mono hn_59.le
                 obtain ⟨rfl, u_62e, u_62M⟩ := hr_60
                 refine r_val .none rfl (p_move rfl) ?_
                 refine r_val .none rfl (p_extract rfl rfl) ?_
                 refine r_val .none rfl (p_extract rfl rfl) ?_
                 refine r_val .none rfl (p_assign rfl) ?_
                 refine r_val .none rfl (p_assign rfl) ?_
                 refine r_nil ?_
                 refine e_next ?_
                 refine c_seq ?_
                 refine c_region ?_
                 refine r_val .none rfl (p_move rfl) ?_
                 refine r_val .none rfl (p_move rfl) ?_
                 refine r_val .none rfl (p_ne rfl rfl) ?_
                 refine r_say (d := 78) (v := Value.bool false) (congrArg (fun z => some (Value.bool z)) (decide_eq_false (fun h9 => h9 hd2.2.1))) ?_
                 refine r_val .none rfl (p_move rfl) ?_
                 refine r_val (.some rfl rfl) rfl (p_move rfl) ?_
                 refine r_val (.some rfl rfl) rfl (p_move rfl) ?_
                 refine r_val (.some rfl rfl) rfl (p_ne rfl rfl) ?_
                 refine r_say (d := 82) (v := Value.bool false) (congrArg (fun z => some (Value.bool z)) (decide_eq_false (fun h9 => h9 hd2.2.2))) ?_
                 refine r_val .none rfl (p_pick_f rfl rfl) ?_
                 refine r_nil ?_
                 refine e_next ?_
                 refine c_cond_f rfl ?_
                 refine c_skip ?_
                 refine e_norm_block ?_
                 refine e_front (k := 2) rfl ?_
                 refine e_front (k := 2) rfl ?_
                 refine e_front (k := 2) rfl ?_
                 refine e_round ((tDrop u (os.getD j oZ).2.1, if cnt u (os.getD j oZ).2.1 = 0 then t else t - 1, dropC c (os.getD j oZ).2.1 (cnt u (os.getD j oZ).2.1), z_63, _)) ⟨⟨⟨by dsimp only; rw [u_62e]; exact hd2.1.grow (by omega) (by omega), by dsimp only; split <;> omega, u_62M⟩, hn_59⟩, trivial⟩ rfl ⟨rfl, rfl, rfl, rfl, rfl, rfl, trivial⟩ (.keep (fun _ _ h => h) (.keep (fun _ _ h => h) (.keep (fun _ _ h => h) (.nil))))
                 )
              ·
               first
                | (exfalso; first | omega | assumption)
                | (
                 refine c_cond_f rfl ?_
                 refine c_seq ?_
                 refine c_seq ?_
                 refine c_region ?_
                 refine r_val .none rfl (p_eq rfl rfl) ?_
                 refine r_val .none rfl (p_assign rfl) ?_
                 refine r_nil ?_
                 refine e_next ?_
                 refine c_splitd (d := 84) rfl (fun h_64 => ?_) (fun h_64 => ?_)
                 ·
                  have hk3 : (os.getD j oZ).1 = 3 := h_64
                  first
                   | (exfalso; first | omega | assumption)
                   | (
                    refine c_cond_t rfl ?_
                    refine c_skip ?_
                    refine e_next ?_
                    refine c_cond_t rfl ?_
                    refine c_seq ?_
                    refine c_region ?_
                    refine r_val .none rfl (p_assign rfl) ?_
                    refine r_nil ?_
                    refine e_next ?_
                    refine c_seq ?_
                    refine c_region ?_
                    refine r_val .none rfl (p_assign rfl) ?_
                    refine r_nil ?_
                    refine e_next ?_
                    refine c_seq ?_
                    refine c_seq ?_
                    refine c_region ?_
                    refine r_val .none rfl (p_move rfl) ?_
                    refine r_val .none rfl (p_field Try.underlying82 rfl sz61 rfl) ?_
                    refine r_val .none rfl (p_lda (k := 0) Try.underlying61 rfl sz61 rfl rfl (by first | exact of_decide_eq_true rfl | omega) (rfl : _ = Value.agg #[_, _, _])) ?_
                    refine r_front (k := 1) rfl ?_
                    refine r_callor (k := 0) (vs := [_, _]) .none rfl cl40 rfl rfl (fun w F hw hA hFG => robj_seeR (cells := mC) m0 (fun _ => rfl) (Z := fun r => rowA r 60 3 ((rTouched (eraM l) (os.getD j oZ).2.2.1)).length (((rTouched (eraM l) (os.getD j oZ).2.2.1)).flatMap triL)) (fun G' lv hle h1 h2 hG => c_xtouched _ lv l (os.getD j oZ).2.2.1 h1 h2 (hM.mono hle) w hG) hw hA hFG) (fun r_65 => ?_)
                    refine r_unpack ?_
                    refine r_freeze (k := 0) rfl (fun G_66 hn_67 hs_68 => ?_)
                    replace hs := hs.mono hn_67.le
                    replace hfo := FOk.mono hfo hn_67.le
                    replace hM := MOk.mono hM hn_67.le
                    replace R_10 := R_10.mono hn_67.le
                    have hks : SlL G_66 r_65 3 triL (0, 0, 0) ((rTouched (eraM l) (os.getD j oZ).2.2.1)) := SlL.of (cells := triL) (0, 0, 0) (fun _ => rfl) rfl hs_68
                    refine r_val .none rfl (p_leng Try.underlying89 rfl hks) ?_
                    have bd_69 := (hks).bound
                    refine r_val .none rfl (p_move rfl) ?_
                    refine r_nil ?_
                    refine e_next ?_
                    refine c_block ?_
                    refine c_nilrow 60 3 ?_
                    refine c_name (d := 3) rfl (fun u_70 hu_70 => ?_)
                    refine c_name (d := 4) rfl (fun u_71 hu_71 => ?_)
                    refine c_name (d := 6) rfl (fun u_72 hu_72 => ?_)
                    refine c_name (d := 32) rfl (fun u_73 hu_73 => ?_)
                    refine c_name (d := 33) rfl (fun u_74 hu_74 => ?_)
                    refine c_name (d := 34) rfl (fun u_75 hu_75 => ?_)
                    refine c_name (d := 90) rfl (fun u_76 hu_76 => ?_)
                    refine c_name (d := 91) rfl (fun u_77 hu_77 => ?_)
                    refine c_nameL (k := 2) rfl (fun A_78 hA_78 => ?_)
                    refine c_nameL (k := 3) rfl (fun A_79 hA_79 => ?_)
                    refine c_loop (σ := Nat × List MV × Value × Ghost) (fun s3 => [(92, Value.int .i64 (s3.1 : Nat)), (12, s3.2.2.1), (3, u_70), (4, u_71), (6, u_72), (32, u_73), (33, u_74), (34, u_75), (90, u_76), (91, u_77)]) (fun s3 => [rowA (s3.2.2.1) 60 3 (((rDone rPut (os.getD j oZ).2.2.2.1 ((rTouched (eraM l) (os.getD j oZ).2.2.1).take s3.1) (eraM l)).1)).length ((((rDone rPut (os.getD j oZ).2.2.2.1 ((rTouched (eraM l) (os.getD j oZ).2.2.1).take s3.1) (eraM l)).1)).flatMap triL), robj 80 100 5 mC b_1 (s3.2.1), A_78, A_79]) (fun s3 => s3.2.2.2) (fun s3 => s3.1 ≤ (rTouched (eraM l) (os.getD j oZ).2.2.1).length ∧ eraM s3.2.1 = (rDone rPut (os.getD j oZ).2.2.2.1 ((rTouched (eraM l) (os.getD j oZ).2.2.1).take s3.1) (eraM l)).2 ∧ MOk s3.2.2.2 s3.2.1 ∧ GNew w nX G_66 s3.2.2.2) (fun s3 => (rTouched (eraM l) (os.getD j oZ).2.2.1).length - s3.1) ((0, l, _, _)) ⟨Nat.zero_le _, rfl, hM, GNew.refl _ _ _⟩ rfl ⟨rfl, rfl, rfl, rfl, rfl, rfl, rfl, rfl, rfl, rfl, trivial⟩ (.keep (fun _ _ h => rowA_nil rfl _ _ h) (.keep (fun _ _ h => h) (.keep (fun _ _ h => h) (.keep (fun _ _ h => h) (.nil))))) (fun s3 hphi => ?_)
                    subst hu_70
                    subst hu_71
                    subst hu_72
                    subst hu_73
                    subst hu_74
                    subst hu_75
                    subst hu_76
                    subst hu_77
                    subst hA_78
                    subst hA_79
                    obtain ⟨i, l3, wv, H3⟩ := s3
                    obtain ⟨hi, he3, hM3, hgn3⟩ := hphi
                    dsimp only at hi he3 hM3 hgn3 ⊢
                    have hkl := rT_len (eraM l) (os.getD j oZ).2.2.1
                    obtain ⟨c', hag⟩ := ha.goP ((rTouched (eraM l) (os.getD j oZ).2.2.1).take i) (wok_get hwo j).1
                    have htl : ((rTouched (eraM l) (os.getD j oZ).2.2.1).take i).length ≤ 8 := by rw [List.length_take]; omega
                    obtain ⟨hh3, hl3⟩ := hag.lh he3 (by omega)
                    have hrl : ((rDone rPut (os.getD j oZ).2.2.2.1 ((rTouched (eraM l) (os.getD j oZ).2.2.1).take i) (eraM l))).1.length ≤ 8 := Nat.le_trans (rDone_len _ _ _ _) htl
                    replace hs := hs.mono hgn3.le
                    replace hfo := FOk.mono hfo hgn3.le
                    replace hM := MOk.mono hM hgn3.le
                    replace R_10 := R_10.mono hgn3.le
                    replace hks := hks.mono hgn3.le
                    refine c_seq ?_
                    refine c_region ?_
                    refine r_val .none rfl (p_lt rfl rfl) ?_
                    refine r_nil ?_
                    refine e_next ?_
                    refine c_seq ?_
                    refine c_splitd (d := 93) rfl (fun h_80 => ?_) (fun h_80 => ?_)
                    ·
                     first
                      | (exfalso; first | omega | assumption)
                      | (
                       refine c_cond_t rfl ?_
                       refine c_skip ?_
                       refine e_next ?_
                       refine c_seq ?_
                       refine c_block ?_
                       refine c_seq ?_
                       refine c_region ?_
                       refine r_iaddr_g .none rfl Try.underlying89 sz60 rfl hks rfl (by first | exact of_decide_eq_true rfl | omega) (fun p_82 o_83 R_81 => ?_)
                       refine r_val .none rfl (p_ldga0 Try.underlying60 rfl sz60 rfl R_81 (by first | exact of_decide_eq_true rfl | omega) (rfl : _ = Value.agg #[_, _, _])) ?_
                       refine r_alloc .none rfl zr60 (IsRow.lit _) (fun b_3 => ?_)
                       refine r_stw (k := 0) .none sz60 rfl rfl (IsRow.lit _) (one_lit rfl rfl) rfl ?_
                       refine r_nil ?_
                       refine e_next ?_
                       refine c_seq ?_
                       refine c_region ?_
                       refine r_val .none rfl (p_field Try.underlying82 rfl sz3 rfl) ?_
                       refine r_val .none rfl (p_ld (k := 3) Try.underlying3 rfl rfl rfl (by first | exact of_decide_eq_true rfl | omega) (rfl : _ = Value.int _ _)) ?_
                       refine r_val .none rfl (p_eq rfl rfl) ?_
                       refine r_val .none rfl (p_move rfl) ?_
                       refine r_splitd (d := 99) rfl (fun h_84 => ?_) (fun h_84 => ?_)
                       ·
                        first
                         | (exfalso; first | omega | assumption)
                         | (
                          refine r_val (.some rfl rfl) rfl (p_move rfl) ?_
                          refine r_val (.some rfl rfl) rfl (p_ldw (k := 0) Try.underlying60 rfl sz60 rfl rfl (rfl : _ = Value.agg #[_, _, _])) ?_
                          refine r_val (.some rfl rfl) rfl (p_field Try.underlying82 rfl sz3 rfl) ?_
                          refine r_val (.some rfl rfl) rfl (p_ld (k := 3) Try.underlying3 rfl rfl rfl (by first | exact of_decide_eq_true rfl | omega) (rfl : _ = Value.int _ _)) ?_
                          refine r_callox (k := 2) (vs := [_, _, _]) (.some rfl rfl) rfl cl41 rfl rfl (fun w F hw hA hFG => c_xput _ ((rTouched (eraM l) (os.getD j oZ).2.2.1).getD i (0, 0, 0)) (os.getD j oZ).2.2.2.1 l3 hM3 (by omega) hh3 w hw hA hFG) (fun G_85 v_88 z_90 hn_86 hr_87 => ?_)
                          replace hs := hs.mono hn_86.le
                          replace hfo := FOk.mono hfo hn_86.le
                          replace hM := MOk.mono hM hn_86.le
                          replace R_10 := R_10.mono hn_86.le
                          replace hks := hks.mono hn_86.le
                          replace hM3 := MOk.mono hM3 hn_86.le
                          replace R_81 := R_81.mono hn_86.le
                          obtain ⟨rfl, u_89e, u_89M⟩ := hr_87
                          refine r_val (.some rfl rfl) rfl (p_eq rfl rfl) ?_
                          refine r_val .none rfl (p_pick_t rfl rfl) ?_
                          refine r_val .none rfl (p_move rfl) ?_
                          refine r_splitd (d := 107) rfl (fun h_91 => ?_) (fun h_91 => ?_)
                          ·
                           have hq : (rPut (rDone rPut (os.getD j oZ).2.2.2.1 ((rTouched (eraM l) (os.getD j oZ).2.2.1).take i) (eraM l)).2 ((rTouched (eraM l) (os.getD j oZ).2.2.1).getD i (0, 0, 0)) (os.getD j oZ).2.2.2.1).1 = 1 := by (rw [← he3]; exact h_91)
                           first
                            | (exfalso; first | omega | assumption)
                            | (
                             refine r_skip rfl (.no rfl rfl) ?_
                             refine r_skip rfl (.no rfl rfl) ?_
                             refine r_skip rfl (.no rfl rfl) ?_
                             refine r_skip rfl (.no rfl rfl) ?_
                             refine r_skip rfl (.un rfl rfl) ?_
                             refine r_skip rfl (.un rfl rfl) ?_
                             refine r_skip rfl (.un rfl rfl) ?_
                             refine r_skip rfl (.un rfl rfl) ?_
                             refine r_skip rfl (.un rfl rfl) ?_
                             refine r_skip rfl (.un rfl rfl) ?_
                             refine r_skip rfl (.no rfl rfl) ?_
                             refine r_val .none rfl (p_pick_t rfl rfl) ?_
                             refine r_nil ?_
                             refine e_next ?_
                             refine c_cond_t rfl ?_
                             refine c_region ?_
                             refine r_val .none rfl (p_move rfl) ?_
                             refine r_val .none rfl (p_ldw (k := 0) Try.underlying60 rfl sz60 rfl rfl (rfl : _ = Value.agg #[_, _, _])) ?_
                             refine r_bslice (vs := [(0, Value.agg #[_, _, _])]) (c := #[_, _, _]) .none rfl Try.underlying89 el60 rfl rfl rfl (bs60_10a3 _ _ _) (IsRow.lit _) (fun b_4 => ?_)
                             refine r_append (k := 2) (k2 := 0) .none rfl Try.underlying89 el60 rfl (by decide) rfl rfl rfl rfl rfl (one_lit rfl rfl) (by simp only [maxLen]; omega) (by omega) (fun v_92 => ?_)
                             refine r_row1 (k := 2) rfl (fun o_93 => ?_)
                             refine r_val .none rfl (p_assign rfl) ?_
                             refine r_nil ?_
                             refine e_norm_block ?_
                             refine e_next ?_
                             refine c_region ?_
                             refine r_val .none rfl (p_add rfl rfl (by omega)) ?_
                             refine r_val .none rfl (p_move rfl) ?_
                             refine r_nil ?_
                             refine e_round ((i + 1, z_90, _, _)) ⟨⟨by dsimp only; omega, by dsimp only; rw [rDone_next (by omega)]; dsimp only; rw [← he3]; exact u_89e, u_89M, (hgn3.trans hn_86)⟩, by dsimp only; omega⟩ rfl ⟨rfl, rfl, rfl, rfl, rfl, rfl, rfl, rfl, rfl, rfl, trivial⟩ (.drop (.drop (.keep (fun _ _ h => by rw [rDone_next (by omega), if_pos hq]; exact rowA_snoc rfl rfl rfl rfl _ _ h) (.keep (fun _ _ h => h) (.keep (fun _ _ h => h) (.keep (fun _ _ h => h) (.nil)))))))
                             )
                          ·
                           have hq : ¬ (rPut (rDone rPut (os.getD j oZ).2.2.2.1 ((rTouched (eraM l) (os.getD j oZ).2.2.1).take i) (eraM l)).2 ((rTouched (eraM l) (os.getD j oZ).2.2.1).getD i (0, 0, 0)) (os.getD j oZ).2.2.2.1).1 = 1 := by (rw [← he3]; exact h_91)
                           first
                            | (exfalso; first | omega | assumption)
                            | (
                             refine r_val (.some rfl rfl) rfl (p_field Try.underlying82 rfl sz3 rfl) ?_
                             refine r_val (.some rfl rfl) rfl (p_ld (k := 3) Try.underlying3 rfl rfl rfl (by first | exact of_decide_eq_true rfl | omega) (rfl : _ = Value.int _ _)) ?_
                             refine r_val (.some rfl rfl) rfl (p_eq rfl rfl) ?_
                             refine r_val (.some rfl rfl) rfl (p_move rfl) ?_
                             refine r_splitd (d := 111) rfl (fun h_94 => ?_) (fun h_94 => ?_)
                             ·
                              first
                               | (exfalso; first | omega | assumption)
                               | (
                                refine r_val (.some rfl rfl) rfl (p_move rfl) ?_
                                refine r_val (.some rfl rfl) rfl (p_ldw (k := 0) Try.underlying60 rfl sz60 rfl rfl (rfl : _ = Value.agg #[_, _, _])) ?_
                                refine r_val (.some rfl rfl) rfl (p_field Try.underlying82 rfl sz3 rfl) ?_
                                refine r_val (.some rfl rfl) rfl (p_ld (k := 3) Try.underlying3 rfl rfl rfl (by first | exact of_decide_eq_true rfl | omega) (rfl : _ = Value.int _ _)) ?_
                                refine r_callox (k := 2) (vs := [_, _, _]) (.some rfl rfl) rfl cl42 rfl rfl (fun w F hw hA hFG => c_xtake _ ((rTouched (eraM l) (os.getD j oZ).2.2.1).getD i (0, 0, 0)) (os.getD j oZ).2.2.2.1 l3 hM3 (by omega) hh3 w hw hA hFG) (fun G_95 v_98 z_100 hn_96 hr_97 => ?_)
                                replace hs := hs.mono hn_96.le
                                replace hfo := FOk.mono hfo hn_96.le
                                replace hM := MOk.mono hM hn_96.le
                                replace R_10 := R_10.mono hn_96.le
                                replace hks := hks.mono hn_96.le
                                replace hM3 := MOk.mono hM3 hn_96.le
                                replace R_81 := R_81.mono hn_96.le
                                replace u_89M := MOk.mono u_89M hn_96.le
                                obtain ⟨rfl, u_99e, u_99M⟩ := hr_97
                                refine r_val (.some rfl rfl) rfl (p_eq rfl rfl) ?_
                                refine r_val (.some rfl rfl) rfl (p_pick_t rfl rfl) ?_
                                refine r_val .none rfl (p_pick_f rfl rfl) ?_
                                refine r_nil ?_
                                refine e_next ?_
                                refine c_splitd (d := 119) rfl (fun h_101 => ?_) (fun h_101 => ?_)
                                ·
                                 skip
                                 first
                                  | (exfalso; first | omega | assumption)
                                  | (
                                   refine c_cond_t rfl ?_
                                   refine c_region ?_
                                   refine r_val .none rfl (p_move rfl) ?_
                                   refine r_val .none rfl (p_ldw (k := 0) Try.underlying60 rfl sz60 rfl rfl (rfl : _ = Value.agg #[_, _, _])) ?_
                                   refine r_bslice (vs := [(0, Value.agg #[_, _, _])]) (c := #[_, _, _]) .none rfl Try.underlying89 el60 rfl rfl rfl (bs60_10a3 _ _ _) (IsRow.lit _) (fun b_5 => ?_)
                                   refine r_append (k := 2) (k2 := 0) .none rfl Try.underlying89 el60 rfl (by decide) rfl rfl rfl rfl rfl (one_lit rfl rfl) (by simp only [maxLen]; omega) (by omega) (fun v_102 => ?_)
                                   refine r_row1 (k := 2) rfl (fun o_103 => ?_)
                                   refine r_val .none rfl (p_assign rfl) ?_
                                   refine r_nil ?_
                                   refine e_norm_block ?_
                                   refine e_next ?_
                                   refine c_region ?_
                                   refine r_val .none rfl (p_add rfl rfl (by omega)) ?_
                                   refine r_val .none rfl (p_move rfl) ?_
                                   refine r_nil ?_
                                   refine e_round ((i + 1, z_100, _, _)) ⟨⟨by dsimp only; omega, by dsimp only; rw [rDone_next (by omega)]; dsimp only; rw [← he3]; exact u_99e, u_99M, ((hgn3.trans hn_86).trans hn_96)⟩, by dsimp only; omega⟩ rfl ⟨rfl, rfl, rfl, rfl, rfl, rfl, rfl, rfl, rfl, rfl, trivial⟩ (.drop (.drop (.keep (fun _ _ h => by rw [rDone_next (by omega), if_pos hq]; exact rowA_snoc rfl rfl rfl rfl _ _ h) (.keep (fun _ _ h => h) (.keep (fun _ _ h => h) (.keep (fun _ _ h => h) (.nil)))))))
                                   )
                                ·
                                 skip
                                 first
                                  | (exfalso; first | omega | assumption)
                                  | (
                                   refine c_cond_f rfl ?_
                                   refine c_skip ?_
                                   refine e_norm_block ?_
                                   refine e_next ?_
                                   refine c_region ?_
                                   refine r_val .none rfl (p_add rfl rfl (by omega)) ?_
                                   refine r_val .none rfl (p_move rfl) ?_
                                   refine r_nil ?_
                                   refine e_round ((i + 1, z_100, _, _)) ⟨⟨by dsimp only; omega, by dsimp only; rw [rDone_next (by omega)]; dsimp only; rw [← he3]; exact u_99e, u_99M, ((hgn3.trans hn_86).trans hn_96)⟩, by dsimp only; omega⟩ rfl ⟨rfl, rfl, rfl, rfl, rfl, rfl, rfl, rfl, rfl, rfl, trivial⟩ (.drop (.keep (fun _ _ h => by rw [rDone_next (by omega), if_neg hq]; exact h) (.keep (fun _ _ h => h) (.keep (fun _ _ h => h) (.keep (fun _ _ h => h) (.nil))))))
                                   )
                                )
                             ·
                              first
                               | (exfalso; first | omega | assumption)
                               | (
                                refine r_skip rfl (.no rfl rfl) ?_
                                refine r_skip rfl (.no rfl rfl) ?_
                                refine r_skip rfl (.no rfl rfl) ?_
                                refine r_skip rfl (.no rfl rfl) ?_
                                refine r_skip rfl (.no rfl rfl) ?_
                                refine r_skip rfl (.no rfl rfl) ?_
                                refine r_val (.some rfl rfl) rfl (p_pick_f rfl rfl) ?_
                                refine r_val .none rfl (p_pick_f rfl rfl) ?_
                                refine r_nil ?_
                                refine e_next ?_
                                refine c_cond_f rfl ?_
                                refine c_skip ?_
                                refine e_norm_block ?_
                                refine e_next ?_
                                refine c_region ?_
                                refine r_val .none rfl (p_add rfl rfl (by omega)) ?_
                                refine r_val .none rfl (p_move rfl) ?_
                                refine r_nil ?_
                                refine e_round ((i + 1, z_90, _, _)) ⟨⟨by dsimp only; omega, by dsimp only; rw [rDone_next (by omega)]; dsimp only; rw [← he3]; exact u_89e, u_89M, (hgn3.trans hn_86)⟩, by dsimp only; omega⟩ rfl ⟨rfl, rfl, rfl, rfl, rfl, rfl, rfl, rfl, rfl, rfl, trivial⟩ (.drop (.keep (fun _ _ h => by rw [rDone_next (by omega), if_neg hq]; exact h) (.keep (fun _ _ h => h) (.keep (fun _ _ h => h) (.keep (fun _ _ h => h) (.nil))))))
                                )
                             )
                          )
                       ·
                        first
                         | (exfalso; first | omega | assumption)
                         | (
                          refine r_skip rfl (.no rfl rfl) ?_
                          refine r_skip rfl (.no rfl rfl) ?_
                          refine r_skip rfl (.no rfl rfl) ?_
                          refine r_skip rfl (.no rfl rfl) ?_
                          refine r_skip rfl (.no rfl rfl) ?_
                          refine r_skip rfl (.no rfl rfl) ?_
                          refine r_val .none rfl (p_pick_f rfl rfl) ?_
                          refine r_val .none rfl (p_move rfl) ?_
                          refine r_val (.some rfl rfl) rfl (p_field Try.underlying82 rfl sz3 rfl) ?_
                          refine r_val (.some rfl rfl) rfl (p_ld (k := 3) Try.underlying3 rfl rfl rfl (by first | exact of_decide_eq_true rfl | omega) (rfl : _ = Value.int _ _)) ?_
                          refine r_val (.some rfl rfl) rfl (p_eq rfl rfl) ?_
                          refine r_val (.some rfl rfl) rfl (p_move rfl) ?_
                          refine r_splitd (d := 111) rfl (fun h_104 => ?_) (fun h_104 => ?_)
                          ·
                           first
                            | (exfalso; first | omega | assumption)
                            | (
                             refine r_val (.some rfl rfl) rfl (p_move rfl) ?_
                             refine r_val (.some rfl rfl) rfl (p_ldw (k := 0) Try.underlying60 rfl sz60 rfl rfl (rfl : _ = Value.agg #[_, _, _])) ?_
                             refine r_val (.some rfl rfl) rfl (p_field Try.underlying82 rfl sz3 rfl) ?_
                             refine r_val (.some rfl rfl) rfl (p_ld (k := 3) Try.underlying3 rfl rfl rfl (by first | exact of_decide_eq_true rfl | omega) (rfl : _ = Value.int _ _)) ?_
                             refine r_callox (k := 2) (vs := [_, _, _]) (.some rfl rfl) rfl cl42 rfl rfl (fun w F hw hA hFG => c_xtake _ ((rTouched (eraM l) (os.getD j oZ).2.2.1).getD i (0, 0, 0)) (os.getD j oZ).2.2.2.1 l3 hM3 (by omega) hh3 w hw hA hFG) (fun G_105 v_108 z_110 hn_106 hr_107 => ?_)
                             replace hs := hs.mono hn_106.le
                             replace hfo := FOk.mono hfo hn_106.le
                             replace hM := MOk.mono hM hn_106.le
                             replace R_10 := R_10.mono hn_106.le
                             replace hks := hks.mono hn_106.le
                             replace hM3 := MOk.mono hM3 hn_106.le
                             replace R_81 := R_81.mono hn_106.le
                             obtain ⟨rfl, u_109e, u_109M⟩ := hr_107
                             refine r_val (.some rfl rfl) rfl (p_eq rfl rfl) ?_
                             refine r_val (.some rfl rfl) rfl (p_pick_t rfl rfl) ?_
                             refine r_val .none rfl (p_pick_f rfl rfl) ?_
                             refine r_nil ?_
                             refine e_next ?_
                             refine c_splitd (d := 119) rfl (fun h_111 => ?_) (fun h_111 => ?_)
                             ·
                              skip
                              first
                               | (exfalso; first | omega | assumption)
                               | (
                                refine c_cond_t rfl ?_
                                refine c_region ?_
                                refine r_val .none rfl (p_move rfl) ?_
                                refine r_val .none rfl (p_ldw (k := 0) Try.underlying60 rfl sz60 rfl rfl (rfl : _ = Value.agg #[_, _, _])) ?_
                                refine r_bslice (vs := [(0, Value.agg #[_, _, _])]) (c := #[_, _, _]) .none rfl Try.underlying89 el60 rfl rfl rfl (bs60_10a3 _ _ _) (IsRow.lit _) (fun b_6 => ?_)
                                refine r_append (k := 2) (k2 := 0) .none rfl Try.underlying89 el60 rfl (by decide) rfl rfl rfl rfl rfl (one_lit rfl rfl) (by simp only [maxLen]; omega) (by omega) (fun v_112 => ?_)
                                refine r_row1 (k := 2) rfl (fun o_113 => ?_)
                                refine r_val .none rfl (p_assign rfl) ?_
                                refine r_nil ?_
                                refine e_norm_block ?_
                                refine e_next ?_
                                refine c_region ?_
                                refine r_val .none rfl (p_add rfl rfl (by omega)) ?_
                                refine r_val .none rfl (p_move rfl) ?_
                                refine r_nil ?_
                                refine e_round ((i + 1, z_110, _, _)) ⟨⟨by dsimp only; omega, by dsimp only; rw [rDone_next (by omega)]; dsimp only; rw [← he3]; exact u_109e, u_109M, (hgn3.trans hn_106)⟩, by dsimp only; omega⟩ rfl ⟨rfl, rfl, rfl, rfl, rfl, rfl, rfl, rfl, rfl, rfl, trivial⟩ (.drop (.drop (.keep (fun _ _ h => by rw [rDone_next (by omega), if_pos hq]; exact rowA_snoc rfl rfl rfl rfl _ _ h) (.keep (fun _ _ h => h) (.keep (fun _ _ h => h) (.keep (fun _ _ h => h) (.nil)))))))
                                )
                             ·
                              skip
                              first
                               | (exfalso; first | omega | assumption)
                               | (
                                refine c_cond_f rfl ?_
                                refine c_skip ?_
                                refine e_norm_block ?_
                                refine e_next ?_
                                refine c_region ?_
                                refine r_val .none rfl (p_add rfl rfl (by omega)) ?_
                                refine r_val .none rfl (p_move rfl) ?_
                                refine r_nil ?_
                                refine e_round ((i + 1, z_110, _, _)) ⟨⟨by dsimp only; omega, by dsimp only; rw [rDone_next (by omega)]; dsimp only; rw [← he3]; exact u_109e, u_109M, (hgn3.trans hn_106)⟩, by dsimp only; omega⟩ rfl ⟨rfl, rfl, rfl, rfl, rfl, rfl, rfl, rfl, rfl, rfl, trivial⟩ (.drop (.keep (fun _ _ h => by rw [rDone_next (by omega), if_neg hq]; exact h) (.keep (fun _ _ h => h) (.keep (fun _ _ h => h) (.keep (fun _ _ h => h) (.nil))))))
                                )
                             )
                          ·
                           first
                            | (exfalso; first | omega | assumption)
                            | (
                             refine r_skip rfl (.no rfl rfl) ?_
                             refine r_skip rfl (.no rfl rfl) ?_
                             refine r_skip rfl (.no rfl rfl) ?_
                             refine r_skip rfl (.no rfl rfl) ?_
                             refine r_skip rfl (.no rfl rfl) ?_
                             refine r_skip rfl (.no rfl rfl) ?_
                             refine r_val (.some rfl rfl) rfl (p_pick_f rfl rfl) ?_
                             refine r_val .none rfl (p_pick_f rfl rfl) ?_
                             refine r_nil ?_
                             refine e_next ?_
                             refine c_cond_f rfl ?_
                             refine c_skip ?_
                             refine e_norm_block ?_
                             refine e_next ?_
                             refine c_region ?_
                             refine r_val .none rfl (p_add rfl rfl (by omega)) ?_
                             refine r_val .none rfl (p_move rfl) ?_
                             refine r_nil ?_
                             refine e_round ((i + 1, l3, _, _)) ⟨⟨by dsimp only; omega, by dsimp only; rw [rDone_next (by omega)]; dsimp only; rw [← he3]; exact e, M, hgn3⟩, by dsimp only; omega⟩ rfl ⟨rfl, rfl, rfl, rfl, rfl, rfl, rfl, rfl, rfl, rfl, trivial⟩ (.drop (.keep (fun _ _ h => by rw [rDone_next (by omega), if_neg hq]; exact h) (.keep (fun _ _ h => h) (.keep (fun _ _ h => h) (.keep (fun _ _ h => h) (.nil))))))
                             )
                          )
                       )
                    ·
                     first
                      | (exfalso; first | omega | assumption)
                      | (
                       refine c_cond_f rfl ?_
                       refine c_exit ?_
                       refine e_exit_then ?_
                       refine e_exit_then ?_
                       refine e_exit_block ?_
                       refine e_next ?_
                       refine c_seq ?_
                       refine c_seq ?_
                       refine c_region ?_
                       refine r_val .none rfl (p_field Try.underlying82 rfl sz3 rfl) ?_
                       refine r_val .none rfl (p_ld (k := 2) Try.underlying3 rfl rfl rfl (by first | exact of_decide_eq_true rfl | omega) (rfl : _ = Value.int _ _)) ?_
                       refine r_val .none rfl (p_eq rfl rfl) ?_
                       refine r_nil ?_
                       refine e_next ?_
                       refine c_splitd (d := 127) rfl (fun h_114 => ?_) (fun h_114 => ?_)
                       ·
                        first
                         | (exfalso; first | omega | assumption)
                         | (
                          refine c_cond_t rfl ?_
                          refine c_region ?_
                          refine r_val .none rfl (p_move rfl) ?_
                          refine r_val .none rfl (p_field Try.underlying82 rfl sz3 rfl) ?_
                          refine r_val .none rfl (p_ld (k := 2) Try.underlying3 rfl rfl rfl (by first | exact of_decide_eq_true rfl | omega) (rfl : _ = Value.int _ _)) ?_
                          refine r_val .none rfl (p_field Try.underlying82 rfl sz61 rfl) ?_
                          refine r_val .none rfl (p_lda (k := 2) Try.underlying61 rfl sz61 rfl rfl (by first | exact of_decide_eq_true rfl | omega) (rfl : _ = Value.agg #[_, _, _])) ?_
                          refine r_val .none rfl (p_build (vs := [(0, Value.int _ _), (1, Value.agg #[_, _, _])]) rfl (bl66_0i1_1a3 _ _ _ _)) ?_
                          refine r_front (k := 3) rfl ?_
                          refine r_callor (k := 0) (vs := [_, _]) .none rfl cl29 rfl rfl (fun w F hw hA hFG => c_sadd _ ((os.getD j oZ).2.2.2.1, (os.getD j oZ).2.2.1) u t c w hw hA hFG) (fun r_115 => ?_)
                          refine r_unpack ?_
                          refine r_freeze (k := 0) rfl (fun G_116 hn_117 hs_118 => ?_)
                          replace hs := hs.mono hn_117.le
                          replace hfo := FOk.mono hfo hn_117.le
                          replace hM := MOk.mono hM hn_117.le
                          replace R_10 := R_10.mono hn_117.le
                          replace hks := hks.mono hn_117.le
                          replace hM3 := MOk.mono hM3 hn_117.le
                          have hg1 : SlL G_116 r_115 3 triL (0, 0, 0) ((doneC putC u c ((os.getD j oZ).2.2.2.1, (os.getD j oZ).2.2.1)).1) := SlL.of (cells := triL) (0, 0, 0) (fun _ => rfl) rfl hs_118
                          have hd4 := ha.doneP (os.getD j oZ).2.2.1 (wok_get hwo j).1
                          refine r_val .none rfl (p_assign rfl) ?_
                          refine r_nil ?_
                          refine e_next ?_
                          refine c_seq ?_
                          refine c_region ?_
                          refine r_front (k := 1) rfl ?_
                          have htk : (rTouched (eraM l) (os.getD j oZ).2.2.1).take i = (rTouched (eraM l) (os.getD j oZ).2.2.1) := List.take_of_length_le (by omega)
                          refine r_freeze (k := 0) rfl (fun G_119 hn_120 hs_121 => ?_)
                          replace hs := hs.mono hn_120.le
                          replace hfo := FOk.mono hfo hn_120.le
                          replace hM := MOk.mono hM hn_120.le
                          replace R_10 := R_10.mono hn_120.le
                          replace hks := hks.mono hn_120.le
                          replace hM3 := MOk.mono hM3 hn_120.le
                          replace hg1 := hg1.mono hn_120.le
                          have hg2 : SlL G_119 wv 3 triL (0, 0, 0) (rDone rPut (os.getD j oZ).2.2.2.1 (rTouched (eraM l) (os.getD j oZ).2.2.1) (eraM l)).1 := SlL.of2 (cells := triL) (0, 0, 0) (fun _ => rfl) (by rw [htk]) (by rw [htk]) hs_121
                          refine r_val .none rfl (p_move rfl) ?_
                          refine r_val .none rfl (p_move rfl) ?_
                          refine r_call (vs := [_, _]) .none rfl cl43 rfl (fun w hw => c_keys12 _ _ _ _ hg1 hg2 w hw) ?_
                          refine r_say (d := 144) (v := Value.bool true) (congrArg (fun z => some (Value.bool z)) (decide_eq_true hd4.2)) ?_
                          refine r_val .none rfl (p_not rfl) ?_
                          refine r_say (d := 145) (v := Value.bool false) rfl ?_
                          refine r_nil ?_
                          refine e_next ?_
                          refine c_cond_f rfl ?_
                          refine c_skip ?_
                          refine e_norm_block ?_
                          refine e_front (k := 1) rfl ?_
                          refine e_front (k := 2) rfl ?_
                          refine e_round ((u, t, (doneC putC u c ((os.getD j oZ).2.2.2.1, (os.getD j oZ).2.2.1)).2, l3, _)) ⟨⟨⟨by dsimp only; rw [he3, htk]; exact hd4.1.grow (by omega) (by omega), by dsimp only; omega, hM3⟩, (((hn_67.trans hgn3).trans hn_117).trans hn_120)⟩, trivial⟩ rfl ⟨rfl, rfl, rfl, rfl, rfl, rfl, trivial⟩ (.keep (fun _ _ h => h) (.keep (fun _ _ h => h) (.keep (fun _ _ h => h) (.nil))))
                          )
                       ·
                        first
                         | (exfalso; first | omega | assumption)
                         | (
                          refine c_cond_f rfl ?_
                          refine c_region ?_
                          refine r_val .none rfl (p_move rfl) ?_
                          refine r_val .none rfl (p_field Try.underlying82 rfl sz3 rfl) ?_
                          refine r_val .none rfl (p_ld (k := 2) Try.underlying3 rfl rfl rfl (by first | exact of_decide_eq_true rfl | omega) (rfl : _ = Value.int _ _)) ?_
                          refine r_val .none rfl (p_field Try.underlying82 rfl sz61 rfl) ?_
                          refine r_val .none rfl (p_lda (k := 2) Try.underlying61 rfl sz61 rfl rfl (by first | exact of_decide_eq_true rfl | omega) (rfl : _ = Value.agg #[_, _, _])) ?_
                          refine r_val .none rfl (p_build (vs := [(0, Value.int _ _), (1, Value.agg #[_, _, _])]) rfl (bl66_0i1_1a3 _ _ _ _)) ?_
                          refine r_front (k := 3) rfl ?_
                          refine r_callor (k := 0) (vs := [_, _]) .none rfl cl30 rfl rfl (fun w F hw hA hFG => c_sremove _ ((os.getD j oZ).2.2.2.1, (os.getD j oZ).2.2.1) u t c w hw hA hFG) (fun r_122 => ?_)
                          refine r_unpack ?_
                          refine r_freeze (k := 0) rfl (fun G_123 hn_124 hs_125 => ?_)
                          replace hs := hs.mono hn_124.le
                          replace hfo := FOk.mono hfo hn_124.le
                          replace hM := MOk.mono hM hn_124.le
                          replace R_10 := R_10.mono hn_124.le
                          replace hks := hks.mono hn_124.le
                          replace hM3 := MOk.mono hM3 hn_124.le
                          have hg1 : SlL G_123 r_122 3 triL (0, 0, 0) ((doneC putC u c ((os.getD j oZ).2.2.2.1, (os.getD j oZ).2.2.1)).1) := SlL.of (cells := triL) (0, 0, 0) (fun _ => rfl) rfl hs_125
                          have hd4 := ha.doneT (os.getD j oZ).2.2.1 (os.getD j oZ).2.2.2.1
                          refine r_val .none rfl (p_assign rfl) ?_
                          refine r_nil ?_
                          refine e_next ?_
                          refine c_seq ?_
                          refine c_region ?_
                          refine r_front (k := 1) rfl ?_
                          have htk : (rTouched (eraM l) (os.getD j oZ).2.2.1).take i = (rTouched (eraM l) (os.getD j oZ).2.2.1) := List.take_of_length_le (by omega)
                          refine r_freeze (k := 0) rfl (fun G_126 hn_127 hs_128 => ?_)
                          replace hs := hs.mono hn_127.le
                          replace hfo := FOk.mono hfo hn_127.le
                          replace hM := MOk.mono hM hn_127.le
                          replace R_10 := R_10.mono hn_127.le
                          replace hks := hks.mono hn_127.le
                          replace hM3 := MOk.mono hM3 hn_127.le
                          replace hg1 := hg1.mono hn_127.le
                          have hg2 : SlL G_126 wv 3 triL (0, 0, 0) (rDone rPut (os.getD j oZ).2.2.2.1 (rTouched (eraM l) (os.getD j oZ).2.2.1) (eraM l)).1 := SlL.of2 (cells := triL) (0, 0, 0) (fun _ => rfl) (by rw [htk]) (by rw [htk]) hs_128
                          refine r_val .none rfl (p_move rfl) ?_
                          refine r_val .none rfl (p_move rfl) ?_
                          refine r_call (vs := [_, _]) .none rfl cl43 rfl (fun w hw => c_keys12 _ _ _ _ hg1 hg2 w hw) ?_
                          refine r_say (d := 144) (v := Value.bool true) (congrArg (fun z => some (Value.bool z)) (decide_eq_true hd4.2)) ?_
                          refine r_val .none rfl (p_not rfl) ?_
                          refine r_say (d := 145) (v := Value.bool false) rfl ?_
                          refine r_nil ?_
                          refine e_next ?_
                          refine c_cond_f rfl ?_
                          refine c_skip ?_
                          refine e_norm_block ?_
                          refine e_front (k := 1) rfl ?_
                          refine e_front (k := 2) rfl ?_
                          refine e_round ((u, t, (doneC putC u c ((os.getD j oZ).2.2.2.1, (os.getD j oZ).2.2.1)).2, l3, _)) ⟨⟨⟨by dsimp only; rw [he3, htk]; exact hd4.1.grow (by omega) (by omega), by dsimp only; omega, hM3⟩, (((hn_67.trans hgn3).trans hn_124).trans hn_127)⟩, trivial⟩ rfl ⟨rfl, rfl, rfl, rfl, rfl, rfl, trivial⟩ (.keep (fun _ _ h => h) (.keep (fun _ _ h => h) (.keep (fun _ _ h => h) (.nil))))
                          )
                       )
                    )
                 ·
                  skip
                  first
                   | (exfalso; first | omega | assumption)
                   | (
                    refine c_cond_f rfl ?_
                    refine c_region ?_
                    refine r_val .none rfl (p_eq rfl rfl) ?_
                    refine r_val .none rfl (p_assign rfl) ?_
                    refine r_nil ?_
                    refine e_next ?_
                    refine c_splitd (d := 84) rfl (fun h_129 => ?_) (fun h_129 => ?_)
                    ·
                     have hk4 : (os.getD j oZ).1 = 4 := h_129
                     first
                      | (exfalso; first | omega | assumption)
                      | (
                       refine c_cond_t rfl ?_
                       refine c_seq ?_
                       refine c_region ?_
                       refine r_val .none rfl (p_assign rfl) ?_
                       refine r_nil ?_
                       refine e_next ?_
                       refine c_seq ?_
                       refine c_region ?_
                       refine r_val .none rfl (p_assign rfl) ?_
                       refine r_nil ?_
                       refine e_next ?_
                       refine c_seq ?_
                       refine c_seq ?_
                       refine c_region ?_
                       refine r_val .none rfl (p_move rfl) ?_
                       refine r_val .none rfl (p_field Try.underlying82 rfl sz61 rfl) ?_
                       refine r_val .none rfl (p_lda (k := 0) Try.underlying61 rfl sz61 rfl rfl (by first | exact of_decide_eq_true rfl | omega) (rfl : _ = Value.agg #[_, _, _])) ?_
                       refine r_front (k := 1) rfl ?_
                       refine r_callor (k := 0) (vs := [_, _]) .none rfl cl40 rfl rfl (fun w F hw hA hFG => robj_seeR (cells := mC) m0 (fun _ => rfl) (Z := fun r => rowA r 60 3 ((rTouched (eraM l) (os.getD j oZ).2.2.1)).length (((rTouched (eraM l) (os.getD j oZ).2.2.1)).flatMap triL)) (fun G' lv hle h1 h2 hG => c_xtouched _ lv l (os.getD j oZ).2.2.1 h1 h2 (hM.mono hle) w hG) hw hA hFG) (fun r_130 => ?_)
                       refine r_unpack ?_
                       refine r_freeze (k := 0) rfl (fun G_131 hn_132 hs_133 => ?_)
                       replace hs := hs.mono hn_132.le
                       replace hfo := FOk.mono hfo hn_132.le
                       replace hM := MOk.mono hM hn_132.le
                       replace R_10 := R_10.mono hn_132.le
                       have hks : SlL G_131 r_130 3 triL (0, 0, 0) ((rTouched (eraM l) (os.getD j oZ).2.2.1)) := SlL.of (cells := triL) (0, 0, 0) (fun _ => rfl) rfl hs_133
                       refine r_val .none rfl (p_leng Try.underlying89 rfl hks) ?_
                       have bd_134 := (hks).bound
                       refine r_val .none rfl (p_move rfl) ?_
                       refine r_nil ?_
                       refine e_next ?_
                       refine c_block ?_
                       refine c_nilrow 60 3 ?_
                       refine c_name (d := 3) rfl (fun u_135 hu_135 => ?_)
                       refine c_name (d := 4) rfl (fun u_136 hu_136 => ?_)
                       refine c_name (d := 6) rfl (fun u_137 hu_137 => ?_)
                       refine c_name (d := 32) rfl (fun u_138 hu_138 => ?_)
                       refine c_name (d := 33) rfl (fun u_139 hu_139 => ?_)
                       refine c_name (d := 34) rfl (fun u_140 hu_140 => ?_)
                       refine c_name (d := 90) rfl (fun u_141 hu_141 => ?_)
                       refine c_name (d := 91) rfl (fun u_142 hu_142 => ?_)
                       refine c_nameL (k := 2) rfl (fun A_143 hA_143 => ?_)
                       refine c_nameL (k := 3) rfl (fun A_144 hA_144 => ?_)
                       refine c_loop (σ := Nat × List MV × Value × Ghost) (fun s3 => [(92, Value.int .i64 (s3.1 : Nat)), (12, s3.2.2.1), (3, u_135), (4, u_136), (6, u_137), (32, u_138), (33, u_139), (34, u_140), (90, u_141), (91, u_142)]) (fun s3 => [rowA (s3.2.2.1) 60 3 (((rDone rTake (os.getD j oZ).2.2.2.1 ((rTouched (eraM l) (os.getD j oZ).2.2.1).take s3.1) (eraM l)).1)).length ((((rDone rTake (os.getD j oZ).2.2.2.1 ((rTouched (eraM l) (os.getD j oZ).2.2.1).take s3.1) (eraM l)).1)).flatMap triL), robj 80 100 5 mC b_1 (s3.2.1), A_143, A_144]) (fun s3 => s3.2.2.2) (fun s3 => s3.1 ≤ (rTouched (eraM l) (os.getD j oZ).2.2.1).length ∧ eraM s3.2.1 = (rDone rTake (os.getD j oZ).2.2.2.1 ((rTouched (eraM l) (os.getD j oZ).2.2.1).take s3.1) (eraM l)).2 ∧ MOk s3.2.2.2 s3.2.1 ∧ GNew w nX G_131 s3.2.2.2) (fun s3 => (rTouched (eraM l) (os.getD j oZ).2.2.1).length - s3.1) ((0, l, _, _)) ⟨Nat.zero_le _, rfl, hM, GNew.refl _ _ _⟩ rfl ⟨rfl, rfl, rfl, rfl, rfl, rfl, rfl, rfl, rfl, rfl, trivial⟩ (.keep (fun _ _ h => rowA_nil rfl _ _ h) (.keep (fun _ _ h => h) (.keep (fun _ _ h => h) (.keep (fun _ _ h => h) (.nil))))) (fun s3 hphi => ?_)
                       subst hu_135
                       subst hu_136
                       subst hu_137
                       subst hu_138
                       subst hu_139
                       subst hu_140
                       subst hu_141
                       subst hu_142
                       subst hA_143
                       subst hA_144
                       obtain ⟨i, l3, wv, H3⟩ := s3
                       obtain ⟨hi, he3, hM3, hgn3⟩ := hphi
                       dsimp only at hi he3 hM3 hgn3 ⊢
                       have hkl := rT_len (eraM l) (os.getD j oZ).2.2.1
                       obtain ⟨c', hag⟩ := ha.goT ((rTouched (eraM l) (os.getD j oZ).2.2.1).take i) (os.getD j oZ).2.2.2.1
                       have htl : ((rTouched (eraM l) (os.getD j oZ).2.2.1).take i).length ≤ 8 := by rw [List.length_take]; omega
                       obtain ⟨hh3, hl3⟩ := hag.lh he3 (by omega)
                       have hrl : ((rDone rTake (os.getD j oZ).2.2.2.1 ((rTouched (eraM l) (os.getD j oZ).2.2.1).take i) (eraM l))).1.length ≤ 8 := Nat.le_trans (rDone_len _ _ _ _) htl
                       replace hs := hs.mono hgn3.le
                       replace hfo := FOk.mono hfo hgn3.le
                       replace hM := MOk.mono hM hgn3.le
                       replace R_10 := R_10.mono hgn3.le
                       replace hks := hks.mono hgn3.le
                       refine c_seq ?_
                       refine c_region ?_
                       refine r_val .none rfl (p_lt rfl rfl) ?_
                       refine r_nil ?_
                       refine e_next ?_
                       refine c_seq ?_
                       refine c_splitd (d := 93) rfl (fun h_145 => ?_) (fun h_145 => ?_)
                       ·
                        first
                         | (exfalso; first | omega | assumption)
                         | (
                          refine c_cond_t rfl ?_
                          refine c_skip ?_
                          refine e_next ?_
                          refine c_seq ?_
                          refine c_block ?_
                          refine c_seq ?_
                          refine c_region ?_
                          refine r_iaddr_g .none rfl Try.underlying89 sz60 rfl hks rfl (by first | exact of_decide_eq_true rfl | omega) (fun p_147 o_148 R_146 => ?_)
                          refine r_val .none rfl (p_ldga0 Try.underlying60 rfl sz60 rfl R_146 (by first | exact of_decide_eq_true rfl | omega) (rfl : _ = Value.agg #[_, _, _])) ?_
                          refine r_alloc .none rfl zr60 (IsRow.lit _) (fun b_7 => ?_)
                          refine r_stw (k := 0) .none sz60 rfl rfl (IsRow.lit _) (one_lit rfl rfl) rfl ?_
                          refine r_nil ?_
                          refine e_next ?_
                          refine c_seq ?_
                          refine c_region ?_
                          refine r_val .none rfl (p_field Try.underlying82 rfl sz3 rfl) ?_
                          refine r_val .none rfl (p_ld (k := 3) Try.underlying3 rfl rfl rfl (by first | exact of_decide_eq_true rfl | omega) (rfl : _ = Value.int _ _)) ?_
                          refine r_val .none rfl (p_eq rfl rfl) ?_
                          refine r_val .none rfl (p_move rfl) ?_
                          refine r_splitd (d := 99) rfl (fun h_149 => ?_) (fun h_149 => ?_)
                          ·
                           first
                            | (exfalso; first | omega | assumption)
                            | (
                             refine r_val (.some rfl rfl) rfl (p_move rfl) ?_
                             refine r_val (.some rfl rfl) rfl (p_ldw (k := 0) Try.underlying60 rfl sz60 rfl rfl (rfl : _ = Value.agg #[_, _, _])) ?_
                             refine r_val (.some rfl rfl) rfl (p_field Try.underlying82 rfl sz3 rfl) ?_
                             refine r_val (.some rfl rfl) rfl (p_ld (k := 3) Try.underlying3 rfl rfl rfl (by first | exact of_decide_eq_true rfl | omega) (rfl : _ = Value.int _ _)) ?_
                             refine r_callox (k := 2) (vs := [_, _, _]) (.some rfl rfl) rfl cl41 rfl rfl (fun w F hw hA hFG => c_xput _ ((rTouched (eraM l) (os.getD j oZ).2.2.1).getD i (0, 0, 0)) (os.getD j oZ).2.2.2.1 l3 hM3 (by omega) hh3 w hw hA hFG) (fun G_150 v_153 z_155 hn_151 hr_152 => ?_)
                             replace hs := hs.mono hn_151.le
                             replace hfo := FOk.mono hfo hn_151.le
                             replace hM := MOk.mono hM hn_151.le
                             replace R_10 := R_10.mono hn_151.le
                             replace hks := hks.mono hn_151.le
                             replace hM3 := MOk.mono hM3 hn_151.le
                             replace R_146 := R_146.mono hn_151.le
                             obtain ⟨rfl, u_154e, u_154M⟩ := hr_152
                             refine r_val (.some rfl rfl) rfl (p_eq rfl rfl) ?_
                             refine r_val .none rfl (p_pick_t rfl rfl) ?_
                             refine r_val .none rfl (p_move rfl) ?_
                             refine r_splitd (d := 107) rfl (fun h_156 => ?_) (fun h_156 => ?_)
                             ·
                              have hq : (rTake (rDone rTake (os.getD j oZ).2.2.2.1 ((rTouched (eraM l) (os.getD j oZ).2.2.1).take i) (eraM l)).2 ((rTouched (eraM l) (os.getD j oZ).2.2.1).getD i (0, 0, 0)) (os.getD j oZ).2.2.2.1).1 = 1 := by (rw [← he3]; exact h_156)
                              first
                               | (exfalso; first | omega | assumption)
                               | (
                                refine r_skip rfl (.no rfl rfl) ?_
                                refine r_skip rfl (.no rfl rfl) ?_
                                refine r_skip rfl (.no rfl rfl) ?_
                                refine r_skip rfl (.no rfl rfl) ?_
                                refine r_skip rfl (.un rfl rfl) ?_
                                refine r_skip rfl (.un rfl rfl) ?_
                                refine r_skip rfl (.un rfl rfl) ?_
                                refine r_skip rfl (.un rfl rfl) ?_
                                refine r_skip rfl (.un rfl rfl) ?_
                                refine r_skip rfl (.un rfl rfl) ?_
                                refine r_skip rfl (.no rfl rfl) ?_
                                refine r_val .none rfl (p_pick_t rfl rfl) ?_
                                refine r_nil ?_
                                refine e_next ?_
                                refine c_cond_t rfl ?_
                                refine c_region ?_
                                refine r_val .none rfl (p_move rfl) ?_
                                refine r_val .none rfl (p_ldw (k := 0) Try.underlying60 rfl sz60 rfl rfl (rfl : _ = Value.agg #[_, _, _])) ?_
                                refine r_bslice (vs := [(0, Value.agg #[_, _, _])]) (c := #[_, _, _]) .none rfl Try.underlying89 el60 rfl rfl rfl (bs60_10a3 _ _ _) (IsRow.lit _) (fun b_8 => ?_)
                                refine r_append (k := 2) (k2 := 0) .none rfl Try.underlying89 el60 rfl (by decide) rfl rfl rfl rfl rfl (one_lit rfl rfl) (by simp only [maxLen]; omega) (by omega) (fun v_157 => ?_)
                                refine r_row1 (k := 2) rfl (fun o_158 => ?_)
                                refine r_val .none rfl (p_assign rfl) ?_
                                refine r_nil ?_
                                refine e_norm_block ?_
                                refine e_next ?_
                                refine c_region ?_
                                refine r_val .none rfl (p_add rfl rfl (by omega)) ?_
                                refine r_val .none rfl (p_move rfl) ?_
                                refine r_nil ?_
                                refine e_round ((i + 1, z_155, _, _)) ⟨⟨by dsimp only; omega, by dsimp only; rw [rDone_next (by omega)]; dsimp only; rw [← he3]; exact u_154e, u_154M, (hgn3.trans hn_151)⟩, by dsimp only; omega⟩ rfl ⟨rfl, rfl, rfl, rfl, rfl, rfl, rfl, rfl, rfl, rfl, trivial⟩ (.drop (.drop (.keep (fun _ _ h => by rw [rDone_next (by omega), if_pos hq]; exact rowA_snoc rfl rfl rfl rfl _ _ h) (.keep (fun _ _ h => h) (.keep (fun _ _ h => h) (.keep (fun _ _ h => h) (.nil)))))))
                                )
                             ·
                              skip
                              first
                               | (exfalso; first | omega | assumption)
                               | (
                                refine r_val (.some rfl rfl) rfl (p_field Try.underlying82 rfl sz3 rfl) ?_
                                refine r_val (.some rfl rfl) rfl (p_ld (k := 3) Try.underlying3 rfl rfl rfl (by first | exact of_decide_eq_true rfl | omega) (rfl : _ = Value.int _ _)) ?_
                                refine r_val (.some rfl rfl) rfl (p_eq rfl rfl) ?_
                                refine r_val (.some rfl rfl) rfl (p_move rfl) ?_
                                refine r_splitd (d := 111) rfl (fun h_159 => ?_) (fun h_159 => ?_)
                                ·
                                 first
                                  | (exfalso; first | omega | assumption)
                                  | (
                                   refine r_val (.some rfl rfl) rfl (p_move rfl) ?_
                                   refine r_val (.some rfl rfl) rfl (p_ldw (k := 0) Try.underlying60 rfl sz60 rfl rfl (rfl : _ = Value.agg #[_, _, _])) ?_
                                   refine r_val (.some rfl rfl) rfl (p_field Try.underlying82 rfl sz3 rfl) ?_
                                   refine r_val (.some rfl rfl) rfl (p_ld (k := 3) Try.underlying3 rfl rfl rfl (by first | exact of_decide_eq_true rfl | omega) (rfl : _ = Value.int _ _)) ?_
                                   refine r_callox (k := 2) (vs := [_, _, _]) (.some rfl rfl) rfl cl42 rfl rfl (fun w F hw hA hFG => c_xtake _ ((rTouched (eraM l) (os.getD j oZ).2.2.1).getD i (0, 0, 0)) (os.getD j oZ).2.2.2.1 l3 hM3 (by omega) hh3 w hw hA hFG) (fun G_160 v_163 z_165 hn_161 hr_162 => ?_)
                                   replace hs := hs.mono hn_161.le
                                   replace hfo := FOk.mono hfo hn_161.le
                                   replace hM := MOk.mono hM hn_161.le
                                   replace R_10 := R_10.mono hn_161.le
                                   replace hks := hks.mono hn_161.le
                                   replace hM3 := MOk.mono hM3 hn_161.le
                                   replace R_146 := R_146.mono hn_161.le
                                   replace u_154M := MOk.mono u_154M hn_161.le
                                   obtain ⟨rfl, u_164e, u_164M⟩ := hr_162
                                   refine r_val (.some rfl rfl) rfl (p_eq rfl rfl) ?_
                                   refine r_val (.some rfl rfl) rfl (p_pick_t rfl rfl) ?_
                                   refine r_val .none rfl (p_pick_f rfl rfl) ?_
                                   refine r_nil ?_
                                   refine e_next ?_
                                   refine c_splitd (d := 119) rfl (fun h_166 => ?_) (fun h_166 => ?_)
                                   ·
                                    have hq : (rTake (rDone rTake (os.getD j oZ).2.2.2.1 ((rTouched (eraM l) (os.getD j oZ).2.2.1).take i) (eraM l)).2 ((rTouched (eraM l) (os.getD j oZ).2.2.1).getD i (0, 0, 0)) (os.getD j oZ).2.2.2.1).1 = 1 := by (rw [← he3]; exact h_166)
                                    first
                                     | (exfalso; first | omega | assumption)
                                     | (
                                      refine c_cond_t rfl ?_
                                      refine c_region ?_
                                      refine r_val .none rfl (p_move rfl) ?_
                                      refine r_val .none rfl (p_ldw (k := 0) Try.underlying60 rfl sz60 rfl rfl (rfl : _ = Value.agg #[_, _, _])) ?_
                                      refine r_bslice (vs := [(0, Value.agg #[_, _, _])]) (c := #[_, _, _]) .none rfl Try.underlying89 el60 rfl rfl rfl (bs60_10a3 _ _ _) (IsRow.lit _) (fun b_9 => ?_)
                                      refine r_append (k := 2) (k2 := 0) .none rfl Try.underlying89 el60 rfl (by decide) rfl rfl rfl rfl rfl (one_lit rfl rfl) (by simp only [maxLen]; omega) (by omega) (fun v_167 => ?_)
                                      refine r_row1 (k := 2) rfl (fun o_168 => ?_)
                                      refine r_val .none rfl (p_assign rfl) ?_
                                      refine r_nil ?_
                                      refine e_norm_block ?_
                                      refine e_next ?_
                                      refine c_region ?_
                                      refine r_val .none rfl (p_add rfl rfl (by omega)) ?_
                                      refine r_val .none rfl (p_move rfl) ?_
                                      refine r_nil ?_
                                      refine e_round ((i + 1, z_165, _, _)) ⟨⟨by dsimp only; omega, by dsimp only; rw [rDone_next (by omega)]; dsimp only; rw [← he3]; exact u_164e, u_164M, ((hgn3.trans hn_151).trans hn_161)⟩, by dsimp only; omega⟩ rfl ⟨rfl, rfl, rfl, rfl, rfl, rfl, rfl, rfl, rfl, rfl, trivial⟩ (.drop (.drop (.keep (fun _ _ h => by rw [rDone_next (by omega), if_pos hq]; exact rowA_snoc rfl rfl rfl rfl _ _ h) (.keep (fun _ _ h => h) (.keep (fun _ _ h => h) (.keep (fun _ _ h => h) (.nil)))))))
                                      )
                                   ·
                                    have hq : ¬ (rTake (rDone rTake (os.getD j oZ).2.2.2.1 ((rTouched (eraM l) (os.getD j oZ).2.2.1).take i) (eraM l)).2 ((rTouched (eraM l) (os.getD j oZ).2.2.1).getD i (0, 0, 0)) (os.getD j oZ).2.2.2.1).1 = 1 := by (rw [← he3]; exact h_166)
                                    first
                                     | (exfalso; first | omega | assumption)
                                     | (
                                      refine c_cond_f rfl ?_
                                      refine c_skip ?_
                                      refine e_norm_block ?_
                                      refine e_next ?_
                                      refine c_region ?_
                                      refine r_val .none rfl (p_add rfl rfl (by omega)) ?_
                                      refine r_val .none rfl (p_move rfl) ?_
                                      refine r_nil ?_
                                      refine e_round ((i + 1, z_165, _, _)) ⟨⟨by dsimp only; omega, by dsimp only; rw [rDone_next (by omega)]; dsimp only; rw [← he3]; exact u_164e, u_164M, ((hgn3.trans hn_151).trans hn_161)⟩, by dsimp only; omega⟩ rfl ⟨rfl, rfl, rfl, rfl, rfl, rfl, rfl, rfl, rfl, rfl, trivial⟩ (.drop (.keep (fun _ _ h => by rw [rDone_next (by omega), if_neg hq]; exact h) (.keep (fun _ _ h => h) (.keep (fun _ _ h => h) (.keep (fun _ _ h => h) (.nil))))))
                                      )
                                   )
                                ·
                                 first
                                  | (exfalso; first | omega | assumption)
                                  | (
                                   refine r_skip rfl (.no rfl rfl) ?_
                                   refine r_skip rfl (.no rfl rfl) ?_
                                   refine r_skip rfl (.no rfl rfl) ?_
                                   refine r_skip rfl (.no rfl rfl) ?_
                                   refine r_skip rfl (.no rfl rfl) ?_
                                   refine r_skip rfl (.no rfl rfl) ?_
                                   refine r_val (.some rfl rfl) rfl (p_pick_f rfl rfl) ?_
                                   refine r_val .none rfl (p_pick_f rfl rfl) ?_
                                   refine r_nil ?_
                                   refine e_next ?_
                                   refine c_cond_f rfl ?_
                                   refine c_skip ?_
                                   refine e_norm_block ?_
                                   refine e_next ?_
                                   refine c_region ?_
                                   refine r_val .none rfl (p_add rfl rfl (by omega)) ?_
                                   refine r_val .none rfl (p_move rfl) ?_
                                   refine r_nil ?_
                                   refine e_round ((i + 1, z_155, _, _)) ⟨⟨by dsimp only; omega, by dsimp only; rw [rDone_next (by omega)]; dsimp only; rw [← he3]; exact u_154e, u_154M, (hgn3.trans hn_151)⟩, by dsimp only; omega⟩ rfl ⟨rfl, rfl, rfl, rfl, rfl, rfl, rfl, rfl, rfl, rfl, trivial⟩ (.drop (.keep (fun _ _ h => by rw [rDone_next (by omega), if_neg hq]; exact h) (.keep (fun _ _ h => h) (.keep (fun _ _ h => h) (.keep (fun _ _ h => h) (.nil))))))
                                   )
                                )
                             )
                          ·
                           first
                            | (exfalso; first | omega | assumption)
                            | (
                             refine r_skip rfl (.no rfl rfl) ?_
                             refine r_skip rfl (.no rfl rfl) ?_
                             refine r_skip rfl (.no rfl rfl) ?_
                             refine r_skip rfl (.no rfl rfl) ?_
                             refine r_skip rfl (.no rfl rfl) ?_
                             refine r_skip rfl (.no rfl rfl) ?_
                             refine r_val .none rfl (p_pick_f rfl rfl) ?_
                             refine r_val .none rfl (p_move rfl) ?_
                             refine r_val (.some rfl rfl) rfl (p_field Try.underlying82 rfl sz3 rfl) ?_
                             refine r_val (.some rfl rfl) rfl (p_ld (k := 3) Try.underlying3 rfl rfl rfl (by first | exact of_decide_eq_true rfl | omega) (rfl : _ = Value.int _ _)) ?_
                             refine r_val (.some rfl rfl) rfl (p_eq rfl rfl) ?_
                             refine r_val (.some rfl rfl) rfl (p_move rfl) ?_
                             refine r_splitd (d := 111) rfl (fun h_169 => ?_) (fun h_169 => ?_)
                             ·
                              first
                               | (exfalso; first | omega | assumption)
                               | (
                                refine r_val (.some rfl rfl) rfl (p_move rfl) ?_
                                refine r_val (.some rfl rfl) rfl (p_ldw (k := 0) Try.underlying60 rfl sz60 rfl rfl (rfl : _ = Value.agg #[_, _, _])) ?_
                                refine r_val (.some rfl rfl) rfl (p_field Try.underlying82 rfl sz3 rfl) ?_
                                refine r_val (.some rfl rfl) rfl (p_ld (k := 3) Try.underlying3 rfl rfl rfl (by first | exact of_decide_eq_true rfl | omega) (rfl : _ = Value.int _ _)) ?_
                                refine r_callox (k := 2) (vs := [_, _, _]) (.some rfl rfl) rfl cl42 rfl rfl (fun w F hw hA hFG => c_xtake _ ((rTouched (eraM l) (os.getD j oZ).2.2.1).getD i (0, 0, 0)) (os.getD j oZ).2.2.2.1 l3 hM3 (by omega) hh3 w hw hA hFG) (fun G_170 v_173 z_175 hn_171 hr_172 => ?_)
                                replace hs := hs.mono hn_171.le
                                replace hfo := FOk.mono hfo hn_171.le
                                replace hM := MOk.mono hM hn_171.le
                                replace R_10 := R_10.mono hn_171.le
                                replace hks := hks.mono hn_171.le
                                replace hM3 := MOk.mono hM3 hn_171.le
                                replace R_146 := R_146.mono hn_171.le
                                obtain ⟨rfl, u_174e, u_174M⟩ := hr_172
                                refine r_val (.some rfl rfl) rfl (p_eq rfl rfl) ?_
                                refine r_val (.some rfl rfl) rfl (p_pick_t rfl rfl) ?_
                                refine r_val .none rfl (p_pick_f rfl rfl) ?_
                                refine r_nil ?_
                                refine e_next ?_
                                refine c_splitd (d := 119) rfl (fun h_176 => ?_) (fun h_176 => ?_)
                                ·
                                 have hq : (rTake (rDone rTake (os.getD j oZ).2.2.2.1 ((rTouched (eraM l) (os.getD j oZ).2.2.1).take i) (eraM l)).2 ((rTouched (eraM l) (os.getD j oZ).2.2.1).getD i (0, 0, 0)) (os.getD j oZ).2.2.2.1).1 = 1 := by (rw [← he3]; exact h_176)
                                 first
                                  | (exfalso; first | omega | assumption)
                                  | (
                                   refine c_cond_t rfl ?_
                                   refine c_region ?_
                                   refine r_val .none rfl (p_move rfl) ?_
                                   refine r_val .none rfl (p_ldw (k := 0) Try.underlying60 rfl sz60 rfl rfl (rfl : _ = Value.agg #[_, _, _])) ?_
                                   refine r_bslice (vs := [(0, Value.agg #[_, _, _])]) (c := #[_, _, _]) .none rfl Try.underlying89 el60 rfl rfl rfl (bs60_10a3 _ _ _) (IsRow.lit _) (fun b_10 => ?_)
                                   refine r_append (k := 2) (k2 := 0) .none rfl Try.underlying89 el60 rfl (by decide) rfl rfl rfl rfl rfl (one_lit rfl rfl) (by simp only [maxLen]; omega) (by omega) (fun v_177 => ?_)
                                   refine r_row1 (k := 2) rfl (fun o_178 => ?_)
                                   refine r_val .none rfl (p_assign rfl) ?_
                                   refine r_nil ?_
                                   refine e_norm_block ?_
                                   refine e_next ?_
                                   refine c_region ?_
                                   refine r_val .none rfl (p_add rfl rfl (by omega)) ?_
                                   refine r_val .none rfl (p_move rfl) ?_
                                   refine r_nil ?_
                                   refine e_round ((i + 1, z_175, _, _)) ⟨⟨by dsimp only; omega, by dsimp only; rw [rDone_next (by omega)]; dsimp only; rw [← he3]; exact u_174e, u_174M, (hgn3.trans hn_171)⟩, by dsimp only; omega⟩ rfl ⟨rfl, rfl, rfl, rfl, rfl, rfl, rfl, rfl, rfl, rfl, trivial⟩ (.drop (.drop (.keep (fun _ _ h => by rw [rDone_next (by omega), if_pos hq]; exact rowA_snoc rfl rfl rfl rfl _ _ h) (.keep (fun _ _ h => h) (.keep (fun _ _ h => h) (.keep (fun _ _ h => h) (.nil)))))))
                                   )
                                ·
                                 have hq : ¬ (rTake (rDone rTake (os.getD j oZ).2.2.2.1 ((rTouched (eraM l) (os.getD j oZ).2.2.1).take i) (eraM l)).2 ((rTouched (eraM l) (os.getD j oZ).2.2.1).getD i (0, 0, 0)) (os.getD j oZ).2.2.2.1).1 = 1 := by (rw [← he3]; exact h_176)
                                 first
                                  | (exfalso; first | omega | assumption)
                                  | (
                                   refine c_cond_f rfl ?_
                                   refine c_skip ?_
                                   refine e_norm_block ?_
                                   refine e_next ?_
                                   refine c_region ?_
                                   refine r_val .none rfl (p_add rfl rfl (by omega)) ?_
                                   refine r_val .none rfl (p_move rfl) ?_
                                   refine r_nil ?_
                                   refine e_round ((i + 1, z_175, _, _)) ⟨⟨by dsimp only; omega, by dsimp only; rw [rDone_next (by omega)]; dsimp only; rw [← he3]; exact u_174e, u_174M, (hgn3.trans hn_171)⟩, by dsimp only; omega⟩ rfl ⟨rfl, rfl, rfl, rfl, rfl, rfl, rfl, rfl, rfl, rfl, trivial⟩ (.drop (.keep (fun _ _ h => by rw [rDone_next (by omega), if_neg hq]; exact h) (.keep (fun _ _ h => h) (.keep (fun _ _ h => h) (.keep (fun _ _ h => h) (.nil))))))
                                   )
                                )
                             ·
                              first
                               | (exfalso; first | omega | assumption)
                               | (
                                refine r_skip rfl (.no rfl rfl) ?_
                                refine r_skip rfl (.no rfl rfl) ?_
                                refine r_skip rfl (.no rfl rfl) ?_
                                refine r_skip rfl (.no rfl rfl) ?_
                                refine r_skip rfl (.no rfl rfl) ?_
                                refine r_skip rfl (.no rfl rfl) ?_
                                refine r_val (.some rfl rfl) rfl (p_pick_f rfl rfl) ?_
                                refine r_val .none rfl (p_pick_f rfl rfl) ?_
                                refine r_nil ?_
                                refine e_next ?_
                                refine c_cond_f rfl ?_
                                refine c_skip ?_
                                refine e_norm_block ?_
                                refine e_next ?_
                                refine c_region ?_
                                refine r_val .none rfl (p_add rfl rfl (by omega)) ?_
                                refine r_val .none rfl (p_move rfl) ?_
                                refine r_nil ?_
                                refine e_round ((i + 1, l3, _, _)) ⟨⟨by dsimp only; omega, by dsimp only; rw [rDone_next (by omega)]; dsimp only; rw [← he3]; exact e, M, hgn3⟩, by dsimp only; omega⟩ rfl ⟨rfl, rfl, rfl, rfl, rfl, rfl, rfl, rfl, rfl, rfl, trivial⟩ (.drop (.keep (fun _ _ h => by rw [rDone_next (by omega), if_neg hq]; exact h) (.keep (fun _ _ h => h) (.keep (fun _ _ h => h) (.keep (fun _ _ h => h) (.nil))))))
                                )
                             )
                          )
                       ·
                        first
                         | (exfalso; first | omega | assumption)
                         | (
                          refine c_cond_f rfl ?_
                          refine c_exit ?_
                          refine e_exit_then ?_
                          refine e_exit_then ?_
                          refine e_exit_block ?_
                          refine e_next ?_
                          refine c_seq ?_
                          refine c_seq ?_
                          refine c_region ?_
                          refine r_val .none rfl (p_field Try.underlying82 rfl sz3 rfl) ?_
                          refine r_val .none rfl (p_ld (k := 2) Try.underlying3 rfl rfl rfl (by first | exact of_decide_eq_true rfl | omega) (rfl : _ = Value.int _ _)) ?_
                          refine r_val .none rfl (p_eq rfl rfl) ?_
                          refine r_nil ?_
                          refine e_next ?_
                          refine c_splitd (d := 127) rfl (fun h_179 => ?_) (fun h_179 => ?_)
                          ·
                           first
                            | (exfalso; first | omega | assumption)
                            | (
                             refine c_cond_t rfl ?_
                             refine c_region ?_
                             refine r_val .none rfl (p_move rfl) ?_
                             refine r_val .none rfl (p_field Try.underlying82 rfl sz3 rfl) ?_
                             refine r_val .none rfl (p_ld (k := 2) Try.underlying3 rfl rfl rfl (by first | exact of_decide_eq_true rfl | omega) (rfl : _ = Value.int _ _)) ?_
                             refine r_val .none rfl (p_field Try.underlying82 rfl sz61 rfl) ?_
                             refine r_val .none rfl (p_lda (k := 2) Try.underlying61 rfl sz61 rfl rfl (by first | exact of_decide_eq_true rfl | omega) (rfl : _ = Value.agg #[_, _, _])) ?_
                             refine r_val .none rfl (p_build (vs := [(0, Value.int _ _), (1, Value.agg #[_, _, _])]) rfl (bl66_0i1_1a3 _ _ _ _)) ?_
                             refine r_front (k := 3) rfl ?_
                             refine r_callor (k := 0) (vs := [_, _]) .none rfl cl29 rfl rfl (fun w F hw hA hFG => c_sadd _ ((os.getD j oZ).2.2.2.1, (os.getD j oZ).2.2.1) u t c w hw hA hFG) (fun r_180 => ?_)
                             refine r_unpack ?_
                             refine r_freeze (k := 0) rfl (fun G_181 hn_182 hs_183 => ?_)
                             replace hs := hs.mono hn_182.le
                             replace hfo := FOk.mono hfo hn_182.le
                             replace hM := MOk.mono hM hn_182.le
                             replace R_10 := R_10.mono hn_182.le
                             replace hks := hks.mono hn_182.le
                             replace hM3 := MOk.mono hM3 hn_182.le
                             have hg1 : SlL G_181 r_180 3 triL (0, 0, 0) ((doneC takeC u c ((os.getD j oZ).2.2.2.1, (os.getD j oZ).2.2.1)).1) := SlL.of (cells := triL) (0, 0, 0) (fun _ => rfl) rfl hs_183
                             have hd4 := ha.doneP (os.getD j oZ).2.2.1 (wok_get hwo j).1
                             refine r_val .none rfl (p_assign rfl) ?_
                             refine r_nil ?_
                             refine e_next ?_
                             refine c_seq ?_
                             refine c_region ?_
                             refine r_front (k := 1) rfl ?_
                             have htk : (rTouched (eraM l) (os.getD j oZ).2.2.1).take i = (rTouched (eraM l) (os.getD j oZ).2.2.1) := List.take_of_length_le (by omega)
                             refine r_freeze (k := 0) rfl (fun G_184 hn_185 hs_186 => ?_)
                             replace hs := hs.mono hn_185.le
                             replace hfo := FOk.mono hfo hn_185.le
                             replace hM := MOk.mono hM hn_185.le
                             replace R_10 := R_10.mono hn_185.le
                             replace hks := hks.mono hn_185.le
                             replace hM3 := MOk.mono hM3 hn_185.le
                             replace hg1 := hg1.mono hn_185.le
                             have hg2 : SlL G_184 wv 3 triL (0, 0, 0) (rDone rTake (os.getD j oZ).2.2.2.1 (rTouched (eraM l) (os.getD j oZ).2.2.1) (eraM l)).1 := SlL.of2 (cells := triL) (0, 0, 0) (fun _ => rfl) (by rw [htk]) (by rw [htk]) hs_186
                             refine r_val .none rfl (p_move rfl) ?_
                             refine r_val .none rfl (p_move rfl) ?_
                             refine r_call (vs := [_, _]) .none rfl cl43 rfl (fun w hw => c_keys12 _ _ _ _ hg1 hg2 w hw) ?_
                             refine r_say (d := 144) (v := Value.bool true) (congrArg (fun z => some (Value.bool z)) (decide_eq_true hd4.2)) ?_
                             refine r_val .none rfl (p_not rfl) ?_
                             refine r_say (d := 145) (v := Value.bool false) rfl ?_
                             refine r_nil ?_
                             refine e_next ?_
                             refine c_cond_f rfl ?_
                             refine c_skip ?_
                             refine e_norm_block ?_
                             refine e_front (k := 1) rfl ?_
                             refine e_front (k := 2) rfl ?_
                             refine e_round ((u, t, (doneC takeC u c ((os.getD j oZ).2.2.2.1, (os.getD j oZ).2.2.1)).2, l3, _)) ⟨⟨⟨by dsimp only; rw [he3, htk]; exact hd4.1.grow (by omega) (by omega), by dsimp only; omega, hM3⟩, (((hn_132.trans hgn3).trans hn_182).trans hn_185)⟩, trivial⟩ rfl ⟨rfl, rfl, rfl, rfl, rfl, rfl, trivial⟩ (.keep (fun _ _ h => h) (.keep (fun _ _ h => h) (.keep (fun _ _ h => h) (.nil))))
                             )
                          ·
                           first
                            | (exfalso; first | omega | assumption)
                            | (
                             refine c_cond_f rfl ?_
                             refine c_region ?_
                             refine r_val .none rfl (p_move rfl) ?_
                             refine r_val .none rfl (p_field Try.underlying82 rfl sz3 rfl) ?_
                             refine r_val .none rfl (p_ld (k := 2) Try.underlying3 rfl rfl rfl (by first | exact of_decide_eq_true rfl | omega) (rfl : _ = Value.int _ _)) ?_
                             refine r_val .none rfl (p_field Try.underlying82 rfl sz61 rfl) ?_
                             refine r_val .none rfl (p_lda (k := 2) Try.underlying61 rfl sz61 rfl rfl (by first | exact of_decide_eq_true rfl | omega) (rfl : _ = Value.agg #[_, _, _])) ?_
                             refine r_val .none rfl (p_build (vs := [(0, Value.int _ _), (1, Value.agg #[_, _, _])]) rfl (bl66_0i1_1a3 _ _ _ _)) ?_
                             refine r_front (k := 3) rfl ?_
                             refine r_callor (k := 0) (vs := [_, _]) .none rfl cl30 rfl rfl (fun w F hw hA hFG => c_sremove _ ((os.getD j oZ).2.2.2.1, (os.getD j oZ).2.2.1) u t c w hw hA hFG) (fun r_187 => ?_)
                             refine r_unpack ?_
                             refine r_freeze (k := 0) rfl (fun G_188 hn_189 hs_190 => ?_)
                             replace hs := hs.mono hn_189.le
                             replace hfo := FOk.mono hfo hn_189.le
                             replace hM := MOk.mono hM hn_189.le
                             replace R_10 := R_10.mono hn_189.le
                             replace hks := hks.mono hn_189.le
                             replace hM3 := MOk.mono hM3 hn_189.le
                             have hg1 : SlL G_188 r_187 3 triL (0, 0, 0) ((doneC takeC u c ((os.getD j oZ).2.2.2.1, (os.getD j oZ).2.2.1)).1) := SlL.of (cells := triL) (0, 0, 0) (fun _ => rfl) rfl hs_190
                             have hd4 := ha.doneT (os.getD j oZ).2.2.1 (os.getD j oZ).2.2.2.1
                             refine r_val .none rfl (p_assign rfl) ?_
                             refine r_nil ?_
                             refine e_next ?_
                             refine c_seq ?_
                             refine c_region ?_
                             refine r_front (k := 1) rfl ?_
                             have htk : (rTouched (eraM l) (os.getD j oZ).2.2.1).take i = (rTouched (eraM l) (os.getD j oZ).2.2.1) := List.take_of_length_le (by omega)
                             refine r_freeze (k := 0) rfl (fun G_191 hn_192 hs_193 => ?_)
                             replace hs := hs.mono hn_192.le
                             replace hfo := FOk.mono hfo hn_192.le
                             replace hM := MOk.mono hM hn_192.le
                             replace R_10 := R_10.mono hn_192.le
                             replace hks := hks.mono hn_192.le
                             replace hM3 := MOk.mono hM3 hn_192.le
                             replace hg1 := hg1.mono hn_192.le
                             have hg2 : SlL G_191 wv 3 triL (0, 0, 0) (rDone rTake (os.getD j oZ).2.2.2.1 (rTouched (eraM l) (os.getD j oZ).2.2.1) (eraM l)).1 := SlL.of2 (cells := triL) (0, 0, 0) (fun _ => rfl) (by rw [htk]) (by rw [htk]) hs_193
                             refine r_val .none rfl (p_move rfl) ?_
                             refine r_val .none rfl (p_move rfl) ?_
                             refine r_call (vs := [_, _]) .none rfl cl43 rfl (fun w hw => c_keys12 _ _ _ _ hg1 hg2 w hw) ?_
                             refine r_say (d := 144) (v := Value.bool true) (congrArg (fun z => some (Value.bool z)) (decide_eq_true hd4.2)) ?_
                             refine r_val .none rfl (p_not rfl) ?_
                             refine r_say (d := 145) (v := Value.bool false) rfl ?_
                             refine r_nil ?_
                             refine e_next ?_
                             refine c_cond_f rfl ?_
                             refine c_skip ?_
                             refine e_norm_block ?_
                             refine e_front (k := 1) rfl ?_
                             refine e_front (k := 2) rfl ?_
                             refine e_round ((u, t, (doneC takeC u c ((os.getD j oZ).2.2.2.1, (os.getD j oZ).2.2.1)).2, l3, _)) ⟨⟨⟨by dsimp only; rw [he3, htk]; exact hd4.1.grow (by omega) (by omega), by dsimp only; omega, hM3⟩, (((hn_132.trans hgn3).trans hn_189).trans hn_192)⟩, trivial⟩ rfl ⟨rfl, rfl, rfl, rfl, rfl, rfl, trivial⟩ (.keep (fun _ _ h => h) (.keep (fun _ _ h => h) (.keep (fun _ _ h => h) (.nil))))
                             )
                          )
                       )
                    ·
                     skip
                     first
                      | (exfalso; first | omega | assumption)
                      | (
                       refine c_cond_f rfl ?_
                       refine c_seq ?_
                       refine c_region ?_
                       refine r_val .none rfl (p_eq rfl rfl) ?_
                       refine r_val .none rfl (p_assign rfl) ?_
                       refine r_nil ?_
                       refine e_next ?_
                       refine c_splitd (d := 146) rfl (fun h_194 => ?_) (fun h_194 => ?_)
                       ·
                        skip
                        first
                         | (exfalso; first | omega | assumption)
                         | (
                          refine c_cond_t rfl ?_
                          refine c_seq ?_
                          refine c_region_d (fun _ => false) _ mixed (.keep (fun _ _ h => h) (.drop (.drop (.nil)))) ?_
                          refine d_val1 0 rfl rfl (by kernel_rfl) (fun _ _ => rfl) .none rfl (p_move rfl) ?_
                          refine d_val1 1 rfl rfl (by kernel_rfl) (fun _ _ => rfl) .none rfl (p_field Try.underlying82 rfl sz61 rfl) ?_
                          refine d_val1 2 rfl rfl (by kernel_rfl) (fun _ _ => rfl) .none rfl (p_lda (k := 0) Try.underlying61 rfl sz61 rfl rfl (by first | exact of_decide_eq_true rfl | omega) (rfl : _ = Value.agg #[_, _, _])) ?_
                          refine d_val1 3 rfl rfl (by kernel_rfl) (fun _ _ => rfl) .none rfl (p_field Try.underlying82 rfl sz3 rfl) ?_
                          refine d_val1 4 rfl rfl (by kernel_rfl) (fun _ _ => rfl) .none rfl (p_ld (k := 0) Try.underlying3 rfl rfl rfl (by first | exact of_decide_eq_true rfl | omega) (rfl : _ = Value.int _ _)) ?_
                          refine d_val1 7 rfl rfl (by kernel_rfl) (fun _ _ => rfl) .none rfl (p_move rfl) ?_
                          refine d_val1 8 rfl rfl (by kernel_rfl) (fun _ _ => rfl) .none rfl (p_field Try.underlying82 rfl sz61 rfl) ?_
                          refine d_val1 9 rfl rfl (by kernel_rfl) (fun _ _ => rfl) .none rfl (p_lda (k := 0) Try.underlying61 rfl sz61 rfl rfl (by first | exact of_decide_eq_true rfl | omega) (rfl : _ = Value.agg #[_, _, _])) ?_
                          refine d_val1 10 rfl rfl (by kernel_rfl) (fun _ _ => rfl) .none rfl (p_field Try.underlying82 rfl sz3 rfl) ?_
                          refine d_val1 11 rfl rfl (by kernel_rfl) (fun _ _ => rfl) .none rfl (p_ld (k := 0) Try.underlying3 rfl rfl rfl (by first | exact of_decide_eq_true rfl | omega) (rfl : _ = Value.int _ _)) ?_
                          refine d_eff 5 rfl (by kernel_rfl) (fun K_195 hKK_195 hcK_195 => ?_)
                          refine r_callo (k := 2) (vs := [_, _, _]) .none rfl cl45 rfl rfl (fun w F hw hA hFG => c_sput _ (os.getD j oZ).2.1 (os.getD j oZ).2.2.2.1 u t c w hw hA hFG) ?_
                          refine r_nil (e_d (i := 5) (brk := (fun _ => false)) (ph' := true) hKK_195 hcK_195 rfl (fun _ => GLe.refl _) (fun _ => .keep (fun _ _ h => h) (.drop (.drop (.nil)))) ?_)
                          clear hKK_195 hcK_195 K_195
                          have hd5 := ha.put (os.getD j oZ).2.1 (wok_get hwo j).1
                          refine d_eff 6 rfl (by kernel_rfl) (fun K_196 hKK_196 hcK_196 => ?_)
                          refine r_call (vs := [_]) .none rfl cl44 rfl (fun w hw => c_one12 _ w) ?_
                          refine r_nil (e_d (i := 6) (brk := (fun _ => false)) (ph' := true) hKK_196 hcK_196 rfl (fun _ => GLe.refl _) (fun _ => .keep (fun _ _ h => h) (.drop (.drop (.nil)))) ?_)
                          clear hKK_196 hcK_196 K_196
                          refine d_eff 12 rfl (by kernel_rfl) (fun K_197 hKK_197 hcK_197 => ?_)
                          refine r_callox (k := 1) (vs := [_, _, _]) .none rfl cl41 rfl rfl (fun w F hw hA hFG => c_xput _ (os.getD j oZ).2.1 (os.getD j oZ).2.2.2.1 l hM hll hhl w hw hA hFG) (fun G_198 v_201 z_203 hn_199 hr_200 => ?_)
                          replace hs := hs.mono hn_199.le
                          replace hfo := FOk.mono hfo hn_199.le
                          replace hM := MOk.mono hM hn_199.le
                          replace R_10 := R_10.mono hn_199.le
                          obtain ⟨rfl, u_202e, u_202M⟩ := hr_200
                          refine r_nil (e_d (i := 12) (brk := (fun _ => false)) (ph' := true) hKK_197 hcK_197 rfl (fun _ => hn_199.le) (fun _ => .keep (fun _ _ h => h) (.drop (.drop (.nil)))) ?_)
                          clear hKK_197 hcK_197 K_197
                          refine d_val1 13 rfl rfl (by kernel_rfl) (fun _ _ => rfl) .none rfl (p_ne rfl rfl) ?_
                          refine d_say (d := 161) (v := Value.bool false) (congrArg (fun z => some (Value.bool z)) (decide_eq_false (fun h9 => h9 hd5.2))) ?_
                          refine d_nil (by kernel_rfl) ?_
                          refine e_next ?_
                          refine c_cond_f rfl ?_
                          refine c_skip ?_
                          refine e_norm_block ?_
                          refine e_front (k := 2) rfl ?_
                          refine e_front (k := 2) rfl ?_
                          refine e_front (k := 2) rfl ?_
                          refine e_round ((u, t, (putC c (os.getD j oZ).2.1 (os.getD j oZ).2.2.2.1).2, z_203, _)) ⟨⟨⟨by dsimp only; rw [u_202e]; exact hd5.1.grow (by omega) (by omega), by dsimp only; omega, u_202M⟩, hn_199⟩, trivial⟩ rfl ⟨rfl, rfl, rfl, rfl, rfl, rfl, trivial⟩ (.keep (fun _ _ h => h) (.keep (fun _ _ h => h) (.keep (fun _ _ h => h) (.nil))))
                          )
                       ·
                        first
                         | (exfalso; first | omega | assumption)
                         | (
                          refine c_cond_f rfl ?_
                          refine c_seq ?_
                          refine c_region ?_
                          refine r_val .none rfl (p_eq rfl rfl) ?_
                          refine r_val .none rfl (p_assign rfl) ?_
                          refine r_nil ?_
                          refine e_next ?_
                          refine c_splitd (d := 162) rfl (fun h_204 => ?_) (fun h_204 => ?_)
                          ·
                           skip
                           first
                            | (exfalso; first | omega | assumption)
                            | (
                             refine c_cond_t rfl ?_
                             refine c_seq ?_
                             refine c_region_d (fun _ => false) _ mixed (.keep (fun _ _ h => h) (.drop (.drop (.nil)))) ?_
                             refine d_val1 0 rfl rfl (by kernel_rfl) (fun _ _ => rfl) .none rfl (p_move rfl) ?_
                             refine d_val1 1 rfl rfl (by kernel_rfl) (fun _ _ => rfl) .none rfl (p_field Try.underlying82 rfl sz61 rfl) ?_
                             refine d_val1 2 rfl rfl (by kernel_rfl) (fun _ _ => rfl) .none rfl (p_lda (k := 0) Try.underlying61 rfl sz61 rfl rfl (by first | exact of_decide_eq_true rfl | omega) (rfl : _ = Value.agg #[_, _, _])) ?_
                             refine d_val1 3 rfl rfl (by kernel_rfl) (fun _ _ => rfl) .none rfl (p_field Try.underlying82 rfl sz3 rfl) ?_
                             refine d_val1 4 rfl rfl (by kernel_rfl) (fun _ _ => rfl) .none rfl (p_ld (k := 0) Try.underlying3 rfl rfl rfl (by first | exact of_decide_eq_true rfl | omega) (rfl : _ = Value.int _ _)) ?_
                             refine d_val1 7 rfl rfl (by kernel_rfl) (fun _ _ => rfl) .none rfl (p_move rfl) ?_
                             refine d_val1 8 rfl rfl (by kernel_rfl) (fun _ _ => rfl) .none rfl (p_field Try.underlying82 rfl sz61 rfl) ?_
                             refine d_val1 9 rfl rfl (by kernel_rfl) (fun _ _ => rfl) .none rfl (p_lda (k := 0) Try.underlying61 rfl sz61 rfl rfl (by first | exact of_decide_eq_true rfl | omega) (rfl : _ = Value.agg #[_, _, _])) ?_
                             refine d_val1 10 rfl rfl (by kernel_rfl) (fun _ _ => rfl) .none rfl (p_field Try.underlying82 rfl sz3 rfl) ?_
                             refine d_val1 11 rfl rfl (by kernel_rfl) (fun _ _ => rfl) .none rfl (p_ld (k := 0) Try.underlying3 rfl rfl rfl (by first | exact of_decide_eq_true rfl | omega) (rfl : _ = Value.int _ _)) ?_
                             refine d_eff 5 rfl (by kernel_rfl) (fun K_205 hKK_205 hcK_205 => ?_)
                             refine r_callo (k := 2) (vs := [_, _, _]) .none rfl cl46 rfl rfl (fun w F hw hA hFG => c_stake _ (os.getD j oZ).2.1 (os.getD j oZ).2.2.2.1 u t c w hw hA hFG) ?_
                             refine r_nil (e_d (i := 5) (brk := (fun _ => false)) (ph' := true) hKK_205 hcK_205 rfl (fun _ => GLe.refl _) (fun _ => .keep (fun _ _ h => h) (.drop (.drop (.nil)))) ?_)
                             clear hKK_205 hcK_205 K_205
                             have hd5 := ha.take (os.getD j oZ).2.1 (os.getD j oZ).2.2.2.1
                             refine d_eff 6 rfl (by kernel_rfl) (fun K_206 hKK_206 hcK_206 => ?_)
                             refine r_call (vs := [_]) .none rfl cl44 rfl (fun w hw => c_one12 _ w) ?_
                             refine r_nil (e_d (i := 6) (brk := (fun _ => false)) (ph' := true) hKK_206 hcK_206 rfl (fun _ => GLe.refl _) (fun _ => .keep (fun _ _ h => h) (.drop (.drop (.nil)))) ?_)
                             clear hKK_206 hcK_206 K_206
                             refine d_eff 12 rfl (by kernel_rfl) (fun K_207 hKK_207 hcK_207 => ?_)
                             refine r_callox (k := 1) (vs := [_, _, _]) .none rfl cl42 rfl rfl (fun w F hw hA hFG => c_xtake _ (os.getD j oZ).2.1 (os.getD j oZ).2.2.2.1 l hM hll hhl w hw hA hFG) (fun G_208 v_211 z_213 hn_209 hr_210 => ?_)
                             replace hs := hs.mono hn_209.le
                             replace hfo := FOk.mono hfo hn_209.le
                             replace hM := MOk.mono hM hn_209.le
                             replace R_10 := R_10.mono hn_209.le
                             obtain ⟨rfl, u_212e, u_212M⟩ := hr_210
                             refine r_nil (e_d (i := 12) (brk := (fun _ => false)) (ph' := true) hKK_207 hcK_207 rfl (fun _ => hn_209.le) (fun _ => .keep (fun _ _ h => h) (.drop (.drop (.nil)))) ?_)
                             clear hKK_207 hcK_207 K_207
                             refine d_val1 13 rfl rfl (by kernel_rfl) (fun _ _ => rfl) .none rfl (p_ne rfl rfl) ?_
                             refine d_say (d := 177) (v := Value.bool false) (congrArg (fun z => some (Value.bool z)) (decide_eq_false (fun h9 => h9 hd5.2))) ?_
                             refine d_nil (by kernel_rfl) ?_
                             refine e_next ?_
                             refine c_cond_f rfl ?_
                             refine c_skip ?_
                             refine e_norm_block ?_
                             refine e_front (k := 2) rfl ?_
                             refine e_front (k := 2) rfl ?_
                             refine e_front (k := 2) rfl ?_
                             refine e_round ((u, t, (takeC c (os.getD j oZ).2.1 (os.getD j oZ).2.2.2.1).2, z_213, _)) ⟨⟨⟨by dsimp only; rw [u_212e]; exact hd5.1.grow (by omega) (by omega), by dsimp only; omega, u_212M⟩, hn_209⟩, trivial⟩ rfl ⟨rfl, rfl, rfl, rfl, rfl, rfl, trivial⟩ (.keep (fun _ _ h => h) (.keep (fun _ _ h => h) (.keep (fun _ _ h => h) (.nil))))
                             )
                          ·
                           first
                            | (exfalso; first | omega | assumption)
                            | (
                             refine c_cond_f rfl ?_
                             refine c_skip ?_
                             refine e_norm_block ?_
                             refine e_front (k := 2) rfl ?_
                             refine e_front (k := 2) rfl ?_
                             refine e_front (k := 2) rfl ?_
                             refine e_round ((u, t, c, l, _)) ⟨⟨⟨ha.grow (by omega) (by omega), by dsimp only; omega, hM⟩, (GNew.refl _ _ _)⟩, trivial⟩ rfl ⟨rfl, rfl, rfl, rfl, rfl, rfl, trivial⟩ (.keep (fun _ _ h => h) (.keep (fun _ _ h => h) (.keep (fun _ _ h => h) (.nil))))
                             )
                          )
                       )
                    )
                 )
              )
          )
       )
    ·
     first
      | (exfalso; first | omega | assumption)
      | (
       refine c_cond_f rfl ?_
       refine c_exit ?_
       refine e_exit_then ?_
       refine e_exit_then ?_
       refine e_exit_block ?_
       refine e_next ?_
       refine c_seq ?_
       refine c_seq ?_
       refine c_region ?_
       refine r_unex (fun lv => ?_)
       refine r_unpack ?_
       refine r_row1 (k := 1) rfl (fun o1 => ?_)
       refine r_front (k := 1) rfl ?_
       refine r_freeze (k := 0) rfl (fun G_214 hn_215 hs_216 => ?_)
       replace hs := hs.mono hn_215.le
       replace hfo := FOk.mono hfo hn_215.le
       replace hM := MOk.mono hM hn_215.le
       have hL : SlL G_214 lv 5 mC m0 l := SlL.of (cells := mC) m0 (fun _ => rfl) rfl hs_216
       refine r_freezeX (k := 0) rfl (fun G_217 hn_218 hR => ?_)
       replace hs := hs.mono hn_218.le
       replace hfo := FOk.mono hfo hn_218.le
       replace hM := MOk.mono hM hn_218.le
       replace hL := hL.mono hn_218.le
       refine r_val .none rfl (p_move rfl) ?_
       refine r_val .none rfl (p_nilcheck rfl) ?_
       refine r_val .none rfl (p_field Try.underlying80 rfl sz78 rfl) ?_
       refine r_val .none rfl (p_ldg (j := 0) Try.underlying78 rfl rfl hR (by first | exact of_decide_eq_true rfl | omega) rfl) ?_
       refine r_val .none rfl (p_leng Try.underlying78 rfl hL) ?_
       have bd_219 := (hL).bound
       refine r_val .none rfl (p_move rfl) ?_
       refine r_nil ?_
       refine e_next ?_
       refine c_block ?_
       refine c_name (d := 3) rfl (fun u_220 hu_220 => ?_)
       refine c_name (d := 225) rfl (fun u_221 hu_221 => ?_)
       refine c_name (d := 226) rfl (fun u_222 hu_222 => ?_)
       refine c_nameL (k := 0) rfl (fun A_223 hA_223 => ?_)
       refine c_loop (σ := Nat × Ghost) (fun s4 => [(227, Value.int .i64 (s4.1 : Nat)), (3, u_220), (225, u_221), (226, u_222)]) (fun s4 => [A_223]) (fun s4 => s4.2) (fun s4 => s4.1 ≤ l.length ∧ GNew w nX G_217 s4.2) (fun s4 => l.length - s4.1) ((0, _)) ⟨Nat.zero_le _, GNew.refl _ _ _⟩ rfl ⟨rfl, rfl, rfl, rfl, trivial⟩ (.keep (fun _ _ h => h) (.nil)) (fun s4 hphi => ?_)
       subst hu_220
       subst hu_221
       subst hu_222
       subst hA_223
       obtain ⟨i, H4⟩ := s4
       obtain ⟨hi4, hgn4⟩ := hphi
       dsimp only at hi4 hgn4 ⊢
       replace hs := hs.mono hgn4.le
       replace hfo := FOk.mono hfo hgn4.le
       replace hM := MOk.mono hM hgn4.le
       replace hL := hL.mono hgn4.le
       replace hR := hR.mono hgn4.le
       refine c_seq ?_
       refine c_region ?_
       refine r_val .none rfl (p_lt rfl rfl) ?_
       refine r_nil ?_
       refine e_next ?_
       refine c_seq ?_
       refine c_splitd (d := 228) rfl (fun h_224 => ?_) (fun h_224 => ?_)
       ·
        first
         | (exfalso; first | omega | assumption)
         | (
          refine c_cond_t rfl ?_
          refine c_skip ?_
          refine e_next ?_
          refine c_seq ?_
          refine c_block ?_
          refine c_seq ?_
          refine c_region ?_
          refine r_iaddr_g .none rfl Try.underlying78 sz100 rfl hL rfl (by first | exact of_decide_eq_true rfl | omega) (fun p_226 o_227 R_225 => ?_)
          refine r_val .none rfl (p_ldga0 Try.underlying100 rfl sz100 rfl R_225 (by first | exact of_decide_eq_true rfl | omega) (rfl : _ = Value.agg #[_, _, _, _, _])) ?_
          refine r_alloc .none rfl zr100 (IsRow.lit _) (fun b_11 => ?_)
          refine r_stw (k := 0) .none sz100 rfl rfl (IsRow.lit _) (one_lit rfl (all_cons rfl (all_cons rfl (all_cons rfl (all_cons rfl (all_cons ((mok_get hM _)).one rfl)))))) rfl ?_
          refine r_nil ?_
          refine e_next ?_
          refine c_seq ?_
          refine c_region_d (fun _ => false) _ mixed (.keep (fun _ _ h => h) (.keep (fun _ _ h => h) (.nil))) ?_
          refine d_val1 0 rfl rfl (by kernel_rfl) (fun _ _ => rfl) .none rfl (p_move rfl) ?_
          refine d_val1 1 rfl rfl (by kernel_rfl) (fun _ _ => rfl) .none rfl (p_field Try.underlying100 rfl sz60 rfl) ?_
          refine d_val1 2 rfl rfl (by kernel_rfl) (fun _ _ => rfl) .none rfl (p_lda (k := 0) Try.underlying60 rfl sz60 rfl rfl (by first | exact of_decide_eq_true rfl | omega) (rfl : _ = Value.agg #[_, _, _])) ?_
          refine d_val1 4 rfl rfl (by kernel_rfl) (fun _ _ => rfl) .none rfl (p_field Try.underlying100 rfl sz42 rfl) ?_
          refine d_val1 5 rfl rfl (by kernel_rfl) (fun _ _ => rfl) .none rfl (p_ld (k := 0) Try.underlying42 rfl rfl rfl (by first | exact of_decide_eq_true rfl | omega) rfl) ?_
          refine d_eff 3 rfl (by kernel_rfl) (fun K_228 hKK_228 hcK_228 => ?_)
          refine r_callom (k := 1) (vs := [_, _]) .none rfl cl33 rfl rfl (fun w F hw hA hFG => c_sitems _ (l.getD i m0).1 u t c (ha.wf (by omega) _) w hw hA hFG) (fun G_229 v_232 hn_230 hr_231 => ?_)
          replace hs := hs.mono hn_230.le
          replace hfo := FOk.mono hfo hn_230.le
          replace hM := MOk.mono hM hn_230.le
          replace hL := hL.mono hn_230.le
          replace hR := hR.mono hn_230.le
          replace R_225 := R_225.mono hn_230.le
          have u_233 := hr_231
          refine r_nil (e_d (i := 3) (brk := (fun _ => false)) (ph' := true) hKK_228 hcK_228 rfl (fun _ => hn_230.le) (fun _ => .keep (fun _ _ h => h) (.keep (fun _ _ h => h) (.nil))) ?_)
          clear hKK_228 hcK_228 K_228
          refine d_eff 6 rfl (by kernel_rfl) (fun K_234 hKK_234 hcK_234 => ?_)
          refine r_call (vs := [_, _]) .none rfl cl32 rfl (fun w hw => c_ints12 _ _ _ _ u_233 (mok_get hM _) w hw) ?_
          refine r_nil (e_d (i := 6) (brk := (fun _ => false)) (ph' := true) hKK_234 hcK_234 rfl (fun _ => hn_230.le) (fun _ => .keep (fun _ _ h => h) (.keep (fun _ _ h => h) (.nil))) ?_)
          clear hKK_234 hcK_234 K_234
          refine d_say (d := 237) (v := Value.bool true) (congrArg (fun z => some (Value.bool z)) (decide_eq_true (by rw [ha.items, ha.lat (by omega)]; rfl))) ?_
          refine d_val1 7 rfl rfl (by kernel_rfl) (fun _ _ => rfl) .none rfl (p_not rfl) ?_
          refine d_say (d := 238) (v := Value.bool false) rfl ?_
          refine d_val1 8 rfl rfl (by kernel_rfl) (fun _ _ => rfl) .none rfl (p_move rfl) ?_
          refine d_val1 9 rfl rfl (by kernel_rfl) (fun _ _ => rfl) (.some rfl rfl) rfl (p_move rfl) ?_
          refine d_val1 10 rfl rfl (by kernel_rfl) (fun _ _ => rfl) (.some rfl rfl) rfl (p_field Try.underlying100 rfl sz60 rfl) ?_
          refine d_val1 11 rfl rfl (by kernel_rfl) (fun _ _ => rfl) (.some rfl rfl) rfl (p_lda (k := 0) Try.underlying60 rfl sz60 rfl rfl (by first | exact of_decide_eq_true rfl | omega) (rfl : _ = Value.agg #[_, _, _])) ?_
          refine d_val1 13 rfl rfl (by kernel_rfl) (fun _ _ => rfl) (.some rfl rfl) rfl (p_field Try.underlying100 rfl sz3 rfl) ?_
          refine d_val1 14 rfl rfl (by kernel_rfl) (fun _ _ => rfl) (.some rfl rfl) rfl (p_ld (k := 0) Try.underlying3 rfl rfl rfl (by first | exact of_decide_eq_true rfl | omega) (rfl : _ = Value.int _ _)) ?_
          refine d_eff 12 rfl (by kernel_rfl) (fun K_235 hKK_235 hcK_235 => ?_)
          refine r_callo (k := 1) (vs := [_, _]) (.some rfl rfl) rfl cl47 rfl rfl (fun w F hw hA hFG => c_swanted _ (l.getD i m0).1 u t c w hw hA hFG) ?_
          refine r_nil (e_d (i := 12) (brk := (fun _ => false)) (ph' := true) hKK_235 hcK_235 rfl (fun _ => hn_230.le) (fun _ => .keep (fun _ _ h => h) (.keep (fun _ _ h => h) (.nil))) ?_)
          clear hKK_235 hcK_235 K_235
          refine d_val1 15 rfl rfl (by kernel_rfl) (fun _ _ => rfl) (.some rfl rfl) rfl (p_ne rfl rfl) ?_
          refine d_say (d := 246) (v := Value.bool false) (congrArg (fun z => some (Value.bool z)) (decide_eq_false (fun h9 => h9 (by rw [ha.cnt, ha.lat (by omega)]; rfl)))) ?_
          refine d_val1 16 rfl rfl (by kernel_rfl) (fun _ _ => rfl) .none rfl (p_pick_f rfl rfl) ?_
          refine d_nil (by kernel_rfl) ?_
          refine e_next ?_
          refine c_cond_f rfl ?_
          refine c_skip ?_
          refine e_norm_block ?_
          refine e_next ?_
          refine c_region ?_
          refine r_val .none rfl (p_add rfl rfl (by omega)) ?_
          refine r_val .none rfl (p_move rfl) ?_
          refine r_nil ?_
          refine e_round ((i + 1, _)) ⟨⟨by dsimp only; omega, (hgn4.trans hn_230)⟩, by dsimp only; omega⟩ rfl ⟨rfl, rfl, rfl, rfl, trivial⟩ (.drop (.keep (fun _ _ h => h) (.nil)))
          )
       ·
        first
         | (exfalso; first | omega | assumption)
         | (
          refine c_cond_f rfl ?_
          refine c_exit ?_
          refine e_exit_then ?_
          refine e_exit_then ?_
          refine e_exit_block ?_
          refine e_next ?_
          refine c_seq ?_
          refine c_region ?_
          refine r_call (vs := []) .none rfl cl25 rfl (fun w hw => c_awake12 w) ?_
          refine r_val .none rfl (p_assign rfl) ?_
          refine r_nil ?_
          refine e_next ?_
          refine c_ret ?_
          refine e_ret1 Try.results7 (.tmp rfl .nil) (fun w hm => ⟨?_, hm.since⟩)
          first
          | rfl
          | (simp; done)
          )
       )
    )
end Go.Proofs.Ytdcaehepmkhciaa

/- Walks: what Go functions of this chapter come to, each as a function on plain data; no condition but those that each theorem names. Printed by a program of this work (gen.py). -/
namespace Go.Proofs.Ytdcaehepmkhciaa
open Go.Gx Go.Gx Go.Gx.T10 Go.Gx.T12 Go.Gx.T10 Go.Gx.T11 Go.ChangeShapes Go.WideShapes Go.ChangeAt Go.RowKit
theorem wf_64 {n : Int} (h : (Lit.int .i64 n).wf = true) : wf64 n := by
 simp only [Lit.wf, Bool.and_eq_true, decide_eq_true_eq] at h
 exact h
theorem open_op_l : leafT Try.prog 10 82 = some [3, 3, 3, 3, 3, 3, 3, 3, 63] := by kernel_rfl
theorem open_fact_l : leafT Try.prog 10 66 = some [3, 3, 3, 3] := by kernel_rfl
set_option maxRecDepth 100000 in
theorem open_fact12 {H : Type} {enc : TypeId × Value → H} {W : World} {base : Nat} {sp : Nat → Bool} {held : Bool} {m : Nat} {cs' : List Value} {y : DataW H × List MemPlace} (h : DataW.trod enc Try.prog W base sp held m 66 cs' = some y) : ∃ a : FD, cs' = fC a ∧ wf64 a.1 := by
 obtain ⟨n', _, hl⟩ := leavesB_struct 9 Try.underlying66 open_fact_l h
 obtain ⟨x0, r0, e0, f0, g0⟩ := hl.inv
 obtain ⟨a0, rfl, w0⟩ := f0.leaf.int Try.underlying3
 obtain ⟨x1, r1, e1, f1, g1⟩ := g0.inv
 obtain ⟨a1, rfl, _⟩ := f1.leaf.int Try.underlying3
 obtain ⟨x2, r2, e2, f2, g2⟩ := g1.inv
 obtain ⟨a2, rfl, _⟩ := f2.leaf.int Try.underlying3
 obtain ⟨x3, r3, e3, f3, g3⟩ := g2.inv
 obtain ⟨a3, rfl, _⟩ := f3.leaf.int Try.underlying3
 have z := g3.inv0
 exact ⟨(a0, a1, a2, a3), by rw [e0, e1, e2, e3, z]; rfl, wf_64 w0⟩
set_option maxRecDepth 100000 in
theorem open_op12 {H : Type} {enc : TypeId × Value → H} {W : World} {base : Nat} {sp : Nat → Bool} {held : Bool} {m : Nat} {cs' : List Value} {y : DataW H × List MemPlace} (h : DataW.trod enc Try.prog W base sp held m 82 cs' = some y) : ∃ o : AOp, cs' = opA o ∧ SlL (GW W) o.2.2.2.2.1 4 fC (0, zT) o.2.2.2.2.2 ∧ wf64 o.2.2.2.1 ∧ ∀ f ∈ o.2.2.2.2.2, wf64 f.1 := by
 obtain ⟨n', _, hl⟩ := leavesB_struct 9 Try.underlying82 open_op_l h
 obtain ⟨x0, r0, e0, f0, g0⟩ := hl.inv
 obtain ⟨a0, rfl, _⟩ := f0.leaf.int Try.underlying3
 obtain ⟨x1, r1, e1, f1, g1⟩ := g0.inv
 obtain ⟨a1, rfl, _⟩ := f1.leaf.int Try.underlying3
 obtain ⟨x2, r2, e2, f2, g2⟩ := g1.inv
 obtain ⟨a2, rfl, _⟩ := f2.leaf.int Try.underlying3
 obtain ⟨x3, r3, e3, f3, g3⟩ := g2.inv
 obtain ⟨a3, rfl, _⟩ := f3.leaf.int Try.underlying3
 obtain ⟨x4, r4, e4, f4, g4⟩ := g3.inv
 obtain ⟨a4, rfl, _⟩ := f4.leaf.int Try.underlying3
 obtain ⟨x5, r5, e5, f5, g5⟩ := g4.inv
 obtain ⟨a5, rfl, _⟩ := f5.leaf.int Try.underlying3
 obtain ⟨x6, r6, e6, f6, g6⟩ := g5.inv
 obtain ⟨a6, rfl, _⟩ := f6.leaf.int Try.underlying3
 obtain ⟨x7, r7, e7, f7, g7⟩ := g6.inv
 obtain ⟨a7, rfl, w7⟩ := f7.leaf.int Try.underlying3
 obtain ⟨x8, r8, e8, f8, g8⟩ := g7.inv
 have z := g8.inv0
 obtain ⟨fs, h1, h2⟩ := open_slB (cells := fC) (Qa := fun f => wf64 f.1) (0, zT) Try.underlying63 (show Program.cellsOf Try.prog 66 = 4 by kernel_rfl) (by decide) (fun m cs' y hm hy => open_fact12 hy) f8
 exact ⟨(a0, (a1, a2, a3), (a4, a5, a6), a7, x8, fs), by rw [e0, e1, e2, e3, e4, e5, e6, e7, e8, z]; rfl, h1, wf_64 w7, h2⟩
set_option maxRecDepth 100000 in
theorem open_ops12 {H : Type} {enc : TypeId × Value → H} {W : World} {base : Nat} {sp : Nat → Bool} {held : Bool} {r : Reach} {b0 : Nat} {v : Value} {y : DataW H} {ps : List MemPlace} (hv : Value.okWide Try.prog W r b0 76 v) (h : DataW.Trod enc Try.prog W base sp held 76 v y ps) : ∃ os : List AOp, SlL (GW W) v 9 opA oZ os ∧ FOk (GW W) os ∧ WOk os := by
 obtain ⟨a, n, c, rfl⟩ := okWide_slice Try.underlying76 hv
 obtain ⟨fuel, hf⟩ := h
 obtain ⟨os, h1, h2⟩ := open_slB (B := fuel) (cells := opA) (Qa := fun o => SlL (GW W) o.2.2.2.2.1 4 fC (0, zT) o.2.2.2.2.2 ∧ wf64 o.2.2.2.1 ∧ ∀ f ∈ o.2.2.2.2.2, wf64 f.1) oZ Try.underlying76 (show Program.cellsOf Try.prog 82 = 9 by kernel_rfl) (by decide) (fun m cs' y hm hy => open_op12 hy) ⟨fuel, _, Nat.le_refl _, hf⟩
 exact ⟨os, h1, fun o ho => (h2 o ho).1, fun o ho => (h2 o ho).2⟩
end Go.Proofs.Ytdcaehepmkhciaa
