/- Texts of this work, laid together: a logic of steps, plain laws, and walks of Go functions, each without a condition but those that its theorems name. -/
import Derived.Test.YtinbigokigkfaaaKTallyPlays1
import Derived.Test.YtinbigokigkfaaaRows
/- Walks: what Go functions of this chapter come to, each as a function on plain data; no condition but those that each theorem names. Printed by a program of this work (gen.py). -/
namespace Go.Proofs.Ytinbigokigkfaaa
open Go.Gx Go.Gx.T10
theorem sz9 : SzIs Try.prog 9 1 := by
 unfold SzIs
 kernel_rfl
theorem bs9_10s1 (a0 : ByteArray) : Instr.fill (fun i => some (i * 1, 1)) ((Array.range (1 * 1)).map ((Value.string ⟨#[]⟩).cells[· % (Value.string ⟨#[]⟩).cells.size]!)) [(0, Value.string a0)] = some #[Value.string a0] := by
 kernel_rfl
theorem el9 : ElemIs Try.prog 9 1 16 (Value.string ⟨#[]⟩) := by
 unfold ElemIs
 kernel_rfl
theorem c_rcount (v : Value) (ns : List ByteArray) (k : ByteArray) {G : Ghost} (hs : SlL G v 1 cS bs0 ns) (w : World) (hG : Has G w) :
  Calls Try.prog 39 #[v, Value.string k] w (Ret fun r w' => r = Value.int .i64 (num ns k : Nat) ∧ Since nX w w') := by
 refine enter (args := [_, _]) (X := nX) (G := G) (l := [(0, v), (1, Value.string k)]) Try.func39 rfl Try.ntmps39 hG ⟨rfl, rfl, trivial⟩ (Nat.le_of_ble_eq_true rfl) ?_
 refine c_seq ?_
 refine c_region ?_
 refine r_val .none rfl (p_assign rfl) ?_
 refine r_nil ?_
 refine e_next ?_
 refine c_seq ?_
 refine c_region ?_
 refine r_val .none rfl (p_assign rfl) ?_
 refine r_nil ?_
 refine e_next ?_
 refine c_seq ?_
 refine c_seq ?_
 refine c_region ?_
 refine r_val .none rfl (p_move rfl) ?_
 refine r_val .none rfl (p_leng Try.underlying87 rfl hs) ?_
 have bd_1 := (hs).bound
 refine r_val .none rfl (p_move rfl) ?_
 refine r_nil ?_
 refine e_next ?_
 refine c_block ?_
 refine c_name (d := 1) rfl (fun u_2 hu_2 => ?_)
 refine c_name (d := 4) rfl (fun u_3 hu_3 => ?_)
 refine c_name (d := 8) rfl (fun u_4 hu_4 => ?_)
 refine c_name (d := 9) rfl (fun u_5 hu_5 => ?_)
 refine c_loop (σ := Nat) (fun j => [(10, Value.int .i64 (j : Nat)), (5, Value.int .i64 (num (ns.take j) k : Nat)), (1, u_2), (4, u_3), (8, u_4), (9, u_5)]) (fun j => []) (fun _ => _) (fun j => j ≤ ns.length) (fun j => ns.length - j) (0) (Nat.zero_le _) rfl ⟨rfl, rfl, rfl, rfl, rfl, rfl, trivial⟩ (.nil) (fun j hphi => ?_)
 subst hu_2
 subst hu_3
 subst hu_4
 subst hu_5
 have hcl := num_le (ns.take j) k
 simp only [List.length_take] at hcl
 refine c_seq ?_
 refine c_region ?_
 refine r_val .none rfl (p_lt rfl rfl) ?_
 refine r_nil ?_
 refine e_next ?_
 refine c_seq ?_
 refine c_splitd (d := 11) rfl (fun h_6 => ?_) (fun h_6 => ?_)
 ·
  first
   | (exfalso; omega)
   | (
    refine c_cond_t rfl ?_
    refine c_skip ?_
    refine e_next ?_
    refine c_seq ?_
    refine c_block ?_
    refine c_seq ?_
    refine c_region ?_
    refine r_iaddr_g .none rfl Try.underlying87 sz9 rfl hs rfl (by first | exact of_decide_eq_true rfl | omega) (fun p_8 o_9 R_7 => ?_)
    refine r_val .none rfl (p_ldg0 Try.underlying9 rfl rfl R_7 (by first | exact of_decide_eq_true rfl | omega) (rfl : _ = Value.string _)) ?_
    refine r_val .none rfl (p_assign rfl) ?_
    refine r_nil ?_
    refine e_next ?_
    refine c_seq ?_
    refine c_region ?_
    refine r_val .none rfl (p_move rfl) ?_
    refine r_val .none rfl (p_move rfl) ?_
    refine r_val .none rfl (p_eqs rfl rfl) ?_
    refine r_nil ?_
    refine e_next ?_
    refine' c_join (c := 16) (D1 := [(5, .int .i64 _)]) (D2 := [(5, .int .i64 _)]) rfl (.cons .int (.nil)) (fun h_12 hQ_13 => ?_) (fun h_12 hQ_13 => ?_) ?_
    rotate_left 2
    ·
     replace h_12 := of_decide_eq_true h_12
     refine c_region ?_
     refine r_val .none rfl (p_move rfl) ?_
     refine r_val .none rfl (p_add rfl rfl (by omega)) ?_
     refine r_val .none rfl (p_assign rfl) ?_
     refine r_nil ?_
     refine e_finD hQ_13 ⟨rfl, trivial⟩ (by repeat (first | exact .refl | refine .put rfl ?_ | refine .say rfl (by first | assumption | simp_all) ?_))
    ·
     replace h_12 := of_decide_eq_false h_12
     refine c_skip ?_
     refine e_finD hQ_13 ⟨rfl, trivial⟩ (by repeat (first | exact .refl | refine .put rfl ?_ | refine .say rfl (by first | assumption | simp_all) ?_))
    refine e_norm_block ?_
    refine e_next ?_
    refine c_region ?_
    refine r_val .none rfl (p_add rfl rfl (by omega)) ?_
    refine r_val .none rfl (p_move rfl) ?_
    refine r_nil ?_
    refine e_round (j + 1) ⟨by omega, by omega⟩ rfl ⟨rfl, (congrArg (fun n => some (Value.int .i64 n)) (count_next (ns := ns) (j := j) (e := bs0) (by omega))), rfl, rfl, rfl, rfl, trivial⟩ (.nil)
    )
 ·
  first
   | (exfalso; omega)
   | (
    refine c_cond_f rfl ?_
    refine c_exit ?_
    refine e_exit_then ?_
    refine e_exit_then ?_
    refine e_exit_block ?_
    refine e_next ?_
    refine c_seq ?_
    refine c_region ?_
    refine r_val .none rfl (p_move rfl) ?_
    refine r_val .none rfl (p_assign rfl) ?_
    refine r_nil ?_
    refine e_next ?_
    refine c_ret ?_
    refine e_ret1 Try.results39 (.tmp rfl .nil) (fun w hm => ⟨?_, hm.since⟩)
    have hj2 : ns.take j = ns := List.take_of_length_le (by omega)
    rw [hj2]
    )
theorem c_rdrop (v : Value) (ns : List ByteArray) (k : ByteArray) {G : Ghost} (hs : SlL G v 1 cS bs0 ns) (hn : ns.length ≤ 1000) (w : World) (hG : Has G w) :
  Calls Try.prog 42 #[v, Value.string k] w (Ret fun r w' => Since nX w w' ∧ ∃ F', (rowA r 9 1 (era ns k).length ((era ns k).flatMap cS)).holds w' F' ∧ ∀ b, F' b → w.heap.size ≤ b) := by
 refine enter (args := [_, _]) (X := nX) (G := G) (l := [(0, v), (1, Value.string k)]) Try.func42 rfl Try.ntmps42 hG ⟨rfl, rfl, trivial⟩ (Nat.le_of_ble_eq_true rfl) ?_
 refine c_seq ?_
 refine c_region ?_
 refine r_val .none rfl (p_assign rfl) ?_
 refine r_nil ?_
 refine e_next ?_
 refine c_seq ?_
 refine c_region ?_
 refine r_val .none rfl (p_assign rfl) ?_
 refine r_nil ?_
 refine e_next ?_
 refine c_seq ?_
 refine c_region ?_
 refine r_val .none rfl (p_assign rfl) ?_
 refine r_nil ?_
 refine e_next ?_
 refine c_seq ?_
 refine c_seq ?_
 refine c_region ?_
 refine r_val .none rfl (p_move rfl) ?_
 refine r_val .none rfl (p_leng Try.underlying87 rfl hs) ?_
 have bd_1 := (hs).bound
 refine r_val .none rfl (p_move rfl) ?_
 refine r_nil ?_
 refine e_next ?_
 refine c_block ?_
 refine c_nilrow 9 1 ?_
 refine c_name (d := 1) rfl (fun u_2 hu_2 => ?_)
 refine c_name (d := 4) rfl (fun u_3 hu_3 => ?_)
 refine c_name (d := 9) rfl (fun u_4 hu_4 => ?_)
 refine c_name (d := 10) rfl (fun u_5 hu_5 => ?_)
 refine c_loop (σ := Nat × Bool × Value) (fun s => [(11, Value.int .i64 (s.1 : Nat)), (6, Value.bool s.2.1), (5, s.2.2), (1, u_2), (4, u_3), (9, u_4), (10, u_5)]) (fun s => [rowA (s.2.2) 9 1 ((era (ns.take s.1) k)).length (((era (ns.take s.1) k)).flatMap cS)]) (fun _ => _) (fun s => s.1 ≤ ns.length ∧ (s.2.1 = true ↔ k ∈ ns.take s.1)) (fun s => ns.length - s.1) ((0, false, _)) ⟨Nat.zero_le _, by simp⟩ rfl ⟨rfl, rfl, rfl, rfl, rfl, rfl, rfl, trivial⟩ (.keep (fun _ _ h => rowA_nil rfl _ _ h) (.nil)) (fun s hphi => ?_)
 subst hu_2
 subst hu_3
 subst hu_4
 subst hu_5
 obtain ⟨j, gone, v5⟩ := s
 obtain ⟨hj, hgo⟩ := hphi
 dsimp only at hj hgo ⊢
 have hel : (era (ns.take j) k).length ≤ ns.length := Nat.le_trans (era_le) (by rw [List.length_take]; omega)
 refine c_seq ?_
 refine c_region ?_
 refine r_val .none rfl (p_lt rfl rfl) ?_
 refine r_nil ?_
 refine e_next ?_
 refine c_seq ?_
 refine c_splitd (d := 12) rfl (fun h_6 => ?_) (fun h_6 => ?_)
 ·
  first
   | (exfalso; omega)
   | (
    refine c_cond_t rfl ?_
    refine c_skip ?_
    refine e_next ?_
    refine c_seq ?_
    refine c_block ?_
    refine c_seq ?_
    refine c_region ?_
    refine r_iaddr_g .none rfl Try.underlying87 sz9 rfl hs rfl (by first | exact of_decide_eq_true rfl | omega) (fun p_8 o_9 R_7 => ?_)
    refine r_val .none rfl (p_ldg0 Try.underlying9 rfl rfl R_7 (by first | exact of_decide_eq_true rfl | omega) (rfl : _ = Value.string _)) ?_
    refine r_val .none rfl (p_assign rfl) ?_
    refine r_nil ?_
    refine e_next ?_
    refine c_seq ?_
    refine c_seq ?_
    refine c_region ?_
    refine r_val .none rfl (p_move rfl) ?_
    refine r_val .none rfl (p_move rfl) ?_
    refine r_val .none rfl (p_eqs rfl rfl) ?_
    refine r_val .none rfl (p_move rfl) ?_
    refine r_splitd (d := 18) rfl (fun h_10 => ?_) (fun h_10 => ?_)
    ·
     have hk1 := h_10
     first
      | (exfalso; omega)
      | (
       refine r_val (.some rfl rfl) rfl (p_move rfl) ?_
       refine r_val (.some rfl rfl) rfl (p_not rfl) ?_
       refine r_val .none rfl (p_pick_t rfl rfl) ?_
       refine r_nil ?_
       refine e_next ?_
       refine c_splitn (d := 21) rfl (fun h_11 => ?_) (fun h_11 => ?_)
       ·
        have hk2 : gone = false := by simpa using h_11
        skip
        first
         | (exfalso; omega)
         | (
          refine c_cond_t rfl ?_
          refine c_seq ?_
          refine c_region ?_
          refine r_val .none rfl (p_assign rfl) ?_
          refine r_nil ?_
          refine e_next ?_
          refine c_exit ?_
          refine e_exit_then ?_
          refine e_exit_block ?_
          refine e_next ?_
          refine c_region ?_
          refine r_val .none rfl (p_add rfl rfl (by omega)) ?_
          refine r_val .none rfl (p_move rfl) ?_
          refine r_nil ?_
          refine e_round ((j + 1, true, _)) ⟨⟨by dsimp only; omega, ⟨fun _ => (mem_next (e := bs0) (by omega)).2 (.inr hk1), fun _ => rfl⟩⟩, by dsimp only; omega⟩ rfl ⟨rfl, rfl, rfl, rfl, rfl, rfl, rfl, trivial⟩ (.keep (fun _ _ h => rowA_same (era_same (e := bs0) (by omega) (fun hx => by have := hgo.2 hx; rw [hk2] at this; cases this) hk1) _ _ h) (.nil))
          )
       ·
        have hnk : ¬ ns.getD j bs0 = k ∨ gone = true := .inr (by simpa using h_11)
        first
         | (exfalso; omega)
         | (
          refine c_cond_f rfl ?_
          refine c_skip ?_
          refine e_next ?_
          refine c_region ?_
          refine r_val .none rfl (p_move rfl) ?_
          refine r_val .none rfl (p_move rfl) ?_
          refine r_bslice (vs := [(0, Value.string _)]) (c := #[_]) .none rfl Try.underlying87 el9 rfl rfl rfl (bs9_10s1 _) (IsRow.lit _) (fun b_1 => ?_)
          refine r_append (k := 1) (k2 := 0) .none rfl Try.underlying87 el9 rfl (by decide) rfl rfl rfl rfl rfl (one_lit rfl rfl) (by simp only [maxLen]; omega) (by omega) (fun v_12 => ?_)
          refine r_row1 (k := 1) rfl (fun o_13 => ?_)
          refine r_val .none rfl (p_assign rfl) ?_
          refine r_nil ?_
          refine e_norm_block ?_
          refine e_next ?_
          refine c_region ?_
          refine r_val .none rfl (p_add rfl rfl (by omega)) ?_
          refine r_val .none rfl (p_move rfl) ?_
          refine r_nil ?_
          refine e_round ((j + 1, gone, _)) ⟨⟨by dsimp only; omega, by rw [mem_next (e := bs0) (by omega)]; exact ⟨fun h => .inl (hgo.1 h), fun h => by rcases h with h | h; exact hgo.2 h; rcases hnk with hn | hn; exact absurd h hn; exact hn⟩⟩, by dsimp only; omega⟩ rfl ⟨rfl, rfl, rfl, rfl, rfl, rfl, rfl, trivial⟩ (.drop (.keep (fun _ _ h => rowA_snoc (era_next (e := bs0) (by omega) (by rcases hnk with hn | hn; exact .inr hn; exact .inl (hgo.1 hn))) rfl rfl rfl _ _ h) (.nil)))
          )
       )
    ·
     have hnk : ¬ ns.getD j bs0 = k ∨ gone = true := .inl h_10
     first
      | (exfalso; omega)
      | (
       refine r_skip rfl (.no rfl rfl) ?_
       refine r_skip rfl (.no rfl rfl) ?_
       refine r_val .none rfl (p_pick_f rfl rfl) ?_
       refine r_nil ?_
       refine e_next ?_
       refine c_cond_f rfl ?_
       refine c_skip ?_
       refine e_next ?_
       refine c_region ?_
       refine r_val .none rfl (p_move rfl) ?_
       refine r_val .none rfl (p_move rfl) ?_
       refine r_bslice (vs := [(0, Value.string _)]) (c := #[_]) .none rfl Try.underlying87 el9 rfl rfl rfl (bs9_10s1 _) (IsRow.lit _) (fun b_2 => ?_)
       refine r_append (k := 1) (k2 := 0) .none rfl Try.underlying87 el9 rfl (by decide) rfl rfl rfl rfl rfl (one_lit rfl rfl) (by simp only [maxLen]; omega) (by omega) (fun v_14 => ?_)
       refine r_row1 (k := 1) rfl (fun o_15 => ?_)
       refine r_val .none rfl (p_assign rfl) ?_
       refine r_nil ?_
       refine e_norm_block ?_
       refine e_next ?_
       refine c_region ?_
       refine r_val .none rfl (p_add rfl rfl (by omega)) ?_
       refine r_val .none rfl (p_move rfl) ?_
       refine r_nil ?_
       refine e_round ((j + 1, gone, _)) ⟨⟨by dsimp only; omega, by rw [mem_next (e := bs0) (by omega)]; exact ⟨fun h => .inl (hgo.1 h), fun h => by rcases h with h | h; exact hgo.2 h; rcases hnk with hn | hn; exact absurd h hn; exact hn⟩⟩, by dsimp only; omega⟩ rfl ⟨rfl, rfl, rfl, rfl, rfl, rfl, rfl, trivial⟩ (.drop (.keep (fun _ _ h => rowA_snoc (era_next (e := bs0) (by omega) (by rcases hnk with hn | hn; exact .inr hn; exact .inl (hgo.1 hn))) rfl rfl rfl _ _ h) (.nil)))
       )
    )
 ·
  first
   | (exfalso; omega)
   | (
    refine c_cond_f rfl ?_
    refine c_exit ?_
    refine e_exit_then ?_
    refine e_exit_then ?_
    refine e_exit_block ?_
    refine e_next ?_
    refine c_seq ?_
    refine c_region ?_
    refine r_val .none rfl (p_move rfl) ?_
    refine r_val .none rfl (p_assign rfl) ?_
    refine r_nil ?_
    refine e_next ?_
    refine c_ret ?_
    refine e_ret1 Try.results42 (.tmp rfl .nil) (fun w hm => hm.made [rowA v5 9 1 (era ns k).length ((era ns k).flatMap cS)] (.keep (fun _ _ h => rowA_congr (by rw [List.take_of_length_le (by omega)]) (by rw [List.take_of_length_le (by omega)]) _ _ h) (.nil)) _ (fun F' h => starL_one1 h))
    )
theorem c_rkeys (v : Value) (ns : List ByteArray) {G : Ghost} (hs : SlL G v 1 cS bs0 ns) (hn : ns.length ≤ 1000) (w : World) (hG : Has G w) :
  Calls Try.prog 46 #[v] w (Ret fun r w' => Since nX w w' ∧ ∃ F', (rowA r 9 1 (keysK ns).length ((keysK ns).flatMap cS)).holds w' F' ∧ ∀ b, F' b → w.heap.size ≤ b) := by
 refine enter (args := [_]) (X := nX) (G := G) (l := [(0, v)]) Try.func46 rfl Try.ntmps46 hG ⟨rfl, trivial⟩ (Nat.le_of_ble_eq_true rfl) ?_
 refine c_seq ?_
 refine c_region ?_
 refine r_val .none rfl (p_assign rfl) ?_
 refine r_nil ?_
 refine e_next ?_
 refine c_seq ?_
 refine c_region ?_
 refine r_val .none rfl (p_assign rfl) ?_
 refine r_nil ?_
 refine e_next ?_
 refine c_seq ?_
 refine c_seq ?_
 refine c_region ?_
 refine r_val .none rfl (p_move rfl) ?_
 refine r_val .none rfl (p_leng Try.underlying87 rfl hs) ?_
 have bd_1 := (hs).bound
 refine r_val .none rfl (p_move rfl) ?_
 refine r_nil ?_
 refine e_next ?_
 refine c_block ?_
 refine c_nilrow 9 1 ?_
 refine c_name (d := 2) rfl (fun u_2 hu_2 => ?_)
 refine c_name (d := 10) rfl (fun u_3 hu_3 => ?_)
 refine c_name (d := 11) rfl (fun u_4 hu_4 => ?_)
 refine c_loop (σ := Nat × Value) (fun s => [(12, Value.int .i64 (s.1 : Nat)), (3, s.2), (2, u_2), (10, u_3), (11, u_4)]) (fun s => [rowA (s.2) 9 1 ((keysK (ns.take s.1))).length (((keysK (ns.take s.1))).flatMap cS)]) (fun _ => _) (fun s => s.1 ≤ ns.length) (fun s => ns.length - s.1) ((0, _)) (Nat.zero_le _) rfl ⟨rfl, rfl, rfl, rfl, rfl, trivial⟩ (.keep (fun _ _ h => rowA_nil rfl _ _ h) (.nil)) (fun s hphi => ?_)
 subst hu_2
 subst hu_3
 subst hu_4
 obtain ⟨i, v3⟩ := s
 dsimp only at hphi ⊢
 have hkl := keysK_len (ns.take i)
 rw [List.length_take] at hkl
 refine c_seq ?_
 refine c_region ?_
 refine r_val .none rfl (p_lt rfl rfl) ?_
 refine r_nil ?_
 refine e_next ?_
 refine c_seq ?_
 refine c_splitd (d := 13) rfl (fun h_5 => ?_) (fun h_5 => ?_)
 ·
  first
   | (exfalso; omega)
   | (
    refine c_cond_t rfl ?_
    refine c_skip ?_
    refine e_next ?_
    refine c_seq ?_
    refine c_block ?_
    refine c_seq ?_
    refine c_region ?_
    refine r_iaddr_g .none rfl Try.underlying87 sz9 rfl hs rfl (by first | exact of_decide_eq_true rfl | omega) (fun p_7 o_8 R_6 => ?_)
    refine r_val .none rfl (p_ldg0 Try.underlying9 rfl rfl R_6 (by first | exact of_decide_eq_true rfl | omega) (rfl : _ = Value.string _)) ?_
    refine r_val .none rfl (p_assign rfl) ?_
    refine r_nil ?_
    refine e_next ?_
    refine c_seq ?_
    refine c_region ?_
    refine r_val .none rfl (p_assign rfl) ?_
    refine r_nil ?_
    refine e_next ?_
    refine c_seq ?_
    refine c_region ?_
    refine r_val .none rfl (p_assign rfl) ?_
    refine r_nil ?_
    refine e_next ?_
    refine c_seq ?_
    refine c_seq ?_
    refine c_region ?_
    refine r_val .none rfl (p_move rfl) ?_
    refine r_val .none rfl (p_leno (k := 0) Try.underlying87 rfl rfl) ?_
    refine r_val .none rfl (p_move rfl) ?_
    refine r_nil ?_
    refine e_next ?_
    refine c_block ?_
    refine c_nilrow 9 1 ?_
    refine c_name (d := 2) rfl (fun u_9 hu_9 => ?_)
    refine c_name (d := 3) rfl (fun u_10 hu_10 => ?_)
    refine c_name (d := 5) rfl (fun u_11 hu_11 => ?_)
    refine c_name (d := 10) rfl (fun u_12 hu_12 => ?_)
    refine c_name (d := 11) rfl (fun u_13 hu_13 => ?_)
    refine c_name (d := 12) rfl (fun u_14 hu_14 => ?_)
    refine c_name (d := 13) rfl (fun u_15 hu_15 => ?_)
    refine c_name (d := 14) rfl (fun u_16 hu_16 => ?_)
    refine c_name (d := 15) rfl (fun u_17 hu_17 => ?_)
    refine c_name (d := 16) rfl (fun u_18 hu_18 => ?_)
    refine c_name (d := 17) rfl (fun u_19 hu_19 => ?_)
    refine c_nameL (k := 1) rfl (fun A_20 hA_20 => ?_)
    refine c_loop (σ := Nat × Bool × Value) (fun s => [(18, Value.int .i64 (s.1 : Nat)), (7, Value.bool s.2.1), (6, s.2.2), (2, u_9), (3, u_10), (5, u_11), (10, u_12), (11, u_13), (12, u_14), (13, u_15), (14, u_16), (15, u_17), (16, u_18), (17, u_19)]) (fun s => [rowA (s.2.2) 9 1 (((insF (ns.getD i bs0) ((keysK (ns.take i)).take s.1)).1)).length ((((insF (ns.getD i bs0) ((keysK (ns.take i)).take s.1)).1)).flatMap cS), A_20]) (fun _ => _) (fun s => s.1 ≤ (keysK (ns.take i)).length ∧ s.2.1 = (insF (ns.getD i bs0) ((keysK (ns.take i)).take s.1)).2) (fun s => (keysK (ns.take i)).length - s.1) ((0, false, _)) ⟨Nat.zero_le _, rfl⟩ rfl ⟨rfl, rfl, rfl, rfl, rfl, rfl, rfl, rfl, rfl, rfl, rfl, rfl, rfl, rfl, trivial⟩ (.keep (fun _ _ h => rowA_nil rfl _ _ h) (.keep (fun _ _ h => h) (.nil))) (fun s hphi => ?_)
    subst hu_9
    subst hu_10
    subst hu_11
    subst hu_12
    subst hu_13
    subst hu_14
    subst hu_15
    subst hu_16
    subst hu_17
    subst hu_18
    subst hu_19
    subst hA_20
    obtain ⟨j, put, v6⟩ := s
    obtain ⟨hj, hp⟩ := hphi
    dsimp only at hj hp ⊢
    have hil := insF_len (ns.getD i bs0) ((keysK (ns.take i)).take j)
    rw [List.length_take] at hil
    refine c_seq ?_
    refine c_region ?_
    refine r_val .none rfl (p_lt rfl rfl) ?_
    refine r_nil ?_
    refine e_next ?_
    refine c_seq ?_
    refine c_splitd (d := 19) rfl (fun h_21 => ?_) (fun h_21 => ?_)
    ·
     first
      | (exfalso; omega)
      | (
       refine c_cond_t rfl ?_
       refine c_skip ?_
       refine e_next ?_
       refine c_seq ?_
       refine c_block ?_
       refine c_seq ?_
       refine c_region ?_
       refine r_iaddr_o (k := 1) .none rfl Try.underlying87 sz9 rfl rfl rfl (by first | exact of_decide_eq_true rfl | omega) (fun p_22 c_23 hv_24 => ?_)
       refine r_val .none rfl (p_ldo0 (k := 1) Try.underlying9 rfl rfl hv_24 rfl (by first | exact of_decide_eq_true rfl | omega) (by first | exact of_decide_eq_true rfl | omega) ((flatMap_get (cells := cS) (fun _ => rfl) bs0 _ _ _ (by first | exact of_decide_eq_true rfl | omega) (by first | exact of_decide_eq_true rfl | omega)).trans (rfl : _ = Value.string _))) ?_
       refine r_val .none rfl (p_assign rfl) ?_
       refine r_nil ?_
       refine e_next ?_
       refine c_seq ?_
       refine c_seq ?_
       refine c_region ?_
       refine r_val .none rfl (p_move rfl) ?_
       refine r_val .none rfl (p_not rfl) ?_
       refine r_val .none rfl (p_move rfl) ?_
       refine r_splitn (d := 24) rfl (fun h_25 => ?_) (fun h_25 => ?_)
       ·
        have hq0 := h_25
        first
         | (exfalso; omega)
         | (
          refine r_val (.some rfl rfl) rfl (p_move rfl) ?_
          refine r_val (.some rfl rfl) rfl (p_move rfl) ?_
          refine r_val (.some rfl rfl) rfl (p_les rfl rfl) ?_
          refine r_val .none rfl (p_pick_t rfl rfl) ?_
          refine r_nil ?_
          refine e_next ?_
          refine c_splitn (d := 28) rfl (fun h_26 => ?_) (fun h_26 => ?_)
          ·
           have hq1 := h_26
           have hq : (insF (ns.getD i bs0) ((keysK (ns.take i)).take j)).2 = false ∧ bLt ((keysK (ns.take i)).getD j bs0) (ns.getD i bs0) = false := by rw [← hp]; exact ⟨hq0, hq1⟩
           first
            | (exfalso; omega)
            | (
             refine c_cond_t rfl ?_
             refine c_seq ?_
             refine c_region ?_
             refine r_val .none rfl (p_move rfl) ?_
             refine r_val .none rfl (p_move rfl) ?_
             refine r_bslice (vs := [(0, Value.string _)]) (c := #[_]) .none rfl Try.underlying87 el9 rfl rfl rfl (bs9_10s1 _) (IsRow.lit _) (fun b_1 => ?_)
             refine r_append (k := 1) (k2 := 0) .none rfl Try.underlying87 el9 rfl (by decide) rfl rfl rfl rfl rfl (one_lit rfl rfl) (by simp only [maxLen]; omega) (by omega) (fun v_27 => ?_)
             refine r_row1 (k := 1) rfl (fun o_28 => ?_)
             refine r_val .none rfl (p_assign rfl) ?_
             refine r_nil ?_
             refine e_next ?_
             refine c_region ?_
             refine r_val .none rfl (p_assign rfl) ?_
             refine r_nil ?_
             refine e_next ?_
             refine c_seq ?_
             refine c_region ?_
             refine r_val .none rfl (p_move rfl) ?_
             refine r_val .none rfl (p_move rfl) ?_
             refine r_val .none rfl (p_nes rfl rfl) ?_
             refine r_nil ?_
             refine e_next ?_
             refine c_splitn (d := 35) rfl (fun h_29 => ?_) (fun h_29 => ?_)
             ·
              have hne : ¬ (keysK (ns.take i)).getD j bs0 = (ns.getD i bs0) := by simpa using h_29
              skip
              first
               | (exfalso; omega)
               | (
                refine c_cond_t rfl ?_
                refine c_region ?_
                refine r_val .none rfl (p_move rfl) ?_
                refine r_val .none rfl (p_move rfl) ?_
                refine r_bslice (vs := [(0, Value.string _)]) (c := #[_]) .none rfl Try.underlying87 el9 rfl rfl rfl (bs9_10s1 _) (IsRow.lit _) (fun b_2 => ?_)
                refine r_append (k := 2) (k2 := 0) .none rfl Try.underlying87 el9 rfl (by decide) rfl rfl rfl rfl rfl (one_lit rfl rfl) (by simp only [maxLen]; omega) (by omega) (fun v_30 => ?_)
                refine r_row1 (k := 2) rfl (fun o_31 => ?_)
                refine r_val .none rfl (p_assign rfl) ?_
                refine r_nil ?_
                refine e_norm_block ?_
                refine e_next ?_
                refine c_region ?_
                refine r_val .none rfl (p_add rfl rfl (by omega)) ?_
                refine r_val .none rfl (p_move rfl) ?_
                refine r_nil ?_
                refine e_round ((j + 1, true, _)) ⟨⟨by dsimp only; omega, by rw [insF_next bs0 (by omega), stepK]; dsimp only; rw [if_pos hq]⟩, by dsimp only; omega⟩ rfl ⟨rfl, rfl, rfl, rfl, rfl, rfl, rfl, rfl, rfl, rfl, rfl, rfl, rfl, rfl, trivial⟩ (.drop (.drop (.keep (fun _ _ h => rowA_congr (by rw [insF_next bs0 (by omega), stepK]; dsimp only; rw [if_pos hne, if_pos hq]; simp) (by rw [insF_next bs0 (by omega), stepK]; dsimp only; rw [if_pos hne, if_pos hq]; simp [row, at_]) _ _ h) (.keep (fun _ _ h => h) (.nil)))))
                )
             ·
              have hne : ¬ ¬ (keysK (ns.take i)).getD j bs0 = (ns.getD i bs0) := by simpa using h_29
              first
               | (exfalso; omega)
               | (
                refine c_cond_f rfl ?_
                refine c_skip ?_
                refine e_norm_block ?_
                refine e_next ?_
                refine c_region ?_
                refine r_val .none rfl (p_add rfl rfl (by omega)) ?_
                refine r_val .none rfl (p_move rfl) ?_
                refine r_nil ?_
                refine e_round ((j + 1, true, _)) ⟨⟨by dsimp only; omega, by rw [insF_next bs0 (by omega), stepK]; dsimp only; rw [if_pos hq]⟩, by dsimp only; omega⟩ rfl ⟨rfl, rfl, rfl, rfl, rfl, rfl, rfl, rfl, rfl, rfl, rfl, rfl, rfl, rfl, trivial⟩ (.drop (.keep (fun _ _ h => rowA_congr (by rw [insF_next bs0 (by omega), stepK]; dsimp only; rw [if_neg hne, if_pos hq]; simp) (by rw [insF_next bs0 (by omega), stepK]; dsimp only; rw [if_neg hne, if_pos hq]; simp [row, at_]) _ _ h) (.keep (fun _ _ h => h) (.nil))))
                )
             )
          ·
           have hq1 := h_26
           have hq : ¬ ((insF (ns.getD i bs0) ((keysK (ns.take i)).take j)).2 = false ∧ bLt ((keysK (ns.take i)).getD j bs0) (ns.getD i bs0) = false) := by rw [hq1]; simp
           first
            | (exfalso; omega)
            | (
             refine c_cond_f rfl ?_
             refine c_skip ?_
             refine e_next ?_
             refine c_seq ?_
             refine c_region ?_
             refine r_val .none rfl (p_move rfl) ?_
             refine r_val .none rfl (p_move rfl) ?_
             refine r_val .none rfl (p_nes rfl rfl) ?_
             refine r_nil ?_
             refine e_next ?_
             refine c_splitn (d := 35) rfl (fun h_32 => ?_) (fun h_32 => ?_)
             ·
              have hne : ¬ (keysK (ns.take i)).getD j bs0 = (ns.getD i bs0) := by simpa using h_32
              skip
              first
               | (exfalso; omega)
               | (
                refine c_cond_t rfl ?_
                refine c_region ?_
                refine r_val .none rfl (p_move rfl) ?_
                refine r_val .none rfl (p_move rfl) ?_
                refine r_bslice (vs := [(0, Value.string _)]) (c := #[_]) .none rfl Try.underlying87 el9 rfl rfl rfl (bs9_10s1 _) (IsRow.lit _) (fun b_3 => ?_)
                refine r_append (k := 1) (k2 := 0) .none rfl Try.underlying87 el9 rfl (by decide) rfl rfl rfl rfl rfl (one_lit rfl rfl) (by simp only [maxLen]; omega) (by omega) (fun v_33 => ?_)
                refine r_row1 (k := 1) rfl (fun o_34 => ?_)
                refine r_val .none rfl (p_assign rfl) ?_
                refine r_nil ?_
                refine e_norm_block ?_
                refine e_next ?_
                refine c_region ?_
                refine r_val .none rfl (p_add rfl rfl (by omega)) ?_
                refine r_val .none rfl (p_move rfl) ?_
                refine r_nil ?_
                refine e_round ((j + 1, put, _)) ⟨⟨by dsimp only; omega, by rw [insF_next bs0 (by omega), stepK]; dsimp only; rw [if_neg hq]; exact hp⟩, by dsimp only; omega⟩ rfl ⟨rfl, rfl, rfl, rfl, rfl, rfl, rfl, rfl, rfl, rfl, rfl, rfl, rfl, rfl, trivial⟩ (.drop (.keep (fun _ _ h => rowA_congr (by rw [insF_next bs0 (by omega), stepK]; dsimp only; rw [if_pos hne, if_neg hq]; simp) (by rw [insF_next bs0 (by omega), stepK]; dsimp only; rw [if_pos hne, if_neg hq]; simp [row, at_]) _ _ h) (.keep (fun _ _ h => h) (.nil))))
                )
             ·
              have hne : ¬ ¬ (keysK (ns.take i)).getD j bs0 = (ns.getD i bs0) := by simpa using h_32
              first
               | (exfalso; omega)
               | (
                refine c_cond_f rfl ?_
                refine c_skip ?_
                refine e_norm_block ?_
                refine e_next ?_
                refine c_region ?_
                refine r_val .none rfl (p_add rfl rfl (by omega)) ?_
                refine r_val .none rfl (p_move rfl) ?_
                refine r_nil ?_
                refine e_round ((j + 1, put, _)) ⟨⟨by dsimp only; omega, by rw [insF_next bs0 (by omega), stepK]; dsimp only; rw [if_neg hq]; exact hp⟩, by dsimp only; omega⟩ rfl ⟨rfl, rfl, rfl, rfl, rfl, rfl, rfl, rfl, rfl, rfl, rfl, rfl, rfl, rfl, trivial⟩ (.keep (fun _ _ h => rowA_same (by rw [insF_next bs0 (by omega), stepK]; dsimp only; rw [if_neg hne, if_neg hq]) _ _ h) (.keep (fun _ _ h => h) (.nil)))
                )
             )
          )
       ·
        have hq0 := h_25
        have hq : ¬ ((insF (ns.getD i bs0) ((keysK (ns.take i)).take j)).2 = false ∧ bLt ((keysK (ns.take i)).getD j bs0) (ns.getD i bs0) = false) := by rw [← hp, hq0]; simp
        first
         | (exfalso; omega)
         | (
          refine r_skip rfl (.no rfl rfl) ?_
          refine r_skip rfl (.no rfl rfl) ?_
          refine r_skip rfl (.no rfl rfl) ?_
          refine r_val .none rfl (p_pick_f rfl rfl) ?_
          refine r_nil ?_
          refine e_next ?_
          refine c_cond_f rfl ?_
          refine c_skip ?_
          refine e_next ?_
          refine c_seq ?_
          refine c_region ?_
          refine r_val .none rfl (p_move rfl) ?_
          refine r_val .none rfl (p_move rfl) ?_
          refine r_val .none rfl (p_nes rfl rfl) ?_
          refine r_nil ?_
          refine e_next ?_
          refine c_splitn (d := 35) rfl (fun h_35 => ?_) (fun h_35 => ?_)
          ·
           have hne : ¬ (keysK (ns.take i)).getD j bs0 = (ns.getD i bs0) := by simpa using h_35
           skip
           first
            | (exfalso; omega)
            | (
             refine c_cond_t rfl ?_
             refine c_region ?_
             refine r_val .none rfl (p_move rfl) ?_
             refine r_val .none rfl (p_move rfl) ?_
             refine r_bslice (vs := [(0, Value.string _)]) (c := #[_]) .none rfl Try.underlying87 el9 rfl rfl rfl (bs9_10s1 _) (IsRow.lit _) (fun b_4 => ?_)
             refine r_append (k := 1) (k2 := 0) .none rfl Try.underlying87 el9 rfl (by decide) rfl rfl rfl rfl rfl (one_lit rfl rfl) (by simp only [maxLen]; omega) (by omega) (fun v_36 => ?_)
             refine r_row1 (k := 1) rfl (fun o_37 => ?_)
             refine r_val .none rfl (p_assign rfl) ?_
             refine r_nil ?_
             refine e_norm_block ?_
             refine e_next ?_
             refine c_region ?_
             refine r_val .none rfl (p_add rfl rfl (by omega)) ?_
             refine r_val .none rfl (p_move rfl) ?_
             refine r_nil ?_
             refine e_round ((j + 1, put, _)) ⟨⟨by dsimp only; omega, by rw [insF_next bs0 (by omega), stepK]; dsimp only; rw [if_neg hq]; exact hp⟩, by dsimp only; omega⟩ rfl ⟨rfl, rfl, rfl, rfl, rfl, rfl, rfl, rfl, rfl, rfl, rfl, rfl, rfl, rfl, trivial⟩ (.drop (.keep (fun _ _ h => rowA_congr (by rw [insF_next bs0 (by omega), stepK]; dsimp only; rw [if_pos hne, if_neg hq]; simp) (by rw [insF_next bs0 (by omega), stepK]; dsimp only; rw [if_pos hne, if_neg hq]; simp [row, at_]) _ _ h) (.keep (fun _ _ h => h) (.nil))))
             )
          ·
           have hne : ¬ ¬ (keysK (ns.take i)).getD j bs0 = (ns.getD i bs0) := by simpa using h_35
           first
            | (exfalso; omega)
            | (
             refine c_cond_f rfl ?_
             refine c_skip ?_
             refine e_norm_block ?_
             refine e_next ?_
             refine c_region ?_
             refine r_val .none rfl (p_add rfl rfl (by omega)) ?_
             refine r_val .none rfl (p_move rfl) ?_
             refine r_nil ?_
             refine e_round ((j + 1, put, _)) ⟨⟨by dsimp only; omega, by rw [insF_next bs0 (by omega), stepK]; dsimp only; rw [if_neg hq]; exact hp⟩, by dsimp only; omega⟩ rfl ⟨rfl, rfl, rfl, rfl, rfl, rfl, rfl, rfl, rfl, rfl, rfl, rfl, rfl, rfl, trivial⟩ (.keep (fun _ _ h => rowA_same (by rw [insF_next bs0 (by omega), stepK]; dsimp only; rw [if_neg hne, if_neg hq]) _ _ h) (.keep (fun _ _ h => h) (.nil)))
             )
          )
       )
    ·
     first
      | (exfalso; omega)
      | (
       refine c_cond_f rfl ?_
       refine c_exit ?_
       refine e_exit_then ?_
       refine e_exit_then ?_
       refine e_exit_block ?_
       refine e_next ?_
       refine c_seq ?_
       refine c_seq ?_
       refine c_region ?_
       refine r_val .none rfl (p_move rfl) ?_
       refine r_val .none rfl (p_not rfl) ?_
       refine r_nil ?_
       refine e_next ?_
       refine c_splitn (d := 42) rfl (fun h_38 => ?_) (fun h_38 => ?_)
       ·
        have htk : (keysK (ns.take i)).take j = (keysK (ns.take i)) := List.take_of_length_le (by omega)
        have hput : (insF (ns.getD i bs0) (keysK (ns.take i))).2 = false := by have h9 := hp; rw [List.take_of_length_le (by omega)] at h9; rw [← h9]; exact h_38
        first
         | (exfalso; omega)
         | (
          refine c_cond_t rfl ?_
          refine c_region ?_
          refine r_val .none rfl (p_move rfl) ?_
          refine r_val .none rfl (p_move rfl) ?_
          refine r_bslice (vs := [(0, Value.string _)]) (c := #[_]) .none rfl Try.underlying87 el9 rfl rfl rfl (bs9_10s1 _) (IsRow.lit _) (fun b_5 => ?_)
          refine r_append (k := 1) (k2 := 0) .none rfl Try.underlying87 el9 rfl (by decide) rfl rfl rfl rfl rfl (one_lit rfl rfl) (by simp only [maxLen]; omega) (by omega) (fun v_39 => ?_)
          refine r_row1 (k := 1) rfl (fun o_40 => ?_)
          refine r_val .none rfl (p_assign rfl) ?_
          refine r_nil ?_
          refine e_next ?_
          refine c_region ?_
          refine r_val .none rfl (p_move rfl) ?_
          refine r_val .none rfl (p_assign rfl) ?_
          refine r_nil ?_
          refine e_norm_block ?_
          refine e_next ?_
          refine c_region ?_
          refine r_val .none rfl (p_add rfl rfl (by omega)) ?_
          refine r_val .none rfl (p_move rfl) ?_
          refine r_nil ?_
          refine e_round ((i + 1, _)) ⟨by dsimp only; omega, by dsimp only; omega⟩ rfl ⟨rfl, rfl, rfl, rfl, rfl, trivial⟩ (.drop (.keep (fun _ _ h => rowA_congr (by rw [keysK_next bs0 (by omega), htk]; unfold insK; first | (rw [if_pos hput, List.length_append]; rfl) | rw [if_neg hput]) (by rw [keysK_next bs0 (by omega), htk]; unfold insK; first | (rw [if_pos hput, List.flatMap_append]; rfl) | rw [if_neg hput]) _ _ h) (.drop (.nil))))
          )
       ·
        have htk : (keysK (ns.take i)).take j = (keysK (ns.take i)) := List.take_of_length_le (by omega)
        have hput : ¬ (insF (ns.getD i bs0) (keysK (ns.take i))).2 = false := by have h9 := hp; rw [List.take_of_length_le (by omega)] at h9; rw [← h9]; simpa using h_38
        first
         | (exfalso; omega)
         | (
          refine c_cond_f rfl ?_
          refine c_skip ?_
          refine e_next ?_
          refine c_region ?_
          refine r_val .none rfl (p_move rfl) ?_
          refine r_val .none rfl (p_assign rfl) ?_
          refine r_nil ?_
          refine e_norm_block ?_
          refine e_next ?_
          refine c_region ?_
          refine r_val .none rfl (p_add rfl rfl (by omega)) ?_
          refine r_val .none rfl (p_move rfl) ?_
          refine r_nil ?_
          refine e_round ((i + 1, _)) ⟨by dsimp only; omega, by dsimp only; omega⟩ rfl ⟨rfl, rfl, rfl, rfl, rfl, trivial⟩ (.keep (fun _ _ h => rowA_congr (by rw [keysK_next bs0 (by omega), htk]; unfold insK; first | (rw [if_pos hput, List.length_append]; rfl) | rw [if_neg hput]) (by rw [keysK_next bs0 (by omega), htk]; unfold insK; first | (rw [if_pos hput, List.flatMap_append]; rfl) | rw [if_neg hput]) _ _ h) (.drop (.nil)))
          )
       )
    )
 ·
  first
   | (exfalso; omega)
   | (
    refine c_cond_f rfl ?_
    refine c_exit ?_
    refine e_exit_then ?_
    refine e_exit_then ?_
    refine e_exit_block ?_
    refine e_next ?_
    refine c_seq ?_
    refine c_region ?_
    refine r_val .none rfl (p_move rfl) ?_
    refine r_val .none rfl (p_assign rfl) ?_
    refine r_nil ?_
    refine e_next ?_
    refine c_ret ?_
    refine e_ret1 Try.results46 (.tmp rfl .nil) (fun w hm => hm.made [rowA v3 9 1 (keysK ns).length ((keysK ns).flatMap cS)] (.keep (fun _ _ h => rowA_congr (by rw [List.take_of_length_le (by omega)]) (by rw [List.take_of_length_le (by omega)]) _ _ h) (.nil)) _ (fun F' h => starL_one1 h))
    )
theorem c_rkeysM (v : Value) (ns : List ByteArray) {G : Ghost} (hs : SlL G v 1 cS bs0 ns) (hn : ns.length ≤ 1000) (w : World) (hG : Has G w) : Calls Try.prog 46 #[v] w (Ret fun r w' => ∃ H : Ghost, (∀ b, H b ≠ none → w.heap.size ≤ b) ∧ Has H w' ∧ SlL H r 1 cS bs0 (keysK ns) ∧ Since nX w w') := by
 refine (c_rkeys v ns hs hn w hG).mono (fun e w' hR => ?_)
 cases e with
 | returned r =>
  obtain ⟨H, h1, h2, h3, h4⟩ := row_fresh hR
  exact ⟨H, h1, h2, SlL.of bs0 (fun _ => rfl) rfl h3, h4⟩
 | panicked c => exact hR.elim
 | outgrown => exact hR.elim
end Go.Proofs.Ytinbigokigkfaaa

/- Walks: what Go functions of this chapter come to, each as a function on plain data; no condition but those that each theorem names. Printed by a program of this work (gen.py). -/
namespace Go.Proofs.Ytinbigokigkfaaa
open Go.Gx Go.Gx.T10
theorem cl72 : Callable Try.prog 72 := callable Try.func72 (by kernel_rfl) rfl
theorem cl73 : Callable Try.prog 73 := callable Try.func73 (by kernel_rfl) rfl
theorem cl81 : Callable Try.prog 81 := callable Try.func81 (by kernel_rfl) rfl
theorem cl82 : Callable Try.prog 82 := callable Try.func82 (by kernel_rfl) rfl
theorem keysS_new (m : Nat) (w : World) : Calls Try.prog 73 #[.map (some m)] w (Ret fun r w' => ∃ p, r = .func (.func 83) #[] #[.pointer (some ⟨p, 0, none⟩)] ∧ Since nX w w' ∧ ∃ F', (box p 1 144 (at_ [.map (some m)])).holds w' F' ∧ ∀ b, F' b → w.heap.size ≤ b) := by
 refine ((callsIn_wide (n := 5)).1 (Go.Proofs.AnyZ.keys_in Try.keysS Fence.wide 5 trivial rfl (some m) w)).mono (fun e w' hR => ?_)
 obtain ⟨rfl, rfl⟩ := hR
 refine ⟨_, rfl, ⟨rfl, rfl, rfl, by show _ ≤ (w.heap.push _).size; simp, fun k hk _ => ?_⟩, fun b => b = w.heap.size, ⟨⟨#[.map (some m)], by show (w.heap.push _)[w.heap.size]? = _; rw [Array.getElem?_push, if_pos rfl]; rfl, IsRow.lit [_]⟩, fun _ => Iff.rfl⟩, fun b hb => by omega⟩
 show (w.heap.push _)[k]? = _
 rw [Array.getElem?_push, if_neg (by omega)]
theorem collS : CollC Try.prog 81 83 9 := by
 intro Bm b nn D0 w hcell hlt hown hmax hbytes
 have hseq : SeqGives Fence.wide 2 Try.prog 83 #[.pointer (some ⟨Bm, 0, none⟩)] encStr (fun ss => ss.Perm (strKeys D0)) (Maps.size D0) w :=
  Go.Proofs.AnyZ.keys_gives (ρ := Try.keysS_ren) { Try.keysS with } Fence.wide _ trivial rfl (by omega) Bm b nn D0 _ hlt hcell hown
 refine ((callsIn_wide (n := 4)).1 (Go.Proofs.AnyZ.collect_in Try.collectS Fence.wide 4 trivial trivial rfl (by omega) 83 #[.pointer (some ⟨Bm, 0, none⟩)] trivial (enters_of Try.func83 (by kernel_rfl) rfl) _ _ hmax hbytes w hseq)).mono (fun e w' hR => ?_)
 obtain ⟨v, ss, he, hS, hrow, _, hb⟩ := hR
 exact ⟨v, ss, he, hS, hrow, hb⟩
theorem cmpS_run (x y : ByteArray) (W : World) : Calls Try.prog 45 #[.string x, .string y] W fun e w' => e = .returned (.int .i64 (cmpB x y)) ∧ ∃ q os', w' = Go.Sort.grow (W.drewN q) os' := by
 refine Calls.mono (R := fun e w' => e = .returned (.int .i64 (cmpB x y)) ∧ w' = W) ?_ (fun e w' ⟨h1, h2⟩ => ⟨h1, 0, #[], by rw [h2]; simp [Go.Sort.grow, World.drewN]⟩)
 have e1 : Op.bytesLess x.toList y.toList = bLt x y := rfl
 have e2 : (!(Op.bytesLess x.toList y.toList || x.toList == y.toList)) = bLt y x := by rw [beq_bytes]; exact bLt_nlt
 go_enter Try.func45, Try.ntmps45
 unfold cmpB
 cases h1 : bLt x y <;> cases h2 : bLt y x <;> (rw [h1] at e1; rw [h2] at e2; go_wp2 <;> simp_all) <;> (go_ret; simp_all)
theorem sortSC : Sort1C Try.prog 82 45 kS sortB := by
 intro blk cap zs w hH hblk hlen
 have eg : ∀ args w, (callFunc 45 args).run Try.prog w = .ok (.enter 45 args) w := enters_of Try.func45 (by kernel_rfl) rfl
 have h := Try.slices_SortFunc_total_f82 (α := ByteArray) kS (fun _ => rfl) cmpB cmpB_swo 45 #[] blk 0 cap zs.toArray w eg (fun _ _ _ _ x y => cmpS_run x y _) hH hblk (by simpa using hlen) cmpB_total
 exact h
theorem sortSN : Sort1N Try.prog 82 45 := fun p cap w => Try.slices_SortFunc_none_f82 (α := ByteArray) p cap _ w
theorem c_sortedS (Bm m : Nat) (l : List (ByteArray × Int)) {F1 F2 : Nat → Prop} (hwf : ∀ p ∈ l, p.1.size ≤ maxLen) (hlen : l.length * 16 ≤ 140737488355328) (w : World) (h1 : (mapA m kS kI l).holds w F1) (h2 : (box Bm 1 144 (at_ [.map (some m)])).holds w F2) :
  Calls Try.prog 72 #[Value.func (.func 83) #[] #[Value.pointer (some ⟨Bm, 0, none⟩)], Value.func (.func 45) #[] #[]] w (Ret fun r w' => ∃ zs : List ByteArray, zs = (sortB (l.map Prod.fst)) ∧ Since nX w w' ∧ ∃ F', (rowA r 9 1 zs.length (zs.flatMap cS)).holds w' F' ∧ ∀ b, F' b → w.heap.size ≤ b) := by
 refine enter (args := [_, _]) (X := nX) (G := (fun _ => none)) (l := [(0, Value.func (.func 83) #[] #[Value.pointer (some ⟨Bm, 0, none⟩)]), (1, Value.func (.func 45) #[] #[])]) Try.func72 rfl Try.ntmps72 (fun _ _ h => by cases h) ⟨rfl, rfl, trivial⟩ (Nat.le_of_ble_eq_true rfl) ?_
 refine c_seq ?_
 refine c_region ?_
 refine r_val .none rfl (p_assign rfl) ?_
 refine r_nil ?_
 refine e_next ?_
 refine c_seq ?_
 refine c_region ?_
 refine r_val .none rfl (p_move rfl) ?_
 refine r_callSrow (S := fun zs : List ByteArray => zs.Perm (l.map Prod.fst)) (R := fun v zs => rowA v 9 1 zs.length (zs.flatMap cS)) (vs := [_]) .none rfl cl81 rfl (fun w hw hS => collectS collS Try.underlying9 h1 h2 hS hwf hlen) (fun v_1 z_2 hz_3 => ?_)
 refine r_val .none rfl (p_assign rfl) ?_
 refine r_nil ?_
 refine e_next ?_
 refine c_seq ?_
 refine c_region ?_
 refine r_val .none rfl (p_move rfl) ?_
 refine r_val .none rfl (p_move rfl) ?_
 refine r_sort1 (k := 0) (zs := _) .none rfl cl82 rfl rfl sortSC sortSN (sortB_len _) (by have h9 := (show _ from ‹List.Perm _ _›).length_eq; rw [List.length_map] at h9; omega) ?_
 refine r_nil ?_
 refine e_next ?_
 refine c_seq ?_
 refine c_region ?_
 refine r_val .none rfl (p_move rfl) ?_
 refine r_val .none rfl (p_assign rfl) ?_
 refine r_nil ?_
 refine e_next ?_
 refine c_ret ?_
 refine e_ret1 Try.results72 (.tmp rfl .nil) (fun w hm => ⟨_, rfl, hm.made [rowA v_1 9 1 (sortB (l.map Prod.fst)).length ((sortB (l.map Prod.fst)).flatMap cS)] (.keep (fun _ _ h => rowA_congr (by rw [sortB_eq hz_3]) (by rw [sortB_eq hz_3]) _ _ h) (.nil)) _ (fun F' h => starL_one1 h)⟩)
theorem c_keysS {F : Nat → Prop} {G : Ghost} (p : Nat) (l : List (ByteArray × Int)) (t : Int) (hwf : ∀ p ∈ l, p.1.size ≤ maxLen) (hlen : l.length ≤ 2000) (w : World) (hG : Has G w) (hA : (tallyS p l t).holds w F) (hFG : ∀ b, F b → G b = none) :
  Calls Try.prog 44 #[Value.pointer (some ⟨p, 0, none⟩), Value.func (.func 45) #[] #[]] w (Ret fun r w' => ∃ G', GNew w F G G' ∧ Has G' w' ∧ SlL G' r 1 cS bs0 (sortB (l.map Prod.fst)) ∧ KeptG (tallyS p l t) F G' w w') := by
 refine enterO (args := [_, _]) (G := G) (A := tallyS p l t) (l := [(0, Value.pointer (some ⟨p, 0, none⟩)), (1, Value.func (.func 45) #[] #[])]) Try.func44 rfl Try.ntmps44 hG hA hFG ⟨rfl, rfl, trivial⟩ (Nat.le_of_ble_eq_true rfl) ?_
 refine c_unex (fun m => ?_)
 refine c_unpack ?_
 refine c_seq ?_
 refine c_region ?_
 refine r_val .none rfl (p_assign rfl) ?_
 refine r_nil ?_
 refine e_next ?_
 refine c_seq ?_
 refine c_region ?_
 refine r_val .none rfl (p_move rfl) ?_
 refine r_val .none rfl (p_nilcheck rfl) ?_
 refine r_val .none rfl (p_field Try.underlying146 rfl sz144 rfl) ?_
 refine r_val .none rfl (p_ld (k := 0) Try.underlying144 rfl rfl rfl (by first | exact of_decide_eq_true rfl | omega) (rfl : _ = Value.map _)) ?_
 refine r_callnew (S := fun p => box p 1 144 (at_ [.map (some m)])) (vr := fun p => .func (.func 83) #[] #[.pointer (some ⟨p, 0, none⟩)]) .none rfl cl73 rfl (fun w hw => keysS_new _ w) (fun p_1 => ?_)
 refine r_val .none rfl (p_move rfl) ?_
 refine r_callreadrow (i := 2) (j := 0) (S := fun zs : List ByteArray => zs = (sortB (l.map Prod.fst))) (R := fun v zs => rowA v 9 1 zs.length (zs.flatMap cS)) (vs := [_, _]) .none rfl cl72 rfl rfl rfl (fun w F1 F2 hw h1 h2 => c_sortedS _ _ _ hwf (by omega) w h1 h2) (fun v_2 z_3 hz_4 => ?_)
 refine r_val .none rfl (p_assign rfl) ?_
 refine r_nil ?_
 refine e_next ?_
 refine c_ret ?_
 refine e_freeze (k := 0) rfl (fun G_5 hn_6 hs_7 => ?_)
 refine e_ret1 Try.results44 (.tmp rfl .nil) (fun w hm => ⟨_, hn_6, hm.has, ?_, hm.keptG [box p 2 146 (at_ [.map (some m), .int .i64 t]), mapA m kS kI l] (.drop (.keep (fun _ _ h => h) (.keep (fun _ _ h => h) (.nil)))) (tallyS p l t) (fun F' h => ⟨m, h⟩)⟩)
 exact SlL.of2 bs0 (fun _ => rfl) (by rw [hz_4]) (by rw [hz_4]) hs_7
end Go.Proofs.Ytinbigokigkfaaa

/-
  GX: results that lie in memory of the call's own alone; parts of arrays. Generic in the program.
-/
namespace Go.Gx
open Go.RowKit

/-- What is known of the memory that was laid since a world. -/
def fr (w0 : World) (G : Ghost) : Ghost := fun b => if w0.heap.size ≤ b then G b else none
theorem fr_le (w0 : World) (G : Ghost) : GLe (fr w0 G) G := fun b o e => by
  unfold fr at e
  split at e
  · exact e
  · cases e
theorem RowAt.fr {w0 : World} {G : Ghost} {b o n : Nat} {g : Nat → Value} (h : RowAt G b o n g) (hb : w0.heap.size ≤ b) : RowAt (fr w0 G) b o n g := by
  obtain ⟨c, T, f, h1, h2⟩ := h
  exact ⟨c, T, f, by unfold Gx.fr; rw [if_pos hb]; exact h1, h2⟩
theorem SlG.fr {w0 : World} {G : Ghost} {v : Value} {n sz : Nat} {f : Nat → Nat → Value} (h : SlG G v n sz f) (hv : ∀ b, v.ownBlock = some b → w0.heap.size ≤ b) : SlG (fr w0 G) v n sz f := by
  obtain ⟨a, cap, rfl, hc, hr⟩ := h
  refine ⟨a, cap, rfl, hc, fun hn => ?_⟩
  obtain ⟨b, o, rfl, h2⟩ := hr hn
  exact ⟨b, o, rfl, fun i hi => (h2 i hi).fr (hv b rfl)⟩
theorem RowAt.sub {G : Ghost} {b o n j m : Nat} {g : Nat → Value} (h : RowAt G b o n g) (hj : j + m ≤ n) : RowAt G b (o + j) m (fun i => g (j + i)) := by
  obtain ⟨c, T, f, h1, h2⟩ := h
  exact ⟨c, T, f, h1, fun i hi => by rw [Nat.add_assoc]; exact h2 (j + i) (by omega)⟩

section
variable {P : Program} {ops : Array Oper} {Q : Exit → Act → World → Prop} {N : Nat} {w0 : World} {G : Ghost} {l : List (Nat × Value)} {L : List Asrt}
variable {rest : List Oper} {d : Nat} {ty : TypeId} {pos : String} {after : Array Edge} {gd : Option (Nat × Bool)} {v : Value}

/-- The same; a row of the call's own is read. -/
theorem r_callfr {f : FuncId} {xs : List Operand} {vs : List Value} {ats : Array TypeId} {k n sz : Nat} {E : TypeId} {r0 : Value} {zs : List Value} {S : Ghost → Value → Prop} (hw : Wt ops l gd) (hd : Nat.blt d N = true) (hf : Callable P f) (hv : evs l xs = some vs) (hL : L[k]? = some (rowA r0 E sz n zs))
    (hS : ∀ H H' r, GLe H H' → S H r → S H' r)
    (hc : ∀ w G1, Has G1 w → GLe G G1 → SlG G1 r0 n sz (fun i j => zs.getD (i * sz + j) undef) → Calls P f vs.toArray w (Ret fun r w' => ∃ H : Ghost, (∀ b, H b ≠ none → w.heap.size ≤ b) ∧ Has H w' ∧ S H r ∧ Since nX w w'))
    (h : ∀ G' r, GNew w0 nX G G' → S (fr w0 G') r → Runs P ops Q N nX w0 G' rest ((d, r) :: l) L) : Runs P ops Q N nX w0 G (⟨some d, .call ⟨.value (.func f), xs.toArray, ats⟩, ty, pos, after, gd⟩ :: rest) l L := by
  refine Runs.step hw (fun a w hSt => ?_)
  show Oper.upon P _ a _ Q _
  rw [run_call hSt.fr hv hf, Oper.upon_enter]
  obtain ⟨G1, h1, h2, h3⟩ := hSt.mem.freeze hL
  refine (hc w G1 h3.has h1.le h2).mono (fun e w' hR => ?_)
  cases e with
  | returned r =>
    obtain ⟨H, hfresh, hh, hr, hs⟩ := hR
    have hnew : GNew w nX G (fun b => match G b with | some o => some o | none => H b) :=
      ⟨fun b o e => by simp [e], fun b e e' => .inl (hfresh b (by simpa [e] using e'))⟩
    have hle : GLe H (fr w0 (fun b => match G b with | some o => some o | none => H b)) := fun b o e => by
      have hge : w.heap.size ≤ b := hfresh b (by rw [e]; simp)
      have : G b = none := hSt.mem.has.fresh hge
      unfold fr
      rw [if_pos (Nat.le_trans hSt.mem.since.size hge)]
      simp [this, e]
    refine h _ r (hnew.up hSt.mem.since.size) (hS _ _ _ hle hr) _ _ ⟨hSt.fr.put (by simpa using hd) _, hSt.mem.callG hs hnew ?_⟩
    intro b o e
    cases e2 : G b with
    | none => simp only [e2] at e; exact hh b o e
    | some o2 =>
      simp only [e2] at e
      cases e
      rw [hs.block b (hSt.mem.has.lt e2) id]
      exact hSt.mem.has b o e2
  | panicked c => exact hR.elim
  | outgrown => exact hR.elim
end

section
variable {P : Program} {N : Nat} {X : Nat → Prop} {w0 : World} {G : Ghost} {l : List (Nat × Value)} {L : List Asrt} {d : Nat} {ty : TypeId} {pos : String} {after : Array Edge} {gd : Option (Nat × Bool)} {x y : Operand}
end
end Go.Gx

/- Walks: what Go functions of this chapter come to, each as a function on plain data; no condition but those that each theorem names. Printed by a program of this work (gen.py). -/
namespace Go.Proofs.Ytinbigokigkfaaa
open Go.Gx Go.Gx.T10
theorem sz4 : SzIs Try.prog 4 1 := by
 unfold SzIs
 kernel_rfl
theorem sz89 : SzIs Try.prog 89 2 := by
 unfold SzIs
 kernel_rfl
theorem zr89 : ZeroIs Try.prog 89 (Value.agg #[Value.bool false, Value.string ⟨#[]⟩]) := by
 unfold ZeroIs
 kernel_rfl
theorem cl39 : Callable Try.prog 39 := callable Try.func39 (by kernel_rfl) rfl
theorem cl40 : Callable Try.prog 40 := callable Try.func40 (by kernel_rfl) rfl
theorem cl42 : Callable Try.prog 42 := callable Try.func42 (by kernel_rfl) rfl
theorem cl44 : Callable Try.prog 44 := callable Try.func44 (by kernel_rfl) rfl
theorem cl46 : Callable Try.prog 46 := callable Try.func46 (by kernel_rfl) rfl
theorem cl47 : Callable Try.prog 47 := callable Try.func47 (by kernel_rfl) rfl
theorem c_TallyPlays (v : Value) (os : List OpS) {G : Ghost} (hs : SlL G v 2 opSC opS0 os) (w : World) (hG : Has G w) :
  Calls Try.prog 8 #[v] w (Ret fun r w' => r = Value.bool true ∧ Since nX w w') := by
 refine enter (args := [_]) (X := nX) (G := G) (l := [(0, v)]) Try.func8 rfl Try.ntmps8 hG ⟨rfl, trivial⟩ (Nat.le_of_ble_eq_true rfl) ?_
 refine c_seq ?_
 refine c_region ?_
 refine r_val .none rfl (p_assign rfl) ?_
 refine r_nil ?_
 refine e_next ?_
 refine c_seq ?_
 refine c_region ?_
 refine r_callnew (vs := []) .none rfl cl38 rfl (fun w hw => c_tnewS w hw) (fun p_1 => ?_)
 refine r_val .none rfl (p_assign rfl) ?_
 refine r_nil ?_
 refine e_next ?_
 refine c_seq ?_
 refine c_seq ?_
 refine c_region ?_
 refine r_val .none rfl (p_move rfl) ?_
 refine r_val .none rfl (p_leng Try.underlying84 rfl hs) ?_
 have bd_2 := (hs).bound
 refine r_val .none rfl (p_gt rfl rfl) ?_
 refine r_val .none rfl (p_move rfl) ?_
 refine r_splitd (d := 17) rfl (fun h_3 => ?_) (fun h_3 => ?_)
 ·
  first
   | (exfalso; first | omega | assumption)
   | (
    refine r_skip rfl (.no rfl rfl) ?_
    refine r_skip rfl (.no rfl rfl) ?_
    refine r_val .none rfl (p_pick_t rfl rfl) ?_
    refine r_nil ?_
    refine e_next ?_
    refine c_cond_t rfl ?_
    refine c_seq ?_
    refine c_region ?_
    refine r_val .none rfl (p_move rfl) ?_
    refine r_val .none rfl (p_ne_ptr Try.underlying85 (by first | exact .inr rfl | exact .inl rfl) rfl rfl) ?_
    refine r_say (d := 22) (v := Value.bool true) rfl ?_
    refine r_val .none rfl (p_move rfl) ?_
    refine r_call (vs := []) (.some rfl rfl) rfl cl13 rfl (fun w hw => c_awake10 w) ?_
    refine r_val .none rfl (p_pick_t rfl rfl) ?_
    refine r_val .none rfl (p_assign rfl) ?_
    refine r_nil ?_
    refine e_next ?_
    refine c_ret ?_
    refine e_ret_then ?_
    refine e_ret1 Try.results8 (.tmp rfl .nil) (fun w hm => ⟨?_, hm.since⟩)
    first
    | rfl
    | (simp; done)
    )
 ·
  first
   | (exfalso; first | omega | assumption)
   | (
    refine r_val (.some rfl rfl) rfl (p_move rfl) ?_
    refine r_val (.some rfl rfl) rfl (p_eq_ptr Try.underlying85 (by first | exact .inr rfl | exact .inl rfl) rfl rfl) ?_
    refine r_say (d := 19) (v := Value.bool false) rfl ?_
    refine r_val .none rfl (p_pick_f rfl rfl) ?_
    refine r_nil ?_
    refine e_next ?_
    refine c_cond_f rfl ?_
    refine c_skip ?_
    refine e_next ?_
    refine c_seq ?_
    refine c_region ?_
    refine r_val .none rfl (p_assign rfl) ?_
    refine r_nil ?_
    refine e_next ?_
    refine c_seq ?_
    refine c_seq ?_
    refine c_region ?_
    refine r_val .none rfl (p_move rfl) ?_
    refine r_val .none rfl (p_leng Try.underlying84 rfl hs) ?_
    have bd_4 := (hs).bound
    refine r_val .none rfl (p_move rfl) ?_
    refine r_nil ?_
    refine e_next ?_
    refine c_block ?_
    refine c_nilrow 9 1 ?_
    refine c_name (d := 3) rfl (fun u_5 hu_5 => ?_)
    refine c_name (d := 26) rfl (fun u_6 hu_6 => ?_)
    refine c_name (d := 27) rfl (fun u_7 hu_7 => ?_)
    refine c_loop (σ := Nat × List (ByteArray × Int) × List ByteArray × Value) (fun s => [(28, Value.int .i64 (s.1 : Nat)), (4, s.2.2.2), (3, u_5), (26, u_6), (27, u_7)]) (fun s => [rowA (s.2.2.2) 9 1 (s.2.2.1).length ((s.2.2.1).flatMap cS), tallyS p_1 s.2.1 (s.2.2.1.length : Nat)]) (fun _ => _) (fun s => s.1 ≤ os.length ∧ Tal s.2.1 s.2.2.1 ∧ s.2.2.1.length ≤ s.1 ∧ ∀ k ∈ s.2.2.1, k.size ≤ maxLen) (fun s => os.length - s.1) ((0, [], [], _)) ⟨Nat.zero_le _, Tal.nil, Nat.le_refl _, by simp⟩ rfl ⟨rfl, rfl, rfl, rfl, rfl, trivial⟩ (.keep (fun _ _ h => rowA_nil rfl _ _ h) (.keep (fun _ _ h => h) (.nil))) (fun s hphi => ?_)
    subst hu_5
    subst hu_6
    subst hu_7
    obtain ⟨j, l, ns, vx⟩ := s
    obtain ⟨hj, htal, hnl, hszs⟩ := hphi
    dsimp only at hj htal hnl hszs ⊢
    have hb := htal.bd (by omega) (os.getD j opS0).2.1
    have heq := htal.eq (os.getD j opS0).2.1
    have hnum := num_le ns (os.getD j opS0).2.1
    have hn : ns.length ≤ 1000 := by omega
    refine c_seq ?_
    refine c_region ?_
    refine r_val .none rfl (p_lt rfl rfl) ?_
    refine r_nil ?_
    refine e_next ?_
    refine c_seq ?_
    refine c_splitd (d := 29) rfl (fun h_8 => ?_) (fun h_8 => ?_)
    ·
     first
      | (exfalso; first | omega | assumption)
      | (
       refine c_cond_t rfl ?_
       refine c_skip ?_
       refine e_next ?_
       refine c_seq ?_
       refine c_block ?_
       refine c_seq ?_
       refine c_region ?_
       refine r_iaddr_g .none rfl Try.underlying84 sz89 rfl hs rfl (by first | exact of_decide_eq_true rfl | omega) (fun p_10 o_11 R_9 => ?_)
       refine r_val .none rfl (p_ldga0 Try.underlying89 rfl sz89 rfl R_9 (by first | exact of_decide_eq_true rfl | omega) (rfl : _ = Value.agg #[_, _])) ?_
       refine r_alloc .none rfl zr89 (IsRow.lit _) (fun b_1 => ?_)
       refine r_stw (k := 0) .none sz89 rfl rfl (IsRow.lit _) (one_lit rfl rfl) rfl ?_
       refine r_nil ?_
       refine e_next ?_
       refine c_seq ?_
       refine c_region ?_
       refine r_val .none rfl (p_move rfl) ?_
       refine r_val .none rfl (p_field Try.underlying89 rfl sz9 rfl) ?_
       refine r_val .none rfl (p_ld (k := 0) Try.underlying9 rfl rfl rfl (by first | exact of_decide_eq_true rfl | omega) (rfl : _ = Value.string _)) ?_
       refine r_callr (k := 1) (vs := [_, _]) .none rfl cl39 rfl rfl (fun w G_12 hw hle_13 hs_14 => c_rcount _ ns (os.getD j opS0).2.1 (SlL.of bs0 (fun _ => rfl) rfl hs_14) w hw) ?_
       refine r_val .none rfl (p_assign rfl) ?_
       refine r_nil ?_
       refine e_next ?_
       refine c_seq ?_
       refine c_seq ?_
       refine c_region ?_
       refine r_val .none rfl (p_move rfl) ?_
       refine r_val .none rfl (p_field Try.underlying89 rfl sz9 rfl) ?_
       refine r_val .none rfl (p_ld (k := 0) Try.underlying9 rfl rfl rfl (by first | exact of_decide_eq_true rfl | omega) (rfl : _ = Value.string _)) ?_
       refine r_callo (k := 2) (vs := [_, _]) .none rfl cl40 rfl rfl (fun w F hw hA hFG => c_countS _ (os.getD j opS0).2.1 _ _ w hw hA hFG) ?_
       refine r_val .none rfl (p_move rfl) ?_
       refine r_val .none rfl (p_ne rfl rfl) ?_
       refine r_nil ?_
       refine e_next ?_
       refine c_splitd (d := 41) rfl (fun h_15 => ?_) (fun h_15 => ?_)
       ·
        have hx : False := absurd heq h_15
        first
         | (exfalso; first | omega | assumption)
         | (
          refine c_cond_t rfl ?_
          refine c_seq ?_
          refine c_region ?_
          refine r_val .none rfl (p_assign rfl) ?_
          refine r_nil ?_
          refine e_next ?_
          refine c_ret ?_
          refine e_ret_then ?_
          refine e_ret_block ?_
          refine e_ret_then ?_
          refine e_ret_then ?_
          refine e_ret_block ?_
          refine e_ret_then ?_
          refine e_ret1 Try.results8 (.tmp rfl .nil) (fun w hm => ⟨?_, hm.since⟩)
          first
          | rfl
          | (simp; done)
          )
       ·
        first
         | (exfalso; first | omega | assumption)
         | (
          refine c_cond_f rfl ?_
          refine c_skip ?_
          refine e_next ?_
          refine c_seq ?_
          refine c_seq ?_
          refine c_region ?_
          refine r_val .none rfl (p_field Try.underlying89 rfl sz4 rfl) ?_
          refine r_val .none rfl (p_ld (k := 0) Try.underlying4 rfl rfl rfl (by first | exact of_decide_eq_true rfl | omega) (rfl : _ = Value.bool _)) ?_
          refine r_nil ?_
          refine e_next ?_
          refine c_split (d := 43) rfl (fun h_16 => ?_) (fun h_16 => ?_)
          ·
           skip
           first
            | (exfalso; first | omega | assumption)
            | (
             refine c_cond_t rfl ?_
             refine c_seq ?_
             refine c_region ?_
             refine r_val .none rfl (p_move rfl) ?_
             refine r_val .none rfl (p_field Try.underlying89 rfl sz9 rfl) ?_
             refine r_val .none rfl (p_ld (k := 0) Try.underlying9 rfl rfl rfl (by first | exact of_decide_eq_true rfl | omega) (rfl : _ = Value.string _)) ?_
             refine r_callo (k := 2) (vs := [_, _]) .none rfl cl41 rfl rfl (fun w F hw hA hFG => c_dropS _ (os.getD j opS0).2.1 l _ hb (by omega) w hw hA hFG) ?_
             refine r_val .none rfl (p_move rfl) ?_
             refine r_val .none rfl (p_extract rfl rfl) ?_
             refine r_val .none rfl (p_extract rfl rfl) ?_
             refine r_val .none rfl (p_assign rfl) ?_
             refine r_val .none rfl (p_assign rfl) ?_
             refine r_nil ?_
             refine e_next ?_
             refine c_seq ?_
             refine c_seq ?_
             refine c_region ?_
             refine r_val .none rfl (p_move rfl) ?_
             refine r_val .none rfl (p_eq rfl rfl) ?_
             refine r_val .none rfl (p_move rfl) ?_
             refine r_splitd (d := 53) rfl (fun h_17 => ?_) (fun h_17 => ?_)
             ·
              first
               | (exfalso; first | omega | assumption)
               | (
                refine r_val (.some rfl rfl) rfl (p_move rfl) ?_
                refine r_val (.some rfl rfl) rfl (p_ne rfl rfl) ?_
                refine r_val (.some rfl rfl) rfl (p_move rfl) ?_
                refine r_splitd (d := 56) rfl (fun h_18 => ?_) (fun h_18 => ?_)
                ·
                 first
                  | (exfalso; first | omega | assumption)
                  | (
                   refine r_skip rfl (.no rfl rfl) ?_
                   refine r_skip rfl (.no rfl rfl) ?_
                   refine r_val (.some rfl rfl) rfl (p_pick_t rfl rfl) ?_
                   refine r_val .none rfl (p_pick_t rfl rfl) ?_
                   refine r_val .none rfl (p_move rfl) ?_
                   refine r_skip rfl (.no rfl rfl) ?_
                   refine r_skip rfl (.no rfl rfl) ?_
                   refine r_skip rfl (.no rfl rfl) ?_
                   refine r_skip rfl (.un rfl rfl) ?_
                   refine r_skip rfl (.un rfl rfl) ?_
                   refine r_skip rfl (.un rfl rfl) ?_
                   refine r_skip rfl (.un rfl rfl) ?_
                   refine r_skip rfl (.un rfl rfl) ?_
                   refine r_skip rfl (.un rfl rfl) ?_
                   refine r_skip rfl (.un rfl rfl) ?_
                   refine r_skip rfl (.un rfl rfl) ?_
                   refine r_skip rfl (.no rfl rfl) ?_
                   refine r_val .none rfl (p_pick_t rfl rfl) ?_
                   refine r_nil ?_
                   refine e_next ?_
                   refine c_cond_t rfl ?_
                   refine c_seq ?_
                   refine c_region ?_
                   refine r_val .none rfl (p_assign rfl) ?_
                   refine r_nil ?_
                   refine e_next ?_
                   refine c_ret ?_
                   refine e_ret_then ?_
                   refine e_ret_then ?_
                   refine e_ret_block ?_
                   refine e_ret_then ?_
                   refine e_ret_then ?_
                   refine e_ret_block ?_
                   refine e_ret_then ?_
                   refine e_ret1 Try.results8 (.tmp rfl .nil) (fun w hm => ⟨?_, hm.since⟩)
                   first
                   | rfl
                   | (simp; done)
                   )
                ·
                 first
                  | (exfalso; first | omega | assumption)
                  | (
                   refine r_val (.some rfl rfl) rfl (p_move rfl) ?_
                   refine r_val (.some rfl rfl) rfl (p_ne rfl rfl) ?_
                   refine r_val (.some rfl rfl) rfl (p_pick_f rfl rfl) ?_
                   refine r_val .none rfl (p_pick_t rfl rfl) ?_
                   refine r_val .none rfl (p_move rfl) ?_
                   refine r_splitd (d := 61) rfl (fun h_19 => ?_) (fun h_19 => ?_)
                   ·
                    first
                     | (exfalso; first | omega | assumption)
                     | (
                      refine r_skip rfl (.no rfl rfl) ?_
                      refine r_skip rfl (.no rfl rfl) ?_
                      refine r_skip rfl (.no rfl rfl) ?_
                      refine r_skip rfl (.un rfl rfl) ?_
                      refine r_skip rfl (.un rfl rfl) ?_
                      refine r_skip rfl (.un rfl rfl) ?_
                      refine r_skip rfl (.un rfl rfl) ?_
                      refine r_skip rfl (.un rfl rfl) ?_
                      refine r_skip rfl (.un rfl rfl) ?_
                      refine r_skip rfl (.un rfl rfl) ?_
                      refine r_skip rfl (.un rfl rfl) ?_
                      refine r_skip rfl (.no rfl rfl) ?_
                      refine r_val .none rfl (p_pick_t rfl rfl) ?_
                      refine r_nil ?_
                      refine e_next ?_
                      refine c_cond_t rfl ?_
                      refine c_seq ?_
                      refine c_region ?_
                      refine r_val .none rfl (p_assign rfl) ?_
                      refine r_nil ?_
                      refine e_next ?_
                      refine c_ret ?_
                      refine e_ret_then ?_
                      refine e_ret_then ?_
                      refine e_ret_block ?_
                      refine e_ret_then ?_
                      refine e_ret_then ?_
                      refine e_ret_block ?_
                      refine e_ret_then ?_
                      refine e_ret1 Try.results8 (.tmp rfl .nil) (fun w hm => ⟨?_, hm.since⟩)
                      first
                      | rfl
                      | (simp; done)
                      )
                   ·
                    first
                     | (exfalso; first | omega | assumption)
                     | (
                      refine r_val (.some rfl rfl) rfl (p_move rfl) ?_
                      refine r_val (.some rfl rfl) rfl (p_gt rfl rfl) ?_
                      refine r_val (.some rfl rfl) rfl (p_move rfl) ?_
                      refine r_splitd (d := 64) rfl (fun h_20 => ?_) (fun h_20 => ?_)
                      ·
                       first
                        | (exfalso; first | omega | assumption)
                        | (
                         refine r_val (.some rfl rfl) rfl (p_move rfl) ?_
                         refine r_val (.some rfl rfl) rfl (p_move rfl) ?_
                         refine r_val (.some rfl rfl) rfl (p_sub rfl rfl (by omega)) ?_
                         refine r_val (.some rfl rfl) rfl (p_ne rfl rfl) ?_
                         refine r_val (.some rfl rfl) rfl (p_move rfl) ?_
                         refine r_splitd (d := 69) rfl (fun h_21 => ?_) (fun h_21 => ?_)
                         ·
                          first
                           | (exfalso; first | omega | assumption)
                           | (
                            refine r_skip rfl (.no rfl rfl) ?_
                            refine r_skip rfl (.no rfl rfl) ?_
                            refine r_val (.some rfl rfl) rfl (p_pick_t rfl rfl) ?_
                            refine r_val (.some rfl rfl) rfl (p_pick_t rfl rfl) ?_
                            refine r_val .none rfl (p_pick_f rfl rfl) ?_
                            refine r_nil ?_
                            refine e_next ?_
                            refine c_cond_t rfl ?_
                            refine c_seq ?_
                            refine c_region ?_
                            refine r_val .none rfl (p_assign rfl) ?_
                            refine r_nil ?_
                            refine e_next ?_
                            refine c_ret ?_
                            refine e_ret_then ?_
                            refine e_ret_then ?_
                            refine e_ret_block ?_
                            refine e_ret_then ?_
                            refine e_ret_then ?_
                            refine e_ret_block ?_
                            refine e_ret_then ?_
                            refine e_ret1 Try.results8 (.tmp rfl .nil) (fun w hm => ⟨?_, hm.since⟩)
                            first
                            | rfl
                            | (simp; done)
                            )
                         ·
                          first
                           | (exfalso; first | omega | assumption)
                           | (
                            refine r_val (.some rfl rfl) rfl (p_move rfl) ?_
                            refine r_val (.some rfl rfl) rfl (p_ne rfl rfl) ?_
                            refine r_val (.some rfl rfl) rfl (p_pick_f rfl rfl) ?_
                            refine r_val (.some rfl rfl) rfl (p_pick_t rfl rfl) ?_
                            refine r_val .none rfl (p_pick_f rfl rfl) ?_
                            refine r_nil ?_
                            refine e_next ?_
                            refine c_splitd (d := 74) rfl (fun h_22 => ?_) (fun h_22 => ?_)
                            ·
                             have hx : False := by (have h9 := h_22; by_cases h0 : cnt l (os.getD j opS0).2.1 = 0 <;> simp [h0] at h9 <;> omega)
                             first
                              | (exfalso; first | omega | assumption)
                              | (
                               refine c_cond_t rfl ?_
                               refine c_seq ?_
                               refine c_region ?_
                               refine r_val .none rfl (p_assign rfl) ?_
                               refine r_nil ?_
                               refine e_next ?_
                               refine c_ret ?_
                               refine e_ret_then ?_
                               refine e_ret_then ?_
                               refine e_ret_block ?_
                               refine e_ret_then ?_
                               refine e_ret_then ?_
                               refine e_ret_block ?_
                               refine e_ret_then ?_
                               refine e_ret1 Try.results8 (.tmp rfl .nil) (fun w hm => ⟨?_, hm.since⟩)
                               first
                               | rfl
                               | (simp; done)
                               )
                            ·
                             first
                              | (exfalso; first | omega | assumption)
                              | (
                               refine c_cond_f rfl ?_
                               refine c_skip ?_
                               refine e_next ?_
                               refine c_seq ?_
                               refine c_region ?_
                               refine r_val .none rfl (p_move rfl) ?_
                               refine r_val .none rfl (p_field Try.underlying89 rfl sz9 rfl) ?_
                               refine r_val .none rfl (p_ld (k := 0) Try.underlying9 rfl rfl rfl (by first | exact of_decide_eq_true rfl | omega) (rfl : _ = Value.string _)) ?_
                               refine r_callrrow (k := 1) (vs := [_, _]) .none rfl cl42 rfl rfl (fun w G_23 hw hle_24 hs_25 => c_rdrop _ ns (os.getD j opS0).2.1 (SlL.of bs0 (fun _ => rfl) rfl hs_25) hn w hw) (fun v_26 => ?_)
                               refine r_row1 (k := 1) rfl (fun o_27 => ?_)
                               refine r_val .none rfl (p_assign rfl) ?_
                               refine r_nil ?_
                               refine e_next ?_
                               refine c_exit ?_
                               refine e_exit_then ?_
                               refine e_exit_block ?_
                               refine e_next ?_
                               refine c_region ?_
                               refine r_val .none rfl (p_add rfl rfl (by omega)) ?_
                               refine r_val .none rfl (p_move rfl) ?_
                               refine r_nil ?_
                               refine e_round ((j + 1, tDrop l (os.getD j opS0).2.1, era ns (os.getD j opS0).2.1, _)) ⟨⟨by dsimp only; omega, htal.erase _, by dsimp only; rw [era_len]; split <;> omega, fun k hk => hszs k (mem_era hk)⟩, by dsimp only; omega⟩ rfl ⟨rfl, rfl, rfl, rfl, rfl, trivial⟩ (.drop (.keep (fun _ _ h => h) (.keep (fun _ _ h => by show (tallyS _ _ ((era ns (os.getD j opS0).2.1).length : Int)).holds _ _; rw [htal.tot]; exact h) (.nil))))
                               )
                            )
                         )
                      ·
                       first
                        | (exfalso; first | omega | assumption)
                        | (
                         refine r_skip rfl (.no rfl rfl) ?_
                         refine r_skip rfl (.no rfl rfl) ?_
                         refine r_skip rfl (.no rfl rfl) ?_
                         refine r_skip rfl (.no rfl rfl) ?_
                         refine r_skip rfl (.no rfl rfl) ?_
                         refine r_skip rfl (.un rfl rfl) ?_
                         refine r_skip rfl (.un rfl rfl) ?_
                         refine r_skip rfl (.no rfl rfl) ?_
                         refine r_val (.some rfl rfl) rfl (p_pick_f rfl rfl) ?_
                         refine r_val .none rfl (p_pick_f rfl rfl) ?_
                         refine r_nil ?_
                         refine e_next ?_
                         refine c_cond_f rfl ?_
                         refine c_skip ?_
                         refine e_next ?_
                         refine c_seq ?_
                         refine c_region ?_
                         refine r_val .none rfl (p_move rfl) ?_
                         refine r_val .none rfl (p_field Try.underlying89 rfl sz9 rfl) ?_
                         refine r_val .none rfl (p_ld (k := 0) Try.underlying9 rfl rfl rfl (by first | exact of_decide_eq_true rfl | omega) (rfl : _ = Value.string _)) ?_
                         refine r_callrrow (k := 1) (vs := [_, _]) .none rfl cl42 rfl rfl (fun w G_28 hw hle_29 hs_30 => c_rdrop _ ns (os.getD j opS0).2.1 (SlL.of bs0 (fun _ => rfl) rfl hs_30) hn w hw) (fun v_31 => ?_)
                         refine r_row1 (k := 1) rfl (fun o_32 => ?_)
                         refine r_val .none rfl (p_assign rfl) ?_
                         refine r_nil ?_
                         refine e_next ?_
                         refine c_exit ?_
                         refine e_exit_then ?_
                         refine e_exit_block ?_
                         refine e_next ?_
                         refine c_region ?_
                         refine r_val .none rfl (p_add rfl rfl (by omega)) ?_
                         refine r_val .none rfl (p_move rfl) ?_
                         refine r_nil ?_
                         refine e_round ((j + 1, tDrop l (os.getD j opS0).2.1, era ns (os.getD j opS0).2.1, _)) ⟨⟨by dsimp only; omega, htal.erase _, by dsimp only; rw [era_len]; split <;> omega, fun k hk => hszs k (mem_era hk)⟩, by dsimp only; omega⟩ rfl ⟨rfl, rfl, rfl, rfl, rfl, trivial⟩ (.drop (.keep (fun _ _ h => h) (.keep (fun _ _ h => by show (tallyS _ _ ((era ns (os.getD j opS0).2.1).length : Int)).holds _ _; rw [htal.tot]; exact h) (.nil))))
                         )
                      )
                   )
                )
             ·
              first
               | (exfalso; first | omega | assumption)
               | (
                refine r_skip rfl (.no rfl rfl) ?_
                refine r_skip rfl (.no rfl rfl) ?_
                refine r_skip rfl (.no rfl rfl) ?_
                refine r_skip rfl (.un rfl rfl) ?_
                refine r_skip rfl (.un rfl rfl) ?_
                refine r_skip rfl (.no rfl rfl) ?_
                refine r_val .none rfl (p_pick_f rfl rfl) ?_
                refine r_val .none rfl (p_move rfl) ?_
                refine r_val (.some rfl rfl) rfl (p_move rfl) ?_
                refine r_val (.some rfl rfl) rfl (p_gt rfl rfl) ?_
                refine r_val (.some rfl rfl) rfl (p_move rfl) ?_
                refine r_splitd (d := 64) rfl (fun h_33 => ?_) (fun h_33 => ?_)
                ·
                 first
                  | (exfalso; first | omega | assumption)
                  | (
                   refine r_val (.some rfl rfl) rfl (p_move rfl) ?_
                   refine r_val (.some rfl rfl) rfl (p_move rfl) ?_
                   refine r_val (.some rfl rfl) rfl (p_sub rfl rfl (by omega)) ?_
                   refine r_val (.some rfl rfl) rfl (p_ne rfl rfl) ?_
                   refine r_val (.some rfl rfl) rfl (p_move rfl) ?_
                   refine r_splitd (d := 69) rfl (fun h_34 => ?_) (fun h_34 => ?_)
                   ·
                    first
                     | (exfalso; first | omega | assumption)
                     | (
                      refine r_skip rfl (.no rfl rfl) ?_
                      refine r_skip rfl (.no rfl rfl) ?_
                      refine r_val (.some rfl rfl) rfl (p_pick_t rfl rfl) ?_
                      refine r_val (.some rfl rfl) rfl (p_pick_t rfl rfl) ?_
                      refine r_val .none rfl (p_pick_f rfl rfl) ?_
                      refine r_nil ?_
                      refine e_next ?_
                      refine c_cond_t rfl ?_
                      refine c_seq ?_
                      refine c_region ?_
                      refine r_val .none rfl (p_assign rfl) ?_
                      refine r_nil ?_
                      refine e_next ?_
                      refine c_ret ?_
                      refine e_ret_then ?_
                      refine e_ret_then ?_
                      refine e_ret_block ?_
                      refine e_ret_then ?_
                      refine e_ret_then ?_
                      refine e_ret_block ?_
                      refine e_ret_then ?_
                      refine e_ret1 Try.results8 (.tmp rfl .nil) (fun w hm => ⟨?_, hm.since⟩)
                      first
                      | rfl
                      | (simp; done)
                      )
                   ·
                    first
                     | (exfalso; first | omega | assumption)
                     | (
                      refine r_val (.some rfl rfl) rfl (p_move rfl) ?_
                      refine r_val (.some rfl rfl) rfl (p_ne rfl rfl) ?_
                      refine r_val (.some rfl rfl) rfl (p_pick_f rfl rfl) ?_
                      refine r_val (.some rfl rfl) rfl (p_pick_t rfl rfl) ?_
                      refine r_val .none rfl (p_pick_f rfl rfl) ?_
                      refine r_nil ?_
                      refine e_next ?_
                      refine c_splitd (d := 74) rfl (fun h_35 => ?_) (fun h_35 => ?_)
                      ·
                       have hx : False := by (have h9 := h_35; by_cases h0 : cnt l (os.getD j opS0).2.1 = 0 <;> simp [h0] at h9 <;> omega)
                       first
                        | (exfalso; first | omega | assumption)
                        | (
                         refine c_cond_t rfl ?_
                         refine c_seq ?_
                         refine c_region ?_
                         refine r_val .none rfl (p_assign rfl) ?_
                         refine r_nil ?_
                         refine e_next ?_
                         refine c_ret ?_
                         refine e_ret_then ?_
                         refine e_ret_then ?_
                         refine e_ret_block ?_
                         refine e_ret_then ?_
                         refine e_ret_then ?_
                         refine e_ret_block ?_
                         refine e_ret_then ?_
                         refine e_ret1 Try.results8 (.tmp rfl .nil) (fun w hm => ⟨?_, hm.since⟩)
                         first
                         | rfl
                         | (simp; done)
                         )
                      ·
                       first
                        | (exfalso; first | omega | assumption)
                        | (
                         refine c_cond_f rfl ?_
                         refine c_skip ?_
                         refine e_next ?_
                         refine c_seq ?_
                         refine c_region ?_
                         refine r_val .none rfl (p_move rfl) ?_
                         refine r_val .none rfl (p_field Try.underlying89 rfl sz9 rfl) ?_
                         refine r_val .none rfl (p_ld (k := 0) Try.underlying9 rfl rfl rfl (by first | exact of_decide_eq_true rfl | omega) (rfl : _ = Value.string _)) ?_
                         refine r_callrrow (k := 1) (vs := [_, _]) .none rfl cl42 rfl rfl (fun w G_36 hw hle_37 hs_38 => c_rdrop _ ns (os.getD j opS0).2.1 (SlL.of bs0 (fun _ => rfl) rfl hs_38) hn w hw) (fun v_39 => ?_)
                         refine r_row1 (k := 1) rfl (fun o_40 => ?_)
                         refine r_val .none rfl (p_assign rfl) ?_
                         refine r_nil ?_
                         refine e_next ?_
                         refine c_exit ?_
                         refine e_exit_then ?_
                         refine e_exit_block ?_
                         refine e_next ?_
                         refine c_region ?_
                         refine r_val .none rfl (p_add rfl rfl (by omega)) ?_
                         refine r_val .none rfl (p_move rfl) ?_
                         refine r_nil ?_
                         refine e_round ((j + 1, tDrop l (os.getD j opS0).2.1, era ns (os.getD j opS0).2.1, _)) ⟨⟨by dsimp only; omega, htal.erase _, by dsimp only; rw [era_len]; split <;> omega, fun k hk => hszs k (mem_era hk)⟩, by dsimp only; omega⟩ rfl ⟨rfl, rfl, rfl, rfl, rfl, trivial⟩ (.drop (.keep (fun _ _ h => h) (.keep (fun _ _ h => by show (tallyS _ _ ((era ns (os.getD j opS0).2.1).length : Int)).holds _ _; rw [htal.tot]; exact h) (.nil))))
                         )
                      )
                   )
                ·
                 first
                  | (exfalso; first | omega | assumption)
                  | (
                   refine r_skip rfl (.no rfl rfl) ?_
                   refine r_skip rfl (.no rfl rfl) ?_
                   refine r_skip rfl (.no rfl rfl) ?_
                   refine r_skip rfl (.no rfl rfl) ?_
                   refine r_skip rfl (.no rfl rfl) ?_
                   refine r_skip rfl (.un rfl rfl) ?_
                   refine r_skip rfl (.un rfl rfl) ?_
                   refine r_skip rfl (.no rfl rfl) ?_
                   refine r_val (.some rfl rfl) rfl (p_pick_f rfl rfl) ?_
                   refine r_val .none rfl (p_pick_f rfl rfl) ?_
                   refine r_nil ?_
                   refine e_next ?_
                   refine c_cond_f rfl ?_
                   refine c_skip ?_
                   refine e_next ?_
                   refine c_seq ?_
                   refine c_region ?_
                   refine r_val .none rfl (p_move rfl) ?_
                   refine r_val .none rfl (p_field Try.underlying89 rfl sz9 rfl) ?_
                   refine r_val .none rfl (p_ld (k := 0) Try.underlying9 rfl rfl rfl (by first | exact of_decide_eq_true rfl | omega) (rfl : _ = Value.string _)) ?_
                   refine r_callrrow (k := 1) (vs := [_, _]) .none rfl cl42 rfl rfl (fun w G_41 hw hle_42 hs_43 => c_rdrop _ ns (os.getD j opS0).2.1 (SlL.of bs0 (fun _ => rfl) rfl hs_43) hn w hw) (fun v_44 => ?_)
                   refine r_row1 (k := 1) rfl (fun o_45 => ?_)
                   refine r_val .none rfl (p_assign rfl) ?_
                   refine r_nil ?_
                   refine e_next ?_
                   refine c_exit ?_
                   refine e_exit_then ?_
                   refine e_exit_block ?_
                   refine e_next ?_
                   refine c_region ?_
                   refine r_val .none rfl (p_add rfl rfl (by omega)) ?_
                   refine r_val .none rfl (p_move rfl) ?_
                   refine r_nil ?_
                   refine e_round ((j + 1, tDrop l (os.getD j opS0).2.1, era ns (os.getD j opS0).2.1, _)) ⟨⟨by dsimp only; omega, htal.erase _, by dsimp only; rw [era_len]; split <;> omega, fun k hk => hszs k (mem_era hk)⟩, by dsimp only; omega⟩ rfl ⟨rfl, rfl, rfl, rfl, rfl, trivial⟩ (.drop (.keep (fun _ _ h => h) (.keep (fun _ _ h => by show (tallyS _ _ ((era ns (os.getD j opS0).2.1).length : Int)).holds _ _; rw [htal.tot]; exact h) (.nil))))
                   )
                )
             )
          ·
           first
            | (exfalso; first | omega | assumption)
            | (
             refine c_cond_f rfl ?_
             refine c_skip ?_
             refine e_next ?_
             refine c_seq ?_
             refine c_region ?_
             refine r_val .none rfl (p_move rfl) ?_
             refine r_val .none rfl (p_field Try.underlying89 rfl sz9 rfl) ?_
             refine r_val .none rfl (p_ld (k := 0) Try.underlying9 rfl rfl rfl (by first | exact of_decide_eq_true rfl | omega) (rfl : _ = Value.string _)) ?_
             refine r_bslice (vs := [(0, Value.string _)]) (c := #[_]) .none rfl Try.underlying87 el9 rfl rfl rfl (bs9_10s1 _) (IsRow.lit _) (fun b_2 => ?_)
             refine r_append (k := 2) (k2 := 0) .none rfl Try.underlying87 el9 rfl (by decide) rfl rfl rfl rfl rfl (one_lit rfl rfl) (by simp only [maxLen]; omega) (by omega) (fun v_46 => ?_)
             refine r_row1 (k := 2) rfl (fun o_47 => ?_)
             refine r_val .none rfl (p_assign rfl) ?_
             refine r_nil ?_
             refine e_next ?_
             refine c_seq ?_
             refine c_region ?_
             refine r_val .none rfl (p_move rfl) ?_
             refine r_val .none rfl (p_field Try.underlying89 rfl sz9 rfl) ?_
             refine r_val .none rfl (p_ld (k := 1) Try.underlying9 rfl rfl rfl (by first | exact of_decide_eq_true rfl | omega) (rfl : _ = Value.string _)) ?_
             refine r_callo (k := 3) (vs := [_, _]) .none rfl cl43 rfl rfl (fun w F hw hA hFG => c_taddS _ (os.getD j opS0).2.1 l _ hb (by omega) w hw hA hFG) ?_
             refine r_val .none rfl (p_move rfl) ?_
             refine r_val .none rfl (p_add rfl rfl (by omega)) ?_
             refine r_val .none rfl (p_ne rfl rfl) ?_
             refine r_nil ?_
             refine e_next ?_
             refine c_splitd (d := 90) rfl (fun h_48 => ?_) (fun h_48 => ?_)
             ·
              have hx : False := absurd heq (by omega)
              first
               | (exfalso; first | omega | assumption)
               | (
                refine c_cond_t rfl ?_
                refine c_seq ?_
                refine c_region ?_
                refine r_val .none rfl (p_assign rfl) ?_
                refine r_nil ?_
                refine e_next ?_
                refine c_ret ?_
                refine e_ret_block ?_
                refine e_ret_then ?_
                refine e_ret_then ?_
                refine e_ret_block ?_
                refine e_ret_then ?_
                refine e_ret1 Try.results8 (.tmp rfl .nil) (fun w hm => ⟨?_, hm.since⟩)
                first
                | rfl
                | (simp; done)
                )
             ·
              first
               | (exfalso; first | omega | assumption)
               | (
                refine c_cond_f rfl ?_
                refine c_skip ?_
                refine e_norm_block ?_
                refine e_next ?_
                refine c_region ?_
                refine r_val .none rfl (p_add rfl rfl (by omega)) ?_
                refine r_val .none rfl (p_move rfl) ?_
                refine r_nil ?_
                refine e_round ((j + 1, tAdd l (os.getD j opS0).2.1, ns ++ [(os.getD j opS0).2.1], _)) ⟨⟨by dsimp only; omega, htal.add _, by dsimp only; rw [List.length_append]; simp; omega, fun k hk => by rcases List.mem_append.1 hk with h | h; exact hszs k h; rw [List.mem_singleton.1 h]; exact (os.getD j opS0).2.2⟩, by dsimp only; omega⟩ rfl ⟨rfl, rfl, rfl, rfl, rfl, trivial⟩ (.drop (.drop (.keep (fun _ _ h => rowA_snoc rfl rfl rfl rfl _ _ h) (.keep (fun _ _ h => by show (tallyS _ _ ((ns ++ [(os.getD j opS0).2.1]).length : Int)).holds _ _; rw [show ((ns ++ [(os.getD j opS0).2.1]).length : Int) = (ns.length : Int) + 1 by simp]; exact h) (.nil)))))
                )
             )
          )
       )
    ·
     first
      | (exfalso; first | omega | assumption)
      | (
       refine c_cond_f rfl ?_
       refine c_exit ?_
       refine e_exit_then ?_
       refine e_exit_then ?_
       refine e_exit_block ?_
       refine e_next ?_
       refine c_seq ?_
       refine c_region ?_
       have hwf : ∀ p ∈ l, p.1.size ≤ maxLen := fun p hp => hszs _ ((htal.keys p.1).1 (List.mem_map.2 ⟨p, hp, rfl⟩))
       have hlk : l.length = (keysK ns).length := by have h9 := congrArg List.length htal.sorted; rw [sortB_len, List.length_map] at h9; exact h9
       have hln : l.length ≤ 2000 := by have := keysK_len ns; omega
       refine r_val .none rfl (p_move rfl) ?_
       refine r_callom (k := 1) (vs := [_, _]) .none rfl cl44 rfl rfl (fun w F hw hA hFG => c_keysS _ _ _ hwf hln w hw hA hFG) (fun G_49 v_52 hn_50 hr_51 => ?_)
       replace hs := hs.mono hn_50.le
       have u_53 := hr_51
       rw [htal.sorted] at u_53
       refine r_val .none rfl (p_move rfl) ?_
       refine r_callfr (k := 0) (vs := [_]) .none rfl cl46 rfl rfl (S := fun H r => SlL H r 1 cS bs0 (keysK ns)) (fun H H' r h h2 => SlL.mono h2 h) (fun w G_59 hw hle_60 hs_61 => c_rkeysM _ _ (SlL.of bs0 (fun _ => rfl) rfl hs_61) hn w hw) (fun G_54 v_57 hn_55 hr_56 => ?_)
       replace hs := hs.mono hn_55.le
       replace u_53 := u_53.mono hn_55.le
       have u_58 := SlL.mono hr_56 (fr_le _ _)
       refine r_val .none rfl (p_assign rfl) ?_
       refine r_val .none rfl (p_assign rfl) ?_
       refine r_nil ?_
       refine e_next ?_
       refine c_seq ?_
       refine c_seq ?_
       refine c_region ?_
       refine r_val .none rfl (p_move rfl) ?_
       refine r_val .none rfl (p_leng Try.underlying87 rfl u_53) ?_
       have bd_62 := (u_53).bound
       refine r_val .none rfl (p_move rfl) ?_
       refine r_val .none rfl (p_leng Try.underlying87 rfl u_58) ?_
       have bd_63 := (u_58).bound
       refine r_val .none rfl (p_ne rfl rfl) ?_
       refine r_val .none rfl (p_move rfl) ?_
       refine r_splitd (d := 101) rfl (fun h_64 => ?_) (fun h_64 => ?_)
       ·
        first
         | (exfalso; first | omega | assumption)
         | (
          refine r_skip rfl (.no rfl rfl) ?_
          refine r_skip rfl (.no rfl rfl) ?_
          refine r_skip rfl (.no rfl rfl) ?_
          refine r_skip rfl (.no rfl rfl) ?_
          refine r_skip rfl (.no rfl rfl) ?_
          refine r_val .none rfl (p_pick_t rfl rfl) ?_
          refine r_val .none rfl (p_move rfl) ?_
          refine r_skip rfl (.no rfl rfl) ?_
          refine r_skip rfl (.no rfl rfl) ?_
          refine r_skip rfl (.no rfl rfl) ?_
          refine r_skip rfl (.no rfl rfl) ?_
          refine r_skip rfl (.no rfl rfl) ?_
          refine r_val .none rfl (p_pick_t rfl rfl) ?_
          refine r_nil ?_
          refine e_next ?_
          refine c_cond_t rfl ?_
          refine c_seq ?_
          refine c_region ?_
          refine r_val .none rfl (p_assign rfl) ?_
          refine r_nil ?_
          refine e_next ?_
          refine c_ret ?_
          refine e_ret_then ?_
          refine e_ret1 Try.results8 (.tmp rfl .nil) (fun w hm => ⟨?_, hm.since⟩)
          first
          | rfl
          | (simp; done)
          )
       ·
        first
         | (exfalso; first | omega | assumption)
         | (
          refine r_val (.some rfl rfl) rfl (p_move rfl) ?_
          refine r_callo (k := 1) (vs := [_]) (.some rfl rfl) rfl cl47 rfl rfl (fun w F hw hA hFG => c_lenS _ _ _ w hw hA hFG) ?_
          refine r_val (.some rfl rfl) rfl (p_move rfl) ?_
          refine r_val (.some rfl rfl) rfl (p_leng Try.underlying87 rfl u_58) ?_
          have bd_65 := (u_58).bound
          refine r_val (.some rfl rfl) rfl (p_ne rfl rfl) ?_
          refine r_val .none rfl (p_pick_f rfl rfl) ?_
          refine r_val .none rfl (p_move rfl) ?_
          refine r_splitd (d := 108) rfl (fun h_66 => ?_) (fun h_66 => ?_)
          ·
           first
            | (exfalso; first | omega | assumption)
            | (
             refine r_skip rfl (.no rfl rfl) ?_
             refine r_skip rfl (.no rfl rfl) ?_
             refine r_skip rfl (.no rfl rfl) ?_
             refine r_skip rfl (.no rfl rfl) ?_
             refine r_skip rfl (.no rfl rfl) ?_
             refine r_val .none rfl (p_pick_t rfl rfl) ?_
             refine r_nil ?_
             refine e_next ?_
             refine c_cond_t rfl ?_
             refine c_seq ?_
             refine c_region ?_
             refine r_val .none rfl (p_assign rfl) ?_
             refine r_nil ?_
             refine e_next ?_
             refine c_ret ?_
             refine e_ret_then ?_
             refine e_ret1 Try.results8 (.tmp rfl .nil) (fun w hm => ⟨?_, hm.since⟩)
             first
             | rfl
             | (simp; done)
             )
          ·
           first
            | (exfalso; first | omega | assumption)
            | (
             refine r_val (.some rfl rfl) rfl (p_move rfl) ?_
             refine r_callo (k := 1) (vs := [_]) (.some rfl rfl) rfl cl48 rfl rfl (fun w F hw hA hFG => c_totalS _ _ _ w hw hA hFG) ?_
             refine r_val (.some rfl rfl) rfl (p_move rfl) ?_
             refine r_val (.some rfl rfl) rfl (p_leno (k := 0) Try.underlying87 rfl rfl) ?_
             refine r_val (.some rfl rfl) rfl (p_ne rfl rfl) ?_
             refine r_val .none rfl (p_pick_f rfl rfl) ?_
             refine r_nil ?_
             refine e_next ?_
             refine c_splitd (d := 114) rfl (fun h_67 => ?_) (fun h_67 => ?_)
             ·
              have hx : False := by (have h9 := h_67; first | omega | (simp at h9; done) | (simp at h9; omega))
              first
               | (exfalso; first | omega | assumption)
               | (
                refine c_cond_t rfl ?_
                refine c_seq ?_
                refine c_region ?_
                refine r_val .none rfl (p_assign rfl) ?_
                refine r_nil ?_
                refine e_next ?_
                refine c_ret ?_
                refine e_ret_then ?_
                refine e_ret1 Try.results8 (.tmp rfl .nil) (fun w hm => ⟨?_, hm.since⟩)
                first
                | rfl
                | (simp; done)
                )
             ·
              first
               | (exfalso; first | omega | assumption)
               | (
                refine c_cond_f rfl ?_
                refine c_skip ?_
                refine e_next ?_
                refine c_seq ?_
                refine c_seq ?_
                refine c_region ?_
                refine r_val .none rfl (p_move rfl) ?_
                refine r_val .none rfl (p_leng Try.underlying87 rfl u_53) ?_
                have bd_68 := (u_53).bound
                refine r_val .none rfl (p_move rfl) ?_
                refine r_nil ?_
                refine e_next ?_
                refine c_block ?_
                refine c_name (d := 10) rfl (fun u_69 hu_69 => ?_)
                refine c_name (d := 11) rfl (fun u_70 hu_70 => ?_)
                refine c_name (d := 116) rfl (fun u_71 hu_71 => ?_)
                refine c_nameL (k := 0) rfl (fun A_72 hA_72 => ?_)
                refine c_nameL (k := 1) rfl (fun A_73 hA_73 => ?_)
                refine c_loop (σ := Nat) (fun k => [(117, Value.int .i64 (k : Nat)), (10, u_69), (11, u_70), (116, u_71)]) (fun k => [A_72, A_73]) (fun _ => _) (fun k => k ≤ (keysK ns).length) (fun k => (keysK ns).length - k) (0) (Nat.zero_le _) rfl ⟨rfl, rfl, rfl, rfl, trivial⟩ (.keep (fun _ _ h => h) (.keep (fun _ _ h => h) (.nil))) (fun k hphi => ?_)
                subst hu_69
                subst hu_70
                subst hu_71
                subst hA_72
                subst hA_73
                refine c_seq ?_
                refine c_region ?_
                refine r_val .none rfl (p_lt rfl rfl) ?_
                refine r_nil ?_
                refine e_next ?_
                refine c_seq ?_
                refine c_splitd (d := 118) rfl (fun h_74 => ?_) (fun h_74 => ?_)
                ·
                 first
                  | (exfalso; first | omega | assumption)
                  | (
                   refine c_cond_t rfl ?_
                   refine c_skip ?_
                   refine e_next ?_
                   refine c_seq ?_
                   refine c_block ?_
                   refine c_seq ?_
                   refine c_region ?_
                   refine r_val .none rfl (p_move rfl) ?_
                   refine r_val .none rfl (p_assign rfl) ?_
                   refine r_nil ?_
                   refine e_next ?_
                   refine c_seq ?_
                   refine c_region_q mixed (by kernel_rfl) ?_
                   refine q_val .none rfl (p_move rfl) ?_
                   refine q_val .none rfl (p_move rfl) ?_
                   refine q_iaddr_g .none rfl Try.underlying87 sz9 rfl u_53 rfl (by first | exact of_decide_eq_true rfl | omega) (fun p_76 o_77 R_75 => ?_)
                   refine q_val .none rfl (p_ldg0 Try.underlying9 rfl rfl R_75 (by first | exact of_decide_eq_true rfl | omega) (rfl : _ = Value.string _)) ?_
                   refine q_val .none rfl (p_move rfl) ?_
                   refine q_val .none rfl (p_move rfl) ?_
                   refine q_iaddr_g .none rfl Try.underlying87 sz9 rfl u_58 rfl (by first | exact of_decide_eq_true rfl | omega) (fun p_79 o_80 R_78 => ?_)
                   refine q_val .none rfl (p_ldg0 Try.underlying9 rfl rfl R_78 (by first | exact of_decide_eq_true rfl | omega) (rfl : _ = Value.string _)) ?_
                   refine q_val .none rfl (p_nes rfl rfl) ?_
                   refine q_nil ?_
                   refine e_next ?_
                   refine c_splitn (d := 128) rfl (fun h_81 => ?_) (fun h_81 => ?_)
                   ·
                    have hx : False := by (have h9 := h_81; simp at h9)
                    first
                     | (exfalso; first | omega | assumption)
                     | (
                      refine c_cond_t rfl ?_
                      refine c_seq ?_
                      refine c_region ?_
                      refine r_val .none rfl (p_assign rfl) ?_
                      refine r_nil ?_
                      refine e_next ?_
                      refine c_ret ?_
                      refine e_ret_block ?_
                      refine e_ret_then ?_
                      refine e_ret_then ?_
                      refine e_ret_block ?_
                      refine e_ret_then ?_
                      refine e_ret1 Try.results8 (.tmp rfl .nil) (fun w hm => ⟨?_, hm.since⟩)
                      first
                      | rfl
                      | (simp; done)
                      )
                   ·
                    first
                     | (exfalso; first | omega | assumption)
                     | (
                      refine c_cond_f rfl ?_
                      refine c_skip ?_
                      refine e_norm_block ?_
                      refine e_next ?_
                      refine c_region ?_
                      refine r_val .none rfl (p_add rfl rfl (by omega)) ?_
                      refine r_val .none rfl (p_move rfl) ?_
                      refine r_nil ?_
                      refine e_round (k + 1) ⟨by omega, by omega⟩ rfl ⟨rfl, rfl, rfl, rfl, trivial⟩ (.keep (fun _ _ h => h) (.keep (fun _ _ h => h) (.nil)))
                      )
                   )
                ·
                 first
                  | (exfalso; first | omega | assumption)
                  | (
                   refine c_cond_f rfl ?_
                   refine c_exit ?_
                   refine e_exit_then ?_
                   refine e_exit_then ?_
                   refine e_exit_block ?_
                   refine e_next ?_
                   refine c_seq ?_
                   refine c_region ?_
                   refine r_call (vs := []) .none rfl cl13 rfl (fun w hw => c_awake10 w) ?_
                   refine r_val .none rfl (p_assign rfl) ?_
                   refine r_nil ?_
                   refine e_next ?_
                   refine c_ret ?_
                   refine e_ret1 Try.results8 (.tmp rfl .nil) (fun w hm => ⟨?_, hm.since⟩)
                   first
                   | rfl
                   | (simp; done)
                   )
                )
             )
          )
       )
    )
end Go.Proofs.Ytinbigokigkfaaa
