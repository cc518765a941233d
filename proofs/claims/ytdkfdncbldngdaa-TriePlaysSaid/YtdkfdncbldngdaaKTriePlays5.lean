/- Texts of this work, laid together: a logic of steps, plain laws, and walks of Go functions, each without a condition but those that its theorems name. -/
import Derived.Test.YtdkfdncbldngdaaKTriePlays4
import Derived.Test.YtdkfdncbldngdaaRows
/- Walks: what Go functions of this chapter come to, each as a function on plain data; no condition but those that each theorem names. Printed by a program of this work (gen.py). -/
namespace Go.Proofs.Ytdkfdncbldngdaa
open Go.Gx Go.Gx Go.Gx.T16 Go.Gx.T8 Go.Gx.T6 Go.Gx.T4 Go.Gx.T3 Go.Gx.T8 Go.Gx.T4 Go.Gx.T3 Go.Gx.T8 Go.Gx.T6 Go.Gx.T4 Go.Gx.T3
theorem cl69 : Callable Try.prog 69 := callable Try.func69 (by kernel_rfl) rfl
theorem cl70 : Callable Try.prog 70 := callable Try.func70 (by kernel_rfl) rfl
theorem cl88 : Callable Try.prog 88 := callable Try.func88 (by kernel_rfl) rfl
theorem bl74_0m1_1i1 (x0 : Option Nat) (x1 : Int) : Program.built Try.prog 74 [(0, Value.map x0), (1, Value.int .i64 x1)] = some #[Value.map x0, Value.int .i64 x1] := by
 kernel_rfl
theorem kept_true {F : Nat → Prop} {w w' : World} (h : Since nX w w') : Kept (pureA True) F w w' := ⟨⟨h.os, h.tape, h.output, h.size, fun k hk _ => h.block k hk id⟩, fun _ => False, ⟨trivial, fun _ h => h⟩, fun _ h => h.elim⟩
theorem c_knew {G : Ghost}  (w : World) (hG : Has G w) :
    Calls Try.prog 7 #[] w (Ret fun r w' => ∃ p, r = Value.pointer (some ⟨p, 0, none⟩) ∧ Since nX w w' ∧ ∃ F', (trE (nkD 71 3) 74 p KS0).holds w' F' ∧ ∀ b, F' b → w.heap.size ≤ b) := by
 refine enter (args := []) (X := nX) (G := G) (l := []) Try.func7 rfl Try.ntmps7 hG trivial (Nat.le_of_ble_eq_true rfl) ?_
 refine c_seq (c_region (r_val .none rfl (p_assign rfl) (r_nil (e_next ?_))))
 refine c_seq (c_region ?_)
 refine r_makemap .none rfl kI (veN2 (σ := Nd)) (fun m_1 => ?_)
 refine r_val .none rfl (p_build (vs := []) rfl (bl71_ )) ?_
 refine r_box .none rfl rfl (IsRow.lit _) (fun b_1 => ?_)
 refine r_insert (i := 1) (k := (1 : Int)) (a := (b_1, Value.slice none 0 0, Value.slice none 0 0, nd0)) .none Try.underlying72 (KeyT.int Try.underlying3) rfl rfl rfl rfl ?_
 refine r_val .none rfl (p_move rfl) ?_
 refine r_val .none rfl (p_build (vs := [(0, Value.map _), (1, Value.int _ _)]) rfl (bl74_0m1_1i1 _ _)) ?_
 refine r_box .none rfl rfl (IsRow.lit _) (fun b_2 => ?_)
 refine r_val .none rfl (p_assign rfl) (r_nil (e_next ?_))
 refine c_ret ?_
 refine e_nilrow 0 3 1 ?_
 refine e_nilrow 0 3 1 ?_
 refine e_hnil (FK (nkD 71 3)) ?_
 refine e_front (k := 2) rfl ?_
 refine e_front (k := 2) rfl ?_
 refine e_front (k := 4) rfl ?_
 refine e_conv (B := box b_1 13 71 (at_ (ndC nd0 (.slice none 0 0) (.slice none 0 0)))) (k := 0) rfl (fun _ _ h => box_congr (fun i hi => by match i, hi with | 0, _ => rfl | 1, _ => rfl | 2, _ => rfl | 3, _ => rfl | 4, _ => rfl | 5, _ => rfl | 6, _ => rfl | 7, _ => rfl | 8, _ => rfl | 9, _ => rfl | 10, _ => rfl | 11, _ => rfl | 12, _ => rfl) _ _ h) ?_
 dsimp only [List.set_cons_zero]
 refine e_ndNew (k := 1) (x := nd0) rfl ?_
 refine e_front (k := 2) rfl ?_
 refine e_front (k := 2) rfl ?_
 refine e_ret1 Try.results7 (.tmp rfl .nil) (fun w hm => ⟨_, rfl, hm.made [box b_2 2 74 (at_ (trC (KS.mk [((1 : Int), (b_1, Value.slice none 0 0, Value.slice none 0 0, nd0))] 1) m_1)), mapA m_1 kI veN2 [((1 : Int), (b_1, Value.slice none 0 0, Value.slice none 0 0, nd0))], hoard (FK (nkD 71 3)) ([((1 : Int), (b_1, Value.slice none 0 0, Value.slice none 0 0, nd0))])] (.keep (fun _ _ h => box_congr (fun i hi => by match i, hi with | 0, _ => rfl | 1, _ => rfl) _ _ h) (.keep (fun _ _ h => h) (.keep (fun _ _ h => h) (.nil)))) (trE (nkD 71 3) 74 _ KS0) (fun F' h => trE_mk3 (n := [(1, nd0)]) m_1 rfl h)⟩)
theorem c_ixI (v : Value) (zs : List (Int)) (g : Nat) (cs : List Value) {σ : Type} (A : σ → Asrt) (p : Int → σ → Bool × σ) (s0 : σ) {G : Ghost} {F : Nat → Prop} (hcg : Callable Try.prog g) (hcl : HCL Try.prog g cs (fun x : Int => Value.int .i64 x) A p G) (w : World) (hG : Has G w) (hA : (starL [rowA v 3 1 (zs).length ((zs).flatMap cI), A (s0)]).holds w F) (hFG : ∀ b, F b → G b = none) :
    Calls Try.prog 88 #[v, Value.func (.func g) #[] cs.toArray] w (Ret fun r w' => r = Value.int .i64 (ixD p zs 0 s0).1 ∧ Kept (starL [rowA v 3 1 (zs).length ((zs).flatMap cI), A ((ixD p zs 0 s0).2)]) F w w') := by
 refine enterO (args := [_, _]) (G := G) (A := starL [rowA v 3 1 (zs).length ((zs).flatMap cI), A (s0)]) (l := [(0, v), (1, Value.func (.func g) #[] cs.toArray)]) Try.func88 rfl Try.ntmps88 hG hA hFG ⟨rfl, rfl, trivial⟩ (Nat.le_of_ble_eq_true rfl) ?_
 refine c_unpack ?_
 refine c_rowlen (k := 0) rfl (fun hbd => ?_)
 refine c_seq (c_region (r_val .none rfl (p_assign rfl) (r_nil (e_next ?_))))
 refine c_seq (c_seq (c_region (r_val .none rfl (p_move rfl) ?_)))
 refine r_val .none rfl (p_leno (k := 0) Try.underlying33 rfl rfl) ?_
 refine r_val .none rfl (p_move rfl) (r_nil (e_next (c_block ?_)))
 refine c_name (d := 0) rfl (fun u_1 hu_1 => ?_)
 refine c_name (d := 1) rfl (fun u_2 hu_2 => ?_)
 refine c_name (d := 7) rfl (fun u_3 hu_3 => ?_)
 refine c_nameL (k := 0) rfl (fun A_4 hA_4 => ?_)
 refine c_loop (σ := Nat × σ) (fun s => [(8, Value.int .i64 (s.1 : Nat)), (0, u_1), (1, u_2), (7, u_3)]) (fun s => [A_4, A s.2]) (fun _ => _) (fun s => s.1 ≤ zs.length ∧ ixD p (zs.drop s.1) s.1 s.2 = ixD p zs 0 s0) (fun s => zs.length - s.1) ((0, s0)) ⟨Nat.zero_le _, rfl⟩ rfl ⟨rfl, rfl, rfl, rfl, trivial⟩ (.keep (fun _ _ h => h) (.keep (fun _ _ h => h) (.nil))) (fun s hphi => ?_)
 subst hu_1
 subst hu_2
 subst hu_3
 subst hA_4
 obtain ⟨j, t⟩ := s
 obtain ⟨hj, hix⟩ := hphi
 dsimp only at hj hix ⊢
 refine c_seq (c_region ?_)
 refine r_val .none rfl (p_lt rfl rfl) ?_
 refine r_nil (e_next (c_seq ?_))
 refine c_splitd (d := 9) rfl (fun h_5 => ?_) (fun h_5 => ?_)
 · (
 first
 | (exfalso; omega)
 | (
 refine c_cond_t rfl (c_skip (e_next (c_seq (c_block ?_))))
 refine c_seq (c_region (r_val .none rfl (p_move rfl) (r_val .none rfl (p_assign rfl) (r_nil ?_))))
 refine e_next (c_seq (c_region (r_val .none rfl (p_move rfl) (r_val .none rfl (p_move rfl) ?_))))
 refine r_val .none rfl (p_move rfl) ?_
 refine r_iaddr_o (k := 0) .none rfl Try.underlying33 sz3 rfl rfl rfl (by first | exact odt rfl | omega) (fun p_6 c_7 hv_8 => ?_)
 refine r_val .none rfl (p_ldo0 (k := 0) Try.underlying3 rfl rfl hv_8 rfl (by first | exact odt rfl | omega) (by first | exact odt rfl | omega) ((flatMap_get (cells := cI) (fun _ => rfl) (0 : Int) _ _ _ (by first | exact odt rfl | omega) (by first | exact odt rfl | omega)).trans (rfl : _ = Value.int _ _))) ?_
 refine r_yieldo (k := 1) (us := [_]) .none rfl rfl rfl hcg rfl (fun w F hw hA hFG => hcl (zs.getD j (0 : Int)) t w F hw hA hFG) ?_
 refine r_nil (e_next ?_)
 refine c_split (d := 16) rfl (fun h_9 => ?_) (fun h_9 => ?_)
 · (
 have hE := h_9
 first
 | (exfalso; omega)
 | (
 refine c_cond_t rfl (c_seq (c_region (r_val .none rfl (p_move rfl) (r_val .none rfl (p_assign rfl) ?_))))
 refine r_nil (e_next ?_)
 refine c_ret ?_
 refine e_ret_block ?_
 refine e_ret_then ?_
 refine e_ret_then ?_
 refine e_ret_block ?_
 refine e_ret_then ?_
 refine e_ret1 Try.results88 (.tmp rfl .nil) (fun w hm => ?_)
 first
 | (rw [← hix, ixD_yes (0 : Int) (by omega) hE]; exact ⟨rfl, hm.kept [_, _] (.keep (fun _ _ h => h) (.keep (fun _ _ h => h) (.nil))) _ (fun F' h => h)⟩)
 | (rw [← hix, List.drop_eq_nil_of_le (by omega)]; exact ⟨rfl, hm.kept [_, _] (.keep (fun _ _ h => h) (.keep (fun _ _ h => h) (.nil))) _ (fun F' h => h)⟩)))
 · (
 have hE := h_9
 first
 | (exfalso; omega)
 | (
 refine c_cond_f rfl (c_skip ?_)
 refine e_norm_block ?_
 refine e_next (c_region ?_)
 refine r_val .none rfl (p_add rfl rfl (by omega)) ?_
 refine r_val .none rfl (p_move rfl) (r_nil ?_)
 refine e_round ((j + 1, (p (zs.getD j (0 : Int)) t).2)) ⟨⟨by dsimp only; omega, by rw [← hix]; exact (ixD_no (0 : Int) (by omega) (by rw [hE]; simp)).symm⟩, by dsimp only; omega⟩ rfl ⟨rfl, rfl, rfl, rfl, trivial⟩ (.keep (fun _ _ h => h) (.keep (fun _ _ h => h) (.nil)))))))
 · (
 first
 | (exfalso; omega)
 | (
 refine c_cond_f rfl (c_exit (e_exit_then (e_exit_then ?_)))
 refine e_exit_block ?_
 refine e_next (c_seq (c_region (r_val .none rfl (p_assign rfl) (r_nil ?_))))
 refine e_next ?_
 refine c_ret ?_
 refine e_ret1 Try.results88 (.tmp rfl .nil) (fun w hm => ?_)
 first
 | (rw [← hix, ixD_yes (0 : Int) (by omega) hE]; exact ⟨rfl, hm.kept [_, _] (.keep (fun _ _ h => h) (.keep (fun _ _ h => h) (.nil))) _ (fun F' h => h)⟩)
 | (rw [← hix, List.drop_eq_nil_of_le (by omega)]; exact ⟨rfl, hm.kept [_, _] (.keep (fun _ _ h => h) (.keep (fun _ _ h => h) (.nil))) _ (fun F' h => h)⟩)))
theorem c_delI (v : Value) (zs : List (Int)) (g : Nat) (cs : List Value) {σ : Type} (A : σ → Asrt) (p : Int → σ → Bool × σ) (s0 : σ) {G : Ghost} {F : Nat → Prop} (hcg : Callable Try.prog g) (hcl : HCL Try.prog g cs (fun x : Int => Value.int .i64 x) A p G) (w : World) (hG : Has G w) (hA : (starL [rowA v 3 1 (zs).length ((zs).flatMap cI), A (s0)]).holds w F) (hFG : ∀ b, F b → G b = none) :
    Calls Try.prog 69 #[v, Value.func (.func g) #[] cs.toArray] w (Ret fun r w' => Kept (starL [rowA r 3 1 ((dels p zs s0).1).length (((dels p zs s0).1).flatMap cI), A ((dels p zs s0).2)]) F w w') := by
 refine enterO (args := [_, _]) (G := G) (A := starL [rowA v 3 1 (zs).length ((zs).flatMap cI), A (s0)]) (l := [(0, v), (1, Value.func (.func g) #[] cs.toArray)]) Try.func69 rfl Try.ntmps69 hG hA hFG ⟨rfl, rfl, trivial⟩ (Nat.le_of_ble_eq_true rfl) ?_
 refine c_unpack ?_
 refine c_rowlen (k := 0) rfl (fun hbd => ?_)
 refine c_seq (c_region (r_val .none rfl (p_assign rfl) (r_nil (e_next ?_))))
 refine c_seq (c_region (r_val .none rfl (p_move rfl) (r_val .none rfl (p_move rfl) ?_)))
 refine r_pack [_, _] ?_
 refine r_callo (k := 0) (vs := [_, _]) .none rfl cl88 rfl rfl (fun w F hw hA hFG => c_ixI v zs g cs A p s0 hcg hcl w hw hA hFG) ?_
 refine r_unpack ?_
 refine r_val .none rfl (p_assign rfl) (r_nil (e_next (c_seq (c_seq ?_))))
 refine c_region (r_val .none rfl (p_move rfl) ?_)
 refine r_val .none rfl (p_eq rfl rfl) ?_
 refine r_nil (e_next ?_)
 refine c_splitd (d := 12) rfl (fun h_1 => ?_) (fun h_1 => ?_)
 · (
 have hnone := ixD_none p zs 0 s0 h_1
 skip
 first
 | (exfalso; omega)
 | (
 refine c_cond_t rfl (c_seq (c_region (r_val .none rfl (p_move rfl) (r_val .none rfl (p_assign rfl) ?_))))
 refine r_nil (e_next ?_)
 refine c_ret ?_
 refine e_ret_then ?_
 refine e_ret1 Try.results69 (.tmp rfl .nil) (fun w hm => ?_)
 exact hm.kept [_, _] (.keep (fun _ _ h => rowA_congr (by rw [hnone]) (by rw [hnone]) _ _ h) (.keep (fun _ _ h => by rw [hnone]; exact h) (.nil))) _ (fun F' h => h)))
 · (
 obtain ⟨i0, hi0, hil, hds⟩ := ixD_some0 p zs s0 h_1
 rw [hi0]
 first
 | (exfalso; omega)
 | (
 refine c_cond_f rfl (c_skip (e_next (c_seq (c_seq ?_))))
 refine c_region (r_val .none rfl (p_move rfl) ?_)
 refine r_val .none rfl (p_add rfl rfl (by omega)) ?_
 refine r_val .none rfl (p_assign rfl) (r_nil (e_next (c_block ?_)))
 refine c_name (d := 0) rfl (fun u_2 hu_2 => ?_)
 refine c_name (d := 1) rfl (fun u_3 hu_3 => ?_)
 refine c_name (d := 4) rfl (fun u_4 hu_4 => ?_)
 refine c_loop (σ := Nat × List (Int)) (fun s => [(6, Value.int .i64 (s.1 : Nat)), (5, Value.int .i64 ((dels p (zs.take s.1) s0).1.length : Nat)), (0, u_2), (1, u_3), (4, u_4)]) (fun s => [rowA (v) 3 1 (s.2).length ((s.2).flatMap cI), A (dels p (zs.take s.1) s0).2]) (fun _ => _) (fun s => (s.1 ≤ zs.length ∧ s.2.length = zs.length ∧ (dels p (zs.take s.1) s0).1.length < s.1) ∧ s.2.take (dels p (zs.take s.1) s0).1.length = (dels p (zs.take s.1) s0).1 ∧ s.2.drop s.1 = zs.drop s.1) (fun s => zs.length - s.1) ((i0 + 1, zs)) ⟨⟨by omega, rfl, by rw [hds]; simp; omega⟩, by rw [hds]; simp, rfl⟩ rfl ⟨rfl, (congrArg (fun n : Nat => some (Value.int .i64 (n : Int))) (by rw [hds]; simp; omega)), rfl, rfl, rfl, trivial⟩ (.keep (fun _ _ h => h) (.keep (fun _ _ h => by rw [hds]; exact h) (.nil))) (fun s hphi => ?_)
 subst hu_2
 subst hu_3
 subst hu_4
 obtain ⟨j, ys⟩ := s
 obtain ⟨⟨hj, hyl, hlt⟩, hty, hdr⟩ := hphi
 dsimp only at hj hyl hlt hty hdr ⊢
 refine c_seq (c_seq (c_region (r_val .none rfl (p_move rfl) (r_val .none rfl (p_move rfl) ?_))))
 refine r_val .none rfl (p_leno (k := 0) Try.underlying33 rfl rfl) ?_
 refine r_val .none rfl (p_lt rfl rfl) ?_
 refine r_nil (e_next ?_)
 refine c_splitd (d := 19) rfl (fun h_5 => ?_) (fun h_5 => ?_)
 · (
 first
 | (exfalso; omega)
 | (
 refine c_cond_t rfl (c_skip (e_next (c_seq (c_block ?_))))
 refine c_seq (c_region (r_val .none rfl (p_move rfl) (r_val .none rfl (p_move rfl) ?_)))
 refine r_iaddr_o (k := 0) .none rfl Try.underlying33 sz3 rfl rfl rfl (by first | exact odt rfl | omega) (fun p_6 c_7 hv_8 => ?_)
 refine r_val .none rfl (p_ldo0 (k := 0) Try.underlying3 rfl rfl hv_8 rfl (by first | exact odt rfl | omega) (by first | exact odt rfl | omega) ((flatMap_get (cells := cI) (fun _ => rfl) (0 : Int) _ _ _ (by first | exact odt rfl | omega) (by first | exact odt rfl | omega)).trans (rfl : _ = Value.int _ _))) ?_
 rw [drop_getD (0 : Int) hdr]
 refine r_val .none rfl (p_assign rfl) (r_nil (e_next (c_seq (c_region ?_))))
 refine r_val .none rfl (p_move rfl) (r_val .none rfl (p_move rfl) ?_)
 refine r_yieldo (k := 1) (us := [_]) .none rfl rfl rfl hcg rfl (fun w F hw hA hFG => hcl (zs.getD j (0 : Int)) _ w F hw hA hFG) ?_
 refine r_val .none rfl (p_not rfl) ?_
 refine r_nil (e_next ?_)
 refine c_splitn (d := 29) rfl (fun h_9 => ?_) (fun h_9 => ?_)
 · (
 have hE := h_9
 have hnx := dels_next p (0 : Int) (l := zs) (j := j) (by omega) s0
 rw [hE, if_neg (by simp)] at hnx
 first
 | (exfalso; omega)
 | (
 refine c_cond_t rfl (c_seq (c_region (r_val .none rfl (p_move rfl) (r_val .none rfl (p_move rfl) ?_))))
 refine r_val .none rfl (p_move rfl) ?_
 refine r_iaddr_o (k := 0) .none rfl Try.underlying33 sz3 rfl rfl rfl (by first | exact odt rfl | omega) (fun p_10 c_11 hv_12 => ?_)
 refine r_stoe (k := 0) (cells := cI) (zs.getD j (0 : Int)) (fun _ => rfl) .none sz3 rfl rfl rfl (by simp [Value.oneCell']) rfl hv_12 (by omega) ?_
 refine r_nil (e_next (c_region (r_val .none rfl (p_move rfl) ?_)))
 refine r_val .none rfl (p_add rfl rfl (by omega)) ?_
 refine r_val .none rfl (p_assign rfl) (r_nil ?_)
 refine e_norm_block ?_
 refine e_next (c_region (r_val .none rfl (p_move rfl) ?_))
 refine r_val .none rfl (p_add rfl rfl (by omega)) ?_
 refine r_val .none rfl (p_assign rfl) (r_nil ?_)
 refine e_round ((j + 1, ys.set (dels p (zs.take j) s0).1.length (zs.getD j (0 : Int)))) ⟨⟨⟨by dsimp only; omega, by dsimp only; rw [List.length_set]; exact hyl, by dsimp only; rw [hnx]; simp; omega⟩, by dsimp only; rw [hnx, List.length_append, List.length_singleton, set_take (by omega), hty], by dsimp only; rw [set_drop (by omega)]; exact drop_next hdr⟩, by dsimp only; omega⟩ rfl ⟨rfl, (congrArg (fun n : Nat => some (Value.int .i64 (n : Int))) (by rw [hnx]; first | done | simp)), rfl, rfl, rfl, trivial⟩ (.keep (fun _ _ h => h) (.keep (fun _ _ h => by dsimp only; rw [hnx]; first | done | exact h) (.nil)))))
 · (
 have hE := h_9
 have hnx := dels_next p (0 : Int) (l := zs) (j := j) (by omega) s0
 rw [hE, if_pos rfl, List.append_nil] at hnx
 first
 | (exfalso; omega)
 | (
 refine c_cond_f rfl (c_skip ?_)
 refine e_norm_block ?_
 refine e_next (c_region (r_val .none rfl (p_move rfl) ?_))
 refine r_val .none rfl (p_add rfl rfl (by omega)) ?_
 refine r_val .none rfl (p_assign rfl) (r_nil ?_)
 refine e_round ((j + 1, ys)) ⟨⟨⟨by dsimp only; omega, hyl, by dsimp only; rw [hnx]; dsimp only; omega⟩, by dsimp only; rw [hnx]; first | done | exact hty, drop_next hdr⟩, by dsimp only; omega⟩ rfl ⟨rfl, (congrArg (fun n : Nat => some (Value.int .i64 (n : Int))) (by rw [hnx]; first | done | simp)), rfl, rfl, rfl, trivial⟩ (.keep (fun _ _ h => h) (.keep (fun _ _ h => by dsimp only; rw [hnx]; first | done | exact h) (.nil)))))))
 · (
 first
 | (exfalso; omega)
 | (
 refine c_cond_f rfl (c_exit (e_exit_then (e_exit_then ?_)))
 refine e_exit_block ?_
 refine e_next (c_seq (c_region ?_))
 refine r_rowblk (k := 0) rfl (by omega) (fun blk cap hv hcap => ?_)
 refine r_val .none rfl (p_move rfl) (r_val .none rfl (p_move rfl) ?_)
 refine r_val .none rfl (p_slice_o (a := (dels p (zs.take j) s0).1.length) (m := ys.length) (q := .i64) (q' := .i64) Try.underlying33 sz3 rfl hv hcap (some (.tmp 37)) none rfl rfl (by omega) (Nat.le_refl _)) ?_
 refine r_clear (k := 0) (a := (dels p (zs.take j) s0).1.length) .none Try.underlying33 el3 rfl (by decide) (by decide) rfl (fun h => by rw [if_neg (by omega)]) (by omega) rfl hv (fun ys2 hy2 => ?_)
 refine r_nil (e_next (c_seq (c_region (r_val .none rfl (p_move rfl) ?_))))
 refine r_val .none rfl (p_move rfl) ?_
 refine r_val .none rfl (p_slice_o0 (m := (dels p (zs.take j) s0).1.length) Try.underlying33 sz3 rfl hv hcap rfl (by omega)) ?_
 refine r_cut (k := 0) (m := (dels p (zs.take j) s0).1.length) rfl hv (by omega) ?_
 refine r_val .none rfl (p_assign rfl) (r_nil (e_next ?_))
 refine c_ret ?_
 refine e_ret1 Try.results69 (.tmp rfl .nil) (fun w hm => ?_)
 have htk : zs.take j = zs := List.take_of_length_le (by omega)
 exact hm.kept [_, _] (.keep (fun _ _ h => rowA_congr (by rw [htk]) (by rw [hy2, flatMap_take (cells := cI) (fun _ => rfl), hty, htk]) _ _ h) (.keep (fun _ _ h => by rw [htk] at h; exact h) (.nil))) _ (fun F' h => h)))))
theorem c_kwo1 (k id : Int) (b : Nat) {G : Ghost} (hR : RowAt G b 0 1 (at_ [.int .i64 id])) (w : World) (hG : Has G w) :
    Calls Try.prog 70 #[Value.int .i64 k, Value.pointer (some ⟨b, 0, none⟩)] w (Ret fun r w' => r = Value.bool (decide (k = id)) ∧ Since nX w w') := by
 refine enter (args := [_, _]) (X := nX) (G := G) (l := [(0, Value.int .i64 k), (1, Value.pointer (some ⟨b, 0, none⟩))]) Try.func70 rfl Try.ntmps70 hG ⟨rfl, rfl, trivial⟩ (Nat.le_of_ble_eq_true rfl) ?_
 refine c_seq (c_region (r_val .none rfl (p_assign rfl) (r_nil (e_next ?_))))
 refine c_seq (c_region (r_val .none rfl (p_move rfl) ?_))
 refine r_val .none rfl (p_ldg0 Try.underlying3 rfl rfl hR (by first | exact odt rfl | omega) (rfl : _ = Value.int _ _)) ?_
 refine r_val .none rfl (p_eq rfl rfl) ?_
 refine r_val .none rfl (p_assign rfl) (r_nil (e_next ?_))
 refine c_ret ?_
 refine e_ret1 Try.results70 (.tmp rfl .nil) (fun w hm => ⟨?_, hm.since⟩)
 rfl
theorem c_kwithout {F : Nat → Prop} {G : Ghost} (v : Value) (zs : List Int) (id : Int)  (w : World) (hG : Has G w) (hA : (rowA v 3 1 zs.length (zs.flatMap cI)).holds w F) (hFG : ∀ b, F b → G b = none) :
    Calls Try.prog 45 #[v, Value.int .i64 id] w (Ret fun r w' => Kept (rowA r 3 1 (zs.filter (notK id)).length ((zs.filter (notK id)).flatMap cI)) F w w') := by
 refine enterO (args := [_, _]) (G := G) (A := rowA v 3 1 zs.length (zs.flatMap cI)) (l := [(0, v), (1, Value.int .i64 id)]) Try.func45 rfl Try.ntmps45 hG hA hFG ⟨rfl, rfl, trivial⟩ (Nat.le_of_ble_eq_true rfl) ?_
 refine c_seq (c_region ?_)
 refine r_box .none rfl rfl (IsRow.lit [_]) (fun b_1 => ?_)
 refine r_val .none rfl (p_assign rfl) (r_nil (e_next (c_seq (c_region ?_))))
 refine r_val .none rfl (p_move rfl) ?_
 refine r_freezeX (k := 0) rfl (fun G_1 hn_2 hR_3 => ?_)
 refine r_val .none rfl (p_mkfunc (vs := [_]) rfl) ?_
 refine r_hnil (FN (κ := Int)) ?_
 refine r_front (k := 1) rfl ?_
 refine r_pack [_, _] ?_
 refine r_callor (k := 0) (vs := [_, _]) .none rfl cl69 rfl rfl (fun w F hw hA hFG => c_delI v zs 70 [.pointer (some ⟨b_1, 0, none⟩)] (fun _ : Unit => pureA True) (fun (k : Int) (_ : Unit) => (decide (k = id), ())) () cl70 (fun k s w F hw hA hF => (c_kwo1 k id _ hR_3 w hw).mono (fun e w' hR => by cases e with | returned r => exact ⟨hR.1, kept_true hR.2⟩ | panicked c => exact hR.elim | outgrown => exact hR.elim)) w hw hA hFG) (fun r_4 => ?_)
 refine r_unpack ?_
 refine r_val .none rfl (p_assign rfl) (r_nil (e_next ?_))
 refine c_ret ?_
 refine e_ret1 Try.results45 (.tmp rfl .nil) (fun w hm => hm.kept [rowA r_4 3 1 (zs.filter (notK id)).length ((zs.filter (notK id)).flatMap cI)] (.keep (fun _ _ h => rowA_congr (by rw [dels_pure]; rfl) (by rw [dels_pure]; rfl) _ _ h) (.drop (.nil))) (rowA r_4 3 1 (zs.filter (notK id)).length ((zs.filter (notK id)).flatMap cI)) (fun F' h => (starL_oneE _ _).1 h))
end Go.Proofs.Ytdkfdncbldngdaa

/- Tries: what the walk of Remove goes by; no program in sight. -/
namespace Go.Gx.T16
open Go.Gx Go.Gx.T3 Go.Gx.T4 Go.Gx.T6 Go.Gx.T8
section
variable {s s2 : KS Nd} {R : RT} {cl : List ST} {j : Nat}
theorem ks_nodup : (ksR R cl).Nodup := List.pairwise_reverse.2 ((once_nodup _).imp Ne.symm)
/-- The number that is next is some chain's. -/
theorem ks_next (hC : Clo R) (hf : ∀ c ∈ schains [] cl, find R c ≠ 0) (hj : j < (ksR R cl).length) :
    ∃ c, getR R ((ksR R cl).getD j 0) = some c ∧ getR (kills (remI R cl) ((ksR R cl).take j)) ((ksR R cl).getD j 0) = some c ∧ ¬ (ksR R cl).getD j 0 ∈ (ksR R cl).take j ∧ (ksR R cl).getD j 0 ≠ 1 := by
  have h1 : (ksR R cl).getD j 0 ∈ ksR R cl := getD_mem hj
  obtain ⟨c, h2, h3⟩ := List.mem_map.1 (ks_mem.1 h1)
  have h4 := find_some hC.ne (hf c h2)
  rw [h3] at h4
  have h5 := take_not (ks_nodup (R := R) (cl := cl)) hj
  have h6 : ∀ x ∈ (ksR R cl).take j, x ≠ 1 := fun x hx e => one_not_id (e ▸ ks_mem.1 (List.mem_of_mem_take hx))
  refine ⟨c, h4, ?_, h5, fun e => one_not_id (e ▸ ks_mem.1 h1)⟩
  rw [kills_get h6 h5]; exact h4
theorem kills_take (hj : j < (ksR R cl).length) : kills (remI R cl) ((ksR R cl).take (j + 1)) = if dead (kills (remI R cl) ((ksR R cl).take j)) ((ksR R cl).getD j 0) = true then kill (kills (remI R cl) ((ksR R cl).take j)) ((ksR R cl).getD j 0) else kills (remI R cl) ((ksR R cl).take j) := by
  rw [List.take_succ_eq_append_getElem hj, kills_append]
  simp [kills, List.getD, List.getElem?_eq_getElem hj]
theorem filter_take (hj : j < (ksR R cl).length) {p : Int → Bool} : ((ksR R cl).take (j + 1)).filter p = ((ksR R cl).take j).filter p ++ if p ((ksR R cl).getD j 0) = true then [(ksR R cl).getD j 0] else [] := by
  rw [List.take_succ_eq_append_getElem hj, List.filter_append]
  congr 1
  simp [List.filter_cons, List.getD, List.getElem?_eq_getElem hj]
theorem dead_take (hf1 : ∀ x ∈ (ksR R cl).take j, x ≠ 1) (h : ¬ (ksR R cl).getD j 0 ∈ (ksR R cl).take j) : dead (kills (remI R cl) ((ksR R cl).take j)) ((ksR R cl).getD j 0) = dead (remI R cl) ((ksR R cl).getD j 0) := dead_kills hf1 h
theorem ks_one {x : Int} (hx : x ∈ (ksR R cl).take j) : x ≠ 1 := fun e => one_not_id (e ▸ ks_mem.1 (List.mem_of_mem_take hx))
theorem uses_node {k : Int} {c : List ST} {x : Nd} (hT : TI s R) (hg : getR R k = some c) (hx : lkp s.nodes k = some x) : x.uses = (uses R c : Int) := by
  obtain ⟨y, h1, h2⟩ := hT.at hg
  rw [hx] at h1
  rw [Option.some.inj h1]; exact congrArg PN.uses h2
theorem StS.del {G : Ghost} {l : List (Int × Nd)} {ls ls' k : Int} (h : StS G ⟨l, ls⟩) : StS G ⟨mdel l k, ls'⟩ := fun q hq => by
  have : ∀ {l : List (Int × Nd)}, q ∈ mdel l k → q ∈ l := by
    intro l
    induction l with
    | nil => intro h; cases h
    | cons p t ih =>
      intro h
      rw [mdel] at h
      split at h
      · exact List.mem_cons_of_mem _ h
      · rcases List.mem_cons.1 h with rfl | h
        · simp
        · exact List.mem_cons_of_mem _ (ih h)
  exact h q (this hq)
end
end Go.Gx.T16

/- Walks: what Go functions of this chapter come to, each as a function on plain data; no condition but those that each theorem names. Printed by a program of this work (gen.py). -/
namespace Go.Proofs.Ytdkfdncbldngdaa
open Go.Gx Go.Gx.T16 Go.Gx.T8 Go.Gx.T6 Go.Gx.T4 Go.Gx.T3 Go.Gx.T8 Go.Gx.T4 Go.Gx.T3 Go.Gx.T8 Go.Gx.T6 Go.Gx.T4 Go.Gx.T3

theorem c_krem0 {F : Nat → Prop} {G : Ghost} (p : Nat) (v : Value) (cl : List ST) (R : RT) (s : KS Nd) (hT : TI s R) (hS : StS G s) (hs : Ss G v cl) (hf0 : find R cl = 0) (w : World) (hG : Has G w) (hA : (trE (nkD 71 3) 74 p (s)).holds w F) (hFG : ∀ b, F b → G b = none) :
    Calls Try.prog 22 #[Value.pointer (some ⟨p, 0, none⟩), v] w (Ret fun r w' => r = Value.tuple #[Value.slice none 0 0, Value.int .i64 16] ∧ Kept (trE (nkD 71 3) 74 p (s)) F w w') := by
 refine enterO (args := [_, _]) (G := G) (A := trE (nkD 71 3) 74 p (s)) (l := [(0, Value.pointer (some ⟨p, 0, none⟩)), (1, v)]) Try.func22 rfl Try.ntmps22 hG hA hFG ⟨rfl, rfl, trivial⟩ (Nat.le_of_ble_eq_true rfl) ?_
 refine c_seq (c_region (r_val .none rfl (p_assign rfl) (r_val .none rfl (p_assign rfl) (r_nil ?_))))
 refine e_next (c_seq (c_region (r_val .none rfl (p_move rfl) (r_val .none rfl (p_move rfl) ?_))))
 refine r_callo (k := 0) (vs := [_, _]) .none rfl cl18 rfl rfl (fun w F hw hA hFG => trie_see0 (R := fun r => r = Value.int .i64 (find R cl)) (fun l G' F' hl hle hn9 hG hA hF => c_kfind p _ cl l _ R (seen_of hT.kc hS hl hn9 hle) (hs.mono hle) w hG hA hF) hw hA hFG) ?_
 refine r_val .none rfl (p_assign rfl) (r_nil (e_next (c_seq (c_seq ?_))))
 refine c_region (r_val .none rfl (p_move rfl) ?_)
 refine r_val .none rfl (p_eq rfl rfl) ?_
 refine r_val .none rfl (p_move rfl) ?_
 refine r_splitd (d := 21) rfl (fun h_1 => ?_) (fun h_1 => ?_)
 · (
 first
 | (exfalso; first | omega)
 | (
 refine r_skip rfl (.no rfl rfl) ?_
 refine r_skip rfl (.no rfl rfl) ?_
 refine r_skip rfl (.no rfl rfl) ?_
 refine r_skip rfl (.no rfl rfl) ?_
 refine r_skip rfl (.no rfl rfl) ?_
 refine r_skip rfl (.no rfl rfl) ?_
 refine r_skip rfl (.no rfl rfl) ?_
 refine r_skip rfl (.no rfl rfl) ?_
 refine r_skip rfl (.no rfl rfl) ?_
 refine r_skip rfl (.no rfl rfl) ?_
 refine r_val .none rfl (p_pick_t rfl rfl) ?_
 refine r_nil (e_next (c_cond_t rfl (c_seq (c_region ?_))))
 refine r_val .none rfl (p_assign rfl) (r_val .none rfl (p_assign rfl) (r_nil (e_next ?_)))
 refine c_ret ?_
 refine e_ret_then ?_
 refine e_retn Try.results22 (.tmp rfl (.tmp rfl .nil)) rfl (fun w hm => ⟨rfl, hm.kept [trE (nkD 71 3) 74 p (s)] (.keep (fun _ _ h => h) (.nil)) (trE (nkD 71 3) 74 p (s)) (fun F' h => (starL_oneE _ _).1 h)⟩)))
 · (
 have hx : False := absurd hf0 (by have h9 := h_1; omega)
 exact hx.elim)
theorem c_krem1 {F : Nat → Prop} {G : Ghost} (p : Nat) (v : Value) (cl : List ST) (R : RT) (xe : Nd) (s : KS Nd) (hT : TI s R) (hS : StS G s) (hs : Ss G v cl) (hf0 : find R cl ≠ 0) (hxe : lkp s.nodes (find R cl) = some xe) (he0 : xe.ends = 0) (w : World) (hG : Has G w) (hA : (trE (nkD 71 3) 74 p (s)).holds w F) (hFG : ∀ b, F b → G b = none) :
    Calls Try.prog 22 #[Value.pointer (some ⟨p, 0, none⟩), v] w (Ret fun r w' => r = Value.tuple #[Value.slice none 0 0, Value.int .i64 16] ∧ Kept (trE (nkD 71 3) 74 p (s)) F w w') := by
 refine enterO (args := [_, _]) (G := G) (A := trE (nkD 71 3) 74 p (s)) (l := [(0, Value.pointer (some ⟨p, 0, none⟩)), (1, v)]) Try.func22 rfl Try.ntmps22 hG hA hFG ⟨rfl, rfl, trivial⟩ (Nat.le_of_ble_eq_true rfl) ?_
 refine c_seq (c_region (r_val .none rfl (p_assign rfl) (r_val .none rfl (p_assign rfl) (r_nil ?_))))
 refine e_next (c_seq (c_region (r_val .none rfl (p_move rfl) (r_val .none rfl (p_move rfl) ?_))))
 refine r_callo (k := 0) (vs := [_, _]) .none rfl cl18 rfl rfl (fun w F hw hA hFG => trie_see0 (R := fun r => r = Value.int .i64 (find R cl)) (fun l G' F' hl hle hn9 hG hA hF => c_kfind p _ cl l _ R (seen_of hT.kc hS hl hn9 hle) (hs.mono hle) w hG hA hF) hw hA hFG) ?_
 refine r_val .none rfl (p_assign rfl) (r_nil (e_next (c_seq (c_seq ?_))))
 refine c_region (r_val .none rfl (p_move rfl) ?_)
 refine r_val .none rfl (p_eq rfl rfl) ?_
 refine r_val .none rfl (p_move rfl) ?_
 refine r_splitd (d := 21) rfl (fun h_1 => ?_) (fun h_1 => ?_)
 · (
 have hx : False := absurd h_1 hf0
 exact hx.elim)
 · (
 first
 | (exfalso; first | omega)
 | (
 refine r_unex (fun l => ?_)
 refine r_unand (fun hl => ?_)
 refine r_unpack ?_
 refine r_openK (fun z => ?_)
 dsimp only [trC] at hl ⊢
 obtain ⟨bxe, kve, ove, hNe⟩ := eraK_some (by rw [← hl]; exact hxe)
 refine r_val (.some rfl rfl) rfl (p_move rfl) ?_
 refine r_val (.some rfl rfl) rfl (p_nilcheck rfl) ?_
 refine r_val (.some rfl rfl) rfl (p_field Try.underlying74 rfl sz72 rfl) ?_
 refine r_val (.some rfl rfl) rfl (p_ld (k := 0) Try.underlying72 rfl rfl rfl (by first | exact odt rfl | omega) (rfl : _ = Value.map _)) ?_
 refine r_val (.some rfl rfl) rfl (p_move rfl) ?_
 refine r_val (.some rfl rfl) rfl (p_lookup_yes (i := 1) Try.underlying72 (KeyT.int Try.underlying3) zr69 rfl rfl rfl hNe) ?_
 refine r_front (k := 2) rfl ?_
 refine r_fnd hNe ?_
 refine r_val (.some rfl rfl) rfl (p_nilcheck rfl) ?_
 refine r_val (.some rfl rfl) rfl (p_field Try.underlying71 rfl sz3 rfl) ?_
 refine r_val (.some rfl rfl) rfl (p_ld (k := 0) Try.underlying3 rfl rfl rfl (by first | exact odt rfl | omega) (rfl : _ = Value.int _ _)) ?_
 refine r_val (.some rfl rfl) rfl (p_eq rfl rfl) ?_
 refine r_val .none rfl (p_pick_f rfl rfl) ?_
 refine r_nil (e_next ?_)
 refine c_splitd (d := 32) rfl (fun h_2 => ?_) (fun h_2 => ?_)
 · (
 first
 | (exfalso; first | omega)
 | (
 refine c_cond_t rfl (c_seq (c_region (r_val .none rfl (p_assign rfl) (r_val .none rfl (p_assign rfl) ?_))))
 refine r_nil (e_next ?_)
 refine c_ret ?_
 refine e_ret_then ?_
 refine e_front (k := 3) rfl ?_
 refine e_front (k := 3) rfl ?_
 refine e_front (k := 3) rfl ?_
 refine e_front (k := 3) rfl ?_
 refine e_conv (B := box bxe 13 71 (at_ (ndC xe kve ove))) (k := 0) rfl (fun _ _ h => box_congr (fun i hi => by match i, hi with | 0, _ => rfl | 1, _ => rfl | 2, _ => rfl | 3, _ => rfl | 4, _ => rfl | 5, _ => rfl | 6, _ => rfl | 7, _ => rfl | 8, _ => rfl | 9, _ => rfl | 10, _ => rfl | 11, _ => rfl | 12, _ => rfl) _ _ h) ?_
 dsimp only [List.set_cons_zero]
 refine e_ndBack (x := xe) hNe ?_
 rw [mput_same hNe]
 refine e_front (k := 2) rfl ?_
 refine e_front (k := 2) rfl ?_
 refine e_retn Try.results22 (.tmp rfl (.tmp rfl .nil)) rfl (fun w hm => ⟨rfl, hm.kept [box p 2 74 (at_ (trC (KS.mk (l) s.last) z)), mapA z kI veN2 (l), hoard (FK (nkD 71 3)) (l)] (.keep (fun _ _ h => h) (.keep (fun _ _ h => h) (.keep (fun _ _ h => h) (.nil)))) (trE (nkD 71 3) 74 p (KS.mk (s.nodes) s.last)) (fun F' h => trE_mk3 z hl h)⟩)))
 · (
 have hx : False := absurd he0 (by have h9 := h_2; omega)
 exact hx.elim)))
end Go.Proofs.Ytdkfdncbldngdaa

/- Walks: what Go functions of this chapter come to, each as a function on plain data; no condition but those that each theorem names. Printed by a program of this work (gen.py). -/
namespace Go.Proofs.Ytdkfdncbldngdaa
open Go.Gx Go.Gx.T16 Go.Gx.T8 Go.Gx.T6 Go.Gx.T4 Go.Gx.T3 Go.Gx.T8 Go.Gx.T4 Go.Gx.T3 Go.Gx.T8 Go.Gx.T6 Go.Gx.T4 Go.Gx.T3
theorem cl44 : Callable Try.prog 44 := callable Try.func44 (by kernel_rfl) rfl
theorem cl45 : Callable Try.prog 45 := callable Try.func45 (by kernel_rfl) rfl
theorem revI : Rev1C Try.prog 44 kI := fun blk cap zs w hH hsz => Try.slices_Reverse_int blk 0 cap zs w hH hsz
theorem revI0 : Rev1N Try.prog 44 := fun p cap w => Try.slices_Reverse_int_empty p cap w
set_option maxHeartbeats 2000000 in
theorem c_kremY {F : Nat → Prop} {G : Ghost} (p : Nat) (v : Value) (cl : List ST) (R : RT) (s : KS Nd) (hT : TI s R) (hS : StS G s) (hs : Ss G v cl) (hsz : sszL cl ≤ 1000) (hU : Used R) (hth : there R cl = true) (hcap : R.lists.length ≤ 3000 ∧ R.its.length ≤ 4000) (w : World) (hG : Has G w) (hA : (trE (nkD 71 3) 74 p (s)).holds w F) (hFG : ∀ b, F b → G b = none) :
    Calls Try.prog 22 #[Value.pointer (some ⟨p, 0, none⟩), v] w (Ret fun r w' => ∃ G' s', GNew w F G G' ∧ Has G' w' ∧ ((∃ v, r = Value.tuple #[v, Value.int .i64 0] ∧ SlL G' v 1 cI (0 : Int) (goneR R cl)) ∧ TI s' (remR R cl) ∧ StS G' s') ∧ KeptG (trE (nkD 71 3) 74 p (s')) F G' w w') := by
 refine enterO (args := [_, _]) (G := G) (A := trE (nkD 71 3) 74 p (s)) (l := [(0, Value.pointer (some ⟨p, 0, none⟩)), (1, v)]) Try.func22 rfl Try.ntmps22 hG hA hFG ⟨rfl, rfl, trivial⟩ (Nat.le_of_ble_eq_true rfl) ?_
 have hfd := there_found hT hth
 obtain ⟨hf0, hend⟩ := (there_iff hT).1 hth
 obtain ⟨xe, hxe, _⟩ := hT.at (find_some hT.clo.ne hf0)
 have he0 := hend xe hxe
 have hbe := hT.bound (m := 3000) hcap.1 hxe
 have hcl : (schains [] cl).length ≤ 1000 := Nat.le_trans (schains_len cl []) hsz
 refine c_seq (c_region (r_val .none rfl (p_assign rfl) (r_val .none rfl (p_assign rfl) (r_nil ?_))))
 refine e_next (c_seq (c_region (r_val .none rfl (p_move rfl) (r_val .none rfl (p_move rfl) ?_))))
 refine r_callo (k := 0) (vs := [_, _]) .none rfl cl18 rfl rfl (fun w F hw hA hFG => trie_see0 (R := fun r => r = Value.int .i64 (find R cl)) (fun l G' F' hl hle hn9 hG hA hF => c_kfind p _ cl l _ R (seen_of hT.kc hS hl hn9 hle) (hs.mono hle) w hG hA hF) hw hA hFG) ?_
 refine r_val .none rfl (p_assign rfl) (r_nil (e_next (c_seq (c_seq ?_))))
 refine c_region (r_val .none rfl (p_move rfl) ?_)
 refine r_val .none rfl (p_eq rfl rfl) ?_
 refine r_val .none rfl (p_move rfl) ?_
 refine r_splitd (d := 21) rfl (fun h_1 => ?_) (fun h_1 => ?_)
 · (
 have hx : False := absurd h_1 hf0
 exact hx.elim)
 · (
 first
 | (exfalso; first | omega)
 | (
 refine r_unex (fun l => ?_)
 refine r_unand (fun hl => ?_)
 refine r_unpack ?_
 refine r_openK (fun z => ?_)
 dsimp only [trC] at hl ⊢
 obtain ⟨bxe, kve, ove, hNe⟩ := eraK_some (by rw [← hl]; exact hxe)
 refine r_val (.some rfl rfl) rfl (p_move rfl) ?_
 refine r_val (.some rfl rfl) rfl (p_nilcheck rfl) ?_
 refine r_val (.some rfl rfl) rfl (p_field Try.underlying74 rfl sz72 rfl) ?_
 refine r_val (.some rfl rfl) rfl (p_ld (k := 0) Try.underlying72 rfl rfl rfl (by first | exact odt rfl | omega) (rfl : _ = Value.map _)) ?_
 refine r_val (.some rfl rfl) rfl (p_move rfl) ?_
 refine r_val (.some rfl rfl) rfl (p_lookup_yes (i := 1) Try.underlying72 (KeyT.int Try.underlying3) zr69 rfl rfl rfl hNe) ?_
 refine r_front (k := 2) rfl ?_
 refine r_fnd hNe ?_
 refine r_val (.some rfl rfl) rfl (p_nilcheck rfl) ?_
 refine r_val (.some rfl rfl) rfl (p_field Try.underlying71 rfl sz3 rfl) ?_
 refine r_val (.some rfl rfl) rfl (p_ld (k := 0) Try.underlying3 rfl rfl rfl (by first | exact odt rfl | omega) (rfl : _ = Value.int _ _)) ?_
 refine r_val (.some rfl rfl) rfl (p_eq rfl rfl) ?_
 refine r_val .none rfl (p_pick_f rfl rfl) ?_
 refine r_nil (e_next ?_)
 refine c_splitd (d := 32) rfl (fun h_2 => ?_) (fun h_2 => ?_)
 · (
 have hx : False := absurd h_2 he0
 exact hx.elim)
 · (
 first
 | (exfalso; first | omega)
 | (
 refine c_cond_f rfl (c_skip (e_next (c_seq (c_region ?_))))
 refine r_val .none rfl (p_assign rfl) (r_nil (e_next (c_seq (c_seq ?_))))
 refine c_region ?_
 refine r_front (k := 3) rfl ?_
 refine r_front (k := 3) rfl ?_
 refine r_front (k := 3) rfl ?_
 refine r_front (k := 3) rfl ?_
 refine r_conv (B := box bxe 13 71 (at_ (ndC xe kve ove))) (k := 0) rfl (fun _ _ h => box_congr (fun i hi => by match i, hi with | 0, _ => rfl | 1, _ => rfl | 2, _ => rfl | 3, _ => rfl | 4, _ => rfl | 5, _ => rfl | 6, _ => rfl | 7, _ => rfl | 8, _ => rfl | 9, _ => rfl | 10, _ => rfl | 11, _ => rfl | 12, _ => rfl) _ _ h) ?_
 dsimp only [List.set_cons_zero]
 refine r_ndBack (x := xe) hNe ?_
 rw [mput_same hNe]
 refine r_front (k := 2) rfl ?_
 refine r_front (k := 2) rfl ?_
 refine r_conv (B := box p 2 74 (at_ (trC (KS.mk l s.last) z))) (k := 0) rfl (fun _ _ h => box_congr (fun i hi => by match i, hi with | 0, _ => rfl | 1, _ => rfl) _ _ h) ?_
 dsimp only [List.set_cons_zero]
 refine r_shutE (E := 3) (n := s.nodes) (l := l) z hl ?_
 refine r_val .none rfl (p_move rfl) ?_
 refine r_callm (vs := [_]) .none rfl cl32 rfl (fun w hw => c_chainsS _ _ hsz hs w hw) (fun G_3 v_6 hn_4 hr_5 => ?_)
 replace hs := hs.mono hn_4.le
 replace hS := hS.mono hn_4.le
 obtain ⟨qs, hq, hqp, hql⟩ := hr_5
 have hqn : (schains [] cl).length = qs.length := by rw [hql, List.length_map]
 refine r_val .none rfl (p_leng Try.underlying41 rfl hq) ?_
 have bd_8 := (hq).bound
 refine r_val .none rfl (p_move rfl) (r_nil (e_next (c_block ?_)))
 refine c_nilrow 3 1 ?_
 refine c_name (d := 0) rfl (fun u_9 hu_9 => ?_)
 refine c_name (d := 4) rfl (fun u_10 hu_10 => ?_)
 refine c_name (d := 5) rfl (fun u_11 hu_11 => ?_)
 refine c_name (d := 6) rfl (fun u_12 hu_12 => ?_)
 refine c_name (d := 34) rfl (fun u_13 hu_13 => ?_)
 refine c_name (d := 35) rfl (fun u_14 hu_14 => ?_)
 refine c_nameL (k := 1) rfl (fun A_15 hA_15 => ?_)
 refine c_loop (σ := Nat × Value) (fun s' => [(36, Value.int .i64 (s'.1 : Nat)), (7, s'.2), (0, u_9), (4, u_10), (5, u_11), (6, u_12), (34, u_13), (35, u_14)]) (fun s' => [rowA (s'.2) 3 1 ((((schains [] cl).take s'.1).map (find R))).length (((((schains [] cl).take s'.1).map (find R))).flatMap cI), A_15]) (fun _ => _) (fun s' => s'.1 ≤ qs.length) (fun s' => qs.length - s'.1) ((0, _)) (Nat.zero_le _) rfl ⟨rfl, rfl, rfl, rfl, rfl, rfl, rfl, rfl, trivial⟩ (.keep (fun _ _ h => rowA_nil (by simp) _ _ h) (.keep (fun _ _ h => h) (.nil))) (fun s' hphi => ?_)
 subst hu_9
 subst hu_10
 subst hu_11
 subst hu_12
 subst hu_13
 subst hu_14
 subst hA_15
 obtain ⟨k, ov⟩ := s'
 dsimp only at hphi ⊢
 refine c_seq (c_region ?_)
 refine r_val .none rfl (p_lt rfl rfl) ?_
 refine r_nil (e_next (c_seq ?_))
 refine c_splitd (d := 37) rfl (fun h_16 => ?_) (fun h_16 => ?_)
 · (
 first
 | (exfalso; first | omega)
 | (
 refine c_cond_t rfl (c_skip (e_next (c_seq (c_block ?_))))
 refine c_seq (c_region ?_)
 refine r_iaddr_g .none rfl Try.underlying41 sz35 rfl hq rfl (by first | exact odt rfl | omega) (fun p_18 o_19 R_17 => ?_)
 have hc_20 := hqp _ (getD_mem (i := k) (d := es6) (by omega))
 refine r_val .none rfl (p_ldg0 Try.underlying35 rfl rfl R_17 (by first | exact odt rfl | omega) rfl) ?_
 refine r_val .none rfl (p_assign rfl) (r_nil (e_next (c_region (r_val .none rfl (p_move rfl) ?_))))
 refine r_val .none rfl (p_move rfl) (r_val .none rfl (p_move rfl) ?_)
 refine r_callo (k := 1) (vs := [_, _]) .none rfl cl18 rfl rfl (fun w F hw hA hFG => trie_see0 (R := fun r => r = Value.int .i64 (find R (qs.getD k es6).1)) (fun l G' F' hl hle hn9 hG hA hF => c_kfind p _ (qs.getD k es6).1 l _ R (seen_of hT.kc hS hl hn9 hle) (hc_20.mono hle) w hG hA hF) hw hA hFG) ?_
 refine r_bslice (vs := [(0, Value.int _ _)]) (c := #[_]) .none rfl Try.underlying33 el3 rfl rfl rfl (bs3_10i2 _ _) (IsRow.lit _) (fun b_1 => ?_)
 refine r_append (k := 1) (k2 := 0) .none rfl Try.underlying33 el3 rfl (by decide) rfl rfl rfl rfl rfl (one_lit rfl rfl) (by simp only [maxLen]; rw [List.length_map, List.length_take]; omega) (by rw [List.length_map, List.length_take]; omega) (fun v_21 => ?_)
 refine r_row1 (k := 1) rfl (fun o_22 => ?_)
 refine r_val .none rfl (p_assign rfl) (r_nil ?_)
 refine e_norm_block ?_
 refine e_next (c_region ?_)
 refine r_val .none rfl (p_add rfl rfl (by omega)) ?_
 refine r_val .none rfl (p_move rfl) (r_nil ?_)
 refine e_round ((k + 1, _)) ⟨by dsimp only; omega, by dsimp only; omega⟩ rfl ⟨rfl, rfl, rfl, rfl, rfl, rfl, rfl, rfl, trivial⟩ (.drop (.keep (fun _ _ h => rowA_snoc (l := (((schains [] cl).take k).map (find R))) (x := find R (qs.getD k es6).1) (by rw [List.take_succ_eq_append_getElem (by omega), List.map_append]; simp [hql, List.getD, List.getElem?_eq_getElem (show k < qs.length by omega)]) rfl rfl rfl _ _ h) (.keep (fun _ _ h => h) (.nil))))))
 · (
 first
 | (exfalso; first | omega)
 | (
 refine c_cond_f rfl (c_exit (e_exit_then (e_exit_then ?_)))
 refine e_exit_block ?_
 refine e_next (c_seq (c_region ?_))
 refine r_front (k := 1) rfl ?_
 refine r_unex (fun l => ?_)
 refine r_unand (fun hl => ?_)
 refine r_unpack ?_
 refine r_openK (fun z => ?_)
 dsimp only [trC] at hl ⊢
 obtain ⟨bxe, kve, ove, hNe⟩ := eraK_some (by rw [← hl]; exact hxe)
 refine r_val .none rfl (p_move rfl) ?_
 refine r_val .none rfl (p_nilcheck rfl) ?_
 refine r_val .none rfl (p_field Try.underlying74 rfl sz72 rfl) ?_
 refine r_val .none rfl (p_ld (k := 0) Try.underlying72 rfl rfl rfl (by first | exact odt rfl | omega) (rfl : _ = Value.map _)) ?_
 refine r_val .none rfl (p_move rfl) ?_
 refine r_val .none rfl (p_lookup_yes (i := 1) Try.underlying72 (KeyT.int Try.underlying3) zr69 rfl rfl rfl hNe) ?_
 refine r_front (k := 2) rfl ?_
 refine r_fnd hNe ?_
 refine r_val .none rfl (p_nilcheck rfl) ?_
 refine r_val .none rfl (p_field Try.underlying71 rfl sz3 rfl) ?_
 refine r_val .none rfl (p_ld (k := 0) Try.underlying3 rfl rfl rfl (by first | exact odt rfl | omega) (rfl : _ = Value.int _ _)) ?_
 refine r_val .none rfl (p_sub rfl rfl (by omega)) ?_
 refine r_val .none rfl (p_nilcheck rfl) ?_
 refine r_val .none rfl (p_field Try.underlying71 rfl sz3 rfl) ?_
 refine r_st (k := 0) .none sz3 rfl rfl rfl rfl (by first | exact odt rfl | omega) ?_
 refine r_front (k := 3) rfl ?_
 refine r_front (k := 3) rfl ?_
 refine r_front (k := 3) rfl ?_
 refine r_front (k := 3) rfl ?_
 refine r_conv (B := box bxe 13 71 (at_ (ndC { xe with ends := xe.ends - 1 } kve ove))) (k := 0) rfl (fun _ _ h => box_congr (fun i hi => by match i, hi with | 0, _ => rfl | 1, _ => rfl | 2, _ => rfl | 3, _ => rfl | 4, _ => rfl | 5, _ => rfl | 6, _ => rfl | 7, _ => rfl | 8, _ => rfl | 9, _ => rfl | 10, _ => rfl | 11, _ => rfl | 12, _ => rfl) _ _ h) ?_
 dsimp only [List.set_cons_zero]
 refine r_ndBack (x := { xe with ends := xe.ends - 1 }) hNe ?_
 refine r_conv (B := mapA z kI veN2 (mput l (find R cl) (bxe, kve, ove, { xe with ends := xe.ends - 1 }))) (k := 2) rfl (fun _ _ h => mapA_retell (v := (bxe, kve, ove, { xe with ends := xe.ends - 1 })) hNe rfl h) ?_
 dsimp only [List.set_cons_zero, List.set_cons_succ]
 refine r_nil (e_next (c_seq (c_region ?_)))
 have hl1 : eraK (mput l (find R cl) (bxe, kve, ove, { xe with ends := xe.ends - 1 })) = (mput s.nodes (find R cl) { xe with ends := xe.ends - 1 }) := by rw [eraK_mput, ← hl]
 obtain ⟨x10, hx10, _⟩ := hT.at (id := 1) (c := []) rfl
 have hb1 := hT.bound (m := 3000) hcap.1 hx10
 obtain ⟨x1, hx1, hu1⟩ : ∃ y, lkp (mput s.nodes (find R cl) { xe with ends := xe.ends - 1 }) 1 = some y ∧ y.uses = x10.uses := by rw [lkp_mput]; split; (rename_i h9; rw [h9, hx10] at hxe; exact ⟨_, rfl, by rw [← Option.some.inj hxe]⟩); exact ⟨_, hx10, rfl⟩
 obtain ⟨bx1, kv1, ov1, hN1⟩ := eraK_some (by rw [hl1]; exact hx1)
 refine r_val .none rfl (p_move rfl) ?_
 refine r_val .none rfl (p_nilcheck rfl) ?_
 refine r_val .none rfl (p_field Try.underlying74 rfl sz72 rfl) ?_
 refine r_val .none rfl (p_ld (k := 1) Try.underlying72 rfl rfl rfl (by first | exact odt rfl | omega) (rfl : _ = Value.map _)) ?_
 refine r_val .none rfl (p_lookup_yes (i := 2) Try.underlying72 (KeyT.int Try.underlying3) zr69 rfl rfl rfl hN1) ?_
 refine r_fnd hN1 ?_
 refine r_val .none rfl (p_nilcheck rfl) ?_
 refine r_val .none rfl (p_field Try.underlying71 rfl sz3 rfl) ?_
 refine r_val .none rfl (p_ld (k := 0) Try.underlying3 rfl rfl rfl (by first | exact odt rfl | omega) (rfl : _ = Value.int _ _)) ?_
 refine r_val .none rfl (p_sub rfl rfl (by omega)) ?_
 refine r_val .none rfl (p_nilcheck rfl) ?_
 refine r_val .none rfl (p_field Try.underlying71 rfl sz3 rfl) ?_
 refine r_st (k := 0) .none sz3 rfl rfl rfl rfl (by first | exact odt rfl | omega) ?_
 refine r_front (k := 3) rfl ?_
 refine r_front (k := 3) rfl ?_
 refine r_front (k := 3) rfl ?_
 refine r_front (k := 3) rfl ?_
 refine r_conv (B := box bx1 13 71 (at_ (ndC { x1 with uses := x1.uses - 1 } kv1 ov1))) (k := 0) rfl (fun _ _ h => box_congr (fun i hi => by match i, hi with | 0, _ => rfl | 1, _ => rfl | 2, _ => rfl | 3, _ => rfl | 4, _ => rfl | 5, _ => rfl | 6, _ => rfl | 7, _ => rfl | 8, _ => rfl | 9, _ => rfl | 10, _ => rfl | 11, _ => rfl | 12, _ => rfl) _ _ h) ?_
 dsimp only [List.set_cons_zero]
 refine r_ndBack (x := { x1 with uses := x1.uses - 1 }) hN1 ?_
 refine r_conv (B := mapA z kI veN2 (mput (mput l (find R cl) (bxe, kve, ove, { xe with ends := xe.ends - 1 })) 1 (bx1, kv1, ov1, { x1 with uses := x1.uses - 1 }))) (k := 2) rfl (fun _ _ h => mapA_retell (v := (bx1, kv1, ov1, { x1 with uses := x1.uses - 1 })) hN1 rfl h) ?_
 dsimp only [List.set_cons_zero, List.set_cons_succ]
 refine r_nil (e_next (c_seq (c_region (r_val .none rfl (p_move rfl) ?_))))
 refine r_val .none rfl (p_move rfl) ?_
 have hin2 : ∀ k ∈ idsR R cl, lkp (mput (mput s.nodes (find R cl) { xe with ends := xe.ends - 1 }) 1 { x1 with uses := x1.uses - 1 }) k ≠ none := fun k hk => by (have h9 := ids_in hT hfd k hk; rw [lkp_mput]; split; simp; rw [lkp_mput]; split; simp; exact h9)
 have hub2 : ∀ k y, lkp (mput (mput s.nodes (find R cl) { xe with ends := xe.ends - 1 }) 1 { x1 with uses := x1.uses - 1 }) k = some y → -5000 ≤ y.uses ∧ y.uses ≤ 5000 := fun k y hy => by (rw [lkp_mput] at hy; split at hy; (rw [← Option.some.inj hy]; show -5000 ≤ x1.uses - 1 ∧ x1.uses - 1 ≤ 5000; omega); rw [lkp_mput] at hy; split at hy; (rw [← Option.some.inj hy]; show -5000 ≤ xe.uses ∧ xe.uses ≤ 5000; omega); have := hT.bound (m := 3000) hcap.1 hy; omega)
 have hil2 : (idsR R cl).length ≤ 1000 := by rw [List.length_map]; exact hcl
 have hTd := dec_TI hT hth hxe hx1
 have hol : (Go.Gx.Set.once (idsR R cl)).length ≤ 1000 := Nat.le_trans (compact_le _) (by rw [List.length_mergeSort]; exact hil2)
 have hkl : (ksR R cl).length ≤ 1000 := by rw [List.length_reverse]; exact hol
 have hSd : StS G_3 ⟨useL (-1) (Go.Gx.Set.once (idsR R cl)) (mput (mput s.nodes (find R cl) { xe with ends := xe.ends - 1 }) 1 { x1 with uses := x1.uses - 1 }), s.last⟩ := StS.use (-1) (StS.put (ls := s.last) (StS.put (ls := s.last) hS (show StAt G_3 xe.st from hS.get hxe)) (show StAt G_3 x1.st from StS.get (s := ⟨(mput s.nodes (find R cl) { xe with ends := xe.ends - 1 }), s.last⟩) (StS.put (ls := s.last) hS (show StAt G_3 xe.st from hS.get hxe)) hx1))
 refine r_front (k := 2) rfl ?_
 refine r_front (k := 2) rfl ?_
 refine r_conv (B := box p 2 74 (at_ (trC (KS.mk (mput (mput l (find R cl) (bxe, kve, ove, { xe with ends := xe.ends - 1 })) 1 (bx1, kv1, ov1, { x1 with uses := x1.uses - 1 })) s.last) z))) (k := 0) rfl (fun _ _ h => box_congr (fun i hi => by match i, hi with | 0, _ => rfl | 1, _ => rfl) _ _ h) ?_
 dsimp only [List.set_cons_zero]
 refine r_shutE (E := 3) (n := (mput (mput s.nodes (find R cl) { xe with ends := xe.ends - 1 }) 1 { x1 with uses := x1.uses - 1 })) (l := (mput (mput l (find R cl) (bxe, kve, ove, { xe with ends := xe.ends - 1 })) 1 (bx1, kv1, ov1, { x1 with uses := x1.uses - 1 }))) z (show (mput (mput s.nodes (find R cl) { xe with ends := xe.ends - 1 }) 1 { x1 with uses := x1.uses - 1 }) = eraK (mput (mput l (find R cl) (bxe, kve, ove, { xe with ends := xe.ends - 1 })) 1 (bx1, kv1, ov1, { x1 with uses := x1.uses - 1 })) by rw [eraK_mput, hl1]) ?_
 refine r_front (k := 1) rfl ?_
 refine r_conv (B := rowA ov 3 1 (idsR R cl).length ((idsR R cl).flatMap cI)) (k := 0) rfl (fun _ _ h => rowA_congr (by rw [List.take_of_length_le (by omega)]) (by rw [List.take_of_length_le (by omega)]) _ _ h) ?_
 dsimp only [List.set_cons_zero]
 refine r_pack [_, _] ?_
 refine r_callo (k := 0) (vs := [_, _, _]) .none rfl cl35 rfl rfl (fun w F hw hA hFG => with_row (R := fun r => r = Value.tuple #[]) (fun G' F' hle hsl hG hA hF => c_kuse p _ (idsR R cl) (-1) ⟨(mput (mput s.nodes (find R cl) { xe with ends := xe.ends - 1 }) 1 { x1 with uses := x1.uses - 1 }), s.last⟩ (SlL.of (cells := cI) (0 : Int) (fun _ => rfl) rfl hsl) hin2 (by omega) hub2 hil2 w hG hA hF) hw hA hFG) ?_
 refine r_unpack ?_
 refine r_nil (e_next (c_seq (c_region (r_val .none rfl (p_move rfl) ?_))))
 refine r_sort (k := 0) (zs := _) .none rfl cl42 rfl rfl sortC sortN (by omega) ?_
 refine r_nil (e_next (c_seq (c_region (r_val .none rfl (p_move rfl) ?_))))
 refine r_compact (k := 0) .none rfl cl43 rfl rfl compC compN (compact_le _) (fun v_23 => ?_)
 refine r_conv (B := rowA v_23 3 1 (Go.Gx.Set.once (idsR R cl)).length ((Go.Gx.Set.once (idsR R cl)).flatMap cI)) (k := 0) rfl (fun _ _ h => h) ?_
 dsimp only [List.set_cons_zero, List.set_cons_succ]
 refine r_val .none rfl (p_assign rfl) (r_nil (e_next (c_seq (c_region ?_))))
 refine r_val .none rfl (p_move rfl) ?_
 refine r_rev1 (k := 0) (zs := Go.Gx.Set.once (idsR R cl)) (enc := kI) .none rfl cl44 rfl rfl revI revI0 (by omega) ?_
 refine r_conv (B := rowA v_23 3 1 (ksR R cl).length ((ksR R cl).flatMap cI)) (k := 0) rfl (fun _ _ h => h) ?_
 dsimp only [List.set_cons_zero, List.set_cons_succ]
 refine r_nil (e_next (c_seq (c_region (r_val .none rfl (p_assign rfl) ?_))))
 refine r_nil (e_next (c_seq (c_seq (c_region ?_))))
 refine r_val .none rfl (p_move rfl) ?_
 refine r_val .none rfl (p_leno (k := 0) Try.underlying33 rfl rfl) ?_
 refine r_val .none rfl (p_move rfl) (r_nil (e_next (c_block ?_)))
 refine c_nilrow 3 1 ?_
 refine c_name (d := 0) rfl (fun u_24 hu_24 => ?_)
 refine c_name (d := 4) rfl (fun u_25 hu_25 => ?_)
 refine c_name (d := 5) rfl (fun u_26 hu_26 => ?_)
 refine c_name (d := 79) rfl (fun u_27 hu_27 => ?_)
 refine c_name (d := 80) rfl (fun u_28 hu_28 => ?_)
 refine c_nameL (k := 1) rfl (fun A_29 hA_29 => ?_)
 refine c_loop (σ := Nat × Value × KS Nd) (fun s' => [(81, Value.int .i64 (s'.1 : Nat)), (10, s'.2.1), (0, u_24), (4, u_25), (5, u_26), (79, u_27), (80, u_28)]) (fun s' => [rowA (s'.2.1) 3 1 ((((ksR R cl).take s'.1).filter (dead (remI R cl)))).length (((((ksR R cl).take s'.1).filter (dead (remI R cl)))).flatMap cI), A_29, trE (nkD 71 3) 74 p (s'.2.2)]) (fun _ => _) (fun s' => s'.1 ≤ (ksR R cl).length ∧ TI s'.2.2 (kills (remI R cl) ((ksR R cl).take s'.1)) ∧ StS G_3 s'.2.2 ∧ Going (kills (remI R cl) ((ksR R cl).take s'.1)) ((ksR R cl).drop s'.1)) (fun s' => (ksR R cl).length - s'.1) ((0, _, ⟨useL (-1) (Go.Gx.Set.once (idsR R cl)) (mput (mput s.nodes (find R cl) { xe with ends := xe.ends - 1 }) 1 { x1 with uses := x1.uses - 1 }), s.last⟩)) ⟨Nat.zero_le _, hTd, hSd, rem_going hT.clo hU hth hfd⟩ rfl ⟨rfl, rfl, rfl, rfl, rfl, rfl, rfl, trivial⟩ (.keep (fun _ _ h => rowA_nil (by simp) _ _ h) (.keep (fun _ _ h => h) (.keep (fun _ _ h => h) (.nil)))) (fun s' hphi => ?_)
 subst hu_24
 subst hu_25
 subst hu_26
 subst hu_27
 subst hu_28
 subst hA_29
 obtain ⟨j, gv, s2⟩ := s'
 obtain ⟨hj, hT2, hS2, hGo⟩ := hphi
 dsimp only at hj hT2 hS2 hGo ⊢
 refine c_seq (c_region ?_)
 refine r_val .none rfl (p_lt rfl rfl) ?_
 refine r_nil (e_next (c_seq ?_))
 refine c_splitd (d := 82) rfl (fun h_30 => ?_) (fun h_30 => ?_)
 · (
 first
 | (exfalso; first | omega)
 | (
 refine c_cond_t rfl (c_skip (e_next (c_seq (c_block ?_))))
 refine c_seq (c_region ?_)
 refine r_iaddr_o (k := 1) .none rfl Try.underlying33 sz3 rfl rfl rfl (by first | exact odt rfl | omega) (fun p_31 c_32 hv_33 => ?_)
 refine r_val .none rfl (p_ldo0 (k := 1) Try.underlying3 rfl rfl hv_33 rfl (by first | exact odt rfl | omega) (by first | exact odt rfl | omega) ((flatMap_get (cells := cI) (fun _ => rfl) (0 : Int) _ _ _ (by first | exact odt rfl | omega) (by first | exact odt rfl | omega)).trans (rfl : _ = Value.int _ _))) ?_
 refine r_val .none rfl (p_assign rfl) (r_nil (e_next (c_seq (c_region ?_))))
 refine r_front (k := 2) rfl ?_
 refine r_unex (fun l => ?_)
 refine r_unand (fun hl => ?_)
 refine r_unpack ?_
 refine r_openK (fun z => ?_)
 dsimp only [trC] at hl ⊢
 obtain ⟨c9, hg0, hg9, hnot, hk1⟩ := ks_next hT.clo hfd (j := j) (by omega)
 obtain ⟨bx, kv, ov, x, hN, hNs, hxp⟩ := hT2.node hl hg9
 have hux := uses_node hT2 hg9 hNs
 refine r_val .none rfl (p_move rfl) ?_
 refine r_val .none rfl (p_nilcheck rfl) ?_
 refine r_val .none rfl (p_field Try.underlying74 rfl sz72 rfl) ?_
 refine r_val .none rfl (p_ld (k := 0) Try.underlying72 rfl rfl rfl (by first | exact odt rfl | omega) (rfl : _ = Value.map _)) ?_
 refine r_val .none rfl (p_move rfl) ?_
 refine r_val .none rfl (p_lookup_yes (i := 1) Try.underlying72 (KeyT.int Try.underlying3) zr69 rfl rfl rfl hN) ?_
 refine r_val .none rfl (p_assign rfl) (r_nil (e_next (c_seq (c_seq ?_))))
 refine c_region (r_val .none rfl (p_move rfl) ?_)
 refine r_front (k := 2) rfl ?_
 refine r_fnd hN ?_
 refine r_row1 (k := 1) rfl (fun okv => ?_)
 refine r_row1 (k := 2) rfl (fun oov => ?_)
 refine r_val .none rfl (p_nilcheck rfl) ?_
 refine r_val .none rfl (p_field Try.underlying71 rfl sz3 rfl) ?_
 refine r_val .none rfl (p_ld (k := 0) Try.underlying3 rfl rfl rfl (by first | exact odt rfl | omega) (rfl : _ = Value.int _ _)) ?_
 refine r_val .none rfl (p_gt rfl rfl) ?_
 refine r_nil (e_next ?_)
 refine c_splitd (d := 95) rfl (fun h_34 => ?_) (fun h_34 => ?_)
 · (
 have hst9 := h_34
 first
 | (exfalso; first | omega)
 | (
 refine c_cond_t rfl (c_exit (e_exit_then ?_))
 refine e_exit_block ?_
 refine e_next (c_region ?_)
 refine r_val .none rfl (p_add rfl rfl (by omega)) ?_
 refine r_val .none rfl (p_move rfl) (r_nil ?_)
 refine e_front (k := 3) rfl ?_
 refine e_front (k := 3) rfl ?_
 refine e_front (k := 3) rfl ?_
 refine e_front (k := 3) rfl ?_
 refine e_conv (B := box bx 13 71 (at_ (ndC x kv ov))) (k := 0) rfl (fun _ _ h => box_congr (fun i hi => by match i, hi with | 0, _ => rfl | 1, _ => rfl | 2, _ => rfl | 3, _ => rfl | 4, _ => rfl | 5, _ => rfl | 6, _ => rfl | 7, _ => rfl | 8, _ => rfl | 9, _ => rfl | 10, _ => rfl | 11, _ => rfl | 12, _ => rfl) _ _ h) ?_
 dsimp only [List.set_cons_zero]
 refine e_ndBack (x := x) hN ?_
 rw [mput_same hN]
 refine e_front (k := 2) rfl ?_
 refine e_front (k := 2) rfl ?_
 refine e_conv (B := box p 2 74 (at_ (trC (KS.mk l s2.last) z))) (k := 0) rfl (fun _ _ h => box_congr (fun i hi => by match i, hi with | 0, _ => rfl | 1, _ => rfl) _ _ h) ?_
 dsimp only [List.set_cons_zero]
 refine e_shutE (E := 3) (n := s2.nodes) (l := l) z hl ?_
 refine e_front (k := 2) rfl ?_
 refine e_front (k := 2) rfl ?_
 refine e_round ((j + 1, _, s2)) ⟨⟨by dsimp only; omega, by rw [kills_take (by omega), if_neg (by rw [dead_of hg9]; simp; omega)]; exact hT2, hS2, by rw [kills_take (by omega), if_neg (by rw [dead_of hg9]; simp; omega)]; exact going_skip (by rw [← kids_drop (by omega)]; exact hGo) (by rw [dead_of hg9]; simp; omega)⟩, by dsimp only; omega⟩ rfl ⟨rfl, rfl, rfl, rfl, rfl, rfl, rfl, trivial⟩ (.keep (fun _ _ h => by rw [filter_take (by omega), ← dead_take (fun x hx => ks_one hx) hnot, dead_of hg9, if_neg (by simp; omega), List.append_nil]; exact h) (.keep (fun _ _ h => h) (.keep (fun _ _ h => h) (.nil))))))
 · (
 have hd9 := h_34
 first
 | (exfalso; first | omega)
 | (
 refine c_cond_f rfl (c_skip (e_next (c_seq ?_)))
 refine c_region_q mixed (by kernel_rfl) ?_
 have hu9 : uses (kills (remI R cl) ((ksR R cl).take j)) c9 = 0 := by omega
 have hLf := going_leaf (t := (ksR R cl).drop (j + 1)) (by rw [← kids_drop (by omega)]; exact hGo) hg9 hu9
 have hpar := (leaf_par hT2 hLf hNs).1
 have hup9 := leaf_up hT2.clo hLf
 rw [← hpar] at hup9
 obtain ⟨xP, hxP, _⟩ := hT2.at (id := x.par) (c := c9.dropLast) (by rw [hpar]; exact find_some hT2.clo.ne (by rw [← hpar]; exact hup9.1))
 obtain ⟨bxP, kvP, ovP, hNP⟩ := eraK_some (by rw [← hl]; exact hxP)
 have hMP : lkp (mdel l ((ksR R cl).getD j 0)) x.par = some (bxP, kvP, ovP, xP) := by rw [lkp_mdel_ne (by omega)]; exact hNP
 have hpl : x.par ≠ ((ksR R cl).getD j 0) := by omega
 refine q_val .none rfl (p_move rfl) ?_
 refine q_val .none rfl (p_nilcheck rfl) ?_
 refine q_val .none rfl (p_field Try.underlying74 rfl sz72 rfl) ?_
 refine q_val .none rfl (p_ld (k := 4) Try.underlying72 rfl rfl rfl (by first | exact odt rfl | omega) (rfl : _ = Value.map _)) ?_
 refine q_val .none rfl (p_move rfl) ?_
 refine q_val .none rfl (p_nilcheck rfl) ?_
 refine q_val .none rfl (p_field Try.underlying71 rfl sz3 rfl) ?_
 refine q_val .none rfl (p_ld (k := 0) Try.underlying3 rfl rfl rfl (by first | exact odt rfl | omega) (rfl : _ = Value.int _ _)) ?_
 refine q_val .none rfl (p_lookup_yes (i := 5) Try.underlying72 (KeyT.int Try.underlying3) zr69 rfl rfl rfl hNP) ?_
 refine q_val .none rfl (p_assign rfl) ?_
 refine q_nil ?_
 refine e_next (c_seq (c_region ?_))
 refine r_front (k := 3) rfl ?_
 refine r_fnd hMP ?_
 refine r_row1 (k := 1) rfl (fun okvP => ?_)
 refine r_row1 (k := 2) rfl (fun oovP => ?_)
 refine r_val .none rfl (p_move rfl) (r_val .none rfl (p_move rfl) ?_)
 refine r_val .none rfl (p_nilcheck rfl) ?_
 refine r_val .none rfl (p_field Try.underlying71 rfl sz33 rfl) ?_
 refine r_val .none rfl (p_ld (k := 0) Try.underlying33 rfl rfl rfl (by first | exact odt rfl | omega) rfl) ?_
 refine r_val .none rfl (p_move rfl) ?_
 refine r_callor (k := 1) (vs := [_, _]) .none rfl cl45 rfl rfl (fun w F hw hA hFG => c_kwithout kvP xP.kids ((ksR R cl).getD j 0) w hw hA hFG) (fun r_35 => ?_)
 dsimp only [List.set_cons_zero, List.set_cons_succ]
 refine r_row1 (k := 1) rfl (fun o_36 => ?_)
 refine r_val .none rfl (p_nilcheck rfl) ?_
 refine r_val .none rfl (p_field Try.underlying71 rfl sz33 rfl) ?_
 refine r_st (k := 0) .none sz33 rfl rfl o_36 rfl (by first | exact odt rfl | omega) ?_
 refine r_front (k := 3) rfl ?_
 refine r_front (k := 3) rfl ?_
 refine r_front (k := 3) rfl ?_
 refine r_front (k := 3) rfl ?_
 refine r_conv (B := box bxP 13 71 (at_ (ndC (lessK xP ((ksR R cl).getD j 0)) r_35 ovP))) (k := 0) rfl (fun _ _ h => box_congr (fun i hi => by match i, hi with | 0, _ => rfl | 1, _ => rfl | 2, _ => rfl | 3, _ => rfl | 4, _ => rfl | 5, _ => rfl | 6, _ => rfl | 7, _ => rfl | 8, _ => rfl | 9, _ => rfl | 10, _ => rfl | 11, _ => rfl | 12, _ => rfl) _ _ h) ?_
 refine r_conv (B := rowA r_35 3 1 (lessK xP ((ksR R cl).getD j 0)).kids.length ((lessK xP ((ksR R cl).getD j 0)).kids.flatMap cI)) (k := 1) rfl (fun _ _ h => h) ?_
 dsimp only [List.set_cons_zero, List.set_cons_succ]
 refine r_ndBack (x := (lessK xP ((ksR R cl).getD j 0))) hMP ?_
 refine r_conv (B := mapA z kI veN2 (mput l x.par (bxP, r_35, ovP, (lessK xP ((ksR R cl).getD j 0))))) (k := 5) rfl (fun _ _ h => mapA_retell (v := (bxP, r_35, ovP, (lessK xP ((ksR R cl).getD j 0)))) hNP rfl h) ?_
 dsimp only [List.set_cons_zero, List.set_cons_succ]
 refine r_nil (e_next (c_seq (c_seq (c_region ?_))))
 refine r_val .none rfl (p_move rfl) ?_
 refine r_val .none rfl (p_nilcheck rfl) ?_
 refine r_val .none rfl (p_field Try.underlying71 rfl sz3 rfl) ?_
 refine r_val .none rfl (p_ld (k := 1) Try.underlying3 rfl rfl rfl (by first | exact odt rfl | omega) (rfl : _ = Value.int _ _)) ?_
 refine r_val .none rfl (p_gt rfl rfl) ?_
 refine r_nil (e_next ?_)
 refine c_splitd (d := 118) rfl (fun h_37 => ?_) (fun h_37 => ?_)
 · (
 have hinn : 0 < x.inn := h_37
 first
 | (exfalso; first | omega)
 | (
 refine c_cond_t rfl (c_seq ?_)
 refine c_region_q mixed (by kernel_rfl) ?_
 obtain ⟨e9, he9⟩ : ∃ e, innerOf c9 = some e := by (have h5 := (leaf_par hT2 hLf hNs).2; unfold inner at h5; cases h : innerOf c9 with | none => (rw [h] at h5; simp only at h5; omega) | some e => exact ⟨e, rfl⟩)
 have hinE : x.inn = find (kills (remI R cl) ((ksR R cl).take j)) e9 := by (have h5 := (leaf_par hT2 hLf hNs).2; unfold inner at h5; rw [he9] at h5; exact h5)
 have hin9 := leaf_inn hT2.clo hLf he9
 obtain ⟨xY0, hxY0, _⟩ := hT2.at (find_some hT2.clo.ne hin9.1)
 rw [← hinE] at hxY0 hin9
 obtain ⟨xY, hxY⟩ : ∃ y, lkp (mput s2.nodes x.par (lessK xP ((ksR R cl).getD j 0))) x.inn = some y := by rw [lkp_mput]; split; exact ⟨_, rfl⟩; exact ⟨_, hxY0⟩
 obtain ⟨bxY, kvY, ovY, hNY⟩ := eraK_some (show lkp (eraK (mput l x.par (bxP, r_35, ovP, (lessK xP ((ksR R cl).getD j 0))))) x.inn = some xY by rw [eraK_mput, ← hl]; exact hxY)
 have hMY : lkp (mput (mdel l ((ksR R cl).getD j 0)) x.par (bxP, r_35, ovP, (lessK xP ((ksR R cl).getD j 0)))) x.inn = some (bxY, kvY, ovY, xY) := by (have h9 := hNY; rw [lkp_mput] at h9 ⊢; split at h9; (rename_i e; rw [if_pos e]; exact h9); (rename_i e; rw [if_neg e, lkp_mdel_ne (by omega)]; exact h9))
 refine q_val .none rfl (p_move rfl) ?_
 refine q_val .none rfl (p_nilcheck rfl) ?_
 refine q_val .none rfl (p_field Try.underlying74 rfl sz72 rfl) ?_
 refine q_val .none rfl (p_ld (k := 4) Try.underlying72 rfl rfl rfl (by first | exact odt rfl | omega) (rfl : _ = Value.map _)) ?_
 refine q_val .none rfl (p_move rfl) ?_
 refine q_val .none rfl (p_nilcheck rfl) ?_
 refine q_val .none rfl (p_field Try.underlying71 rfl sz3 rfl) ?_
 refine q_val .none rfl (p_ld (k := 1) Try.underlying3 rfl rfl rfl (by first | exact odt rfl | omega) (rfl : _ = Value.int _ _)) ?_
 refine q_val .none rfl (p_lookup_yes (i := 5) Try.underlying72 (KeyT.int Try.underlying3) zr69 rfl rfl rfl hNY) ?_
 refine q_val .none rfl (p_assign rfl) ?_
 refine q_nil ?_
 refine e_next (c_region ?_)
 refine r_fnd hMY ?_
 refine r_row1 (k := 1) rfl (fun okvY => ?_)
 refine r_row1 (k := 2) rfl (fun oovY => ?_)
 refine r_val .none rfl (p_move rfl) (r_val .none rfl (p_move rfl) ?_)
 refine r_val .none rfl (p_nilcheck rfl) ?_
 refine r_val .none rfl (p_field Try.underlying71 rfl sz33 rfl) ?_
 refine r_val .none rfl (p_ld (k := 0) Try.underlying33 rfl rfl rfl (by first | exact odt rfl | omega) rfl) ?_
 refine r_val .none rfl (p_move rfl) ?_
 refine r_callor (k := 2) (vs := [_, _]) .none rfl cl45 rfl rfl (fun w F hw hA hFG => c_kwithout ovY xY.outer ((ksR R cl).getD j 0) w hw hA hFG) (fun r_38 => ?_)
 dsimp only [List.set_cons_zero, List.set_cons_succ]
 refine r_row1 (k := 2) rfl (fun o_39 => ?_)
 refine r_val .none rfl (p_nilcheck rfl) ?_
 refine r_val .none rfl (p_field Try.underlying71 rfl sz33 rfl) ?_
 refine r_st (k := 0) .none sz33 rfl rfl o_39 rfl (by first | exact odt rfl | omega) ?_
 refine r_front (k := 3) rfl ?_
 refine r_front (k := 3) rfl ?_
 refine r_front (k := 3) rfl ?_
 refine r_front (k := 3) rfl ?_
 refine r_conv (B := box bxY 13 71 (at_ (ndC (lessO xY ((ksR R cl).getD j 0)) kvY r_38))) (k := 0) rfl (fun _ _ h => box_congr (fun i hi => by match i, hi with | 0, _ => rfl | 1, _ => rfl | 2, _ => rfl | 3, _ => rfl | 4, _ => rfl | 5, _ => rfl | 6, _ => rfl | 7, _ => rfl | 8, _ => rfl | 9, _ => rfl | 10, _ => rfl | 11, _ => rfl | 12, _ => rfl) _ _ h) ?_
 refine r_conv (B := rowA r_38 3 1 (lessO xY ((ksR R cl).getD j 0)).outer.length ((lessO xY ((ksR R cl).getD j 0)).outer.flatMap cI)) (k := 2) rfl (fun _ _ h => h) ?_
 dsimp only [List.set_cons_zero, List.set_cons_succ]
 refine r_ndBack (x := (lessO xY ((ksR R cl).getD j 0))) hMY ?_
 refine r_conv (B := mapA z kI veN2 (mput (mput l x.par (bxP, r_35, ovP, (lessK xP ((ksR R cl).getD j 0)))) x.inn (bxY, kvY, r_38, (lessO xY ((ksR R cl).getD j 0))))) (k := 5) rfl (fun _ _ h => mapA_retell (v := (bxY, kvY, r_38, (lessO xY ((ksR R cl).getD j 0)))) hNY rfl h) ?_
 dsimp only [List.set_cons_zero, List.set_cons_succ]
 refine r_nil (e_next (c_seq (c_region (r_val .none rfl (p_move rfl) ?_))))
 refine r_val .none rfl (p_nilcheck rfl) ?_
 refine r_val .none rfl (p_field Try.underlying74 rfl sz72 rfl) ?_
 refine r_val .none rfl (p_ld (k := 4) Try.underlying72 rfl rfl rfl (by first | exact odt rfl | omega) (rfl : _ = Value.map _)) ?_
 refine r_val .none rfl (p_move rfl) ?_
 refine r_delete (i := 5) (k := ((ksR R cl).getD j 0)) .none Try.underlying72 (KeyT.int Try.underlying3) rfl rfl rfl rfl ?_
 refine r_nil (e_next (c_region (r_val .none rfl (p_move rfl) (r_val .none rfl (p_move rfl) ?_))))
 refine r_bslice (vs := [(0, Value.int _ _)]) (c := #[_]) .none rfl Try.underlying33 el3 rfl rfl rfl (bs3_10i2 _ _) (IsRow.lit _) (fun b_2 => ?_)
 refine r_append (k := 7) (k2 := 0) .none rfl Try.underlying33 el3 rfl (by decide) rfl rfl rfl rfl rfl (one_lit rfl rfl) (by simp only [maxLen]; have h9 := List.length_filter_le (dead (remI R cl)) ((ksR R cl).take j); rw [List.length_take] at h9; omega) (by have h9 := List.length_filter_le (dead (remI R cl)) ((ksR R cl).take j); rw [List.length_take] at h9; omega) (fun v_40 => ?_)
 refine r_row1 (k := 7) rfl (fun o_41 => ?_)
 refine r_val .none rfl (p_assign rfl) (r_nil ?_)
 refine e_norm_block ?_
 refine e_next (c_region ?_)
 refine r_val .none rfl (p_add rfl rfl (by omega)) ?_
 refine r_val .none rfl (p_move rfl) (r_nil ?_)
 have hmd : mdel (mput (mput l x.par (bxP, r_35, ovP, (lessK xP ((ksR R cl).getD j 0)))) x.inn (bxY, kvY, r_38, (lessO xY ((ksR R cl).getD j 0)))) ((ksR R cl).getD j 0) = (mput (mput (mdel l ((ksR R cl).getD j 0)) x.par (bxP, r_35, ovP, (lessK xP ((ksR R cl).getD j 0)))) x.inn (bxY, kvY, r_38, (lessO xY ((ksR R cl).getD j 0)))) := by rw [mdel_mput (by omega), mdel_mput (by omega)]
 refine e_conv (B := mapA z kI veN2 (mput (mput (mdel l ((ksR R cl).getD j 0)) x.par (bxP, r_35, ovP, (lessK xP ((ksR R cl).getD j 0)))) x.inn (bxY, kvY, r_38, (lessO xY ((ksR R cl).getD j 0))))) (k := 6) rfl (fun _ _ h => by rw [← hmd]; exact h) ?_
 dsimp only [List.set_cons_zero, List.set_cons_succ]
 have hle9 : (mdel (mput (mput s2.nodes x.par (lessK xP ((ksR R cl).getD j 0))) x.inn (lessO xY ((ksR R cl).getD j 0))) ((ksR R cl).getD j 0)) = eraK (mput (mput (mdel l ((ksR R cl).getD j 0)) x.par (bxP, r_35, ovP, (lessK xP ((ksR R cl).getD j 0)))) x.inn (bxY, kvY, r_38, (lessO xY ((ksR R cl).getD j 0)))) := by rw [← hmd, eraK_mdel, eraK_mput, eraK_mput, ← hl]
 refine e_front (k := 1) rfl ?_
 refine e_front (k := 6) rfl ?_
 refine e_front (k := 6) rfl ?_
 refine e_conv (B := box p 2 74 (at_ (trC (KS.mk (mput (mput (mdel l ((ksR R cl).getD j 0)) x.par (bxP, r_35, ovP, (lessK xP ((ksR R cl).getD j 0)))) x.inn (bxY, kvY, r_38, (lessO xY ((ksR R cl).getD j 0)))) s2.last) z))) (k := 0) rfl (fun _ _ h => box_congr (fun i hi => by match i, hi with | 0, _ => rfl | 1, _ => rfl) _ _ h) ?_
 dsimp only [List.set_cons_zero]
 refine e_shutE (E := 3) (n := (mdel (mput (mput s2.nodes x.par (lessK xP ((ksR R cl).getD j 0))) x.inn (lessO xY ((ksR R cl).getD j 0))) ((ksR R cl).getD j 0))) (l := (mput (mput (mdel l ((ksR R cl).getD j 0)) x.par (bxP, r_35, ovP, (lessK xP ((ksR R cl).getD j 0)))) x.inn (bxY, kvY, r_38, (lessO xY ((ksR R cl).getD j 0))))) z hle9 ?_
 refine e_front (k := 6) rfl ?_
 refine e_front (k := 6) rfl ?_
 refine e_round ((j + 1, _, ⟨(mdel (mput (mput s2.nodes x.par (lessK xP ((ksR R cl).getD j 0))) x.inn (lessO xY ((ksR R cl).getD j 0))) ((ksR R cl).getD j 0)), s2.last⟩)) ⟨⟨by dsimp only; omega, by rw [kills_take (by omega), if_pos (by rw [dead_of hg9, hu9]; rfl)]; exact del_TI1 hT2 hLf hNs hxP hinn hxY, StS.del (ls := s2.last) (StS.put (ls := s2.last) (StS.put (ls := s2.last) hS2 (show StAt _ xP.st from hS2.get hxP)) (show StAt _ xY.st from StS.get (s := ⟨_, s2.last⟩) (StS.put (ls := s2.last) (k := x.par) (x := (lessK xP ((ksR R cl).getD j 0))) hS2 (show StAt _ xP.st from hS2.get hxP)) hxY)), by rw [kills_take (by omega), if_pos (by rw [dead_of hg9, hu9]; rfl)]; exact going_kill (t := (ksR R cl).drop (j + 1)) (by rw [← kids_drop (by omega)]; exact hGo) hg9 hu9⟩, by dsimp only; omega⟩ rfl ⟨rfl, rfl, rfl, rfl, rfl, rfl, rfl, trivial⟩ (.keep (fun _ _ h => rowA_snoc (by rw [filter_take (by omega), ← dead_take (fun x hx => ks_one hx) hnot, dead_of hg9, hu9]; rfl) rfl rfl rfl _ _ h) (.keep (fun _ _ h => h) (.keep (fun _ _ h => h) (.drop (.drop (.drop (.drop (.nil))))))))))
 · (
 have hinn : ¬ 0 < x.inn := h_37
 first
 | (exfalso; first | omega)
 | (
 refine c_cond_f rfl (c_skip (e_next (c_seq (c_region ?_))))
 refine r_val .none rfl (p_move rfl) ?_
 refine r_val .none rfl (p_nilcheck rfl) ?_
 refine r_val .none rfl (p_field Try.underlying74 rfl sz72 rfl) ?_
 refine r_val .none rfl (p_ld (k := 4) Try.underlying72 rfl rfl rfl (by first | exact odt rfl | omega) (rfl : _ = Value.map _)) ?_
 refine r_val .none rfl (p_move rfl) ?_
 refine r_delete (i := 5) (k := ((ksR R cl).getD j 0)) .none Try.underlying72 (KeyT.int Try.underlying3) rfl rfl rfl rfl ?_
 refine r_nil (e_next (c_region (r_val .none rfl (p_move rfl) (r_val .none rfl (p_move rfl) ?_))))
 refine r_bslice (vs := [(0, Value.int _ _)]) (c := #[_]) .none rfl Try.underlying33 el3 rfl rfl rfl (bs3_10i2 _ _) (IsRow.lit _) (fun b_3 => ?_)
 refine r_append (k := 7) (k2 := 0) .none rfl Try.underlying33 el3 rfl (by decide) rfl rfl rfl rfl rfl (one_lit rfl rfl) (by simp only [maxLen]; have h9 := List.length_filter_le (dead (remI R cl)) ((ksR R cl).take j); rw [List.length_take] at h9; omega) (by have h9 := List.length_filter_le (dead (remI R cl)) ((ksR R cl).take j); rw [List.length_take] at h9; omega) (fun v_42 => ?_)
 refine r_row1 (k := 7) rfl (fun o_43 => ?_)
 refine r_val .none rfl (p_assign rfl) (r_nil ?_)
 refine e_norm_block ?_
 refine e_next (c_region ?_)
 refine r_val .none rfl (p_add rfl rfl (by omega)) ?_
 refine r_val .none rfl (p_move rfl) (r_nil ?_)
 have hmd : mdel (mput l x.par (bxP, r_35, ovP, (lessK xP ((ksR R cl).getD j 0)))) ((ksR R cl).getD j 0) = (mput (mdel l ((ksR R cl).getD j 0)) x.par (bxP, r_35, ovP, (lessK xP ((ksR R cl).getD j 0)))) := by rw [mdel_mput (by omega)]
 refine e_conv (B := mapA z kI veN2 (mput (mdel l ((ksR R cl).getD j 0)) x.par (bxP, r_35, ovP, (lessK xP ((ksR R cl).getD j 0))))) (k := 6) rfl (fun _ _ h => by rw [← hmd]; exact h) ?_
 dsimp only [List.set_cons_zero, List.set_cons_succ]
 have hle9 : (mdel (mput s2.nodes x.par (lessK xP ((ksR R cl).getD j 0))) ((ksR R cl).getD j 0)) = eraK (mput (mdel l ((ksR R cl).getD j 0)) x.par (bxP, r_35, ovP, (lessK xP ((ksR R cl).getD j 0)))) := by rw [← hmd, eraK_mdel, eraK_mput, ← hl]
 refine e_front (k := 1) rfl ?_
 refine e_front (k := 6) rfl ?_
 refine e_front (k := 6) rfl ?_
 refine e_conv (B := box p 2 74 (at_ (trC (KS.mk (mput (mdel l ((ksR R cl).getD j 0)) x.par (bxP, r_35, ovP, (lessK xP ((ksR R cl).getD j 0)))) s2.last) z))) (k := 0) rfl (fun _ _ h => box_congr (fun i hi => by match i, hi with | 0, _ => rfl | 1, _ => rfl) _ _ h) ?_
 dsimp only [List.set_cons_zero]
 refine e_shutE (E := 3) (n := (mdel (mput s2.nodes x.par (lessK xP ((ksR R cl).getD j 0))) ((ksR R cl).getD j 0))) (l := (mput (mdel l ((ksR R cl).getD j 0)) x.par (bxP, r_35, ovP, (lessK xP ((ksR R cl).getD j 0))))) z hle9 ?_
 refine e_front (k := 6) rfl ?_
 refine e_front (k := 6) rfl ?_
 refine e_round ((j + 1, _, ⟨(mdel (mput s2.nodes x.par (lessK xP ((ksR R cl).getD j 0))) ((ksR R cl).getD j 0)), s2.last⟩)) ⟨⟨by dsimp only; omega, by rw [kills_take (by omega), if_pos (by rw [dead_of hg9, hu9]; rfl)]; exact del_TI0 hT2 hLf hNs hxP hinn, StS.del (ls := s2.last) (StS.put (ls := s2.last) hS2 (show StAt _ xP.st from hS2.get hxP)), by rw [kills_take (by omega), if_pos (by rw [dead_of hg9, hu9]; rfl)]; exact going_kill (t := (ksR R cl).drop (j + 1)) (by rw [← kids_drop (by omega)]; exact hGo) hg9 hu9⟩, by dsimp only; omega⟩ rfl ⟨rfl, rfl, rfl, rfl, rfl, rfl, rfl, trivial⟩ (.keep (fun _ _ h => rowA_snoc (by rw [filter_take (by omega), ← dead_take (fun x hx => ks_one hx) hnot, dead_of hg9, hu9]; rfl) rfl rfl rfl _ _ h) (.keep (fun _ _ h => h) (.keep (fun _ _ h => h) (.drop (.drop (.drop (.drop (.nil))))))))))))))
 · (
 first
 | (exfalso; first | omega)
 | (
 refine c_cond_f rfl (c_exit (e_exit_then (e_exit_then ?_)))
 refine e_exit_block ?_
 refine e_next (c_seq (c_region (r_val .none rfl (p_move rfl) (r_val .none rfl (p_assign rfl) ?_))))
 refine r_val .none rfl (p_assign rfl) (r_nil (e_next ?_))
 refine c_ret ?_
 refine e_freeze (k := 0) rfl (fun G_44 hn_45 hs_46 => ?_)
 replace hs := hs.mono hn_45.le
 replace hS := hS.mono hn_45.le
 replace hq := hq.mono hn_45.le
 replace hqp := fun p hm0 => (hqp p hm0).mono hn_45.le
 replace hSd := hSd.mono hn_45.le
 replace hS2 := hS2.mono hn_45.le
 have hjk : (ksR R cl).take j = (ksR R cl) := List.take_of_length_le (by omega)
 rw [hjk] at hT2
 refine e_retn Try.results22 (.tmp rfl (.tmp rfl .nil)) rfl (fun w hm => ⟨_, s2, (hn_4.trans hn_45), hm.has, ⟨⟨_, rfl, SlL.of2 (cells := cI) (0 : Int) (fun _ => rfl) (by rw [hjk, rem_gone hT.clo hU hth hfd]) (by rw [hjk, rem_gone hT.clo hU hth hfd]) hs_46⟩, by rw [← rem_its hT.clo hU hth hfd]; exact hT2, hS2⟩, hm.keptG [trE (nkD 71 3) 74 p (s2)] (.drop (.keep (fun _ _ h => h) (.nil))) (trE (nkD 71 3) 74 p (s2)) (fun F' h => (starL_oneE _ _).1 h)⟩)))))))))
end Go.Proofs.Ytdkfdncbldngdaa

/- Plain laws of tries: all nodes; what is used; no program in sight. -/
namespace Go.Gx.T16
open Go.Gx Go.Gx.T3 Go.Gx.T4 Go.Gx.T6 Go.Gx.T8
theorem all_sorted (R : RT) : (all R).Pairwise (· < ·) := List.pairwise_cons.2 ⟨fun k hk => by have := (numsF_ge hk).1; omega, numsF_sorted⟩
theorem all_mem {R : RT} {k : Int} : k ∈ all R ↔ ∃ c, getR R k = some c := by
  unfold all
  rw [List.mem_cons]
  constructor
  · rintro (rfl | h)
    · exact ⟨[], rfl⟩
    · obtain ⟨j, c, rfl, h1, _⟩ := numsF_mem.1 h
      exact ⟨c, getR_iff.2 (.inr ⟨by omega, j, by omega, h1⟩)⟩
  · rintro ⟨c, h⟩
    rcases getR_iff.1 h with ⟨rfl, _⟩ | ⟨_, j, rfl, h2⟩
    · exact .inl rfl
    · exact .inr (numsF_mem.2 ⟨j, c, by omega, h2, rfl⟩)
theorem TI.keys {s : KS Nd} {R : RT} (hT : TI s R) : (s.nodes.map (·.1)).Perm (all R) := by
  refine (List.perm_ext_iff_of_nodup hT.nod ((all_sorted R).imp (fun h => Int.ne_of_lt h))).2 fun k => ?_
  rw [all_mem]
  constructor
  · intro h
    obtain ⟨q, hq, rfl⟩ := List.mem_map.1 h
    obtain ⟨c, h1, _⟩ := hT.got (lkp_mem hT.nod (k := q.1) (v := q.2) hq)
    exact ⟨c, h1⟩
  · rintro ⟨c, h⟩
    obtain ⟨x, h1, _⟩ := hT.at h
    exact List.mem_map.2 ⟨_, lkp_some h1, rfl⟩
theorem TI.len {s : KS Nd} {R : RT} (hT : TI s R) : s.nodes.length = (all R).length := by
  have := hT.keys.length_eq
  rwa [List.length_map] at this
theorem TI.sorted {s : KS Nd} {R : RT} {l : NL} (hT : TI s R) (hl : s.nodes = eraK l) : sortI (l.map Prod.fst) = all R := by
  have e : l.map Prod.fst = s.nodes.map (·.1) := by rw [hl, eraK, List.map_map]; rfl
  rw [e, sortI_perm hT.keys]
  exact List.mergeSort_of_pairwise ((all_sorted R).imp (fun h => by simp; omega))
theorem TI.range {s : KS Nd} {R : RT} {l : NL} (hT : TI s R) (hl : s.nodes = eraK l) (hc : R.its.length ≤ 4000) : (∀ p ∈ l, (Lit.int .i64 p.1).wf = true) ∧ l.length ≤ 5000 := by
  constructor
  · intro p hp
    have h1 : p.1 ∈ s.nodes.map (·.1) := by rw [hl]; exact List.mem_map.2 ⟨(p.1, p.2.2.2.2), List.mem_map.2 ⟨p, hp, rfl⟩, rfl⟩
    obtain ⟨c, hg⟩ := all_mem.1 (hT.keys.mem_iff.1 h1)
    have := get_lt hg
    exact wf_mk (by omega)
  · have h1 := hT.len
    rw [hl, eraK_len] at h1
    have h2 := numsF_len (fun _ => true) R.its 2
    unfold all at h1
    rw [List.length_cons] at h1
    omega
/-! ### what is used -/
theorem used0 : Used R0 := fun c h => by simp at h
theorem pushes_mem : ∀ {cs : List (List ST)} {R : RT} {c : List ST}, (c, false) ∈ (pushes R cs).its → (c, false) ∈ R.its ∨ c ∈ cs
  | [], _, _, h => .inl h
  | x :: t, R, c, h => by
    rw [pushes] at h
    rcases pushes_mem h with h | h
    · unfold step at h
      split at h
      · rcases List.mem_append.1 h with h | h
        · exact .inl h
        · right; simp at h; simp [h]
      · exact .inl h
    · exact .inr (List.mem_cons_of_mem _ h)
theorem used_add {R : RT} {cl : List ST} (hU : Used R) : Used (addR R cl) := fun c h => by
  show 0 < (R.lists ++ [cl]).countP (usesOf c)
  rw [List.countP_append]
  rcases pushes_mem h with h | h
  · have := hU c h
    unfold uses at this
    omega
  · have : usesOf c cl = true := usesOf_iff.2 (.inr h)
    simp [this]
theorem used_rem {R : RT} {cl : List ST} : Used (remR R cl) := fun c h => by
  obtain ⟨x, hx, he⟩ := List.mem_map.1 h
  simp only [Prod.mk.injEq, Bool.or_eq_false_iff, decide_eq_false_iff_not] at he
  obtain ⟨rfl, _, h2⟩ := he
  show 0 < (remL cl R.lists).countP (usesOf x.1)
  omega
theorem rem_len (R : RT) (cl : List ST) : (remR R cl).its.length = R.its.length ∧ (remR R cl).lists.length ≤ R.lists.length := by
  refine ⟨by simp [remR], remL_len _⟩
theorem ints_eq {a b : List Int} (hl : a.length = b.length) (h : ∀ i, i < a.length → a.getD i 0 = b.getD i 0) : a = b := by
  apply List.ext_getElem? 
  intro i
  by_cases hi : i < a.length
  · have := h i hi
    simp [List.getD, hi, show i < b.length by omega] at this
    rw [List.getElem?_eq_getElem hi, List.getElem?_eq_getElem (by omega), this]
  · rw [List.getElem?_eq_none (by omega), List.getElem?_eq_none (by omega)]
theorem nums_count : ∀ (l : List It) (i : Int), (numsF (fun _ => true) l i).length = l.countP (fun x => !x.2)
  | [], _ => rfl
  | x :: t, i => by
    rw [numsF, List.countP_cons, ← nums_count t (i + 1)]
    cases x.2 <;> simp
theorem all_count (R : RT) : (all R).length = R.its.countP (fun x => !x.2) + 1 := by
  unfold all
  rw [List.length_cons, nums_count]
end Go.Gx.T16

/- Walks: what Go functions of this chapter come to, each as a function on plain data; no condition but those that each theorem names. Printed by a program of this work (gen.py). -/
namespace Go.Proofs.Ytdkfdncbldngdaa
open Go.Gx Go.Gx.T16 Go.Gx.T8 Go.Gx.T6 Go.Gx.T4 Go.Gx.T3 Go.Gx.T4 Go.Gx.T3 Go.Gx.T6 Go.Gx.T8 Go.Gx.T4 Go.Gx.T3 Go.Gx.T8 Go.Gx.T4 Go.Gx.T3 Go.Gx.T8 Go.Gx.T6 Go.Gx.T4 Go.Gx.T3
theorem cl7 : Callable Try.prog 7 := callable Try.func7 (by kernel_rfl) rfl
theorem cl12 : Callable Try.prog 12 := callable Try.func12 (by kernel_rfl) rfl
theorem cl15 : Callable Try.prog 15 := callable Try.func15 (by kernel_rfl) rfl
theorem cl22 : Callable Try.prog 22 := callable Try.func22 (by kernel_rfl) rfl
theorem cl23 : Callable Try.prog 23 := callable Try.func23 (by kernel_rfl) rfl
theorem bl50_0i1 (x0 : Int) : Program.built Try.prog 50 [(0, Value.int .i64 x0)] = some #[Value.int .i64 x0, Value.int .i64 0, Value.int .i64 0, Value.int .i64 0, Value.slice none 0 0, Value.slice none 0 0] := by
 kernel_rfl
theorem bl47_0i1_1i1_2i1 (x0 : Int) (x1 : Int) (x2 : Int) : Program.built Try.prog 47 [(0, Value.int .i64 x0), (1, Value.int .i64 x1), (2, Value.int .i64 x2)] = some #[Value.int .i64 x0, Value.int .i64 x1, Value.int .i64 x2] := by
 kernel_rfl
theorem bl50_0i1_1a3 (x0 : Int) (x1 : Value) (x2 : Value) (x3 : Value) : Program.built Try.prog 50 [(0, Value.int .i64 x0), (1, Value.agg #[x1, x2, x3])] = some #[Value.int .i64 x0, x1, x2, x3, Value.slice none 0 0, Value.slice none 0 0] := by
 kernel_rfl
theorem bs3_20i2_1i2 (a0 : IntKind) (a1 : Int) (a2 : IntKind) (a3 : Int) : Instr.fill (fun i => some (i * 1, 1)) ((Array.range (2 * 1)).map ((Value.int .i64 0).cells[· % (Value.int .i64 0).cells.size]!)) [(0, Value.int a0 a1), (1, Value.int a2 a3)] = some #[Value.int a0 a1, Value.int a2 a3] := by
 kernel_rfl
theorem bs50_20a6_1a6 (a0 a1 a2 a3 a4 a5 : Value) (a6 a7 a8 a9 a10 a11 : Value) : Instr.fill (fun i => some (i * 6, 6)) ((Array.range (2 * 6)).map ((Value.agg #[Value.int .i64 0, Value.int .i64 0, Value.int .i64 0, Value.int .i64 0, Value.slice none 0 0, Value.slice none 0 0]).cells[· % (Value.agg #[Value.int .i64 0, Value.int .i64 0, Value.int .i64 0, Value.int .i64 0, Value.slice none 0 0, Value.slice none 0 0]).cells.size]!)) [(0, Value.agg #[a0, a1, a2, a3, a4, a5]), (1, Value.agg #[a6, a7, a8, a9, a10, a11])] = some #[a0, a1, a2, a3, a4, a5, a6, a7, a8, a9, a10, a11] := by
 kernel_rfl
abbrev lAB : List ST := [.mk ⟨1, 0, 0, 0, []⟩ [], .mk ⟨1, 1, 0, 0, []⟩ []]
abbrev lAC : List ST := [.mk ⟨1, 0, 0, 0, []⟩ [], .mk ⟨2, 0, 0, 0, []⟩ []]
abbrev rA1 : RT := addR R0 lAB
abbrev rA2 : RT := addR rA1 lAC
theorem c_ints15 (v v2 : Value) (a b : List Int) {G : Ghost} (hs : SlL G v 1 cI (0 : Int) a) (hs2 : SlL G v2 1 cI (0 : Int) b) (w : World) (hG : Has G w) :
    Calls Try.prog 23 #[v, v2] w (Ret fun r w' => r = Value.bool (decide (a = b)) ∧ Since nX w w') := by
 refine enter (args := [_, _]) (X := nX) (G := G) (l := [(0, v), (1, v2)]) Try.func23 rfl Try.ntmps23 hG ⟨rfl, rfl, trivial⟩ (Nat.le_of_ble_eq_true rfl) ?_
 refine c_seq (c_region (r_val .none rfl (p_assign rfl) (r_nil (e_next ?_))))
 refine c_seq (c_seq (c_region (r_val .none rfl (p_move rfl) ?_)))
 refine r_val .none rfl (p_leng Try.underlying33 rfl hs) ?_
 have bd_1 := (hs).bound
 refine r_val .none rfl (p_move rfl) ?_
 refine r_val .none rfl (p_leng Try.underlying33 rfl hs2) ?_
 have bd_2 := (hs2).bound
 refine r_val .none rfl (p_ne rfl rfl) ?_
 refine r_nil (e_next ?_)
 refine c_splitd (d := 10) rfl (fun h_3 => ?_) (fun h_3 => ?_)
 · (
 have hL := h_3
 first
 | (exfalso; omega)
 | (
 refine c_cond_t rfl (c_seq (c_region (r_val .none rfl (p_assign rfl) (r_nil ?_))))
 refine e_next ?_
 refine c_ret ?_
 refine e_ret_then ?_
 refine e_ret1 Try.results23 (.tmp rfl .nil) (fun w hm => ⟨?_, hm.since⟩)
 first
 | (rw [decide_eq_false (fun e => hL (by rw [e]))]; done)
 | (rw [decide_eq_false (fun e => hF (by rw [e]))]; done)
 | (rw [decide_eq_true (ints_eq (by omega) (fun i hi => hphi.2 i (by omega)))]; done)))
 · (
 have hL := Decidable.not_not.1 h_3
 first
 | (exfalso; omega)
 | (
 refine c_cond_f rfl (c_skip (e_next (c_seq (c_seq ?_))))
 refine c_region (r_val .none rfl (p_move rfl) ?_)
 refine r_val .none rfl (p_leng Try.underlying33 rfl hs) ?_
 have bd_4 := (hs).bound
 refine r_val .none rfl (p_move rfl) (r_nil (e_next (c_block ?_)))
 refine c_name (d := 0) rfl (fun u_5 hu_5 => ?_)
 refine c_name (d := 1) rfl (fun u_6 hu_6 => ?_)
 refine c_name (d := 12) rfl (fun u_7 hu_7 => ?_)
 refine c_loop (σ := Nat) (fun k => [(13, Value.int .i64 (k : Nat)), (0, u_5), (1, u_6), (12, u_7)]) (fun k => []) (fun _ => _) (fun k => k ≤ a.length ∧ ∀ i, i < k → a.getD i 0 = b.getD i 0) (fun k => a.length - k) (0) ⟨Nat.zero_le _, fun i h => absurd h (Nat.not_lt_zero _)⟩ rfl ⟨rfl, rfl, rfl, rfl, trivial⟩ (.nil) (fun k hphi => ?_)
 subst hu_5
 subst hu_6
 subst hu_7
 refine c_seq (c_region ?_)
 refine r_val .none rfl (p_lt rfl rfl) ?_
 refine r_nil (e_next (c_seq ?_))
 refine c_splitd (d := 14) rfl (fun h_8 => ?_) (fun h_8 => ?_)
 · (
 first
 | (exfalso; omega)
 | (
 refine c_cond_t rfl (c_skip (e_next (c_seq (c_block ?_))))
 refine c_seq (c_region (r_val .none rfl (p_move rfl) (r_val .none rfl (p_assign rfl) (r_nil ?_))))
 refine e_next (c_seq ?_)
 refine c_region_q mixed (by kernel_rfl) ?_
 refine q_val .none rfl (p_move rfl) ?_
 refine q_val .none rfl (p_move rfl) ?_
 refine q_iaddr_g .none rfl Try.underlying33 sz3 rfl hs rfl (by first | exact odt rfl | omega) (fun p_10 o_11 R_9 => ?_)
 refine q_val .none rfl (p_ldg0 Try.underlying3 rfl rfl R_9 (by first | exact odt rfl | omega) (rfl : _ = Value.int _ _)) ?_
 refine q_val .none rfl (p_move rfl) ?_
 refine q_val .none rfl (p_move rfl) ?_
 refine q_iaddr_g .none rfl Try.underlying33 sz3 rfl hs2 rfl (by first | exact odt rfl | omega) (fun p_13 o_14 R_12 => ?_)
 refine q_val .none rfl (p_ldg0 Try.underlying3 rfl rfl R_12 (by first | exact odt rfl | omega) (rfl : _ = Value.int _ _)) ?_
 refine q_val .none rfl (p_ne rfl rfl) ?_
 refine q_nil ?_
 refine e_next ?_
 refine c_splitd (d := 24) rfl (fun h_15 => ?_) (fun h_15 => ?_)
 · (
 have hF := h_15
 first
 | (exfalso; omega)
 | (
 refine c_cond_t rfl (c_seq (c_region (r_val .none rfl (p_assign rfl) (r_nil ?_))))
 refine e_next ?_
 refine c_ret ?_
 refine e_ret_block ?_
 refine e_ret_then ?_
 refine e_ret_then ?_
 refine e_ret_block ?_
 refine e_ret_then ?_
 refine e_ret1 Try.results23 (.tmp rfl .nil) (fun w hm => ⟨?_, hm.since⟩)
 first
 | (rw [decide_eq_false (fun e => hL (by rw [e]))]; done)
 | (rw [decide_eq_false (fun e => hF (by rw [e]))]; done)
 | (rw [decide_eq_true (ints_eq (by omega) (fun i hi => hphi.2 i (by omega)))]; done)))
 · (
 have hF := Decidable.not_not.1 h_15
 first
 | (exfalso; omega)
 | (
 refine c_cond_f rfl (c_skip ?_)
 refine e_norm_block ?_
 refine e_next (c_region ?_)
 refine r_val .none rfl (p_add rfl rfl (by omega)) ?_
 refine r_val .none rfl (p_move rfl) (r_nil ?_)
 refine e_round (k + 1) ⟨⟨by omega, fun i hi => by by_cases e : i = k; (subst e; exact hF); exact hphi.2 i (by omega)⟩, by omega⟩ rfl ⟨rfl, rfl, rfl, rfl, trivial⟩ (.nil)))))
 · (
 first
 | (exfalso; omega)
 | (
 refine c_cond_f rfl (c_exit (e_exit_then (e_exit_then ?_)))
 refine e_exit_block ?_
 refine e_next (c_seq (c_region (r_val .none rfl (p_assign rfl) (r_nil ?_))))
 refine e_next ?_
 refine c_ret ?_
 refine e_ret1 Try.results23 (.tmp rfl .nil) (fun w hm => ⟨?_, hm.since⟩)
 first
 | (rw [decide_eq_false (fun e => hL (by rw [e]))]; done)
 | (rw [decide_eq_false (fun e => hF (by rw [e]))]; done)
 | (rw [decide_eq_true (ints_eq (by omega) (fun i hi => hphi.2 i (by omega)))]; done)))))
set_option maxHeartbeats 2000000 in
theorem c_awake16   (w : World)  :
    Calls Try.prog 8 #[] w (Ret fun r w' => r = Value.bool true ∧ Since nX w w') := by
 refine enter (args := []) (X := nX) (G := (fun _ => none)) (l := []) Try.func8 rfl Try.ntmps8 (fun _ _ h => by cases h) trivial (Nat.le_of_ble_eq_true rfl) ?_
 refine c_seq (c_region (r_val .none rfl (p_assign rfl) (r_nil (e_next ?_))))
 refine c_seq (c_region ?_)
 refine r_val .none rfl (p_build (vs := [(0, Value.int _ _)]) rfl (bl50_0i1 _)) ?_
 refine r_val .none rfl (p_build (vs := [(0, Value.int _ _), (1, Value.int _ _), (2, Value.int _ _)]) rfl (bl47_0i1_1i1_2i1 _ _ _)) ?_
 refine r_val .none rfl (p_build (vs := [(0, Value.int _ _), (1, Value.agg #[_, _, _])]) rfl (bl50_0i1_1a3 _ _ _ _)) ?_
 refine r_val .none rfl (p_build (vs := [(0, Value.int _ _)]) rfl (bl50_0i1 _)) ?_
 refine r_alloc .none rfl zr50 (IsRow.lit _) (fun b_1 => ?_)
 refine r_alloc .none rfl zr50 (IsRow.lit _) (fun b_2 => ?_)
 refine r_alloc .none rfl zr50 (IsRow.lit _) (fun b_3 => ?_)
 refine r_stw (k := 2) .none sz50 rfl rfl (IsRow.lit _) (one_lit rfl rfl) rfl ?_
 refine r_stw (k := 1) .none sz50 rfl rfl (IsRow.lit _) (one_lit rfl rfl) rfl ?_
 refine r_stw (k := 0) .none sz50 rfl rfl (IsRow.lit _) (one_lit rfl rfl) rfl ?_
 refine r_nil (e_next (c_seq (c_region ?_)))
 refine r_callnew (vs := []) .none rfl cl7 rfl (fun w hw => c_knew w hw) (fun p_1 => ?_)
 refine r_val .none rfl (p_assign rfl) (r_nil (e_next (c_seq (c_seq ?_))))
 refine c_region (r_val .none rfl (p_move rfl) ?_)
 refine r_val .none rfl (p_eq_ptr Try.underlying23 (by first | exact .inr rfl | exact .inl rfl) rfl rfl) ?_
 refine r_say (d := 15) (v := Value.bool false) rfl ?_
 refine r_nil (e_next (c_cond_f rfl (c_skip (e_next ?_))))
 refine c_seq ?_
 refine c_region_d (fun _ => false) _ mixed (.drop (.keep (fun _ _ h => h) (.keep (fun _ _ h => h) (.keep (fun _ _ h => h) (.nil))))) ?_
 refine d_val1 0 rfl rfl (by kernel_rfl) (fun _ _ => rfl) .none rfl (p_move rfl) ?_
 refine d_val1 1 rfl rfl (by kernel_rfl) (fun _ _ => rfl) .none rfl (p_ldw (k := 2) Try.underlying50 rfl sz50 rfl rfl (rfl : _ = Value.agg #[_, _, _, _, _, _])) ?_
 refine d_val1 2 rfl rfl (by kernel_rfl) (fun _ _ => rfl) .none rfl (p_ldw (k := 1) Try.underlying50 rfl sz50 rfl rfl (rfl : _ = Value.agg #[_, _, _, _, _, _])) ?_
 refine d_val1 5 rfl rfl (by kernel_rfl) (fun _ _ => rfl) .none rfl (p_move rfl) ?_
 refine d_val1 6 rfl rfl (by kernel_rfl) (fun _ _ => rfl) .none rfl (p_ldw (k := 2) Try.underlying50 rfl sz50 rfl rfl (rfl : _ = Value.agg #[_, _, _, _, _, _])) ?_
 refine d_val1 7 rfl rfl (by kernel_rfl) (fun _ _ => rfl) .none rfl (p_ldw (k := 0) Try.underlying50 rfl sz50 rfl rfl (rfl : _ = Value.agg #[_, _, _, _, _, _])) ?_
 refine d_eff2 3 8 rfl rfl (by kernel_rfl) (fun K_2 hKK_2 hcK_2 => ?_) (fun K_2 hKK_2 hcK_2 => ?_)
 · (
 refine r_bslice (vs := [(0, Value.agg #[_, _, _, _, _, _]), (1, Value.agg #[_, _, _, _, _, _])]) (c := #[_, _, _, _, _, _, _, _, _, _, _, _]) .none rfl Try.underlying35 el50 rfl rfl rfl (bs50_20a6_1a6 _ _ _ _ _ _ _ _ _ _ _ _) (IsRow.lit _) (fun b_4 => ?_)
 refine r_freezeB (k := 0) 2 6 rfl rfl (by decide) (fun G_3 hn_4 hs_5 => ?_)
 have h19 : SlL G_3 (Value.slice (some ⟨b_4, 0, none⟩) 2 2) 6 sC s0 [((.mk ⟨1, 0, 0, 0, []⟩ []), Value.slice none 0 0, Value.slice none 0 0), ((.mk ⟨1, 1, 0, 0, []⟩ []), Value.slice none 0 0, Value.slice none 0 0)] := SlG.congr hs_5 (fun i hi j hj => by match i, hi with | 0, _ => (match j, hj with | 0, _ => rfl | 1, _ => rfl | 2, _ => rfl | 3, _ => rfl | 4, _ => rfl | 5, _ => rfl) | 1, _ => (match j, hj with | 0, _ => rfl | 1, _ => rfl | 2, _ => rfl | 3, _ => rfl | 4, _ => rfl | 5, _ => rfl))
 have th19 : Ss G_3 (Value.slice (some ⟨b_4, 0, none⟩) 2 2) (lAB) := Ss.mk _ h19 (by intro p hm0; simp only [List.mem_cons, List.not_mem_nil, or_false] at hm0; rcases hm0 with rfl | rfl; exact SlG.nil _ _ _; exact SlG.nil _ _ _) (by intro p hm0; simp only [List.mem_cons, List.not_mem_nil, or_false] at hm0; rcases hm0 with rfl | rfl; exact Ss.nil; exact Ss.nil)
 refine r_nil (e_d (i := 3) (brk := (fun _ => false)) (ph' := true) hKK_2 hcK_2 rfl (fun _ => hn_4.le) (fun _ => .drop (.keep (fun _ _ h => h) (.keep (fun _ _ h => h) (.keep (fun _ _ h => h) (.nil))))) ?_)
 clear hKK_2 hcK_2 K_2
 refine d_eff2 4 8 rfl rfl (by kernel_rfl) (fun K_6 hKK_6 hcK_6 => ?_) (fun K_6 hKK_6 hcK_6 => ?_)
 · (
 refine r_callox (k := 0) (vs := [_, _]) .none rfl cl12 rfl rfl (fun w F hw hA hFG => c_kadd _ _ (lAB) (R0) _ new_TI new_StS th19 (by decide) (by decide) w hw hA hFG) (fun G_7 v_10 z_12 hn_8 hr_9 => ?_)
 replace h19 := h19.mono hn_8.le
 replace th19 := th19.mono hn_8.le
 obtain ⟨hi1, hti1, hst1⟩ := hr_9
 refine r_nil (e_d (i := 4) (brk := (fun _ => false)) (ph' := true) hKK_6 hcK_6 rfl (fun _ => (hn_4.trans hn_8).le) (fun _ => .drop (.keep (fun _ _ h => h) (.keep (fun _ _ h => h) (.keep (fun _ _ h => h) (.nil))))) ?_)
 clear hKK_6 hcK_6 K_6
 refine d_eff 8 rfl (by kernel_rfl) (fun K_13 hKK_13 hcK_13 => ?_)
 refine r_bslice (vs := [(0, Value.agg #[_, _, _, _, _, _]), (1, Value.agg #[_, _, _, _, _, _])]) (c := #[_, _, _, _, _, _, _, _, _, _, _, _]) .none rfl Try.underlying35 el50 rfl rfl rfl (bs50_20a6_1a6 _ _ _ _ _ _ _ _ _ _ _ _) (IsRow.lit _) (fun b_5 => ?_)
 refine r_freezeB (k := 0) 2 6 rfl rfl (by decide) (fun G_14 hn_15 hs_16 => ?_)
 replace h19 := h19.mono hn_15.le
 replace th19 := th19.mono hn_15.le
 replace hi1 := hi1.mono hn_15.le
 replace hst1 := hst1.mono hn_15.le
 have h24 : SlL G_14 (Value.slice (some ⟨b_5, 0, none⟩) 2 2) 6 sC s0 [((.mk ⟨1, 0, 0, 0, []⟩ []), Value.slice none 0 0, Value.slice none 0 0), ((.mk ⟨2, 0, 0, 0, []⟩ []), Value.slice none 0 0, Value.slice none 0 0)] := SlG.congr hs_16 (fun i hi j hj => by match i, hi with | 0, _ => (match j, hj with | 0, _ => rfl | 1, _ => rfl | 2, _ => rfl | 3, _ => rfl | 4, _ => rfl | 5, _ => rfl) | 1, _ => (match j, hj with | 0, _ => rfl | 1, _ => rfl | 2, _ => rfl | 3, _ => rfl | 4, _ => rfl | 5, _ => rfl))
 have th24 : Ss G_14 (Value.slice (some ⟨b_5, 0, none⟩) 2 2) (lAC) := Ss.mk _ h24 (by intro p hm0; simp only [List.mem_cons, List.not_mem_nil, or_false] at hm0; rcases hm0 with rfl | rfl; exact SlG.nil _ _ _; exact SlG.nil _ _ _) (by intro p hm0; simp only [List.mem_cons, List.not_mem_nil, or_false] at hm0; rcases hm0 with rfl | rfl; exact Ss.nil; exact Ss.nil)
 refine r_nil (e_d (i := 8) (brk := (fun _ => false)) (ph' := true) hKK_13 hcK_13 rfl (fun _ => ((hn_4.trans hn_8).trans hn_15).le) (fun _ => .drop (.keep (fun _ _ h => h) (.keep (fun _ _ h => h) (.keep (fun _ _ h => h) (.nil))))) ?_)
 clear hKK_13 hcK_13 K_13
 refine d_eff 9 rfl (by kernel_rfl) (fun K_17 hKK_17 hcK_17 => ?_)
 refine r_callox (k := 0) (vs := [_, _]) .none rfl cl12 rfl rfl (fun w F hw hA hFG => c_kadd _ _ (lAC) (rA1) _ hti1 hst1 th24 (by decide) (by decide +kernel) w hw hA hFG) (fun G_18 v_21 z_23 hn_19 hr_20 => ?_)
 replace h19 := h19.mono hn_19.le
 replace th19 := th19.mono hn_19.le
 replace hi1 := hi1.mono hn_19.le
 replace hst1 := hst1.mono hn_19.le
 replace h24 := h24.mono hn_19.le
 replace th24 := th24.mono hn_19.le
 obtain ⟨hi2, hti2, hst2⟩ := hr_20
 refine r_nil (e_d (i := 9) (brk := (fun _ => false)) (ph' := true) hKK_17 hcK_17 rfl (fun _ => (((hn_4.trans hn_8).trans hn_15).trans hn_19).le) (fun _ => .drop (.keep (fun _ _ h => h) (.keep (fun _ _ h => h) (.keep (fun _ _ h => h) (.nil))))) ?_)
 clear hKK_17 hcK_17 K_17
 refine d_val1 10 rfl rfl (by kernel_rfl) (fun _ _ => rfl) .none rfl (p_assign rfl) ?_
 refine d_val1 11 rfl rfl (by kernel_rfl) (fun _ _ => rfl) .none rfl (p_assign rfl) ?_
 refine d_nil (by kernel_rfl) ?_
 refine e_next (c_seq (c_region (r_val .none rfl (p_move rfl) ?_)))
 refine r_val .none rfl (p_ldw (k := 3) Try.underlying50 rfl sz50 rfl rfl (rfl : _ = Value.agg #[_, _, _, _, _, _])) ?_
 refine r_val .none rfl (p_ldw (k := 2) Try.underlying50 rfl sz50 rfl rfl (rfl : _ = Value.agg #[_, _, _, _, _, _])) ?_
 refine r_bslice (vs := [(0, Value.agg #[_, _, _, _, _, _]), (1, Value.agg #[_, _, _, _, _, _])]) (c := #[_, _, _, _, _, _, _, _, _, _, _, _]) .none rfl Try.underlying35 el50 rfl rfl rfl (bs50_20a6_1a6 _ _ _ _ _ _ _ _ _ _ _ _) (IsRow.lit _) (fun b_6 => ?_)
 refine r_freezeB (k := 0) 2 6 rfl rfl (by decide) (fun G_24 hn_25 hs_26 => ?_)
 replace h19 := h19.mono hn_25.le
 replace th19 := th19.mono hn_25.le
 replace hi1 := hi1.mono hn_25.le
 replace hst1 := hst1.mono hn_25.le
 replace h24 := h24.mono hn_25.le
 replace th24 := th24.mono hn_25.le
 replace hi2 := hi2.mono hn_25.le
 replace hst2 := hst2.mono hn_25.le
 have h30 : SlL G_24 (Value.slice (some ⟨b_6, 0, none⟩) 2 2) 6 sC s0 [((.mk ⟨1, 0, 0, 0, []⟩ []), Value.slice none 0 0, Value.slice none 0 0), ((.mk ⟨1, 1, 0, 0, []⟩ []), Value.slice none 0 0, Value.slice none 0 0)] := SlG.congr hs_26 (fun i hi j hj => by match i, hi with | 0, _ => (match j, hj with | 0, _ => rfl | 1, _ => rfl | 2, _ => rfl | 3, _ => rfl | 4, _ => rfl | 5, _ => rfl) | 1, _ => (match j, hj with | 0, _ => rfl | 1, _ => rfl | 2, _ => rfl | 3, _ => rfl | 4, _ => rfl | 5, _ => rfl))
 have th30 : Ss G_24 (Value.slice (some ⟨b_6, 0, none⟩) 2 2) (lAB) := Ss.mk _ h30 (by intro p hm0; simp only [List.mem_cons, List.not_mem_nil, or_false] at hm0; rcases hm0 with rfl | rfl; exact SlG.nil _ _ _; exact SlG.nil _ _ _) (by intro p hm0; simp only [List.mem_cons, List.not_mem_nil, or_false] at hm0; rcases hm0 with rfl | rfl; exact Ss.nil; exact Ss.nil)
 refine r_callox (k := 0) (vs := [_, _]) .none rfl cl22 rfl rfl (fun w F hw hA hFG => c_kremY _ _ lAB rA2 _ hti2 hst2 th30 (by decide) (used_add (used_add used0)) (by decide +kernel) (by decide +kernel) w hw hA hFG) (fun G_27 v_30 z_32 hn_28 hr_29 => ?_)
 replace h19 := h19.mono hn_28.le
 replace th19 := th19.mono hn_28.le
 replace hi1 := hi1.mono hn_28.le
 replace hst1 := hst1.mono hn_28.le
 replace h24 := h24.mono hn_28.le
 replace th24 := th24.mono hn_28.le
 replace hi2 := hi2.mono hn_28.le
 replace hst2 := hst2.mono hn_28.le
 replace h30 := h30.mono hn_28.le
 replace th30 := th30.mono hn_28.le
 obtain ⟨⟨v31, rfl, hi3⟩, hti3, hst3⟩ := hr_29
 refine r_val .none rfl (p_move rfl) ?_
 refine r_val .none rfl (p_extract rfl rfl) ?_
 refine r_val .none rfl (p_extract rfl rfl) ?_
 refine r_val .none rfl (p_assign rfl) (r_val .none rfl (p_assign rfl) (r_nil (e_next (c_seq ?_))))
 refine c_region (r_val .none rfl (p_move rfl) ?_)
 refine r_bslice (vs := [(0, Value.int _ _), (1, Value.int _ _)]) (c := #[_, _]) .none rfl Try.underlying33 el3 rfl rfl rfl (bs3_20i2_1i2 _ _ _ _) (IsRow.lit _) (fun b_7 => ?_)
 refine r_freezeB (k := 0) 2 1 rfl rfl (by decide) (fun G_33 hn_34 hs_35 => ?_)
 replace h19 := h19.mono hn_34.le
 replace th19 := th19.mono hn_34.le
 replace hi1 := hi1.mono hn_34.le
 replace hst1 := hst1.mono hn_34.le
 replace h24 := h24.mono hn_34.le
 replace th24 := th24.mono hn_34.le
 replace hi2 := hi2.mono hn_34.le
 replace hst2 := hst2.mono hn_34.le
 replace h30 := h30.mono hn_34.le
 replace th30 := th30.mono hn_34.le
 replace hi3 := hi3.mono hn_34.le
 replace hst3 := hst3.mono hn_34.le
 have h35 : SlL G_33 (Value.slice (some ⟨b_7, 0, none⟩) 2 2) 1 cI (0 : Int) [2, 3] := SlG.congr hs_35 (fun i hi j hj => by match i, hi with | 0, _ => (match j, hj with | 0, _ => rfl) | 1, _ => (match j, hj with | 0, _ => rfl))
 refine r_call (vs := [_, _]) .none rfl cl23 rfl (fun w hw => c_ints15 _ _ _ _ hi1 h35 w hw) ?_
 refine r_val .none rfl (p_move rfl) ?_
 refine r_split (d := 37) rfl (fun h_36 => ?_) (fun h_36 => ?_)
 · (
 refine r_val (.some rfl rfl) rfl (p_move rfl) ?_
 refine r_bslice (vs := [(0, Value.int _ _), (1, Value.int _ _)]) (c := #[_, _]) (.some rfl rfl) rfl Try.underlying33 el3 rfl rfl rfl (bs3_20i2_1i2 _ _ _ _) (IsRow.lit _) (fun b_8 => ?_)
 refine r_freezeB (k := 0) 2 1 rfl rfl (by decide) (fun G_37 hn_38 hs_39 => ?_)
 replace h19 := h19.mono hn_38.le
 replace th19 := th19.mono hn_38.le
 replace hi1 := hi1.mono hn_38.le
 replace hst1 := hst1.mono hn_38.le
 replace h24 := h24.mono hn_38.le
 replace th24 := th24.mono hn_38.le
 replace hi2 := hi2.mono hn_38.le
 replace hst2 := hst2.mono hn_38.le
 replace h30 := h30.mono hn_38.le
 replace th30 := th30.mono hn_38.le
 replace hi3 := hi3.mono hn_38.le
 replace hst3 := hst3.mono hn_38.le
 replace h35 := h35.mono hn_38.le
 have h39 : SlL G_37 (Value.slice (some ⟨b_8, 0, none⟩) 2 2) 1 cI (0 : Int) [2, 4] := SlG.congr hs_39 (fun i hi j hj => by match i, hi with | 0, _ => (match j, hj with | 0, _ => rfl) | 1, _ => (match j, hj with | 0, _ => rfl))
 refine r_call (vs := [_, _]) (.some rfl rfl) rfl cl23 rfl (fun w hw => c_ints15 _ _ _ _ hi2 h39 w hw) ?_
 refine r_val .none rfl (p_pick_t rfl rfl) ?_
 refine r_val .none rfl (p_move rfl) ?_
 refine r_split (d := 42) rfl (fun h_40 => ?_) (fun h_40 => ?_)
 · (
 refine r_val (.some rfl rfl) rfl (p_move rfl) ?_
 refine r_bslice (vs := [(0, Value.int _ _)]) (c := #[_]) (.some rfl rfl) rfl Try.underlying33 el3 rfl rfl rfl (bs3_10i2 _ _) (IsRow.lit _) (fun b_9 => ?_)
 refine r_freezeB (k := 0) 1 1 rfl rfl (by decide) (fun G_41 hn_42 hs_43 => ?_)
 replace h19 := h19.mono hn_42.le
 replace th19 := th19.mono hn_42.le
 replace hi1 := hi1.mono hn_42.le
 replace hst1 := hst1.mono hn_42.le
 replace h24 := h24.mono hn_42.le
 replace th24 := th24.mono hn_42.le
 replace hi2 := hi2.mono hn_42.le
 replace hst2 := hst2.mono hn_42.le
 replace h30 := h30.mono hn_42.le
 replace th30 := th30.mono hn_42.le
 replace hi3 := hi3.mono hn_42.le
 replace hst3 := hst3.mono hn_42.le
 replace h35 := h35.mono hn_42.le
 replace h39 := h39.mono hn_42.le
 have h44 : SlL G_41 (Value.slice (some ⟨b_9, 0, none⟩) 1 1) 1 cI (0 : Int) [3] := SlG.congr hs_43 (fun i hi j hj => by match i, hi with | 0, _ => (match j, hj with | 0, _ => rfl))
 refine r_call (vs := [_, _]) (.some rfl rfl) rfl cl23 rfl (fun w hw => c_ints15 _ _ _ _ hi3 h44 w hw) ?_
 refine r_val .none rfl (p_pick_t rfl rfl) ?_
 refine r_val .none rfl (p_move rfl) ?_
 refine' r_and (c := 47) (d := 50) [_, _, _] rfl (fun h_44 Q_45 hQ_46 => ?_) (fun h_44 Q_45 hQ_46 => ?_) ?_
 rotate_left 1
 · (
 refine r_val (.some rfl rfl) rfl (p_move rfl) ?_
 refine r_val (.some rfl rfl) rfl (p_eq rfl rfl) ?_
 refine r_val .none rfl (p_pick_t rfl rfl) ?_
 refine r_nil (e_fin (d := 50) hQ_46 rfl (by repeat (first | exact .refl | refine .put rfl ?_ | refine .say rfl ?_ | refine .say2 rfl (by first | assumption | simp_all) ?_))))
 · (
 repeat (first | refine r_skip rfl (.no rfl rfl) ?_ | refine r_skip rfl (.un rfl rfl) ?_)
 refine r_val (by first | exact .none | exact .some rfl rfl) rfl (p_pick_f rfl rfl) ?_
 refine r_nil (e_fin (d := 50) hQ_46 rfl (by repeat (first | exact .refl | refine .put rfl ?_ | refine .say rfl ?_ | refine .say2 rfl (by first | assumption | simp_all) ?_))))
 refine r_val .none rfl (p_move rfl) ?_
 refine' r_and (c := 51) (d := 55) [_, _, _, _] rfl (fun h_48 Q_49 hQ_50 => ?_) (fun h_48 Q_49 hQ_50 => ?_) ?_
 rotate_left 1
 · (
 try simp only [norms] at h_48
 refine r_val (.some rfl rfl) rfl (p_move rfl) ?_
 refine r_callo (k := 0) (vs := [_]) (.some rfl rfl) rfl cl15 rfl rfl (fun w F hw hA hFG => trie_see0 (R := fun r => r = Value.int .i64 ((remR rA2 lAB).its.countP (fun x => !x.2) + 1 : Nat)) (fun l G' F' hl hle hn9 hG hA hF => by (have h9 := c_klen _ l _ _ (seen_of hti3.kc hst3 hl hn9 hle) w hG hA hF; rw [← eraK_len l, ← hl, hti3.len, all_count] at h9; exact h9)) hw hA hFG) ?_
 refine r_val (.some rfl rfl) rfl (p_eq rfl rfl) ?_
 refine r_val .none rfl (p_pick_t rfl rfl) ?_
 refine r_nil (e_fin (d := 55) hQ_50 rfl (by repeat (first | exact .refl | refine .put rfl ?_ | refine .say rfl ?_ | refine .say2 rfl (by first | assumption | simp_all) ?_))))
 · (
 repeat (first | refine r_skip rfl (.no rfl rfl) ?_ | refine r_skip rfl (.un rfl rfl) ?_)
 refine r_val (by first | exact .none | exact .some rfl rfl) rfl (p_pick_f rfl rfl) ?_
 refine r_nil (e_fin (d := 55) hQ_50 rfl (by repeat (first | exact .refl | refine .put rfl ?_ | refine .say rfl ?_ | refine .say2 rfl (by first | assumption | simp_all) ?_))))
 refine r_val .none rfl (p_assign rfl) (r_nil (e_next ?_))
 refine c_ret ?_
 refine e_ret1 Try.results8 (.tmp rfl .nil) (fun w hm => ⟨?_, hm.since⟩)
 exact congrArg Value.bool (by decide +kernel))
 · (
 have hx : False := (by first | exact absurd (h_40) (by decide +kernel) | omega)
 exact hx.elim))
 · (
 have hx : False := (by first | exact absurd (h_36) (by decide +kernel) | omega)
 exact hx.elim))
 · (
 refine r_bslice (vs := [(0, Value.agg #[_, _, _, _, _, _]), (1, Value.agg #[_, _, _, _, _, _])]) (c := #[_, _, _, _, _, _, _, _, _, _, _, _]) .none rfl Try.underlying35 el50 rfl rfl rfl (bs50_20a6_1a6 _ _ _ _ _ _ _ _ _ _ _ _) (IsRow.lit _) (fun b_10 => ?_)
 refine r_freezeB (k := 0) 2 6 rfl rfl (by decide) (fun G_52 hn_53 hs_54 => ?_)
 replace h19 := h19.mono hn_53.le
 replace th19 := th19.mono hn_53.le
 have h24 : SlL G_52 (Value.slice (some ⟨b_10, 0, none⟩) 2 2) 6 sC s0 [((.mk ⟨1, 0, 0, 0, []⟩ []), Value.slice none 0 0, Value.slice none 0 0), ((.mk ⟨2, 0, 0, 0, []⟩ []), Value.slice none 0 0, Value.slice none 0 0)] := SlG.congr hs_54 (fun i hi j hj => by match i, hi with | 0, _ => (match j, hj with | 0, _ => rfl | 1, _ => rfl | 2, _ => rfl | 3, _ => rfl | 4, _ => rfl | 5, _ => rfl) | 1, _ => (match j, hj with | 0, _ => rfl | 1, _ => rfl | 2, _ => rfl | 3, _ => rfl | 4, _ => rfl | 5, _ => rfl))
 have th24 : Ss G_52 (Value.slice (some ⟨b_10, 0, none⟩) 2 2) (lAC) := Ss.mk _ h24 (by intro p hm0; simp only [List.mem_cons, List.not_mem_nil, or_false] at hm0; rcases hm0 with rfl | rfl; exact SlG.nil _ _ _; exact SlG.nil _ _ _) (by intro p hm0; simp only [List.mem_cons, List.not_mem_nil, or_false] at hm0; rcases hm0 with rfl | rfl; exact Ss.nil; exact Ss.nil)
 refine r_nil (e_d (i := 8) (brk := (fun _ => false)) (ph' := true) hKK_6 hcK_6 rfl (fun _ => (hn_4.trans hn_53).le) (fun _ => .drop (.keep (fun _ _ h => h) (.keep (fun _ _ h => h) (.keep (fun _ _ h => h) (.nil))))) ?_)
 clear hKK_6 hcK_6 K_6
 refine d_eff 4 rfl (by kernel_rfl) (fun K_55 hKK_55 hcK_55 => ?_)
 refine r_callox (k := 0) (vs := [_, _]) .none rfl cl12 rfl rfl (fun w F hw hA hFG => c_kadd _ _ (lAB) (R0) _ new_TI new_StS th19 (by decide) (by decide) w hw hA hFG) (fun G_56 v_59 z_61 hn_57 hr_58 => ?_)
 replace h19 := h19.mono hn_57.le
 replace th19 := th19.mono hn_57.le
 replace h24 := h24.mono hn_57.le
 replace th24 := th24.mono hn_57.le
 obtain ⟨hi1, hti1, hst1⟩ := hr_58
 refine r_nil (e_d (i := 4) (brk := (fun _ => false)) (ph' := true) hKK_55 hcK_55 rfl (fun _ => ((hn_4.trans hn_53).trans hn_57).le) (fun _ => .drop (.keep (fun _ _ h => h) (.keep (fun _ _ h => h) (.keep (fun _ _ h => h) (.nil))))) ?_)
 clear hKK_55 hcK_55 K_55
 refine d_eff 9 rfl (by kernel_rfl) (fun K_62 hKK_62 hcK_62 => ?_)
 refine r_callox (k := 0) (vs := [_, _]) .none rfl cl12 rfl rfl (fun w F hw hA hFG => c_kadd _ _ (lAC) (rA1) _ hti1 hst1 th24 (by decide) (by decide +kernel) w hw hA hFG) (fun G_63 v_66 z_68 hn_64 hr_65 => ?_)
 replace h19 := h19.mono hn_64.le
 replace th19 := th19.mono hn_64.le
 replace h24 := h24.mono hn_64.le
 replace th24 := th24.mono hn_64.le
 replace hi1 := hi1.mono hn_64.le
 replace hst1 := hst1.mono hn_64.le
 obtain ⟨hi2, hti2, hst2⟩ := hr_65
 refine r_nil (e_d (i := 9) (brk := (fun _ => false)) (ph' := true) hKK_62 hcK_62 rfl (fun _ => (((hn_4.trans hn_53).trans hn_57).trans hn_64).le) (fun _ => .drop (.keep (fun _ _ h => h) (.keep (fun _ _ h => h) (.keep (fun _ _ h => h) (.nil))))) ?_)
 clear hKK_62 hcK_62 K_62
 refine d_val1 10 rfl rfl (by kernel_rfl) (fun _ _ => rfl) .none rfl (p_assign rfl) ?_
 refine d_val1 11 rfl rfl (by kernel_rfl) (fun _ _ => rfl) .none rfl (p_assign rfl) ?_
 refine d_nil (by kernel_rfl) ?_
 refine e_next (c_seq (c_region (r_val .none rfl (p_move rfl) ?_)))
 refine r_val .none rfl (p_ldw (k := 3) Try.underlying50 rfl sz50 rfl rfl (rfl : _ = Value.agg #[_, _, _, _, _, _])) ?_
 refine r_val .none rfl (p_ldw (k := 2) Try.underlying50 rfl sz50 rfl rfl (rfl : _ = Value.agg #[_, _, _, _, _, _])) ?_
 refine r_bslice (vs := [(0, Value.agg #[_, _, _, _, _, _]), (1, Value.agg #[_, _, _, _, _, _])]) (c := #[_, _, _, _, _, _, _, _, _, _, _, _]) .none rfl Try.underlying35 el50 rfl rfl rfl (bs50_20a6_1a6 _ _ _ _ _ _ _ _ _ _ _ _) (IsRow.lit _) (fun b_11 => ?_)
 refine r_freezeB (k := 0) 2 6 rfl rfl (by decide) (fun G_69 hn_70 hs_71 => ?_)
 replace h19 := h19.mono hn_70.le
 replace th19 := th19.mono hn_70.le
 replace h24 := h24.mono hn_70.le
 replace th24 := th24.mono hn_70.le
 replace hi1 := hi1.mono hn_70.le
 replace hst1 := hst1.mono hn_70.le
 replace hi2 := hi2.mono hn_70.le
 replace hst2 := hst2.mono hn_70.le
 have h30 : SlL G_69 (Value.slice (some ⟨b_11, 0, none⟩) 2 2) 6 sC s0 [((.mk ⟨1, 0, 0, 0, []⟩ []), Value.slice none 0 0, Value.slice none 0 0), ((.mk ⟨1, 1, 0, 0, []⟩ []), Value.slice none 0 0, Value.slice none 0 0)] := SlG.congr hs_71 (fun i hi j hj => by match i, hi with | 0, _ => (match j, hj with | 0, _ => rfl | 1, _ => rfl | 2, _ => rfl | 3, _ => rfl | 4, _ => rfl | 5, _ => rfl) | 1, _ => (match j, hj with | 0, _ => rfl | 1, _ => rfl | 2, _ => rfl | 3, _ => rfl | 4, _ => rfl | 5, _ => rfl))
 have th30 : Ss G_69 (Value.slice (some ⟨b_11, 0, none⟩) 2 2) (lAB) := Ss.mk _ h30 (by intro p hm0; simp only [List.mem_cons, List.not_mem_nil, or_false] at hm0; rcases hm0 with rfl | rfl; exact SlG.nil _ _ _; exact SlG.nil _ _ _) (by intro p hm0; simp only [List.mem_cons, List.not_mem_nil, or_false] at hm0; rcases hm0 with rfl | rfl; exact Ss.nil; exact Ss.nil)
 refine r_callox (k := 0) (vs := [_, _]) .none rfl cl22 rfl rfl (fun w F hw hA hFG => c_kremY _ _ lAB rA2 _ hti2 hst2 th30 (by decide) (used_add (used_add used0)) (by decide +kernel) (by decide +kernel) w hw hA hFG) (fun G_72 v_75 z_77 hn_73 hr_74 => ?_)
 replace h19 := h19.mono hn_73.le
 replace th19 := th19.mono hn_73.le
 replace h24 := h24.mono hn_73.le
 replace th24 := th24.mono hn_73.le
 replace hi1 := hi1.mono hn_73.le
 replace hst1 := hst1.mono hn_73.le
 replace hi2 := hi2.mono hn_73.le
 replace hst2 := hst2.mono hn_73.le
 replace h30 := h30.mono hn_73.le
 replace th30 := th30.mono hn_73.le
 obtain ⟨⟨v31, rfl, hi3⟩, hti3, hst3⟩ := hr_74
 refine r_val .none rfl (p_move rfl) ?_
 refine r_val .none rfl (p_extract rfl rfl) ?_
 refine r_val .none rfl (p_extract rfl rfl) ?_
 refine r_val .none rfl (p_assign rfl) (r_val .none rfl (p_assign rfl) (r_nil (e_next (c_seq ?_))))
 refine c_region (r_val .none rfl (p_move rfl) ?_)
 refine r_bslice (vs := [(0, Value.int _ _), (1, Value.int _ _)]) (c := #[_, _]) .none rfl Try.underlying33 el3 rfl rfl rfl (bs3_20i2_1i2 _ _ _ _) (IsRow.lit _) (fun b_12 => ?_)
 refine r_freezeB (k := 0) 2 1 rfl rfl (by decide) (fun G_78 hn_79 hs_80 => ?_)
 replace h19 := h19.mono hn_79.le
 replace th19 := th19.mono hn_79.le
 replace h24 := h24.mono hn_79.le
 replace th24 := th24.mono hn_79.le
 replace hi1 := hi1.mono hn_79.le
 replace hst1 := hst1.mono hn_79.le
 replace hi2 := hi2.mono hn_79.le
 replace hst2 := hst2.mono hn_79.le
 replace h30 := h30.mono hn_79.le
 replace th30 := th30.mono hn_79.le
 replace hi3 := hi3.mono hn_79.le
 replace hst3 := hst3.mono hn_79.le
 have h35 : SlL G_78 (Value.slice (some ⟨b_12, 0, none⟩) 2 2) 1 cI (0 : Int) [2, 3] := SlG.congr hs_80 (fun i hi j hj => by match i, hi with | 0, _ => (match j, hj with | 0, _ => rfl) | 1, _ => (match j, hj with | 0, _ => rfl))
 refine r_call (vs := [_, _]) .none rfl cl23 rfl (fun w hw => c_ints15 _ _ _ _ hi1 h35 w hw) ?_
 refine r_val .none rfl (p_move rfl) ?_
 refine r_split (d := 37) rfl (fun h_81 => ?_) (fun h_81 => ?_)
 · (
 refine r_val (.some rfl rfl) rfl (p_move rfl) ?_
 refine r_bslice (vs := [(0, Value.int _ _), (1, Value.int _ _)]) (c := #[_, _]) (.some rfl rfl) rfl Try.underlying33 el3 rfl rfl rfl (bs3_20i2_1i2 _ _ _ _) (IsRow.lit _) (fun b_13 => ?_)
 refine r_freezeB (k := 0) 2 1 rfl rfl (by decide) (fun G_82 hn_83 hs_84 => ?_)
 replace h19 := h19.mono hn_83.le
 replace th19 := th19.mono hn_83.le
 replace h24 := h24.mono hn_83.le
 replace th24 := th24.mono hn_83.le
 replace hi1 := hi1.mono hn_83.le
 replace hst1 := hst1.mono hn_83.le
 replace hi2 := hi2.mono hn_83.le
 replace hst2 := hst2.mono hn_83.le
 replace h30 := h30.mono hn_83.le
 replace th30 := th30.mono hn_83.le
 replace hi3 := hi3.mono hn_83.le
 replace hst3 := hst3.mono hn_83.le
 replace h35 := h35.mono hn_83.le
 have h39 : SlL G_82 (Value.slice (some ⟨b_13, 0, none⟩) 2 2) 1 cI (0 : Int) [2, 4] := SlG.congr hs_84 (fun i hi j hj => by match i, hi with | 0, _ => (match j, hj with | 0, _ => rfl) | 1, _ => (match j, hj with | 0, _ => rfl))
 refine r_call (vs := [_, _]) (.some rfl rfl) rfl cl23 rfl (fun w hw => c_ints15 _ _ _ _ hi2 h39 w hw) ?_
 refine r_val .none rfl (p_pick_t rfl rfl) ?_
 refine r_val .none rfl (p_move rfl) ?_
 refine r_split (d := 42) rfl (fun h_85 => ?_) (fun h_85 => ?_)
 · (
 refine r_val (.some rfl rfl) rfl (p_move rfl) ?_
 refine r_bslice (vs := [(0, Value.int _ _)]) (c := #[_]) (.some rfl rfl) rfl Try.underlying33 el3 rfl rfl rfl (bs3_10i2 _ _) (IsRow.lit _) (fun b_14 => ?_)
 refine r_freezeB (k := 0) 1 1 rfl rfl (by decide) (fun G_86 hn_87 hs_88 => ?_)
 replace h19 := h19.mono hn_87.le
 replace th19 := th19.mono hn_87.le
 replace h24 := h24.mono hn_87.le
 replace th24 := th24.mono hn_87.le
 replace hi1 := hi1.mono hn_87.le
 replace hst1 := hst1.mono hn_87.le
 replace hi2 := hi2.mono hn_87.le
 replace hst2 := hst2.mono hn_87.le
 replace h30 := h30.mono hn_87.le
 replace th30 := th30.mono hn_87.le
 replace hi3 := hi3.mono hn_87.le
 replace hst3 := hst3.mono hn_87.le
 replace h35 := h35.mono hn_87.le
 replace h39 := h39.mono hn_87.le
 have h44 : SlL G_86 (Value.slice (some ⟨b_14, 0, none⟩) 1 1) 1 cI (0 : Int) [3] := SlG.congr hs_88 (fun i hi j hj => by match i, hi with | 0, _ => (match j, hj with | 0, _ => rfl))
 refine r_call (vs := [_, _]) (.some rfl rfl) rfl cl23 rfl (fun w hw => c_ints15 _ _ _ _ hi3 h44 w hw) ?_
 refine r_val .none rfl (p_pick_t rfl rfl) ?_
 refine r_val .none rfl (p_move rfl) ?_
 refine' r_and (c := 47) (d := 50) [_, _, _] rfl (fun h_89 Q_90 hQ_91 => ?_) (fun h_89 Q_90 hQ_91 => ?_) ?_
 rotate_left 1
 · (
 refine r_val (.some rfl rfl) rfl (p_move rfl) ?_
 refine r_val (.some rfl rfl) rfl (p_eq rfl rfl) ?_
 refine r_val .none rfl (p_pick_t rfl rfl) ?_
 refine r_nil (e_fin (d := 50) hQ_91 rfl (by repeat (first | exact .refl | refine .put rfl ?_ | refine .say rfl ?_ | refine .say2 rfl (by first | assumption | simp_all) ?_))))
 · (
 repeat (first | refine r_skip rfl (.no rfl rfl) ?_ | refine r_skip rfl (.un rfl rfl) ?_)
 refine r_val (by first | exact .none | exact .some rfl rfl) rfl (p_pick_f rfl rfl) ?_
 refine r_nil (e_fin (d := 50) hQ_91 rfl (by repeat (first | exact .refl | refine .put rfl ?_ | refine .say rfl ?_ | refine .say2 rfl (by first | assumption | simp_all) ?_))))
 refine r_val .none rfl (p_move rfl) ?_
 refine' r_and (c := 51) (d := 55) [_, _, _, _] rfl (fun h_93 Q_94 hQ_95 => ?_) (fun h_93 Q_94 hQ_95 => ?_) ?_
 rotate_left 1
 · (
 try simp only [norms] at h_93
 refine r_val (.some rfl rfl) rfl (p_move rfl) ?_
 refine r_callo (k := 0) (vs := [_]) (.some rfl rfl) rfl cl15 rfl rfl (fun w F hw hA hFG => trie_see0 (R := fun r => r = Value.int .i64 ((remR rA2 lAB).its.countP (fun x => !x.2) + 1 : Nat)) (fun l G' F' hl hle hn9 hG hA hF => by (have h9 := c_klen _ l _ _ (seen_of hti3.kc hst3 hl hn9 hle) w hG hA hF; rw [← eraK_len l, ← hl, hti3.len, all_count] at h9; exact h9)) hw hA hFG) ?_
 refine r_val (.some rfl rfl) rfl (p_eq rfl rfl) ?_
 refine r_val .none rfl (p_pick_t rfl rfl) ?_
 refine r_nil (e_fin (d := 55) hQ_95 rfl (by repeat (first | exact .refl | refine .put rfl ?_ | refine .say rfl ?_ | refine .say2 rfl (by first | assumption | simp_all) ?_))))
 · (
 repeat (first | refine r_skip rfl (.no rfl rfl) ?_ | refine r_skip rfl (.un rfl rfl) ?_)
 refine r_val (by first | exact .none | exact .some rfl rfl) rfl (p_pick_f rfl rfl) ?_
 refine r_nil (e_fin (d := 55) hQ_95 rfl (by repeat (first | exact .refl | refine .put rfl ?_ | refine .say rfl ?_ | refine .say2 rfl (by first | assumption | simp_all) ?_))))
 refine r_val .none rfl (p_assign rfl) (r_nil (e_next ?_))
 refine c_ret ?_
 refine e_ret1 Try.results8 (.tmp rfl .nil) (fun w hm => ⟨?_, hm.since⟩)
 exact congrArg Value.bool (by decide +kernel))
 · (
 have hx : False := (by first | exact absurd (h_85) (by decide +kernel) | omega)
 exact hx.elim))
 · (
 have hx : False := (by first | exact absurd (h_81) (by decide +kernel) | omega)
 exact hx.elim)))
 · (
 refine r_bslice (vs := [(0, Value.agg #[_, _, _, _, _, _]), (1, Value.agg #[_, _, _, _, _, _])]) (c := #[_, _, _, _, _, _, _, _, _, _, _, _]) .none rfl Try.underlying35 el50 rfl rfl rfl (bs50_20a6_1a6 _ _ _ _ _ _ _ _ _ _ _ _) (IsRow.lit _) (fun b_15 => ?_)
 refine r_freezeB (k := 0) 2 6 rfl rfl (by decide) (fun G_97 hn_98 hs_99 => ?_)
 have h24 : SlL G_97 (Value.slice (some ⟨b_15, 0, none⟩) 2 2) 6 sC s0 [((.mk ⟨1, 0, 0, 0, []⟩ []), Value.slice none 0 0, Value.slice none 0 0), ((.mk ⟨2, 0, 0, 0, []⟩ []), Value.slice none 0 0, Value.slice none 0 0)] := SlG.congr hs_99 (fun i hi j hj => by match i, hi with | 0, _ => (match j, hj with | 0, _ => rfl | 1, _ => rfl | 2, _ => rfl | 3, _ => rfl | 4, _ => rfl | 5, _ => rfl) | 1, _ => (match j, hj with | 0, _ => rfl | 1, _ => rfl | 2, _ => rfl | 3, _ => rfl | 4, _ => rfl | 5, _ => rfl))
 have th24 : Ss G_97 (Value.slice (some ⟨b_15, 0, none⟩) 2 2) (lAC) := Ss.mk _ h24 (by intro p hm0; simp only [List.mem_cons, List.not_mem_nil, or_false] at hm0; rcases hm0 with rfl | rfl; exact SlG.nil _ _ _; exact SlG.nil _ _ _) (by intro p hm0; simp only [List.mem_cons, List.not_mem_nil, or_false] at hm0; rcases hm0 with rfl | rfl; exact Ss.nil; exact Ss.nil)
 refine r_nil (e_d (i := 8) (brk := (fun _ => false)) (ph' := true) hKK_2 hcK_2 rfl (fun _ => hn_98.le) (fun _ => .drop (.keep (fun _ _ h => h) (.keep (fun _ _ h => h) (.keep (fun _ _ h => h) (.nil))))) ?_)
 clear hKK_2 hcK_2 K_2
 refine d_eff 3 rfl (by kernel_rfl) (fun K_100 hKK_100 hcK_100 => ?_)
 refine r_bslice (vs := [(0, Value.agg #[_, _, _, _, _, _]), (1, Value.agg #[_, _, _, _, _, _])]) (c := #[_, _, _, _, _, _, _, _, _, _, _, _]) .none rfl Try.underlying35 el50 rfl rfl rfl (bs50_20a6_1a6 _ _ _ _ _ _ _ _ _ _ _ _) (IsRow.lit _) (fun b_16 => ?_)
 refine r_freezeB (k := 0) 2 6 rfl rfl (by decide) (fun G_101 hn_102 hs_103 => ?_)
 replace h24 := h24.mono hn_102.le
 replace th24 := th24.mono hn_102.le
 have h19 : SlL G_101 (Value.slice (some ⟨b_16, 0, none⟩) 2 2) 6 sC s0 [((.mk ⟨1, 0, 0, 0, []⟩ []), Value.slice none 0 0, Value.slice none 0 0), ((.mk ⟨1, 1, 0, 0, []⟩ []), Value.slice none 0 0, Value.slice none 0 0)] := SlG.congr hs_103 (fun i hi j hj => by match i, hi with | 0, _ => (match j, hj with | 0, _ => rfl | 1, _ => rfl | 2, _ => rfl | 3, _ => rfl | 4, _ => rfl | 5, _ => rfl) | 1, _ => (match j, hj with | 0, _ => rfl | 1, _ => rfl | 2, _ => rfl | 3, _ => rfl | 4, _ => rfl | 5, _ => rfl))
 have th19 : Ss G_101 (Value.slice (some ⟨b_16, 0, none⟩) 2 2) (lAB) := Ss.mk _ h19 (by intro p hm0; simp only [List.mem_cons, List.not_mem_nil, or_false] at hm0; rcases hm0 with rfl | rfl; exact SlG.nil _ _ _; exact SlG.nil _ _ _) (by intro p hm0; simp only [List.mem_cons, List.not_mem_nil, or_false] at hm0; rcases hm0 with rfl | rfl; exact Ss.nil; exact Ss.nil)
 refine r_nil (e_d (i := 3) (brk := (fun _ => false)) (ph' := true) hKK_100 hcK_100 rfl (fun _ => (hn_98.trans hn_102).le) (fun _ => .drop (.keep (fun _ _ h => h) (.keep (fun _ _ h => h) (.keep (fun _ _ h => h) (.nil))))) ?_)
 clear hKK_100 hcK_100 K_100
 refine d_eff 4 rfl (by kernel_rfl) (fun K_104 hKK_104 hcK_104 => ?_)
 refine r_callox (k := 0) (vs := [_, _]) .none rfl cl12 rfl rfl (fun w F hw hA hFG => c_kadd _ _ (lAB) (R0) _ new_TI new_StS th19 (by decide) (by decide) w hw hA hFG) (fun G_105 v_108 z_110 hn_106 hr_107 => ?_)
 replace h24 := h24.mono hn_106.le
 replace th24 := th24.mono hn_106.le
 replace h19 := h19.mono hn_106.le
 replace th19 := th19.mono hn_106.le
 obtain ⟨hi1, hti1, hst1⟩ := hr_107
 refine r_nil (e_d (i := 4) (brk := (fun _ => false)) (ph' := true) hKK_104 hcK_104 rfl (fun _ => ((hn_98.trans hn_102).trans hn_106).le) (fun _ => .drop (.keep (fun _ _ h => h) (.keep (fun _ _ h => h) (.keep (fun _ _ h => h) (.nil))))) ?_)
 clear hKK_104 hcK_104 K_104
 refine d_eff 9 rfl (by kernel_rfl) (fun K_111 hKK_111 hcK_111 => ?_)
 refine r_callox (k := 0) (vs := [_, _]) .none rfl cl12 rfl rfl (fun w F hw hA hFG => c_kadd _ _ (lAC) (rA1) _ hti1 hst1 th24 (by decide) (by decide +kernel) w hw hA hFG) (fun G_112 v_115 z_117 hn_113 hr_114 => ?_)
 replace h24 := h24.mono hn_113.le
 replace th24 := th24.mono hn_113.le
 replace h19 := h19.mono hn_113.le
 replace th19 := th19.mono hn_113.le
 replace hi1 := hi1.mono hn_113.le
 replace hst1 := hst1.mono hn_113.le
 obtain ⟨hi2, hti2, hst2⟩ := hr_114
 refine r_nil (e_d (i := 9) (brk := (fun _ => false)) (ph' := true) hKK_111 hcK_111 rfl (fun _ => (((hn_98.trans hn_102).trans hn_106).trans hn_113).le) (fun _ => .drop (.keep (fun _ _ h => h) (.keep (fun _ _ h => h) (.keep (fun _ _ h => h) (.nil))))) ?_)
 clear hKK_111 hcK_111 K_111
 refine d_val1 10 rfl rfl (by kernel_rfl) (fun _ _ => rfl) .none rfl (p_assign rfl) ?_
 refine d_val1 11 rfl rfl (by kernel_rfl) (fun _ _ => rfl) .none rfl (p_assign rfl) ?_
 refine d_nil (by kernel_rfl) ?_
 refine e_next (c_seq (c_region (r_val .none rfl (p_move rfl) ?_)))
 refine r_val .none rfl (p_ldw (k := 3) Try.underlying50 rfl sz50 rfl rfl (rfl : _ = Value.agg #[_, _, _, _, _, _])) ?_
 refine r_val .none rfl (p_ldw (k := 2) Try.underlying50 rfl sz50 rfl rfl (rfl : _ = Value.agg #[_, _, _, _, _, _])) ?_
 refine r_bslice (vs := [(0, Value.agg #[_, _, _, _, _, _]), (1, Value.agg #[_, _, _, _, _, _])]) (c := #[_, _, _, _, _, _, _, _, _, _, _, _]) .none rfl Try.underlying35 el50 rfl rfl rfl (bs50_20a6_1a6 _ _ _ _ _ _ _ _ _ _ _ _) (IsRow.lit _) (fun b_17 => ?_)
 refine r_freezeB (k := 0) 2 6 rfl rfl (by decide) (fun G_118 hn_119 hs_120 => ?_)
 replace h24 := h24.mono hn_119.le
 replace th24 := th24.mono hn_119.le
 replace h19 := h19.mono hn_119.le
 replace th19 := th19.mono hn_119.le
 replace hi1 := hi1.mono hn_119.le
 replace hst1 := hst1.mono hn_119.le
 replace hi2 := hi2.mono hn_119.le
 replace hst2 := hst2.mono hn_119.le
 have h30 : SlL G_118 (Value.slice (some ⟨b_17, 0, none⟩) 2 2) 6 sC s0 [((.mk ⟨1, 0, 0, 0, []⟩ []), Value.slice none 0 0, Value.slice none 0 0), ((.mk ⟨1, 1, 0, 0, []⟩ []), Value.slice none 0 0, Value.slice none 0 0)] := SlG.congr hs_120 (fun i hi j hj => by match i, hi with | 0, _ => (match j, hj with | 0, _ => rfl | 1, _ => rfl | 2, _ => rfl | 3, _ => rfl | 4, _ => rfl | 5, _ => rfl) | 1, _ => (match j, hj with | 0, _ => rfl | 1, _ => rfl | 2, _ => rfl | 3, _ => rfl | 4, _ => rfl | 5, _ => rfl))
 have th30 : Ss G_118 (Value.slice (some ⟨b_17, 0, none⟩) 2 2) (lAB) := Ss.mk _ h30 (by intro p hm0; simp only [List.mem_cons, List.not_mem_nil, or_false] at hm0; rcases hm0 with rfl | rfl; exact SlG.nil _ _ _; exact SlG.nil _ _ _) (by intro p hm0; simp only [List.mem_cons, List.not_mem_nil, or_false] at hm0; rcases hm0 with rfl | rfl; exact Ss.nil; exact Ss.nil)
 refine r_callox (k := 0) (vs := [_, _]) .none rfl cl22 rfl rfl (fun w F hw hA hFG => c_kremY _ _ lAB rA2 _ hti2 hst2 th30 (by decide) (used_add (used_add used0)) (by decide +kernel) (by decide +kernel) w hw hA hFG) (fun G_121 v_124 z_126 hn_122 hr_123 => ?_)
 replace h24 := h24.mono hn_122.le
 replace th24 := th24.mono hn_122.le
 replace h19 := h19.mono hn_122.le
 replace th19 := th19.mono hn_122.le
 replace hi1 := hi1.mono hn_122.le
 replace hst1 := hst1.mono hn_122.le
 replace hi2 := hi2.mono hn_122.le
 replace hst2 := hst2.mono hn_122.le
 replace h30 := h30.mono hn_122.le
 replace th30 := th30.mono hn_122.le
 obtain ⟨⟨v31, rfl, hi3⟩, hti3, hst3⟩ := hr_123
 refine r_val .none rfl (p_move rfl) ?_
 refine r_val .none rfl (p_extract rfl rfl) ?_
 refine r_val .none rfl (p_extract rfl rfl) ?_
 refine r_val .none rfl (p_assign rfl) (r_val .none rfl (p_assign rfl) (r_nil (e_next (c_seq ?_))))
 refine c_region (r_val .none rfl (p_move rfl) ?_)
 refine r_bslice (vs := [(0, Value.int _ _), (1, Value.int _ _)]) (c := #[_, _]) .none rfl Try.underlying33 el3 rfl rfl rfl (bs3_20i2_1i2 _ _ _ _) (IsRow.lit _) (fun b_18 => ?_)
 refine r_freezeB (k := 0) 2 1 rfl rfl (by decide) (fun G_127 hn_128 hs_129 => ?_)
 replace h24 := h24.mono hn_128.le
 replace th24 := th24.mono hn_128.le
 replace h19 := h19.mono hn_128.le
 replace th19 := th19.mono hn_128.le
 replace hi1 := hi1.mono hn_128.le
 replace hst1 := hst1.mono hn_128.le
 replace hi2 := hi2.mono hn_128.le
 replace hst2 := hst2.mono hn_128.le
 replace h30 := h30.mono hn_128.le
 replace th30 := th30.mono hn_128.le
 replace hi3 := hi3.mono hn_128.le
 replace hst3 := hst3.mono hn_128.le
 have h35 : SlL G_127 (Value.slice (some ⟨b_18, 0, none⟩) 2 2) 1 cI (0 : Int) [2, 3] := SlG.congr hs_129 (fun i hi j hj => by match i, hi with | 0, _ => (match j, hj with | 0, _ => rfl) | 1, _ => (match j, hj with | 0, _ => rfl))
 refine r_call (vs := [_, _]) .none rfl cl23 rfl (fun w hw => c_ints15 _ _ _ _ hi1 h35 w hw) ?_
 refine r_val .none rfl (p_move rfl) ?_
 refine r_split (d := 37) rfl (fun h_130 => ?_) (fun h_130 => ?_)
 · (
 refine r_val (.some rfl rfl) rfl (p_move rfl) ?_
 refine r_bslice (vs := [(0, Value.int _ _), (1, Value.int _ _)]) (c := #[_, _]) (.some rfl rfl) rfl Try.underlying33 el3 rfl rfl rfl (bs3_20i2_1i2 _ _ _ _) (IsRow.lit _) (fun b_19 => ?_)
 refine r_freezeB (k := 0) 2 1 rfl rfl (by decide) (fun G_131 hn_132 hs_133 => ?_)
 replace h24 := h24.mono hn_132.le
 replace th24 := th24.mono hn_132.le
 replace h19 := h19.mono hn_132.le
 replace th19 := th19.mono hn_132.le
 replace hi1 := hi1.mono hn_132.le
 replace hst1 := hst1.mono hn_132.le
 replace hi2 := hi2.mono hn_132.le
 replace hst2 := hst2.mono hn_132.le
 replace h30 := h30.mono hn_132.le
 replace th30 := th30.mono hn_132.le
 replace hi3 := hi3.mono hn_132.le
 replace hst3 := hst3.mono hn_132.le
 replace h35 := h35.mono hn_132.le
 have h39 : SlL G_131 (Value.slice (some ⟨b_19, 0, none⟩) 2 2) 1 cI (0 : Int) [2, 4] := SlG.congr hs_133 (fun i hi j hj => by match i, hi with | 0, _ => (match j, hj with | 0, _ => rfl) | 1, _ => (match j, hj with | 0, _ => rfl))
 refine r_call (vs := [_, _]) (.some rfl rfl) rfl cl23 rfl (fun w hw => c_ints15 _ _ _ _ hi2 h39 w hw) ?_
 refine r_val .none rfl (p_pick_t rfl rfl) ?_
 refine r_val .none rfl (p_move rfl) ?_
 refine r_split (d := 42) rfl (fun h_134 => ?_) (fun h_134 => ?_)
 · (
 refine r_val (.some rfl rfl) rfl (p_move rfl) ?_
 refine r_bslice (vs := [(0, Value.int _ _)]) (c := #[_]) (.some rfl rfl) rfl Try.underlying33 el3 rfl rfl rfl (bs3_10i2 _ _) (IsRow.lit _) (fun b_20 => ?_)
 refine r_freezeB (k := 0) 1 1 rfl rfl (by decide) (fun G_135 hn_136 hs_137 => ?_)
 replace h24 := h24.mono hn_136.le
 replace th24 := th24.mono hn_136.le
 replace h19 := h19.mono hn_136.le
 replace th19 := th19.mono hn_136.le
 replace hi1 := hi1.mono hn_136.le
 replace hst1 := hst1.mono hn_136.le
 replace hi2 := hi2.mono hn_136.le
 replace hst2 := hst2.mono hn_136.le
 replace h30 := h30.mono hn_136.le
 replace th30 := th30.mono hn_136.le
 replace hi3 := hi3.mono hn_136.le
 replace hst3 := hst3.mono hn_136.le
 replace h35 := h35.mono hn_136.le
 replace h39 := h39.mono hn_136.le
 have h44 : SlL G_135 (Value.slice (some ⟨b_20, 0, none⟩) 1 1) 1 cI (0 : Int) [3] := SlG.congr hs_137 (fun i hi j hj => by match i, hi with | 0, _ => (match j, hj with | 0, _ => rfl))
 refine r_call (vs := [_, _]) (.some rfl rfl) rfl cl23 rfl (fun w hw => c_ints15 _ _ _ _ hi3 h44 w hw) ?_
 refine r_val .none rfl (p_pick_t rfl rfl) ?_
 refine r_val .none rfl (p_move rfl) ?_
 refine' r_and (c := 47) (d := 50) [_, _, _] rfl (fun h_138 Q_139 hQ_140 => ?_) (fun h_138 Q_139 hQ_140 => ?_) ?_
 rotate_left 1
 · (
 refine r_val (.some rfl rfl) rfl (p_move rfl) ?_
 refine r_val (.some rfl rfl) rfl (p_eq rfl rfl) ?_
 refine r_val .none rfl (p_pick_t rfl rfl) ?_
 refine r_nil (e_fin (d := 50) hQ_140 rfl (by repeat (first | exact .refl | refine .put rfl ?_ | refine .say rfl ?_ | refine .say2 rfl (by first | assumption | simp_all) ?_))))
 · (
 repeat (first | refine r_skip rfl (.no rfl rfl) ?_ | refine r_skip rfl (.un rfl rfl) ?_)
 refine r_val (by first | exact .none | exact .some rfl rfl) rfl (p_pick_f rfl rfl) ?_
 refine r_nil (e_fin (d := 50) hQ_140 rfl (by repeat (first | exact .refl | refine .put rfl ?_ | refine .say rfl ?_ | refine .say2 rfl (by first | assumption | simp_all) ?_))))
 refine r_val .none rfl (p_move rfl) ?_
 refine' r_and (c := 51) (d := 55) [_, _, _, _] rfl (fun h_142 Q_143 hQ_144 => ?_) (fun h_142 Q_143 hQ_144 => ?_) ?_
 rotate_left 1
 · (
 try simp only [norms] at h_142
 refine r_val (.some rfl rfl) rfl (p_move rfl) ?_
 refine r_callo (k := 0) (vs := [_]) (.some rfl rfl) rfl cl15 rfl rfl (fun w F hw hA hFG => trie_see0 (R := fun r => r = Value.int .i64 ((remR rA2 lAB).its.countP (fun x => !x.2) + 1 : Nat)) (fun l G' F' hl hle hn9 hG hA hF => by (have h9 := c_klen _ l _ _ (seen_of hti3.kc hst3 hl hn9 hle) w hG hA hF; rw [← eraK_len l, ← hl, hti3.len, all_count] at h9; exact h9)) hw hA hFG) ?_
 refine r_val (.some rfl rfl) rfl (p_eq rfl rfl) ?_
 refine r_val .none rfl (p_pick_t rfl rfl) ?_
 refine r_nil (e_fin (d := 55) hQ_144 rfl (by repeat (first | exact .refl | refine .put rfl ?_ | refine .say rfl ?_ | refine .say2 rfl (by first | assumption | simp_all) ?_))))
 · (
 repeat (first | refine r_skip rfl (.no rfl rfl) ?_ | refine r_skip rfl (.un rfl rfl) ?_)
 refine r_val (by first | exact .none | exact .some rfl rfl) rfl (p_pick_f rfl rfl) ?_
 refine r_nil (e_fin (d := 55) hQ_144 rfl (by repeat (first | exact .refl | refine .put rfl ?_ | refine .say rfl ?_ | refine .say2 rfl (by first | assumption | simp_all) ?_))))
 refine r_val .none rfl (p_assign rfl) (r_nil (e_next ?_))
 refine c_ret ?_
 refine e_ret1 Try.results8 (.tmp rfl .nil) (fun w hm => ⟨?_, hm.since⟩)
 exact congrArg Value.bool (by decide +kernel))
 · (
 have hx : False := (by first | exact absurd (h_134) (by decide +kernel) | omega)
 exact hx.elim))
 · (
 have hx : False := (by first | exact absurd (h_130) (by decide +kernel) | omega)
 exact hx.elim))
end Go.Proofs.Ytdkfdncbldngdaa

/- Plain laws of tries: lists that come, one behind the other; no program in sight. -/
namespace Go.Gx.T16
open Go.Gx Go.Gx.T3 Go.Gx.T4 Go.Gx.T6 Go.Gx.T8
theorem ss_len {G : Ghost} {v : Value} {l : List ST} (h : Ss G v l) : ∃ a c, v = .slice a l.length c := by
  cases h with
  | mk rs h _ _ => obtain ⟨a, c, e⟩ := SlG.len h; exact ⟨a, c, by simpa using e⟩
def adds : RT → List (List ST) → RT
  | R, [] => R
  | R, l :: t => adds (addR R l) t
/-- Nothing is out. -/
def Live (R : RT) : Prop := ∀ x ∈ R.its, x.2 = false
def dist : List (List ST) → List (List ST) → List (List ST)
  | acc, [] => acc
  | acc, c :: t => dist (if acc.any (ceq · c) = true then acc else acc ++ [c]) t
/-- The steps of the first lists. -/
def stp (ls : List (List CT × Value)) (k : Nat) : List (List ST) := (ls.take k).map fun q => stepsOf [] q.1
theorem any_next {zs : List (List ST)} {k : Nat} {c d : List ST} (h : zs[k]? = some d) : (zs.take (k + 1)).any (ceq · c) = ((zs.take k).any (ceq · c) || ceq d c) := by
  obtain ⟨hlt, h2⟩ := List.getElem?_eq_some_iff.1 h
  rw [List.take_succ_eq_append_getElem hlt, List.any_append, h2]
  simp
end Go.Gx.T16

/- Walks: what Go functions of this chapter come to, each as a function on plain data; no condition but those that each theorem names. Printed by a program of this work (gen.py). -/
namespace Go.Proofs.Ytdkfdncbldngdaa
open Go.Gx Go.Gx.T16 Go.Gx.T8 Go.Gx.T6 Go.Gx.T4 Go.Gx.T3 Go.Gx.T4 Go.Gx.T3 Go.Gx.T6 Go.Gx.T8 Go.Gx.T4 Go.Gx.T3 Go.Gx.T8 Go.Gx.T4 Go.Gx.T3 Go.Gx.T8 Go.Gx.T6 Go.Gx.T4 Go.Gx.T3
theorem cl36 : Callable Try.prog 36 := callable Try.func36 (by kernel_rfl) rfl
end Go.Proofs.Ytdkfdncbldngdaa

/- Plain laws of tries: whatever the order; no program in sight. -/
namespace Go.Gx.T16
open Go.Gx Go.Gx.T3 Go.Gx.T4 Go.Gx.T6 Go.Gx.T8
end Go.Gx.T16

/- Walks: what Go functions of this chapter come to, each as a function on plain data; no condition but those that each theorem names. Printed by a program of this work (gen.py). -/
namespace Go.Proofs.Ytdkfdncbldngdaa
open Go.Gx Go.Gx.T16 Go.Gx.T8 Go.Gx.T6 Go.Gx.T4 Go.Gx.T3 Go.Gx.T4 Go.Gx.T3 Go.Gx.T6 Go.Gx.T8 Go.Gx.T4 Go.Gx.T3 Go.Gx.T8 Go.Gx.T4 Go.Gx.T3 Go.Gx.T8 Go.Gx.T6 Go.Gx.T4 Go.Gx.T3
theorem cl8 : Callable Try.prog 8 := callable Try.func8 (by kernel_rfl) rfl
theorem cl9 : Callable Try.prog 9 := callable Try.func9 (by kernel_rfl) rfl
theorem cl10 : Callable Try.prog 10 := callable Try.func10 (by kernel_rfl) rfl
theorem cl19 : Callable Try.prog 19 := callable Try.func19 (by kernel_rfl) rfl
theorem cl20 : Callable Try.prog 20 := callable Try.func20 (by kernel_rfl) rfl
end Go.Proofs.Ytdkfdncbldngdaa

/-
  GX: an object that is a box with a row of elements (a list behind a pointer): it is frozen for calls that only read it. Generic in the program.
-/
namespace Go.Gx
open Go.RowKit
/-! ### a cut: what stands behind a piece of code is shown once, for all the states in which the piece may end -/
def robv {α : Type} (T E : TypeId) (sz : Nat) (cells : α → List Value) (b : Nat) (v : Value) (l : List α) : Asrt := starL [box b 1 T (at_ [v]), rowA v E sz l.length (l.flatMap cells)]
def robj {α : Type} (T E : TypeId) (sz : Nat) (cells : α → List Value) (b : Nat) (l : List α) : Asrt := exA fun v : Value => starL [box b 1 T (at_ [v]), rowA v E sz l.length (l.flatMap cells)]
section
variable {P : Program} {f : FuncId} {vs : Array Value} {α : Type} {T E : TypeId} {sz : Nat} {cells : α → List Value} {b : Nat} {l : List α} {G : Ghost} {w : World} {F : Nat → Prop}
theorem pure_inR {A : Asrt} {w : World} {F : Nat → Prop} (h : A.holds w F) : (starL [A, pureA True]).holds w F := (starL_two w F).2 ((star_tt A w F).2 h)
end
end Go.Gx

/- The document's trie in memory: lists, chains, which are out; no program in sight. -/
namespace Go.Gx.T16
open Go.Gx Go.Gx.T3 Go.Gx.T4 Go.Gx.T6 Go.Gx.T8
abbrev IV := (List ST × Value) × Bool
abbrev iv0 : IV := (es6, false)
def oC (b : Bool) : List Value := [.int .i64 (vi b)]
def itsV (iv : List IV) : List It := iv.map fun q => (q.1.1, q.2)
def RV (ls : List (List ST × Value)) (iv : List IV) : RT := ⟨ls.map Prod.fst, itsV iv⟩
abbrev cV (iv : List IV) (k : Nat) : List ST := ((iv.map Prod.fst).getD k es6).1
abbrev oV (iv : List IV) (k : Nat) : Bool := (iv.map Prod.snd).getD k false
theorem itsV_get {iv : List IV} {k : Nat} (h : k < iv.length) : (itsV iv)[k]? = some (cV iv k, oV iv k) := by
  simp [itsV, cV, oV, List.getD, h]
theorem itsV_len (iv : List IV) : (itsV iv).length = iv.length := List.length_map _
theorem itsV_drop {iv : List IV} {k : Nat} (h : k < iv.length) : (itsV iv).drop k = (cV iv k, oV iv k) :: (itsV iv).drop (k + 1) := by
  have h1 := itsV_get h
  obtain ⟨hlt, h2⟩ := List.getElem?_eq_some_iff.1 h1
  rw [List.drop_eq_getElem_cons hlt, h2]
theorem itsV_take {iv : List IV} {k : Nat} (h : k < iv.length) : (itsV iv).take (k + 1) = (itsV iv).take k ++ [(cV iv k, oV iv k)] := by
  have h1 := itsV_get h
  obtain ⟨hlt, h2⟩ := List.getElem?_eq_some_iff.1 h1
  rw [List.take_succ_eq_append_getElem hlt, h2]
theorem findF_no {iv : List IV} {k : Nat} {c : List ST} {i : Int} (h : k < iv.length) (hn : oV iv k = true ∨ ceq (cV iv k) c = false) : findF c ((itsV iv).drop k) i = findF c ((itsV iv).drop (k + 1)) (i + 1) := by
  rw [itsV_drop h, findF, if_neg]
  rintro ⟨h1, h2⟩
  rcases hn with hn | hn
  · simp only at h1; rw [hn] at h1; cases h1
  · simp only at h2; rw [hn] at h2; cases h2
theorem findF_yes {iv : List IV} {k : Nat} {c : List ST} {i : Int} (h : k < iv.length) (h1 : oV iv k = false) (h2 : ceq (cV iv k) c = true) : findF c ((itsV iv).drop k) i = i := by
  rw [itsV_drop h, findF, if_pos ⟨h1, h2⟩]
theorem findF_end {iv : List IV} {k : Nat} {c : List ST} {i : Int} (h : iv.length ≤ k) : findF c ((itsV iv).drop k) i = 0 := by
  rw [List.drop_eq_nil_of_le (by rw [itsV_len]; exact h)]; rfl
theorem nums_next {p : List ST → Bool} {iv : List IV} {k : Nat} {i : Int} (h : k < iv.length) : numsF p ((itsV iv).take (k + 1)) i = numsF p ((itsV iv).take k) i ++ if oV iv k = false ∧ p (cV iv k) = true then [i + k] else [] := by
  rw [itsV_take h, numsF_append]
  congr 1
  rw [numsF, List.length_take, itsV_len, Nat.min_eq_left (by omega)]
  split <;> rfl
theorem uses_next {ls : List (List ST × Value)} {k : Nat} {c : List ST} (h : k < ls.length) : ((ls.map Prod.fst).take (k + 1)).countP (usesOf c) = ((ls.map Prod.fst).take k).countP (usesOf c) + if usesOf c (ls.getD k es6).1 = true then 1 else 0 := by
  rw [map_take (d := es6) h, List.countP_append, List.countP_cons, List.countP_nil]
  simp
theorem box_rowA {b n m sz : Nat} {E : TypeId} {f : Nat → Value} (hm : m = n * sz) (hn : n ≤ 1000) {w : World} {F : Nat → Prop} (h : (box b m E f).holds w F) : (rowA (.slice (some ⟨b, 0, none⟩) n n) E sz n (row f 0 (n * sz))).holds w F := by
  obtain ⟨⟨c, h1, h2⟩, hF⟩ := h
  subst hm
  refine ⟨⟨row_length _ _ _, .inr ⟨b, n, c, rfl, Nat.zero_le _, h1, Nat.le_refl _, by simp only [maxLen]; omega, h2.size, ?_⟩⟩, fun k => ⟨fun h => by rw [(hF k).1 h]; rfl, fun h => by simp [Value.ownBlock] at h; exact (hF k).2 h.symm⟩, by simp only [maxLen]; omega⟩
  have e := h2.eq
  rw [e]
  simp [List.take_of_length_le, row_length]
theorem inner_len0 {R : RT} {c : List ST} (h : c.length = 0) : inner R c = 0 := by
  rw [List.eq_nil_of_length_eq_zero h]; rfl
theorem inner_snoc {R : RT} {c : List ST} {rs : List SVal} {n : Nat} (h : c = rs.map Prod.fst) (hn : rs.length = n + 1) : inner R c = if (rs.getD n s0).1.h.k = 3 then find R ((rs.map Prod.fst).take n ++ (rs.getD n s0).1.subs) else 0 := by
  have e : c = (rs.map Prod.fst).take n ++ [(rs.getD n s0).1] := by rw [h, ← sv_take (k := n) (by omega), List.take_of_length_le (by rw [List.length_map]; omega)]
  unfold inner
  rw [e, innerOf_snoc]
  split <;> rename_i h1 <;> split at h1 <;> simp_all
theorem s_subs_ssz (s : ST) : sszL s.subs ≤ ssz s := by
  have := ssz_eq s
  omega
/-- A number's chain, as it lies in memory. -/
def chV (iv : List IV) (id : Int) : Value := if id = 1 then .slice none 0 0 else ((iv.map Prod.fst).getD (id - 2).toNat es6).2
theorem getRV {ls : List (List ST × Value)} {iv : List IV} {id : Int} {c : List ST} (h1 : id ≠ 1) (h : getR (RV ls iv) id = some c) : ∃ j : Nat, id = j + 2 ∧ j < iv.length ∧ cV iv j = c ∧ oV iv j = false := by
  rcases getR_iff.1 h with ⟨h2, _⟩ | ⟨_, j, h2, h3⟩
  · exact absurd h2 h1
  · have h3' : (itsV iv)[j]? = some (c, false) := h3
    obtain ⟨hlt, _⟩ := List.getElem?_eq_some_iff.1 h3'
    rw [itsV_len] at hlt
    rw [itsV_get hlt] at h3'
    simp only [Option.some.injEq, Prod.mk.injEq] at h3'
    exact ⟨j, h2, hlt, h3'.1, h3'.2⟩
theorem getRV_no {ls : List (List ST × Value)} {iv : List IV} {j : Nat} (hj : j < iv.length) (h : getR (RV ls iv) ((j : Int) + 2) = none) : oV iv j = true := by
  cases e : oV iv j with
  | true => rfl
  | false =>
    have : getR (RV ls iv) ((j : Int) + 2) = some (cV iv j) := getR_iff.2 (.inr ⟨by omega, j, rfl, by show (itsV iv)[j]? = _; rw [itsV_get hj, e]⟩)
    rw [h] at this; cases this
theorem chV_ss {G : Ghost} {ls : List (List ST × Value)} {iv : List IV} {id : Int} {c : List ST} (hCS : StC G (iv.map Prod.fst)) (h : getR (RV ls iv) id = some c) : Ss G (chV iv id) c := by
  unfold chV
  by_cases h1 : id = 1
  · subst h1
    rw [if_pos rfl]
    have : c = [] := (Option.some.inj (show some [] = some c from h)).symm
    rw [this]; exact Ss.nil
  · obtain ⟨j, h2, h3, h4, _⟩ := getRV h1 h
    rw [if_neg h1, show (id - 2).toNat = j by omega, ← h4]
    exact hCS _ (getD_mem (by rw [List.length_map]; exact h3))
section
variable (T E1 E2 : TypeId) (b : Nat) (ls : List (List ST × Value)) (iv : List IV)
def rtL (t : Value × Value × Value) : List Asrt := [box b 3 T (at_ [t.1, t.2.1, t.2.2]), rowA t.1 E1 1 ls.length (ls.flatMap lC), rowA t.2.1 E1 1 (iv.map Prod.fst).length ((iv.map Prod.fst).flatMap lC), rowA t.2.2 E2 1 (iv.map Prod.snd).length ((iv.map Prod.snd).flatMap oC)]
def rtA : Asrt := exA fun t : Value × Value × Value => starL (rtL T E1 E2 b ls iv t)
end
structure RSeen (G : Ghost) (b : Nat) (va vb vc : Value) (ls : List (List ST × Value)) (iv : List IV) : Prop where
  row : RowAt G b 0 3 (at_ [va, vb, vc])
  l : SlL G va 1 lC es6 ls
  c : SlL G vb 1 lC es6 (iv.map Prod.fst)
  o : SlL G vc 1 oC false (iv.map Prod.snd)
section
variable {T E1 E2 : TypeId} {b : Nat} {ls : List (List ST × Value)} {iv : List IV}
variable {P : Program} {f : FuncId} {vs : Array Value} {G : Ghost} {w : World} {F : Nat → Prop}
theorem rt_freeze {F1 : Nat → Prop} (hM : Mem F1 w G w [rtA T E1 E2 b ls iv]) : ∃ G', GNew w F1 G G' ∧ (∃ va vb vc, RSeen G' b va vb vc ls iv) ∧ Has G' w := by
  obtain ⟨⟨va, vb, vc⟩, hv⟩ := hM.unex
  obtain ⟨G1, n1, r1, h1⟩ := hv.unpack.freezeX (k := 0) rfl
  obtain ⟨G2, n2, r2, h2⟩ := h1.freeze (k := 0) rfl
  obtain ⟨G3, n3, r3, h3⟩ := h2.freeze (k := 0) rfl
  obtain ⟨G4, n4, r4, h4⟩ := h3.freeze (k := 0) rfl
  exact ⟨G4, ((n1.trans n2).trans n3).trans n4, ⟨va, vb, vc, r1.mono (GLe.trans n2.le (GLe.trans n3.le n4.le)), (SlL.of (cells := lC) es6 (fun _ => rfl) rfl r2).mono (GLe.trans n3.le n4.le), (SlL.of (cells := lC) es6 (fun _ => rfl) rfl r3).mono n4.le, SlL.of (cells := oC) false (fun _ => rfl) rfl r4⟩, h4.has⟩
/-- A call that reads it. -/
theorem rt_see {R : Value → Prop} (hc : ∀ (G' : Ghost) (va vb vc : Value), GLe G G' → RSeen G' b va vb vc ls iv → Has G' w → Calls P f vs w (Ret fun r w' => R r ∧ Since nX w w'))
    (hG : Has G w) (hA : (rtA T E1 E2 b ls iv).holds w F) (hF : ∀ b, F b → G b = none) : Calls P f vs w (Ret fun r w' => R r ∧ Kept (rtA T E1 E2 b ls iv) F w w') := by
  refine (with_seen (H := rtA T E1 E2 b ls iv) (A := pureA True) (B := fun _ => pureA True) (R := R) (S := fun G' => ∃ va vb vc, RSeen G' b va vb vc ls iv) (fun F1 hM => rt_freeze hM) (fun G' F' hle hS hG' hA' _ => ?_) hG (pure_inR hA) hF).mono (fun e w' hR => ?_)
  · obtain ⟨va, vb, vc, h1⟩ := hS
    refine (hc G' va vb vc hle h1 hG').mono (fun e w' hR => ?_)
    cases e with
    | returned r => exact ⟨hR.1, ⟨hR.2.os, hR.2.tape, hR.2.output, hR.2.size, fun k hk _ => hR.2.block k hk id⟩, fun _ => False, ⟨trivial, fun _ h => h⟩, fun _ h => h.elim⟩
    | panicked c => exact hR.elim
    | outgrown => exact hR.elim
  · cases e with
    | returned r => exact ⟨hR.1, hR.2.imp (fun w F h => (star_tt _ w F).1 ((starL_two w F).1 h))⟩
    | panicked c => exact hR.elim
    | outgrown => exact hR.elim
end
theorem itsV_snoc (iv : List IV) (x : IV) : itsV (iv ++ [x]) = itsV iv ++ [(x.1.1, x.2)] := by simp [itsV]
theorem RV_push {ls : List (List ST × Value)} {iv : List IV} {R : RT} {c : List ST} {v : Value} (h : RV ls iv = R) : RV ls (iv ++ [((c, v), false)]) = push R c := by
  subst h
  unfold RV push
  rw [itsV_snoc]
theorem RV_find {ls : List (List ST × Value)} {iv : List IV} {R : RT} {c : List ST} (h : RV ls iv = R) : find (RV ls iv) c = find R c := by rw [h]
theorem RV_lists {ls ls' : List (List ST × Value)} {iv : List IV} {R : RT} (h : RV ls iv = R) : RV ls' iv = ⟨ls'.map Prod.fst, R.its⟩ := by subst h; rfl
theorem RV_add {ls : List (List ST × Value)} {iv iv2 : List IV} {cl : List ST} {v : Value} (h : RV ls iv2 = pushes (RV ls iv) (schains [] cl)) : RV (ls ++ [(cl, v)]) iv2 = addR (RV ls iv) cl := by
  rw [RV_lists h, List.map_append]
  rfl
section
variable {T E1 E2 : TypeId} {b : Nat} {ls : List (List ST × Value)} {iv : List IV} {t : Value × Value × Value}
variable {P : Program} {ops : Array Oper} {Q : Exit → Act → World → Prop} {N : Nat} {X : Nat → Prop} {w0 w : World} {G : Ghost} {fr : List (Nat × Value)} {L : List Asrt} {rest : List Oper} {c : Code} {e : Exit}
theorem Mem.shutX (h : Mem X w0 G w (rtL T E1 E2 b ls iv t ++ L)) : Mem X w0 G w (rtA T E1 E2 b ls iv :: L) := by
  obtain ⟨F, h1, h2, h3⟩ := Sep.packL (rtL T E1 E2 b ls iv t) h.sep
  exact ⟨h.since, h.has, F, ⟨t, h1⟩, h2, h3⟩
theorem r_shutX (va vb vc : Value) (H : Runs P ops Q N X w0 G rest fr (rtA T E1 E2 b ls iv :: L)) : Runs P ops Q N X w0 G rest fr (box b 3 T (at_ [va, vb, vc]) :: rowA va E1 1 ls.length (ls.flatMap lC) :: rowA vb E1 1 (iv.map Prod.fst).length ((iv.map Prod.fst).flatMap lC) :: rowA vc E2 1 (iv.map Prod.snd).length ((iv.map Prod.snd).flatMap oC) :: L) := fun a w hS => H a w ⟨hS.fr, Mem.shutX (t := (va, vb, vc)) hS.mem⟩
theorem e_shutX (va vb vc : Value) (H : ERuns Q e N X w0 G fr (rtA T E1 E2 b ls iv :: L)) : ERuns Q e N X w0 G fr (box b 3 T (at_ [va, vb, vc]) :: rowA va E1 1 ls.length (ls.flatMap lC) :: rowA vb E1 1 (iv.map Prod.fst).length ((iv.map Prod.fst).flatMap lC) :: rowA vc E2 1 (iv.map Prod.snd).length ((iv.map Prod.snd).flatMap oC) :: L) := fun a w hS => H a w ⟨hS.fr, Mem.shutX (t := (va, vb, vc)) hS.mem⟩
end
/-! ### a list fewer, as it lies in memory -/
def remP (cl : List ST) : List (List ST × Value) → List (List ST × Value)
  | [] => []
  | x :: t => if ceq x.1 cl = true then t else x :: remP cl t
theorem remP_map (cl : List ST) : ∀ l : List (List ST × Value), (remP cl l).map Prod.fst = remL cl (l.map Prod.fst)
  | [] => rfl
  | x :: t => by
    rw [remP, List.map_cons, remL]
    split
    · rfl
    · rw [List.map_cons, remP_map cl t]
theorem remP_none {cl : List ST} : ∀ {l : List (List ST × Value)}, (l.map Prod.fst).any (ceq · cl) = false → remP cl l = l
  | [], _ => rfl
  | x :: t, h => by
    rw [List.map_cons, List.any_cons, Bool.or_eq_false_iff] at h
    rw [remP, if_neg (by rw [h.1]; simp), remP_none h.2]
theorem remP_snoc {cl : List ST} {x : List ST × Value} : ∀ {l : List (List ST × Value)}, remP cl (l ++ [x]) = if (l.map Prod.fst).any (ceq · cl) = true then remP cl l ++ [x] else if ceq x.1 cl = true then l else l ++ [x]
  | [] => by simp [remP]
  | y :: t => by
    rw [List.cons_append, remP, List.map_cons, List.any_cons]
    by_cases h : ceq y.1 cl = true
    · rw [if_pos h, h, Bool.true_or, if_pos rfl, remP, if_pos h]
    · have h' : ceq y.1 cl = false := by simpa using h
      rw [if_neg h, h', Bool.false_or, remP_snoc (l := t), remP, if_neg h]
      split
      · rfl
      · split <;> rfl
theorem remP_mem {cl : List ST} : ∀ {l : List (List ST × Value)}, ∀ x ∈ remP cl l, x ∈ l
  | [], x, h => by cases h
  | y :: t, x, h => by
    rw [remP] at h
    split at h
    · exact List.mem_cons_of_mem _ h
    · rcases List.mem_cons.1 h with rfl | h
      · simp
      · exact List.mem_cons_of_mem _ (remP_mem x h)
theorem remP_len {cl : List ST} : ∀ (l : List (List ST × Value)), (remP cl l).length ≤ l.length
  | [] => Nat.le_refl _
  | y :: t => by have := remP_len (cl := cl) t; rw [remP]; split <;> simp <;> omega
/-- What is out is marked, from a place on. -/
def mk1 (d : List ST → Bool) (q : IV) : IV := (q.1, q.2 || d q.1.1)
def mkV (d : List ST → Bool) (iv : List IV) (n : Nat) : List IV := iv.take n ++ (iv.drop n).map (mk1 d)
theorem mkV_fst (d : List ST → Bool) (iv : List IV) (n : Nat) : (mkV d iv n).map Prod.fst = iv.map Prod.fst := by
  unfold mkV
  rw [List.map_append, List.map_map]
  have : (iv.drop n).map (Prod.fst ∘ mk1 d) = (iv.drop n).map Prod.fst := List.map_congr_left fun _ _ => rfl
  rw [this, ← List.map_append, List.take_append_drop]
theorem mkV_len (d : List ST → Bool) (iv : List IV) (n : Nat) : (mkV d iv n).length = iv.length := by
  have := congrArg List.length (mkV_fst d iv n)
  rwa [List.length_map, List.length_map] at this
theorem mkV_all (d : List ST → Bool) {iv : List IV} {n : Nat} (h : iv.length ≤ n) : mkV d iv n = iv := by
  unfold mkV
  rw [List.take_of_length_le h, List.drop_eq_nil_of_le h, List.map_nil, List.append_nil]
theorem mkV_zero (d : List ST → Bool) (iv : List IV) : mkV d iv 0 = iv.map (mk1 d) := rfl
theorem iv_drop {iv : List IV} {m : Nat} (h : m < iv.length) : iv.drop m = iv.getD m iv0 :: iv.drop (m + 1) := by
  rw [List.drop_eq_getElem_cons h]; simp [List.getD, List.getElem?_eq_getElem h]
theorem iv_take {iv : List IV} {m : Nat} (h : m < iv.length) : iv.take (m + 1) = iv.take m ++ [iv.getD m iv0] := by
  rw [List.take_succ_eq_append_getElem h]; simp [List.getD, List.getElem?_eq_getElem h]
theorem mkV_step (d : List ST → Bool) {iv : List IV} {m : Nat} (h : m < iv.length) : mkV d iv m = iv.take m ++ mk1 d (iv.getD m iv0) :: (iv.drop (m + 1)).map (mk1 d) := by
  unfold mkV
  rw [iv_drop h, List.map_cons]
theorem mkV_step' (d : List ST → Bool) {iv : List IV} {m : Nat} (h : m < iv.length) : mkV d iv (m + 1) = iv.take m ++ iv.getD m iv0 :: (iv.drop (m + 1)).map (mk1 d) := by
  unfold mkV
  rw [iv_take h, List.append_assoc]
  rfl
theorem oV_get {iv : List IV} {m : Nat} (h : m < iv.length) : oV iv m = (iv.getD m iv0).2 := by
  simp [oV, List.getD, h]
theorem cV_get {iv : List IV} {m : Nat} (h : m < iv.length) : cV iv m = (iv.getD m iv0).1.1 := by
  simp [cV, List.getD, h]
theorem mkV_o (d : List ST → Bool) {iv : List IV} {m : Nat} (h : m < iv.length) : ((mkV d iv (m + 1)).map Prod.snd).getD m false = oV iv m := by
  rw [mkV_step' d h, List.map_append, oV_get h]
  have hl : (List.map Prod.snd (iv.take m)).length = m := by rw [List.length_map, List.length_take]; omega
  rw [List.getD, List.getElem?_append_right (by omega), hl]
  simp
theorem mkV_same (d : List ST → Bool) {iv : List IV} {m : Nat} (h : m < iv.length) (hd : oV iv m = true ∨ d (cV iv m) = false) : mkV d iv m = mkV d iv (m + 1) := by
  rw [mkV_step d h, mkV_step' d h]
  congr 2
  unfold mk1
  rw [oV_get h, cV_get h] at hd
  generalize iv.getD m iv0 = q at hd ⊢
  obtain ⟨a, o⟩ := q
  rcases hd with hd | hd
  · simp only at hd; subst hd; rfl
  · simp only at hd; rw [hd, Bool.or_false]
theorem mkV_set (d : List ST → Bool) {iv : List IV} {m : Nat} (h : m < iv.length) (hd : d (cV iv m) = true) : (mkV d iv m).map Prod.snd = ((mkV d iv (m + 1)).map Prod.snd).set m true := by
  rw [mkV_step d h, mkV_step' d h, List.map_append, List.map_append]
  have hl : (List.map Prod.snd (iv.take m)).length = m := by rw [List.length_map, List.length_take]; omega
  rw [List.set_append_right _ _ (by omega), hl, Nat.sub_self]
  simp only [List.map_cons, List.set_cons_zero]
  rw [cV_get h] at hd
  unfold mk1
  rw [hd, Bool.or_true]
theorem mkV_its (d : List ST → Bool) (iv : List IV) : itsV (mkV d iv 0) = (itsV iv).map fun x => (x.1, x.2 || d x.1) := by
  rw [mkV_zero]
  simp [itsV, mk1]
theorem nums_down {p : List ST → Bool} {iv : List IV} {m : Nat} (h : m < iv.length) : numsF p ((itsV iv).drop m) (2 + (m : Int)) = (if oV iv m = false ∧ p (cV iv m) = true then [2 + (m : Int)] else []) ++ numsF p ((itsV iv).drop (m + 1)) (2 + ((m + 1 : Nat) : Int)) := by
  rw [itsV_drop h, numsF]
  have e : (2 : Int) + (m : Int) + 1 = 2 + ((m + 1 : Nat) : Int) := by push_cast; omega
  rw [e]
  split <;> rfl
end Go.Gx.T16

/- Walks: what Go functions of this chapter come to, each as a function on plain data; no condition but those that each theorem names. Printed by a program of this work (gen.py). -/
namespace Go.Proofs.Ytdkfdncbldngdaa
open Go.Gx Go.Gx.T16 Go.Gx.T8 Go.Gx.T6 Go.Gx.T4 Go.Gx.T3 Go.Gx.T4 Go.Gx.T3 Go.Gx.T6 Go.Gx.T8 Go.Gx.T4 Go.Gx.T3 Go.Gx.T8 Go.Gx.T4 Go.Gx.T3 Go.Gx.T8 Go.Gx.T6 Go.Gx.T4 Go.Gx.T3
theorem sz26 : SzIs Try.prog 26 1 := by
 unfold SzIs
 kernel_rfl
theorem cl71 : Callable Try.prog 71 := callable Try.func71 (by kernel_rfl) rfl
theorem c_rhas16 (v v2 : Value) (l c : List ST) {G : Ghost} (hs : Ss G v l) (hs2 : Ss G v2 c) (hsz : sszL l ≤ 4000) (w : World) (hG : Has G w) :
    Calls Try.prog 71 #[v, v2] w (Ret fun r w' => r = Value.bool ((schains [] l).any (ceq · c)) ∧ Since nX w w') := by
 refine enter (args := [_, _]) (X := nX) (G := G) (l := [(0, v), (1, v2)]) Try.func71 rfl Try.ntmps71 hG ⟨rfl, rfl, trivial⟩ (Nat.le_of_ble_eq_true rfl) ?_
 refine c_seq (c_region (r_val .none rfl (p_assign rfl) (r_nil (e_next ?_))))
 refine c_seq (c_seq (c_region (r_val .none rfl (p_move rfl) ?_)))
 refine r_nilrow 90 6 ?_
 refine r_callom (k := 0) (vs := [_, _]) .none rfl cl14 rfl rfl (fun w F hw hA hFG => c_rchS _ _ [] l (by simp only [List.length_nil]; omega) (by simp) (by simp) hs w hw hA hFG) (fun G_1 v_4 hn_2 hr_3 => ?_)
 replace hs := hs.mono hn_2.le
 replace hs2 := hs2.mono hn_2.le
 obtain ⟨cq, hcq, hcp, hcl⟩ := hr_3
 replace hcl : schains [] l = cq.map Prod.fst := hcl
 refine r_val .none rfl (p_leng Try.underlying26 rfl hcq) ?_
 have bd_6 := (hcq).bound
 refine r_val .none rfl (p_move rfl) (r_nil (e_next (c_block ?_)))
 refine c_name (d := 1) rfl (fun u_7 hu_7 => ?_)
 refine c_name (d := 8) rfl (fun u_8 hu_8 => ?_)
 refine c_name (d := 9) rfl (fun u_9 hu_9 => ?_)
 refine c_nameL (k := 0) rfl (fun A_10 hA_10 => ?_)
 refine c_loop (σ := Nat) (fun j => [(10, Value.int .i64 (j : Nat)), (1, u_7), (8, u_8), (9, u_9)]) (fun j => [A_10]) (fun _ => _) (fun j => j ≤ cq.length ∧ ((cq.map Prod.fst).take j).any (ceq · c) = false) (fun j => cq.length - j) (0) ⟨Nat.zero_le _, by simp⟩ rfl ⟨rfl, rfl, rfl, rfl, trivial⟩ (.keep (fun _ _ h => h) (.nil)) (fun j hphi => ?_)
 subst hu_7
 subst hu_8
 subst hu_9
 subst hA_10
 refine c_seq (c_region ?_)
 refine r_val .none rfl (p_lt rfl rfl) ?_
 refine r_nil (e_next (c_seq ?_))
 refine c_splitd (d := 11) rfl (fun h_11 => ?_) (fun h_11 => ?_)
 · (
 first
 | (exfalso; omega)
 | (
 refine c_cond_t rfl (c_skip (e_next (c_seq (c_block ?_))))
 refine c_seq (c_region ?_)
 refine r_iaddr_g .none rfl Try.underlying26 sz29 rfl hcq rfl (by first | exact odt rfl | omega) (fun p_13 o_14 R_12 => ?_)
 have hc_15 := hcp _ (getD_mem (i := j) (d := es6) (by first | omega | (rw [List.length_map]; omega)))
 refine r_val .none rfl (p_ldg0 Try.underlying29 rfl rfl R_12 (by first | exact odt rfl | omega) rfl) ?_
 refine r_val .none rfl (p_assign rfl) (r_nil (e_next (c_seq (c_region ?_))))
 refine r_val .none rfl (p_move rfl) (r_val .none rfl (p_move rfl) ?_)
 refine r_call (vs := [_, _]) .none rfl cl36 rfl (fun w hw => c_all8 _ _ (cq.getD j es6).1 c hc_15 hs2 w hw) ?_
 refine r_nil (e_next ?_)
 refine c_split (d := 16) rfl (fun h_16 => ?_) (fun h_16 => ?_)
 · (
 have hE := h_16
 first
 | (exfalso; omega)
 | (
 refine c_cond_t rfl (c_seq (c_region (r_val .none rfl (p_assign rfl) (r_nil ?_))))
 refine e_next ?_
 refine c_ret ?_
 refine e_ret_block ?_
 refine e_ret_then ?_
 refine e_ret_then ?_
 refine e_ret_block ?_
 refine e_ret_then ?_
 refine e_ret1 Try.results71 (.tmp rfl .nil) (fun w hm => ⟨?_, hm.since⟩)
 first
 | (rw [hcl, List.any_eq_true.2 ⟨(cq.getD j es6).1, List.mem_map.2 ⟨_, getD_mem (by omega), rfl⟩, hE⟩]; done)
 | (have h9 := hphi.2; rw [List.take_of_length_le (by rw [List.length_map]; omega)] at h9; rw [hcl, h9]; done)))
 · (
 have hE := h_16
 first
 | (exfalso; omega)
 | (
 refine c_cond_f rfl (c_skip ?_)
 refine e_norm_block ?_
 refine e_next (c_region ?_)
 refine r_val .none rfl (p_add rfl rfl (by omega)) ?_
 refine r_val .none rfl (p_move rfl) (r_nil ?_)
 refine e_round (j + 1) ⟨⟨by omega, by rw [any_next (map_getElem (d := es6) (by omega)), hphi.2, Bool.false_or]; exact hE⟩, by omega⟩ rfl ⟨rfl, rfl, rfl, rfl, trivial⟩ (.keep (fun _ _ h => h) (.nil))))))
 · (
 first
 | (exfalso; omega)
 | (
 refine c_cond_f rfl (c_exit (e_exit_then (e_exit_then ?_)))
 refine e_exit_block ?_
 refine e_next (c_seq (c_region (r_val .none rfl (p_assign rfl) (r_nil ?_))))
 refine e_next ?_
 refine c_ret ?_
 refine e_ret1 Try.results71 (.tmp rfl .nil) (fun w hm => ⟨?_, hm.since⟩)
 first
 | (rw [hcl, List.any_eq_true.2 ⟨(cq.getD j es6).1, List.mem_map.2 ⟨_, getD_mem (by omega), rfl⟩, hE⟩]; done)
 | (have h9 := hphi.2; rw [List.take_of_length_le (by rw [List.length_map]; omega)] at h9; rw [hcl, h9]; done)))
set_option maxHeartbeats 2000000 in
theorem c_rfind16 (b : Nat) (va vb vc : Value) (ls : List (List ST × Value)) (iv : List IV) (v : Value) (cl : List ST) {G : Ghost} (hX : RSeen G b va vb vc ls iv) (hLS : StC G ls) (hCS : StC G (iv.map Prod.fst)) (hnl : ls.length ≤ 1000 ∧ iv.length ≤ 4000) (hs : Ss G v cl) (w : World) (hG : Has G w) :
    Calls Try.prog 47 #[Value.pointer (some ⟨b, 0, none⟩), v] w (Ret fun r w' => r = Value.int .i64 (find (RV ls iv) cl) ∧ Since nX w w') := by
 refine enter (args := [_, _]) (X := nX) (G := G) (l := [(0, Value.pointer (some ⟨b, 0, none⟩)), (1, v)]) Try.func47 rfl Try.ntmps47 hG ⟨rfl, rfl, trivial⟩ (Nat.le_of_ble_eq_true rfl) ?_
 obtain ⟨hR, hL, hC, hO⟩ := hX
 have hvl : (iv.map Prod.fst).length = iv.length := List.length_map _
 have hol : (iv.map Prod.snd).length = iv.length := List.length_map _
 have hs0 := hs
 obtain ⟨rs, hr, hrt, hrs, hcl⟩ := hs0.inv
 have hcn : cl.length = rs.length := by rw [hcl]; simp
 refine c_seq (c_region (r_val .none rfl (p_assign rfl) (r_nil (e_next ?_))))
 refine c_seq (c_seq (c_region (r_val .none rfl (p_move rfl) ?_)))
 refine r_val .none rfl (p_leng Try.underlying29 rfl hr) ?_
 have bd_1 := (hr).bound
 refine r_val .none rfl (p_eq rfl rfl) ?_
 refine r_nil (e_next ?_)
 refine c_splitd (d := 9) rfl (fun h_2 => ?_) (fun h_2 => ?_)
 · (
 have h0 := h_2
 first
 | (exfalso; omega)
 | (
 refine c_cond_t rfl (c_seq (c_region (r_val .none rfl (p_assign rfl) (r_nil ?_))))
 refine e_next ?_
 refine c_ret ?_
 refine e_ret_then ?_
 refine e_ret1 Try.results47 (.tmp rfl .nil) (fun w hm => ⟨?_, hm.since⟩)
 first
 | (exact congrArg (Value.int .i64) (by unfold find; rw [if_pos (by omega)]))
 | (exact congrArg (Value.int .i64) (by unfold find; rw [if_neg (by omega)]; show _ = findF cl (itsV iv) 2; rw [← hphi.2, findF_yes (by omega) ho9 hE]; omega))
 | (exact congrArg (Value.int .i64) (by unfold find; rw [if_neg (by omega)]; show _ = findF cl (itsV iv) 2; rw [← hphi.2, findF_end (by omega)]))))
 · (
 have h0 := h_2
 first
 | (exfalso; omega)
 | (
 refine c_cond_f rfl (c_skip (e_next (c_seq (c_seq ?_))))
 refine c_region (r_val .none rfl (p_move rfl) ?_)
 refine r_val .none rfl (p_nilcheck rfl) ?_
 refine r_val .none rfl (p_field Try.underlying61 rfl sz26 rfl) ?_
 refine r_val .none rfl (p_ldg (j := 1) Try.underlying26 rfl rfl hR (by first | exact odt rfl | omega) rfl) ?_
 refine r_val .none rfl (p_leng Try.underlying26 rfl hC) ?_
 have bd_3 := (hC).bound
 refine r_val .none rfl (p_move rfl) (r_nil (e_next (c_block ?_)))
 refine c_name (d := 0) rfl (fun u_4 hu_4 => ?_)
 refine c_name (d := 1) rfl (fun u_5 hu_5 => ?_)
 refine c_name (d := 13) rfl (fun u_6 hu_6 => ?_)
 refine c_name (d := 14) rfl (fun u_7 hu_7 => ?_)
 refine c_loop (σ := Nat) (fun k => [(15, Value.int .i64 (k : Nat)), (0, u_4), (1, u_5), (13, u_6), (14, u_7)]) (fun k => []) (fun _ => _) (fun k => k ≤ iv.length ∧ findF cl ((itsV iv).drop k) (2 + (k : Int)) = findF cl (itsV iv) 2) (fun k => iv.length - k) (0) ⟨Nat.zero_le _, by rw [List.drop_zero]; rfl⟩ rfl ⟨rfl, rfl, rfl, rfl, rfl, trivial⟩ (.nil) (fun k hphi => ?_)
 subst hu_4
 subst hu_5
 subst hu_6
 subst hu_7
 refine c_seq (c_region ?_)
 refine r_val .none rfl (p_lt rfl rfl) ?_
 refine r_nil (e_next (c_seq ?_))
 refine c_splitd (d := 16) rfl (fun h_8 => ?_) (fun h_8 => ?_)
 · (
 first
 | (exfalso; omega)
 | (
 refine c_cond_t rfl (c_skip (e_next (c_seq (c_block ?_))))
 refine c_seq (c_region (r_val .none rfl (p_move rfl) ?_))
 refine r_iaddr_g .none rfl Try.underlying26 sz29 rfl hC rfl (by first | exact odt rfl | omega) (fun p_10 o_11 R_9 => ?_)
 have hc_12 := hCS _ (getD_mem (i := k) (d := es6) (by first | omega | (rw [List.length_map]; omega)))
 refine r_val .none rfl (p_ldg0 Try.underlying29 rfl rfl R_9 (by first | exact odt rfl | omega) rfl) ?_
 refine r_val .none rfl (p_assign rfl) (r_val .none rfl (p_assign rfl) (r_nil (e_next (c_seq ?_))))
 refine c_region (r_val .none rfl (p_move rfl) ?_)
 refine r_val .none rfl (p_nilcheck rfl) ?_
 refine r_val .none rfl (p_field Try.underlying61 rfl sz33 rfl) ?_
 refine r_val .none rfl (p_ldg (j := 2) Try.underlying33 rfl rfl hR (by first | exact odt rfl | omega) rfl) ?_
 refine r_val .none rfl (p_move rfl) ?_
 refine r_iaddr_g .none rfl Try.underlying33 sz3 rfl hO rfl (by first | exact odt rfl | omega) (fun p_14 o_15 R_13 => ?_)
 refine r_val .none rfl (p_ldg0 Try.underlying3 rfl rfl R_13 (by first | exact odt rfl | omega) (rfl : _ = Value.int _ _)) ?_
 refine r_val .none rfl (p_eq rfl rfl) ?_
 refine r_val .none rfl (p_move rfl) ?_
 refine r_splitd (d := 28) rfl (fun h_16 => ?_) (fun h_16 => ?_)
 · (
 have ho := h_16
 have ho9 : oV iv k = false := by (cases e : oV iv k with | false => rfl | true => (unfold oV at e; rw [e] at ho; simp [vi] at ho))
 first
 | (exfalso; omega)
 | (
 refine r_val (.some rfl rfl) rfl (p_move rfl) ?_
 refine r_val (.some rfl rfl) rfl (p_move rfl) ?_
 refine r_call (vs := [_, _]) (.some rfl rfl) rfl cl36 rfl (fun w hw => c_all8 _ _ (cV iv k) cl hc_12 hs w hw) ?_
 refine r_val .none rfl (p_pick_t rfl rfl) ?_
 refine r_nil (e_next ?_)
 refine c_split (d := 32) rfl (fun h_17 => ?_) (fun h_17 => ?_)
 · (
 have hE := h_17
 first
 | (exfalso; omega)
 | (
 refine c_cond_t rfl (c_seq (c_region (r_val .none rfl (p_move rfl) ?_)))
 refine r_val .none rfl (p_add rfl rfl (by omega)) ?_
 refine r_val .none rfl (p_assign rfl) (r_nil (e_next ?_))
 refine c_ret ?_
 refine e_ret_block ?_
 refine e_ret_then ?_
 refine e_ret_then ?_
 refine e_ret_block ?_
 refine e_ret_then ?_
 refine e_ret1 Try.results47 (.tmp rfl .nil) (fun w hm => ⟨?_, hm.since⟩)
 first
 | (exact congrArg (Value.int .i64) (by unfold find; rw [if_pos (by omega)]))
 | (exact congrArg (Value.int .i64) (by unfold find; rw [if_neg (by omega)]; show _ = findF cl (itsV iv) 2; rw [← hphi.2, findF_yes (by omega) ho9 hE]; omega))
 | (exact congrArg (Value.int .i64) (by unfold find; rw [if_neg (by omega)]; show _ = findF cl (itsV iv) 2; rw [← hphi.2, findF_end (by omega)]))))
 · (
 have hE := h_17
 first
 | (exfalso; omega)
 | (
 refine c_cond_f rfl (c_skip ?_)
 refine e_norm_block ?_
 refine e_next (c_region ?_)
 refine r_val .none rfl (p_add rfl rfl (by omega)) ?_
 refine r_val .none rfl (p_move rfl) (r_nil ?_)
 refine e_round (k + 1) ⟨⟨by omega, by rw [← hphi.2, findF_no (by omega) (.inr hE), show (2 : Int) + ((k + 1 : Nat) : Int) = 2 + (k : Int) + 1 by push_cast; omega]⟩, by omega⟩ rfl ⟨rfl, rfl, rfl, rfl, rfl, trivial⟩ (.nil)))))
 · (
 have ho := h_16
 have ho9 : oV iv k = true := by (cases e : oV iv k with | true => rfl | false => (unfold oV at e; rw [e] at ho; simp [vi] at ho))
 first
 | (exfalso; omega)
 | (
 refine r_skip rfl (.no rfl rfl) ?_
 refine r_skip rfl (.no rfl rfl) ?_
 refine r_skip rfl (.no rfl rfl) ?_
 refine r_val .none rfl (p_pick_f rfl rfl) ?_
 refine r_nil (e_next (c_cond_f rfl (c_skip ?_)))
 refine e_norm_block ?_
 refine e_next (c_region ?_)
 refine r_val .none rfl (p_add rfl rfl (by omega)) ?_
 refine r_val .none rfl (p_move rfl) (r_nil ?_)
 refine e_round (k + 1) ⟨⟨by omega, by rw [← hphi.2, findF_no (by omega) (.inl ho9), show (2 : Int) + ((k + 1 : Nat) : Int) = 2 + (k : Int) + 1 by push_cast; omega]⟩, by omega⟩ rfl ⟨rfl, rfl, rfl, rfl, rfl, trivial⟩ (.nil)))))
 · (
 first
 | (exfalso; omega)
 | (
 refine c_cond_f rfl (c_exit (e_exit_then (e_exit_then ?_)))
 refine e_exit_block ?_
 refine e_next (c_seq (c_region (r_val .none rfl (p_assign rfl) (r_nil ?_))))
 refine e_next ?_
 refine c_ret ?_
 refine e_ret1 Try.results47 (.tmp rfl .nil) (fun w hm => ⟨?_, hm.since⟩)
 first
 | (exact congrArg (Value.int .i64) (by unfold find; rw [if_pos (by omega)]))
 | (exact congrArg (Value.int .i64) (by unfold find; rw [if_neg (by omega)]; show _ = findF cl (itsV iv) 2; rw [← hphi.2, findF_yes (by omega) ho9 hE]; omega))
 | (exact congrArg (Value.int .i64) (by unfold find; rw [if_neg (by omega)]; show _ = findF cl (itsV iv) 2; rw [← hphi.2, findF_end (by omega)]))))))
set_option maxHeartbeats 2000000 in
theorem c_ruses16 (b : Nat) (va vb vc : Value) (ls : List (List ST × Value)) (iv : List IV) (v : Value) (cl : List ST) {G : Ghost} (hX : RSeen G b va vb vc ls iv) (hLS : StC G ls) (hCS : StC G (iv.map Prod.fst)) (hnl : ls.length ≤ 1000 ∧ iv.length ≤ 4000) (hs : Ss G v cl) (hlz : ∀ q ∈ ls, sszL q.1 ≤ 4000) (w : World) (hG : Has G w) :
    Calls Try.prog 46 #[Value.pointer (some ⟨b, 0, none⟩), v] w (Ret fun r w' => r = Value.int .i64 (uses (RV ls iv) cl : Nat) ∧ Since nX w w') := by
 refine enter (args := [_, _]) (X := nX) (G := G) (l := [(0, Value.pointer (some ⟨b, 0, none⟩)), (1, v)]) Try.func46 rfl Try.ntmps46 hG ⟨rfl, rfl, trivial⟩ (Nat.le_of_ble_eq_true rfl) ?_
 obtain ⟨hR, hL, hC, hO⟩ := hX
 have hvl : (iv.map Prod.fst).length = iv.length := List.length_map _
 have hol : (iv.map Prod.snd).length = iv.length := List.length_map _
 have hs0 := hs
 obtain ⟨rs, hr, hrt, hrs, hcl⟩ := hs0.inv
 have hcn : cl.length = rs.length := by rw [hcl]; simp
 refine c_seq (c_region (r_val .none rfl (p_assign rfl) (r_nil (e_next ?_))))
 refine c_seq (c_region (r_val .none rfl (p_assign rfl) (r_nil (e_next ?_))))
 refine c_seq (c_seq (c_region (r_val .none rfl (p_move rfl) ?_)))
 refine r_val .none rfl (p_nilcheck rfl) ?_
 refine r_val .none rfl (p_field Try.underlying61 rfl sz26 rfl) ?_
 refine r_val .none rfl (p_ldg (j := 0) Try.underlying26 rfl rfl hR (by first | exact odt rfl | omega) rfl) ?_
 refine r_val .none rfl (p_leng Try.underlying26 rfl hL) ?_
 have bd_1 := (hL).bound
 refine r_val .none rfl (p_move rfl) (r_nil (e_next (c_block ?_)))
 refine c_name (d := 1) rfl (fun u_2 hu_2 => ?_)
 refine c_name (d := 4) rfl (fun u_3 hu_3 => ?_)
 refine c_name (d := 11) rfl (fun u_4 hu_4 => ?_)
 refine c_name (d := 12) rfl (fun u_5 hu_5 => ?_)
 refine c_loop (σ := Nat) (fun k => [(13, Value.int .i64 (k : Nat)), (5, Value.int .i64 (((ls.map Prod.fst).take k).countP (usesOf cl) : Nat)), (1, u_2), (4, u_3), (11, u_4), (12, u_5)]) (fun k => []) (fun _ => _) (fun k => k ≤ ls.length) (fun k => ls.length - k) (0) (Nat.zero_le _) rfl ⟨rfl, (congrArg (fun z => some (Value.int .i64 z)) (by simp)), rfl, rfl, rfl, rfl, trivial⟩ (.nil) (fun k hphi => ?_)
 subst hu_2
 subst hu_3
 subst hu_4
 subst hu_5
 refine c_seq (c_region ?_)
 refine r_val .none rfl (p_lt rfl rfl) ?_
 refine r_nil (e_next (c_seq ?_))
 refine c_splitd (d := 14) rfl (fun h_6 => ?_) (fun h_6 => ?_)
 · (
 first
 | (exfalso; omega)
 | (
 refine c_cond_t rfl (c_skip (e_next (c_seq (c_block ?_))))
 refine c_seq (c_region ?_)
 refine r_iaddr_g .none rfl Try.underlying26 sz29 rfl hL rfl (by first | exact odt rfl | omega) (fun p_8 o_9 R_7 => ?_)
 have hc_10 := hLS _ (getD_mem (i := k) (d := es6) (by first | omega | (rw [List.length_map]; omega)))
 refine r_val .none rfl (p_ldg0 Try.underlying29 rfl rfl R_7 (by first | exact odt rfl | omega) rfl) ?_
 refine r_val .none rfl (p_assign rfl) (r_nil (e_next (c_seq (c_region ?_))))
 refine r_val .none rfl (p_move rfl) ?_
 refine r_val .none rfl (p_leng Try.underlying29 rfl hr) ?_
 have bd_11 := (hr).bound
 refine r_val .none rfl (p_eq rfl rfl) ?_
 refine r_val .none rfl (p_move rfl) ?_
 refine r_splitd (d := 20) rfl (fun h_12 => ?_) (fun h_12 => ?_)
 · (
 have hE : usesOf cl (ls.getD k es6).1 = true := by (have h9 := h_12; unfold usesOf; rw [decide_eq_true (by omega)]; rfl)
 first
 | (exfalso; omega)
 | (
 refine r_skip rfl (.no rfl rfl) ?_
 refine r_skip rfl (.no rfl rfl) ?_
 refine r_skip rfl (.no rfl rfl) ?_
 refine r_val .none rfl (p_pick_t rfl rfl) ?_
 refine r_nil (e_next (c_cond_t rfl (c_region (r_val .none rfl (p_move rfl) ?_))))
 refine r_val .none rfl (p_add rfl rfl (by have h8 := List.countP_le_length (p := usesOf cl) (l := (ls.map Prod.fst).take k); rw [List.length_take] at h8; omega)) ?_
 refine r_val .none rfl (p_assign rfl) (r_nil ?_)
 refine e_norm_block ?_
 refine e_next (c_region ?_)
 refine r_val .none rfl (p_add rfl rfl (by omega)) ?_
 refine r_val .none rfl (p_move rfl) (r_nil ?_)
 refine e_round (k + 1) ⟨by omega, by omega⟩ rfl ⟨rfl, (congrArg (fun z => some (Value.int .i64 z)) (by rw [uses_next (by omega), if_pos hE]; push_cast; rfl)), rfl, rfl, rfl, rfl, trivial⟩ (.nil)))
 · (
 have h0 : decide (cl.length = 0) = false := decide_eq_false (by have h9 := h_12; omega)
 first
 | (exfalso; omega)
 | (
 refine r_val (.some rfl rfl) rfl (p_move rfl) ?_
 refine r_val (.some rfl rfl) rfl (p_move rfl) ?_
 refine r_call (vs := [_, _]) (.some rfl rfl) rfl cl71 rfl (fun w hw => c_rhas16 _ _ (ls.getD k es6).1 cl hc_10 hs (hlz _ (getD_mem (by omega))) w hw) ?_
 refine r_val .none rfl (p_pick_f rfl rfl) ?_
 refine r_nil (e_next ?_)
 refine c_split (d := 24) rfl (fun h_13 => ?_) (fun h_13 => ?_)
 · (
 have hE : usesOf cl (ls.getD k es6).1 = true := by (have h9 := h_13; unfold usesOf; rw [h9, Bool.or_true])
 first
 | (exfalso; omega)
 | (
 refine c_cond_t rfl (c_region (r_val .none rfl (p_move rfl) ?_))
 refine r_val .none rfl (p_add rfl rfl (by have h8 := List.countP_le_length (p := usesOf cl) (l := (ls.map Prod.fst).take k); rw [List.length_take] at h8; omega)) ?_
 refine r_val .none rfl (p_assign rfl) (r_nil ?_)
 refine e_norm_block ?_
 refine e_next (c_region ?_)
 refine r_val .none rfl (p_add rfl rfl (by omega)) ?_
 refine r_val .none rfl (p_move rfl) (r_nil ?_)
 refine e_round (k + 1) ⟨by omega, by omega⟩ rfl ⟨rfl, (congrArg (fun z => some (Value.int .i64 z)) (by rw [uses_next (by omega), if_pos hE]; push_cast; rfl)), rfl, rfl, rfl, rfl, trivial⟩ (.nil)))
 · (
 have hE : usesOf cl (ls.getD k es6).1 = false := by (have h9 := h_13; unfold usesOf; rw [h9, h0]; rfl)
 first
 | (exfalso; omega)
 | (
 refine c_cond_f rfl (c_skip ?_)
 refine e_norm_block ?_
 refine e_next (c_region ?_)
 refine r_val .none rfl (p_add rfl rfl (by omega)) ?_
 refine r_val .none rfl (p_move rfl) (r_nil ?_)
 refine e_round (k + 1) ⟨by omega, by omega⟩ rfl ⟨rfl, (congrArg (fun z => some (Value.int .i64 z)) (by rw [uses_next (by omega), if_neg (by rw [hE]; simp)]; rfl)), rfl, rfl, rfl, rfl, trivial⟩ (.nil)))))))
 · (
 first
 | (exfalso; omega)
 | (
 refine c_cond_f rfl (c_exit (e_exit_then (e_exit_then ?_)))
 refine e_exit_block ?_
 refine e_next (c_seq (c_region (r_val .none rfl (p_move rfl) (r_val .none rfl (p_assign rfl) ?_))))
 refine r_nil (e_next ?_)
 refine c_ret ?_
 refine e_ret1 Try.results46 (.tmp rfl .nil) (fun w hm => ⟨?_, hm.since⟩)
 exact congrArg (Value.int .i64) (by unfold uses RV; rw [List.take_of_length_le (by rw [List.length_map]; omega)])))
end Go.Proofs.Ytdkfdncbldngdaa

/- Walks: what Go functions of this chapter come to, each as a function on plain data; no condition but those that each theorem names. Printed by a program of this work (gen.py). -/
namespace Go.Proofs.Ytdkfdncbldngdaa
open Go.Gx Go.Gx.T16 Go.Gx.T8 Go.Gx.T6 Go.Gx.T4 Go.Gx.T3 Go.Gx.T4 Go.Gx.T3 Go.Gx.T6 Go.Gx.T8 Go.Gx.T4 Go.Gx.T3 Go.Gx.T8 Go.Gx.T4 Go.Gx.T3 Go.Gx.T8 Go.Gx.T6 Go.Gx.T4 Go.Gx.T3
theorem cl49 : Callable Try.prog 49 := callable Try.func49 (by kernel_rfl) rfl
set_option maxHeartbeats 2000000 in
theorem c_rall16 (b : Nat) (va vb vc : Value) (ls : List (List ST × Value)) (iv : List IV)  {G : Ghost} (hX : RSeen G b va vb vc ls iv) (hLS : StC G ls) (hCS : StC G (iv.map Prod.fst)) (hnl : ls.length ≤ 1000 ∧ iv.length ≤ 4000)  (w : World) (hG : Has G w) :
    Calls Try.prog 48 #[Value.pointer (some ⟨b, 0, none⟩)] w (Ret fun r w' => Since nX w w' ∧ ∃ F', (rowA r 3 1 (all (RV ls iv)).length ((all (RV ls iv)).flatMap cI)).holds w' F' ∧ ∀ b, F' b → w.heap.size ≤ b) := by
 refine enter (args := [_]) (X := nX) (G := G) (l := [(0, Value.pointer (some ⟨b, 0, none⟩))]) Try.func48 rfl Try.ntmps48 hG ⟨rfl, trivial⟩ (Nat.le_of_ble_eq_true rfl) ?_
 obtain ⟨hR, hL, hC, hO⟩ := hX
 have hvl : (iv.map Prod.fst).length = iv.length := List.length_map _
 have hol : (iv.map Prod.snd).length = iv.length := List.length_map _
 refine c_seq (c_region (r_val .none rfl (p_assign rfl) (r_nil (e_next ?_))))
 refine c_seq (c_region ?_)
 refine r_bslice (vs := [(0, Value.int _ _)]) (c := #[_]) .none rfl Try.underlying33 el3 rfl rfl rfl (bs3_10i2 _ _) (IsRow.lit _) (fun b_1 => ?_)
 refine r_conv (B := rowA (Value.slice (some ⟨b_1, 0, none⟩) 1 1) 3 1 (1 :: numsF (fun _ => true) ((itsV iv).take 0) 2).length ((1 :: numsF (fun _ => true) ((itsV iv).take 0) 2).flatMap cI)) (k := 0) rfl (fun _ _ h => rowA_congr rfl (by rfl) _ _ (box_rowA (n := 1) (sz := 1) rfl (by decide) h)) ?_
 dsimp only [List.set_cons_zero, List.set_cons_succ]
 refine r_row1 (k := 0) rfl (fun o_1 => ?_)
 refine r_val .none rfl (p_assign rfl) (r_nil (e_next (c_seq (c_seq ?_))))
 refine c_region (r_val .none rfl (p_move rfl) ?_)
 refine r_val .none rfl (p_nilcheck rfl) ?_
 refine r_val .none rfl (p_field Try.underlying61 rfl sz26 rfl) ?_
 refine r_val .none rfl (p_ldg (j := 1) Try.underlying26 rfl rfl hR (by first | exact odt rfl | omega) rfl) ?_
 refine r_val .none rfl (p_leng Try.underlying26 rfl hC) ?_
 have bd_2 := (hC).bound
 refine r_val .none rfl (p_move rfl) (r_nil (e_next (c_block ?_)))
 refine c_name (d := 0) rfl (fun u_3 hu_3 => ?_)
 refine c_name (d := 2) rfl (fun u_4 hu_4 => ?_)
 refine c_name (d := 10) rfl (fun u_5 hu_5 => ?_)
 refine c_loop (σ := Nat × Value) (fun s' => [(11, Value.int .i64 (s'.1 : Nat)), (3, s'.2), (0, u_3), (2, u_4), (10, u_5)]) (fun s' => [rowA (s'.2) 3 1 ((1 :: numsF (fun _ => true) ((itsV iv).take s'.1) 2)).length (((1 :: numsF (fun _ => true) ((itsV iv).take s'.1) 2)).flatMap cI)]) (fun _ => _) (fun s' => s'.1 ≤ iv.length) (fun s' => iv.length - s'.1) ((0, _)) (Nat.zero_le _) rfl ⟨rfl, rfl, rfl, rfl, rfl, trivial⟩ (.keep (fun _ _ h => h) (.nil)) (fun s' hphi => ?_)
 subst hu_3
 subst hu_4
 subst hu_5
 obtain ⟨k, ov⟩ := s'
 dsimp only at hphi ⊢
 refine c_seq (c_region ?_)
 refine r_val .none rfl (p_lt rfl rfl) ?_
 refine r_nil (e_next (c_seq ?_))
 refine c_splitd (d := 12) rfl (fun h_6 => ?_) (fun h_6 => ?_)
 · (
 first
 | (exfalso; omega)
 | (
 refine c_cond_t rfl (c_skip (e_next (c_seq (c_block ?_))))
 refine c_seq (c_region (r_val .none rfl (p_move rfl) (r_val .none rfl (p_assign rfl) (r_nil ?_))))
 refine e_next (c_seq (c_region (r_val .none rfl (p_move rfl) ?_)))
 refine r_val .none rfl (p_nilcheck rfl) ?_
 refine r_val .none rfl (p_field Try.underlying61 rfl sz33 rfl) ?_
 refine r_val .none rfl (p_ldg (j := 2) Try.underlying33 rfl rfl hR (by first | exact odt rfl | omega) rfl) ?_
 refine r_val .none rfl (p_move rfl) ?_
 refine r_iaddr_g .none rfl Try.underlying33 sz3 rfl hO rfl (by first | exact odt rfl | omega) (fun p_8 o_9 R_7 => ?_)
 refine r_val .none rfl (p_ldg0 Try.underlying3 rfl rfl R_7 (by first | exact odt rfl | omega) (rfl : _ = Value.int _ _)) ?_
 refine r_val .none rfl (p_eq rfl rfl) ?_
 refine r_nil (e_next ?_)
 refine c_splitd (d := 21) rfl (fun h_10 => ?_) (fun h_10 => ?_)
 · (
 have ho9 : oV iv k = false := by (have ho := h_10; cases e : oV iv k with | false => rfl | true => (unfold oV at e; rw [e] at ho; simp [vi] at ho))
 first
 | (exfalso; omega)
 | (
 refine c_cond_t rfl (c_region (r_val .none rfl (p_move rfl) (r_val .none rfl (p_move rfl) ?_)))
 refine r_val .none rfl (p_add rfl rfl (by omega)) ?_
 refine r_bslice (vs := [(0, Value.int _ _)]) (c := #[_]) .none rfl Try.underlying33 el3 rfl rfl rfl (bs3_10i2 _ _) (IsRow.lit _) (fun b_2 => ?_)
 refine r_append (k := 1) (k2 := 0) .none rfl Try.underlying33 el3 rfl (by decide) rfl rfl rfl rfl rfl (one_lit rfl rfl) (by simp only [maxLen]; have h9 := numsF_len (fun _ => true) ((itsV iv).take k) 2; rw [List.length_take] at h9; simp only [List.length_cons]; omega) (by have h9 := numsF_len (fun _ => true) ((itsV iv).take k) 2; rw [List.length_take] at h9; simp only [List.length_cons]; omega) (fun v_11 => ?_)
 refine r_row1 (k := 1) rfl (fun o_12 => ?_)
 refine r_val .none rfl (p_assign rfl) (r_nil ?_)
 refine e_norm_block ?_
 refine e_next (c_region ?_)
 refine r_val .none rfl (p_add rfl rfl (by omega)) ?_
 refine r_val .none rfl (p_move rfl) (r_nil ?_)
 refine e_round ((k + 1, _)) ⟨by dsimp only; omega, by dsimp only; omega⟩ rfl ⟨rfl, rfl, rfl, rfl, rfl, trivial⟩ (.drop (.keep (fun _ _ h => rowA_snoc (by rw [nums_next (by omega), if_pos ⟨ho9, rfl⟩, ← List.cons_append, Int.add_comm]) rfl rfl rfl _ _ h) (.nil)))))
 · (
 have ho9 : oV iv k = true := by (have ho := h_10; cases e : oV iv k with | true => rfl | false => (unfold oV at e; rw [e] at ho; simp [vi] at ho))
 first
 | (exfalso; omega)
 | (
 refine c_cond_f rfl (c_skip ?_)
 refine e_norm_block ?_
 refine e_next (c_region ?_)
 refine r_val .none rfl (p_add rfl rfl (by omega)) ?_
 refine r_val .none rfl (p_move rfl) (r_nil ?_)
 refine e_round ((k + 1, _)) ⟨by dsimp only; omega, by dsimp only; omega⟩ rfl ⟨rfl, rfl, rfl, rfl, rfl, trivial⟩ (.keep (fun _ _ h => by rw [nums_next (by omega), if_neg (fun h => by rw [ho9] at h; cases h.1), List.append_nil]; exact h) (.nil))))))
 · (
 first
 | (exfalso; omega)
 | (
 refine c_cond_f rfl (c_exit (e_exit_then (e_exit_then ?_)))
 refine e_exit_block ?_
 refine e_next (c_seq (c_region (r_val .none rfl (p_move rfl) (r_val .none rfl (p_assign rfl) ?_))))
 refine r_nil (e_next ?_)
 refine c_ret ?_
 refine e_ret1 Try.results48 (.tmp rfl .nil) (fun w hm => hm.made [rowA ov 3 1 (all (RV ls iv)).length ((all (RV ls iv)).flatMap cI)] (.keep (fun _ _ h => by rw [List.take_of_length_le (by rw [itsV_len]; omega)] at h; exact h) (.nil)) _ (fun F' h => starL_one h))))
set_option maxHeartbeats 2000000 in
theorem c_rchN (b : Nat) (va vb vc : Value) (ls : List (List ST × Value)) (iv : List IV) (id : Int) {G : Ghost} (hX : RSeen G b va vb vc ls iv) (hLS : StC G ls) (hCS : StC G (iv.map Prod.fst)) (hnl : ls.length ≤ 1000 ∧ iv.length ≤ 4000) (hg : getR (RV ls iv) id = none) (hid : -100000 ≤ id ∧ id ≤ 100000) (w : World) (hG : Has G w) :
    Calls Try.prog 49 #[Value.pointer (some ⟨b, 0, none⟩), Value.int .i64 id] w (Ret fun r w' => r = Value.tuple #[Value.slice none 0 0, Value.bool false] ∧ Since nX w w') := by
 refine enter (args := [_, _]) (X := nX) (G := G) (l := [(0, Value.pointer (some ⟨b, 0, none⟩)), (1, Value.int .i64 id)]) Try.func49 rfl Try.ntmps49 hG ⟨rfl, rfl, trivial⟩ (Nat.le_of_ble_eq_true rfl) ?_
 obtain ⟨hR, hL, hC, hO⟩ := hX
 have hvl : (iv.map Prod.fst).length = iv.length := List.length_map _
 have hol : (iv.map Prod.snd).length = iv.length := List.length_map _
 refine c_seq (c_region (r_val .none rfl (p_assign rfl) (r_val .none rfl (p_assign rfl) (r_nil ?_))))
 refine e_next (c_seq (c_seq (c_region (r_val .none rfl (p_move rfl) ?_))))
 refine r_val .none rfl (p_eq rfl rfl) ?_
 refine r_nil (e_next ?_)
 refine c_splitd (d := 7) rfl (fun h_1 => ?_) (fun h_1 => ?_)
 · (
 have hx : False := (by have h9 := h_1; rw [h9] at hg; cases hg)
 exact hx.elim)
 · (
 first
 | (exfalso; first | omega)
 | (
 refine c_cond_f rfl (c_skip (e_next (c_seq (c_seq ?_))))
 refine c_region (r_val .none rfl (p_move rfl) ?_)
 refine r_val .none rfl (p_lt rfl rfl) ?_
 refine r_val .none rfl (p_move rfl) ?_
 refine r_splitd (d := 10) rfl (fun h_2 => ?_) (fun h_2 => ?_)
 · (
 first
 | (exfalso; first | omega)
 | (
 refine r_skip rfl (.no rfl rfl) ?_
 refine r_skip rfl (.no rfl rfl) ?_
 refine r_skip rfl (.no rfl rfl) ?_
 refine r_skip rfl (.no rfl rfl) ?_
 refine r_skip rfl (.no rfl rfl) ?_
 refine r_skip rfl (.no rfl rfl) ?_
 refine r_skip rfl (.no rfl rfl) ?_
 refine r_skip rfl (.no rfl rfl) ?_
 refine r_val .none rfl (p_pick_t rfl rfl) ?_
 refine r_val .none rfl (p_move rfl) ?_
 refine r_skip rfl (.no rfl rfl) ?_
 refine r_skip rfl (.no rfl rfl) ?_
 refine r_skip rfl (.no rfl rfl) ?_
 refine r_skip rfl (.no rfl rfl) ?_
 refine r_skip rfl (.no rfl rfl) ?_
 refine r_skip rfl (.no rfl rfl) ?_
 refine r_skip rfl (.no rfl rfl) ?_
 refine r_skip rfl (.no rfl rfl) ?_
 refine r_skip rfl (.no rfl rfl) ?_
 refine r_val .none rfl (p_pick_t rfl rfl) ?_
 refine r_nil (e_next (c_cond_t rfl (c_seq (c_region ?_))))
 refine r_val .none rfl (p_assign rfl) (r_val .none rfl (p_assign rfl) (r_nil (e_next ?_)))
 refine c_ret ?_
 refine e_ret_then ?_
 refine e_retn Try.results49 (.tmp rfl (.tmp rfl .nil)) rfl (fun w hm => ⟨?_, hm.since⟩)
 first
 | rfl))
 · (
 first
 | (exfalso; first | omega)
 | (
 refine r_val (.some rfl rfl) rfl (p_move rfl) ?_
 refine r_val (.some rfl rfl) rfl (p_move rfl) ?_
 refine r_val (.some rfl rfl) rfl (p_nilcheck rfl) ?_
 refine r_val (.some rfl rfl) rfl (p_field Try.underlying61 rfl sz26 rfl) ?_
 refine r_val (.some rfl rfl) rfl (p_ldg (j := 1) Try.underlying26 rfl rfl hR (by first | exact odt rfl | omega) rfl) ?_
 refine r_val (.some rfl rfl) rfl (p_leng Try.underlying26 rfl hC) ?_
 have bd_3 := (hC).bound
 refine r_val (.some rfl rfl) rfl (p_add rfl rfl (by omega)) ?_
 refine r_val (.some rfl rfl) rfl (p_gt rfl rfl) ?_
 refine r_val .none rfl (p_pick_f rfl rfl) ?_
 refine r_val .none rfl (p_move rfl) ?_
 refine r_splitd (d := 20) rfl (fun h_4 => ?_) (fun h_4 => ?_)
 · (
 first
 | (exfalso; first | omega)
 | (
 refine r_skip rfl (.no rfl rfl) ?_
 refine r_skip rfl (.no rfl rfl) ?_
 refine r_skip rfl (.no rfl rfl) ?_
 refine r_skip rfl (.no rfl rfl) ?_
 refine r_skip rfl (.no rfl rfl) ?_
 refine r_skip rfl (.no rfl rfl) ?_
 refine r_skip rfl (.no rfl rfl) ?_
 refine r_skip rfl (.no rfl rfl) ?_
 refine r_skip rfl (.no rfl rfl) ?_
 refine r_val .none rfl (p_pick_t rfl rfl) ?_
 refine r_nil (e_next (c_cond_t rfl (c_seq (c_region ?_))))
 refine r_val .none rfl (p_assign rfl) (r_val .none rfl (p_assign rfl) (r_nil (e_next ?_)))
 refine c_ret ?_
 refine e_ret_then ?_
 refine e_retn Try.results49 (.tmp rfl (.tmp rfl .nil)) rfl (fun w hm => ⟨?_, hm.since⟩)
 first
 | rfl))
 · (
 first
 | (exfalso; first | omega)
 | (
 refine r_val (.some rfl rfl) rfl (p_move rfl) ?_
 refine r_val (.some rfl rfl) rfl (p_nilcheck rfl) ?_
 refine r_val (.some rfl rfl) rfl (p_field Try.underlying61 rfl sz33 rfl) ?_
 refine r_val (.some rfl rfl) rfl (p_ldg (j := 2) Try.underlying33 rfl rfl hR (by first | exact odt rfl | omega) rfl) ?_
 refine r_val (.some rfl rfl) rfl (p_move rfl) ?_
 obtain ⟨j, hj⟩ : ∃ j : Nat, id = j + 2 := ⟨(id - 2).toNat, by omega⟩
 refine r_val (.some rfl rfl) rfl (p_sub rfl rfl (by omega)) ?_
 refine r_say (d := 26) (v := Value.int .i64 ((j : Nat) : Int)) (congrArg (fun x => some (Value.int .i64 x)) (by omega)) ?_
 refine r_iaddr_g (.some rfl rfl) rfl Try.underlying33 sz3 rfl hO rfl (by first | exact odt rfl | omega) (fun p_6 o_7 R_5 => ?_)
 refine r_val (.some rfl rfl) rfl (p_ldg0 Try.underlying3 rfl rfl R_5 (by first | exact odt rfl | omega) (rfl : _ = Value.int _ _)) ?_
 refine r_val (.some rfl rfl) rfl (p_eq rfl rfl) ?_
 refine r_val .none rfl (p_pick_f rfl rfl) ?_
 refine r_nil (e_next ?_)
 refine c_splitd (d := 30) rfl (fun h_8 => ?_) (fun h_8 => ?_)
 · (
 first
 | (exfalso; first | omega)
 | (
 refine c_cond_t rfl (c_seq (c_region (r_val .none rfl (p_assign rfl) (r_val .none rfl (p_assign rfl) ?_))))
 refine r_nil (e_next ?_)
 refine c_ret ?_
 refine e_ret_then ?_
 refine e_retn Try.results49 (.tmp rfl (.tmp rfl .nil)) rfl (fun w hm => ⟨?_, hm.since⟩)
 first
 | rfl))
 · (
 have hx : False := (by have h9 := h_8; subst hj; have h8 := getRV_no (by omega) hg; unfold oV at h8; rw [h8] at h9; exact h9 rfl)
 exact hx.elim)))))))
set_option maxHeartbeats 2000000 in
theorem c_rchY (b : Nat) (va vb vc : Value) (ls : List (List ST × Value)) (iv : List IV) (id : Int) (c : List ST) {G : Ghost} (hX : RSeen G b va vb vc ls iv) (hLS : StC G ls) (hCS : StC G (iv.map Prod.fst)) (hnl : ls.length ≤ 1000 ∧ iv.length ≤ 4000) (hg : getR (RV ls iv) id = some c) (hid : -100000 ≤ id ∧ id ≤ 100000) (w : World) (hG : Has G w) :
    Calls Try.prog 49 #[Value.pointer (some ⟨b, 0, none⟩), Value.int .i64 id] w (Ret fun r w' => r = Value.tuple #[chV iv id, Value.bool true] ∧ Since nX w w') := by
 refine enter (args := [_, _]) (X := nX) (G := G) (l := [(0, Value.pointer (some ⟨b, 0, none⟩)), (1, Value.int .i64 id)]) Try.func49 rfl Try.ntmps49 hG ⟨rfl, rfl, trivial⟩ (Nat.le_of_ble_eq_true rfl) ?_
 obtain ⟨hR, hL, hC, hO⟩ := hX
 have hvl : (iv.map Prod.fst).length = iv.length := List.length_map _
 have hol : (iv.map Prod.snd).length = iv.length := List.length_map _
 refine c_seq (c_region (r_val .none rfl (p_assign rfl) (r_val .none rfl (p_assign rfl) (r_nil ?_))))
 refine e_next (c_seq (c_seq (c_region (r_val .none rfl (p_move rfl) ?_))))
 refine r_val .none rfl (p_eq rfl rfl) ?_
 refine r_nil (e_next ?_)
 refine c_splitd (d := 7) rfl (fun h_1 => ?_) (fun h_1 => ?_)
 · (
 have h1 := h_1
 first
 | (exfalso; first | omega)
 | (
 refine c_cond_t rfl (c_seq (c_region (r_val .none rfl (p_assign rfl) (r_val .none rfl (p_assign rfl) ?_))))
 refine r_nil (e_next ?_)
 refine c_ret ?_
 refine e_ret_then ?_
 refine e_retn Try.results49 (.tmp rfl (.tmp rfl .nil)) rfl (fun w hm => ⟨?_, hm.since⟩)
 first
 | (subst h1; rfl)
 | (unfold chV; rw [if_neg h1, show (id - 2).toNat = j by omega]; rfl)))
 · (
 have h1 := h_1
 obtain ⟨j, hj, hjl, hcj, hoj⟩ := getRV h1 hg
 first
 | (exfalso; first | omega)
 | (
 refine c_cond_f rfl (c_skip (e_next (c_seq (c_seq ?_))))
 refine c_region (r_val .none rfl (p_move rfl) ?_)
 refine r_val .none rfl (p_lt rfl rfl) ?_
 refine r_val .none rfl (p_move rfl) ?_
 refine r_splitd (d := 10) rfl (fun h_2 => ?_) (fun h_2 => ?_)
 · (
 first
 | (exfalso; first | omega)
 | (
 refine r_skip rfl (.no rfl rfl) ?_
 refine r_skip rfl (.no rfl rfl) ?_
 refine r_skip rfl (.no rfl rfl) ?_
 refine r_skip rfl (.no rfl rfl) ?_
 refine r_skip rfl (.no rfl rfl) ?_
 refine r_skip rfl (.no rfl rfl) ?_
 refine r_skip rfl (.no rfl rfl) ?_
 refine r_skip rfl (.no rfl rfl) ?_
 refine r_val .none rfl (p_pick_t rfl rfl) ?_
 refine r_val .none rfl (p_move rfl) ?_
 refine r_skip rfl (.no rfl rfl) ?_
 refine r_skip rfl (.no rfl rfl) ?_
 refine r_skip rfl (.no rfl rfl) ?_
 refine r_skip rfl (.no rfl rfl) ?_
 refine r_skip rfl (.no rfl rfl) ?_
 refine r_skip rfl (.no rfl rfl) ?_
 refine r_skip rfl (.no rfl rfl) ?_
 refine r_skip rfl (.no rfl rfl) ?_
 refine r_skip rfl (.no rfl rfl) ?_
 refine r_val .none rfl (p_pick_t rfl rfl) ?_
 refine r_nil (e_next (c_cond_t rfl (c_seq (c_region ?_))))
 refine r_val .none rfl (p_assign rfl) (r_val .none rfl (p_assign rfl) (r_nil (e_next ?_)))
 refine c_ret ?_
 refine e_ret_then ?_
 refine e_retn Try.results49 (.tmp rfl (.tmp rfl .nil)) rfl (fun w hm => ⟨?_, hm.since⟩)
 first
 | (subst h1; rfl)
 | (unfold chV; rw [if_neg h1, show (id - 2).toNat = j by omega]; rfl)))
 · (
 first
 | (exfalso; first | omega)
 | (
 refine r_val (.some rfl rfl) rfl (p_move rfl) ?_
 refine r_val (.some rfl rfl) rfl (p_move rfl) ?_
 refine r_val (.some rfl rfl) rfl (p_nilcheck rfl) ?_
 refine r_val (.some rfl rfl) rfl (p_field Try.underlying61 rfl sz26 rfl) ?_
 refine r_val (.some rfl rfl) rfl (p_ldg (j := 1) Try.underlying26 rfl rfl hR (by first | exact odt rfl | omega) rfl) ?_
 refine r_val (.some rfl rfl) rfl (p_leng Try.underlying26 rfl hC) ?_
 have bd_3 := (hC).bound
 refine r_val (.some rfl rfl) rfl (p_add rfl rfl (by omega)) ?_
 refine r_val (.some rfl rfl) rfl (p_gt rfl rfl) ?_
 refine r_val .none rfl (p_pick_f rfl rfl) ?_
 refine r_val .none rfl (p_move rfl) ?_
 refine r_splitd (d := 20) rfl (fun h_4 => ?_) (fun h_4 => ?_)
 · (
 first
 | (exfalso; first | omega)
 | (
 refine r_skip rfl (.no rfl rfl) ?_
 refine r_skip rfl (.no rfl rfl) ?_
 refine r_skip rfl (.no rfl rfl) ?_
 refine r_skip rfl (.no rfl rfl) ?_
 refine r_skip rfl (.no rfl rfl) ?_
 refine r_skip rfl (.no rfl rfl) ?_
 refine r_skip rfl (.no rfl rfl) ?_
 refine r_skip rfl (.no rfl rfl) ?_
 refine r_skip rfl (.no rfl rfl) ?_
 refine r_val .none rfl (p_pick_t rfl rfl) ?_
 refine r_nil (e_next (c_cond_t rfl (c_seq (c_region ?_))))
 refine r_val .none rfl (p_assign rfl) (r_val .none rfl (p_assign rfl) (r_nil (e_next ?_)))
 refine c_ret ?_
 refine e_ret_then ?_
 refine e_retn Try.results49 (.tmp rfl (.tmp rfl .nil)) rfl (fun w hm => ⟨?_, hm.since⟩)
 first
 | (subst h1; rfl)
 | (unfold chV; rw [if_neg h1, show (id - 2).toNat = j by omega]; rfl)))
 · (
 first
 | (exfalso; first | omega)
 | (
 refine r_val (.some rfl rfl) rfl (p_move rfl) ?_
 refine r_val (.some rfl rfl) rfl (p_nilcheck rfl) ?_
 refine r_val (.some rfl rfl) rfl (p_field Try.underlying61 rfl sz33 rfl) ?_
 refine r_val (.some rfl rfl) rfl (p_ldg (j := 2) Try.underlying33 rfl rfl hR (by first | exact odt rfl | omega) rfl) ?_
 refine r_val (.some rfl rfl) rfl (p_move rfl) ?_
 refine r_val (.some rfl rfl) rfl (p_sub rfl rfl (by omega)) ?_
 refine r_say (d := 26) (v := Value.int .i64 ((j : Nat) : Int)) (congrArg (fun x => some (Value.int .i64 x)) (by omega)) ?_
 refine r_iaddr_g (.some rfl rfl) rfl Try.underlying33 sz3 rfl hO rfl (by first | exact odt rfl | omega) (fun p_6 o_7 R_5 => ?_)
 refine r_val (.some rfl rfl) rfl (p_ldg0 Try.underlying3 rfl rfl R_5 (by first | exact odt rfl | omega) (rfl : _ = Value.int _ _)) ?_
 refine r_val (.some rfl rfl) rfl (p_eq rfl rfl) ?_
 refine r_val .none rfl (p_pick_f rfl rfl) ?_
 refine r_nil (e_next ?_)
 refine c_splitd (d := 30) rfl (fun h_8 => ?_) (fun h_8 => ?_)
 · (
 have hx : False := (by have h9 := h_8; unfold oV at hoj; rw [hoj] at h9; simp [vi] at h9)
 exact hx.elim)
 · (
 first
 | (exfalso; first | omega)
 | (
 refine c_cond_f rfl (c_skip (e_next (c_seq (c_region ?_))))
 refine r_val .none rfl (p_move rfl) ?_
 refine r_val .none rfl (p_nilcheck rfl) ?_
 refine r_val .none rfl (p_field Try.underlying61 rfl sz26 rfl) ?_
 refine r_val .none rfl (p_ldg (j := 1) Try.underlying26 rfl rfl hR (by first | exact odt rfl | omega) rfl) ?_
 refine r_val .none rfl (p_move rfl) ?_
 refine r_val .none rfl (p_sub rfl rfl (by omega)) ?_
 refine r_say (d := 36) (v := Value.int .i64 ((j : Nat) : Int)) (congrArg (fun x => some (Value.int .i64 x)) (by omega)) ?_
 refine r_iaddr_g .none rfl Try.underlying26 sz29 rfl hC rfl (by first | exact odt rfl | omega) (fun p_10 o_11 R_9 => ?_)
 have hc_12 := hCS _ (getD_mem (i := j) (d := es6) (by first | omega | (rw [List.length_map]; omega)))
 refine r_val .none rfl (p_ldg0 Try.underlying29 rfl rfl R_9 (by first | exact odt rfl | omega) rfl) ?_
 refine r_val .none rfl (p_assign rfl) (r_val .none rfl (p_assign rfl) (r_nil (e_next ?_)))
 refine c_ret ?_
 refine e_retn Try.results49 (.tmp rfl (.tmp rfl .nil)) rfl (fun w hm => ⟨?_, hm.since⟩)
 first
 | (subst h1; rfl)
 | (unfold chV; rw [if_neg h1, show (id - 2).toNat = j by omega]; rfl)))))))))
end Go.Proofs.Ytdkfdncbldngdaa

/- Walks: what Go functions of this chapter come to, each as a function on plain data; no condition but those that each theorem names. Printed by a program of this work (gen.py). -/
namespace Go.Proofs.Ytdkfdncbldngdaa
open Go.Gx Go.Gx.T16 Go.Gx.T8 Go.Gx.T6 Go.Gx.T4 Go.Gx.T3 Go.Gx.T4 Go.Gx.T3 Go.Gx.T6 Go.Gx.T8 Go.Gx.T4 Go.Gx.T3 Go.Gx.T8 Go.Gx.T4 Go.Gx.T3 Go.Gx.T8 Go.Gx.T6 Go.Gx.T4 Go.Gx.T3
theorem cl47 : Callable Try.prog 47 := callable Try.func47 (by kernel_rfl) rfl
set_option maxHeartbeats 2000000 in
theorem c_rinnY (b : Nat) (va vb vc : Value) (ls : List (List ST × Value)) (iv : List IV) (id : Int) (c : List ST) {G : Ghost} (hX : RSeen G b va vb vc ls iv) (hLS : StC G ls) (hCS : StC G (iv.map Prod.fst)) (hnl : ls.length ≤ 1000 ∧ iv.length ≤ 4000) (hg : getR (RV ls iv) id = some c) (hid : -100000 ≤ id ∧ id ≤ 100000) (hcz : sszL c ≤ 2000) (w : World) (hG : Has G w) :
    Calls Try.prog 56 #[Value.pointer (some ⟨b, 0, none⟩), Value.int .i64 id] w (Ret fun r w' => r = Value.int .i64 (inner (RV ls iv) c) ∧ Since nX w w') := by
 refine enter (args := [_, _]) (X := nX) (G := G) (l := [(0, Value.pointer (some ⟨b, 0, none⟩)), (1, Value.int .i64 id)]) Try.func56 rfl Try.ntmps56 hG ⟨rfl, rfl, trivial⟩ (Nat.le_of_ble_eq_true rfl) ?_
 obtain ⟨hR, hL, hC, hO⟩ := hX
 have hvl : (iv.map Prod.fst).length = iv.length := List.length_map _
 have hol : (iv.map Prod.snd).length = iv.length := List.length_map _
 have hs0 := chV_ss hCS hg
 obtain ⟨rs, hr, hrt, hrs, hcl⟩ := hs0.inv
 have hcn : c.length = rs.length := by rw [hcl]; simp
 have hll := sszL_len c
 refine c_seq (c_region (r_val .none rfl (p_assign rfl) (r_nil (e_next ?_))))
 refine c_seq (c_region (r_val .none rfl (p_move rfl) (r_val .none rfl (p_move rfl) ?_)))
 refine r_call (vs := [_, _]) .none rfl cl49 rfl (fun w hw => c_rchY b va vb vc ls iv id c ⟨hR, hL, hC, hO⟩ hLS hCS hnl hg hid w hw) ?_
 refine r_val .none rfl (p_move rfl) ?_
 refine r_val .none rfl (p_extract rfl rfl) ?_
 refine r_val .none rfl (p_extract rfl rfl) ?_
 refine r_val .none rfl (p_assign rfl) (r_val .none rfl (p_assign rfl) (r_nil (e_next (c_seq ?_))))
 refine c_seq (c_region (r_val .none rfl (p_move rfl) ?_))
 refine r_val .none rfl (p_not rfl) ?_
 refine r_say (d := 15) (v := Value.bool false) rfl ?_
 refine r_val .none rfl (p_move rfl) ?_
 refine r_val (.some rfl rfl) rfl (p_move rfl) ?_
 refine r_val (.some rfl rfl) rfl (p_leng Try.underlying29 rfl hr) ?_
 have bd_1 := (hr).bound
 refine r_val (.some rfl rfl) rfl (p_eq rfl rfl) ?_
 refine r_val .none rfl (p_pick_f rfl rfl) ?_
 refine r_val .none rfl (p_move rfl) ?_
 refine r_splitd (d := 21) rfl (fun h_2 => ?_) (fun h_2 => ?_)
 · (
 first
 | (exfalso; first | omega)
 | (
 refine r_skip rfl (.no rfl rfl) ?_
 refine r_skip rfl (.no rfl rfl) ?_
 refine r_skip rfl (.no rfl rfl) ?_
 refine r_skip rfl (.no rfl rfl) ?_
 refine r_skip rfl (.no rfl rfl) ?_
 refine r_skip rfl (.no rfl rfl) ?_
 refine r_skip rfl (.no rfl rfl) ?_
 refine r_skip rfl (.no rfl rfl) ?_
 refine r_val .none rfl (p_pick_t rfl rfl) ?_
 refine r_nil (e_next (c_cond_t rfl (c_seq (c_region ?_))))
 refine r_val .none rfl (p_assign rfl) (r_nil (e_next ?_))
 refine c_ret ?_
 refine e_ret_then ?_
 refine e_ret1 Try.results56 (.tmp rfl .nil) (fun w hm => ⟨?_, hm.since⟩)
 first
 | (rw [inner_len0 (by omega)]; done)
 | (rw [inner_snoc (n := n) hcl (by omega), if_neg (by assumption)]; done)
 | (rw [inner_snoc (n := n) hcl (by omega), if_pos (by omega)]; exact congrArg (fun z => Value.int .i64 (find (RV ls iv) z)) (by rw [List.map_append, List.map_take, ← hul]))))
 · (
 first
 | (exfalso; first | omega)
 | (
 refine r_val (.some rfl rfl) rfl (p_move rfl) ?_
 refine r_val (.some rfl rfl) rfl (p_move rfl) ?_
 refine r_val (.some rfl rfl) rfl (p_leng Try.underlying29 rfl hr) ?_
 have bd_3 := (hr).bound
 obtain ⟨n, hn⟩ : ∃ n, rs.length = n + 1 := ⟨rs.length - 1, by omega⟩
 refine r_val (.some rfl rfl) rfl (p_sub rfl rfl (by omega)) ?_
 refine r_say (d := 25) (v := Value.int .i64 ((n : Nat) : Int)) (congrArg (fun x => some (Value.int .i64 x)) (by omega)) ?_
 refine r_iaddr_g (.some rfl rfl) rfl Try.underlying29 sz90 rfl hr rfl (by first | exact odt rfl | omega) (fun p_5 o_6 R_4 => ?_)
 have ht_7 := hrt _ (getD_mem (i := n) (d := s0) (by omega))
 have hc_8 := hrs _ (getD_mem (i := n) (d := s0) (by omega))
 refine r_val (.some rfl rfl) rfl (p_field Try.underlying90 rfl sz3 rfl) ?_
 refine r_val (.some rfl rfl) rfl (p_ldg (j := 0) Try.underlying3 rfl rfl R_4 (by first | exact odt rfl | omega) (rfl : _ = Value.int _ _)) ?_
 refine r_val (.some rfl rfl) rfl (p_ne rfl rfl) ?_
 refine r_val .none rfl (p_pick_f rfl rfl) ?_
 refine r_nil (e_next ?_)
 refine c_splitd (d := 30) rfl (fun h_9 => ?_) (fun h_9 => ?_)
 · (
 have hk3 := h_9
 first
 | (exfalso; first | omega)
 | (
 refine c_cond_t rfl (c_seq (c_region (r_val .none rfl (p_assign rfl) (r_nil ?_))))
 refine e_next ?_
 refine c_ret ?_
 refine e_ret_then ?_
 refine e_ret1 Try.results56 (.tmp rfl .nil) (fun w hm => ⟨?_, hm.since⟩)
 first
 | (rw [inner_len0 (by omega)]; done)
 | (rw [inner_snoc (n := n) hcl (by omega), if_neg (by assumption)]; done)
 | (rw [inner_snoc (n := n) hcl (by omega), if_pos (by omega)]; exact congrArg (fun z => Value.int .i64 (find (RV ls iv) z)) (by rw [List.map_append, List.map_take, ← hul]))))
 · (
 have hk3 := h_9
 first
 | (exfalso; first | omega)
 | (
 refine c_cond_f rfl (c_skip (e_next (c_seq (c_region ?_))))
 refine r_val .none rfl (p_assign rfl) (r_nil (e_next (c_seq (c_region ?_))))
 refine r_val .none rfl (p_move rfl) (r_val .none rfl (p_move rfl) (r_val .none rfl (p_move rfl) ?_))
 refine r_val .none rfl (p_leng Try.underlying29 rfl hr) ?_
 have bd_10 := (hr).bound
 refine r_val .none rfl (p_sub rfl rfl (by omega)) ?_
 refine r_say (d := 35) (v := Value.int .i64 ((n : Nat) : Int)) (congrArg (fun x => some (Value.int .i64 x)) (by omega)) ?_
 refine r_slice0 (n) .none rfl Try.underlying29 sz90 rfl hr rfl (by first | exact odt rfl | omega) (fun v_11 hs_12 => ?_)
 have hPn := ss_take (rs := rs) (by omega) hs_12
 refine r_nilrow 90 6 ?_
 refine r_append_g (k := 0) .none rfl Try.underlying29 el90 rfl (by decide) rfl rfl rfl hPn (ss_ones (fun p hm0 => hrt p (List.mem_of_mem_take hm0)) (fun p hm0 => hrs p (List.mem_of_mem_take hm0))) (by simp only [maxLen, List.length_take]; omega) (by simp only [List.length_take]; omega) (fun v_14 => ?_)
 refine r_row1 (k := 0) rfl (fun o_15 => ?_)
 refine r_val .none rfl (p_assign rfl) (r_nil (e_next (c_seq (c_region ?_))))
 refine r_val .none rfl (p_move rfl) (r_val .none rfl (p_move rfl) (r_val .none rfl (p_move rfl) ?_))
 refine r_val .none rfl (p_leng Try.underlying29 rfl hr) ?_
 have bd_16 := (hr).bound
 refine r_val .none rfl (p_sub rfl rfl (by omega)) ?_
 refine r_say (d := 42) (v := Value.int .i64 ((n : Nat) : Int)) (congrArg (fun x => some (Value.int .i64 x)) (by omega)) ?_
 refine r_iaddr_g .none rfl Try.underlying29 sz90 rfl hr rfl (by first | exact odt rfl | omega) (fun p_18 o_19 R_17 => ?_)
 have ht_20 := hrt _ (getD_mem (i := n) (d := s0) (by omega))
 have hc_21 := hrs _ (getD_mem (i := n) (d := s0) (by omega))
 refine r_val .none rfl (p_field Try.underlying90 rfl sz29 rfl) ?_
 refine r_val .none rfl (p_ldg (j := 5) Try.underlying29 rfl rfl R_17 (by first | exact odt rfl | omega) rfl) ?_
 obtain ⟨us, hu, hut, hus, hul⟩ := (hc_21).inv
 have hun : us.length ≤ 2000 := by (have h1 := sszL_len (rs.getD n s0).1.subs; rw [hul, List.length_map] at h1; rw [← hul] at h1; have h2 := s_subs_ssz (rs.getD n s0).1; have h3 : ssz (rs.getD n s0).1 ≤ sszL c := (by rw [hcl]; exact sszL_mem (sv_mem (k := n) (by omega))); omega)
 refine r_append_g (k := 0) .none rfl Try.underlying29 el90 rfl (by decide) rfl rfl rfl hu (ss_ones hut hus) (by simp only [maxLen, List.length_take]; omega) (by simp only [List.length_take]; omega) (fun v_22 => ?_)
 refine r_row1 (k := 0) rfl (fun o_23 => ?_)
 refine r_val .none rfl (p_assign rfl) (r_nil (e_next (c_seq (c_region ?_))))
 refine r_conv (B := rowA v_22 90 6 (rs.take n ++ us).length ((rs.take n ++ us).flatMap sC)) (k := 0) rfl (fun _ _ h => rowA_congr (by rw [List.length_append, List.length_take]; first | (simp; done) | (simp; omega)) (by rw [List.flatMap_append, flat_all (cells := sC) (fun _ => rfl), flat_all (cells := sC) (fun _ => rfl)]; simp) _ _ h) ?_
 dsimp only [List.set_cons_zero, List.set_cons_succ]
 refine r_freeze (k := 0) rfl (fun G_24 hn_25 hs_26 => ?_)
 replace hLS := StC.mono hLS hn_25.le
 replace hCS := StC.mono hCS hn_25.le
 replace hs0 := hs0.mono hn_25.le
 replace hr := hr.mono hn_25.le
 replace hrt := fun p hm0 => (hrt p hm0).mono hn_25.le
 replace hrs := fun p hm0 => (hrs p hm0).mono hn_25.le
 replace hR := hR.mono hn_25.le
 replace hL := hL.mono hn_25.le
 replace hC := hC.mono hn_25.le
 replace hO := hO.mono hn_25.le
 replace R_4 := R_4.mono hn_25.le
 replace ht_7 := ht_7.mono hn_25.le
 replace hc_8 := hc_8.mono hn_25.le
 replace hs_12 := hs_12.mono hn_25.le
 replace hPn := hPn.mono hn_25.le
 replace R_17 := R_17.mono hn_25.le
 replace ht_20 := ht_20.mono hn_25.le
 replace hc_21 := hc_21.mono hn_25.le
 replace hu := hu.mono hn_25.le
 replace hut := fun p hm0 => (hut p hm0).mono hn_25.le
 replace hus := fun p hm0 => (hus p hm0).mono hn_25.le
 have hxs : Ss G_24 v_22 ((rs.take n ++ us).map Prod.fst) := Ss.mk (rs.take n ++ us) (SlL.of (cells := sC) s0 (fun _ => rfl) rfl hs_26) (fun p hp => by (rcases List.mem_append.1 hp with h | h; exact hrt p (List.mem_of_mem_take h); exact hut p h)) (fun p hp => by (rcases List.mem_append.1 hp with h | h; exact hrs p (List.mem_of_mem_take h); exact hus p h))
 refine r_val .none rfl (p_move rfl) (r_val .none rfl (p_move rfl) ?_)
 refine r_call (vs := [_, _]) .none rfl cl47 rfl (fun w hw => c_rfind16 b va vb vc ls iv _ ((rs.take n ++ us).map Prod.fst) ⟨hR, hL, hC, hO⟩ hLS hCS hnl hxs w hw) ?_
 refine r_val .none rfl (p_assign rfl) (r_nil (e_next ?_))
 refine c_ret ?_
 refine e_ret1 Try.results56 (.tmp rfl .nil) (fun w hm => ⟨?_, hm.since⟩)
 first
 | (rw [inner_len0 (by omega)]; done)
 | (rw [inner_snoc (n := n) hcl (by omega), if_neg (by assumption)]; done)
 | (rw [inner_snoc (n := n) hcl (by omega), if_pos (by omega)]; exact congrArg (fun z => Value.int .i64 (find (RV ls iv) z)) (by rw [List.map_append, List.map_take, ← hul]))))))
end Go.Proofs.Ytdkfdncbldngdaa

/- Walks: what Go functions of this chapter come to, each as a function on plain data; no condition but those that each theorem names. Printed by a program of this work (gen.py). -/
namespace Go.Proofs.Ytdkfdncbldngdaa
open Go.Gx Go.Gx.T16 Go.Gx.T8 Go.Gx.T6 Go.Gx.T4 Go.Gx.T3 Go.Gx.T4 Go.Gx.T3 Go.Gx.T6 Go.Gx.T8 Go.Gx.T4 Go.Gx.T3 Go.Gx.T8 Go.Gx.T4 Go.Gx.T3 Go.Gx.T8 Go.Gx.T6 Go.Gx.T4 Go.Gx.T3

set_option maxHeartbeats 2000000 in
theorem c_radd16 {F : Nat → Prop} {G : Ghost} (b : Nat) (ls : List (List ST × Value)) (iv : List IV) (a0 : Option Addr) (c0 : Nat) (cl : List ST) (hs : Ss G (Value.slice a0 cl.length c0) cl) (hLS : StC G ls) (hCS : StC G (iv.map Prod.fst)) (hsz : sszL cl ≤ 1000) (hnl : ls.length ≤ 900 ∧ iv.length ≤ 3000) (w : World) (hG : Has G w) (hA : (rtA 61 29 3 b (ls) (iv)).holds w F) (hFG : ∀ b, F b → G b = none) :
    Calls Try.prog 25 #[Value.pointer (some ⟨b, 0, none⟩), Value.slice a0 cl.length c0] w (Ret fun r w' => ∃ G' iv', GNew w F G G' ∧ Has G' w' ∧ (SlL G' r 1 cI (0 : Int) (idsR (pushes (RV ls iv) (schains [] cl)) cl) ∧ RV (ls ++ [(cl, Value.slice a0 cl.length c0)]) iv' = addR (RV ls iv) cl ∧ StC G' (iv'.map Prod.fst)) ∧ KeptG (rtA 61 29 3 b (ls ++ [(cl, Value.slice a0 cl.length c0)]) (iv')) F G' w w') := by
 refine enterO (args := [_, _]) (G := G) (A := rtA 61 29 3 b (ls) (iv)) (l := [(0, Value.pointer (some ⟨b, 0, none⟩)), (1, Value.slice a0 cl.length c0)]) Try.func25 rfl Try.ntmps25 hG hA hFG ⟨rfl, rfl, trivial⟩ (Nat.le_of_ble_eq_true rfl) ?_
 have hgood := schains_good0 cl (RV ls iv)
 have hcn9 : (schains [] cl).length ≤ 1000 := Nat.le_trans (schains_len cl []) hsz
 refine c_seq (c_region (r_val .none rfl (p_assign rfl) (r_nil (e_next ?_))))
 refine c_seq (c_region (r_val .none rfl (p_assign rfl) (r_nil (e_next ?_))))
 refine c_seq (c_seq (c_region (r_val .none rfl (p_move rfl) ?_)))
 refine r_nilrow 90 6 ?_
 refine r_callom (k := 0) (vs := [_, _]) .none rfl cl14 rfl rfl (fun w F hw hA hFG => c_rchS _ _ [] cl (by simp only [List.length_nil]; omega) (by simp) (by simp) hs w hw hA hFG) (fun G_1 v_4 hn_2 hr_3 => ?_)
 replace hs := hs.mono hn_2.le
 replace hLS := StC.mono hLS hn_2.le
 replace hCS := StC.mono hCS hn_2.le
 obtain ⟨cq, hcq, hcp, hcl⟩ := hr_3
 replace hcl : schains [] cl = cq.map Prod.fst := hcl
 have hcqn : cq.length ≤ 1000 := by rw [← List.length_map (f := Prod.fst), ← hcl]; exact hcn9
 refine r_val .none rfl (p_leng Try.underlying26 rfl hcq) ?_
 have bd_6 := (hcq).bound
 refine r_val .none rfl (p_move rfl) (r_nil (e_next (c_block ?_)))
 refine c_nilrow 3 1 ?_
 refine c_name (d := 0) rfl (fun u_7 hu_7 => ?_)
 refine c_name (d := 1) rfl (fun u_8 hu_8 => ?_)
 refine c_name (d := 4) rfl (fun u_9 hu_9 => ?_)
 refine c_name (d := 9) rfl (fun u_10 hu_10 => ?_)
 refine c_name (d := 10) rfl (fun u_11 hu_11 => ?_)
 refine c_nameL (k := 1) rfl (fun A_12 hA_12 => ?_)
 refine c_loop (σ := Nat × Value × List IV) (fun s' => [(11, Value.int .i64 (s'.1 : Nat)), (5, s'.2.1), (0, u_7), (1, u_8), (4, u_9), (9, u_10), (10, u_11)]) (fun s' => [rowA (s'.2.1) 3 1 ((idsK (RV ls iv) (schains [] cl) s'.1)).length (((idsK (RV ls iv) (schains [] cl) s'.1)).flatMap cI), A_12, rtA 61 29 3 b (ls) (s'.2.2)]) (fun _ => _) (fun s' => s'.1 ≤ cq.length ∧ RV ls s'.2.2 = pushes (RV ls iv) ((schains [] cl).take s'.1) ∧ StC G_1 (s'.2.2.map Prod.fst) ∧ s'.2.2.length ≤ 3000 + s'.1) (fun s' => cq.length - s'.1) ((0, _, iv)) ⟨Nat.zero_le _, by rw [List.take_zero]; rfl, hCS, by dsimp only; omega⟩ rfl ⟨rfl, rfl, rfl, rfl, rfl, rfl, rfl, trivial⟩ (.keep (fun _ _ h => rowA_nil (by simp [idsK]) _ _ h) (.keep (fun _ _ h => h) (.keep (fun _ _ h => h) (.nil)))) (fun s' hphi => ?_)
 subst hu_7
 subst hu_8
 subst hu_9
 subst hu_10
 subst hu_11
 subst hA_12
 obtain ⟨k, ov, iv2⟩ := s'
 obtain ⟨hk, hR2, hC2, hn2⟩ := hphi
 dsimp only at hk hR2 hC2 hn2 ⊢
 refine c_seq (c_region ?_)
 refine r_val .none rfl (p_lt rfl rfl) ?_
 refine r_nil (e_next (c_seq ?_))
 refine c_splitd (d := 12) rfl (fun h_13 => ?_) (fun h_13 => ?_)
 · (
 first
 | (exfalso; omega)
 | (
 refine c_cond_t rfl (c_skip (e_next (c_seq (c_block ?_))))
 refine c_seq (c_region ?_)
 refine r_iaddr_g .none rfl Try.underlying26 sz29 rfl hcq rfl (by first | exact odt rfl | omega) (fun p_15 o_16 R_14 => ?_)
 have hc_17 := hcp _ (getD_mem (i := k) (d := es6) (by first | omega | (rw [List.length_map]; omega)))
 refine r_val .none rfl (p_ldg0 Try.underlying29 rfl rfl R_14 (by first | exact odt rfl | omega) rfl) ?_
 refine r_val .none rfl (p_assign rfl) ?_
 obtain ⟨a9, c9, he9⟩ := ss_len hc_17
 have hc9 : Ss G_1 (Value.slice a9 (cq.getD k es6).1.length c9) (cq.getD k es6).1 := by rw [← he9]; exact hc_17
 refine r_say (d := 7) (v := Value.slice a9 (cq.getD k es6).1.length c9) (congrArg some he9) ?_
 have hck : (schains [] cl)[k]? = some (cq.getD k es6).1 := by rw [hcl]; exact map_getElem (d := es6) (by omega)
 refine r_nil (e_next (c_seq (c_seq (c_region ?_))))
 refine r_val .none rfl (p_move rfl) (r_val .none rfl (p_move rfl) ?_)
 refine r_callo (k := 2) (vs := [_, _]) .none rfl cl47 rfl rfl (fun w F hw hA hFG => rt_see (R := fun r => r = Value.int .i64 (find (RV ls iv2) (cq.getD k es6).1)) (fun G' va vb vc hle hX hG => c_rfind16 b va vb vc ls iv2 _ (cq.getD k es6).1 hX (hLS.mono hle) (hC2.mono hle) ⟨by omega, by omega⟩ (hc9.mono hle) w hG) hw hA hFG) ?_
 refine r_val .none rfl (p_eq rfl rfl) ?_
 refine r_nil (e_next ?_)
 refine c_splitd (d := 18) rfl (fun h_18 => ?_) (fun h_18 => ?_)
 · (
 have hz9 : find (pushes (RV ls iv) ((schains [] cl).take k)) (cq.getD k es6).1 = 0 := by rw [← hR2]; exact h_18
 first
 | (exfalso; omega)
 | (
 refine c_cond_t rfl (c_seq (c_region ?_))
 refine r_front (k := 2) rfl ?_
 refine r_unex (fun t => ?_)
 obtain ⟨ta, tb, tc⟩ := t
 refine r_unpack ?_
 dsimp only [rtL, List.cons_append, List.nil_append]
 refine r_row1 (k := 1) rfl (fun oa => ?_)
 refine r_row1 (k := 2) rfl (fun ob => ?_)
 refine r_row1 (k := 3) rfl (fun oc => ?_)
 refine r_val .none rfl (p_move rfl) (r_val .none rfl (p_move rfl) ?_)
 refine r_val .none rfl (p_nilcheck rfl) ?_
 refine r_val .none rfl (p_field Try.underlying61 rfl sz26 rfl) ?_
 refine r_val .none rfl (p_ld (k := 0) Try.underlying26 rfl rfl rfl (by first | exact odt rfl | omega) rfl) ?_
 refine r_val .none rfl (p_move rfl) ?_
 refine r_bslice (vs := [(0, Value.slice _ _ _)]) (c := #[_]) .none rfl Try.underlying26 el29 rfl rfl rfl (bs29_10s3 _ _ _) (IsRow.lit _) (fun b_1 => ?_)
 refine r_append (k := 3) (k2 := 0) .none rfl Try.underlying26 el29 rfl (by decide) rfl rfl rfl rfl rfl (one_lit rfl rfl) (by simp only [maxLen, List.length_map]; omega) (by simp only [List.length_map]; omega) (fun v_19 => ?_)
 refine r_row1 (k := 3) rfl (fun o_20 => ?_)
 refine r_val .none rfl (p_nilcheck rfl) ?_
 refine r_val .none rfl (p_field Try.underlying61 rfl sz26 rfl) ?_
 refine r_st (k := 1) .none sz26 rfl rfl o_20 rfl (by first | exact odt rfl | omega) ?_
 refine r_nil (e_next (c_region (r_val .none rfl (p_move rfl) (r_val .none rfl (p_move rfl) ?_))))
 refine r_val .none rfl (p_nilcheck rfl) ?_
 refine r_val .none rfl (p_field Try.underlying61 rfl sz33 rfl) ?_
 refine r_val .none rfl (p_ld (k := 1) Try.underlying33 rfl rfl rfl (by first | exact odt rfl | omega) rfl) ?_
 refine r_bslice (vs := [(0, Value.int _ _)]) (c := #[_]) .none rfl Try.underlying33 el3 rfl rfl rfl (bs3_10i2 _ _) (IsRow.lit _) (fun b_2 => ?_)
 refine r_append (k := 5) (k2 := 0) .none rfl Try.underlying33 el3 rfl (by decide) rfl rfl rfl rfl rfl (one_lit rfl rfl) (by simp only [maxLen, List.length_map]; omega) (by simp only [List.length_map]; omega) (fun v_21 => ?_)
 refine r_row1 (k := 5) rfl (fun o_22 => ?_)
 refine r_val .none rfl (p_nilcheck rfl) ?_
 refine r_val .none rfl (p_field Try.underlying61 rfl sz33 rfl) ?_
 refine r_st (k := 2) .none sz33 rfl rfl o_22 rfl (by first | exact odt rfl | omega) ?_
 refine r_nil (e_next (c_region ?_))
 have hR3 : RV ls (iv2 ++ [(((cq.getD k es6).1, Value.slice a9 (cq.getD k es6).1.length c9), false)]) = push (pushes (RV ls iv) ((schains [] cl).take k)) (cq.getD k es6).1 := RV_push hR2
 have hC3 : StC G_1 ((iv2 ++ [(((cq.getD k es6).1, Value.slice a9 (cq.getD k es6).1.length c9), false)]).map Prod.fst) := by rw [List.map_append]; exact StC.snoc hC2 hc9
 refine r_front (k := 5) rfl ?_
 refine r_front (k := 5) rfl ?_
 refine r_front (k := 5) rfl ?_
 refine r_front (k := 5) rfl ?_
 refine r_conv (B := box b 3 61 (at_ [ta, v_19, v_21])) (k := 0) rfl (fun _ _ h => box_congr (fun i hi => by match i, hi with | 0, _ => rfl | 1, _ => rfl | 2, _ => rfl) _ _ h) ?_
 refine r_conv (B := rowA v_19 29 1 (((iv2 ++ [(((cq.getD k es6).1, Value.slice a9 (cq.getD k es6).1.length c9), false)])).map Prod.fst).length ((((iv2 ++ [(((cq.getD k es6).1, Value.slice a9 (cq.getD k es6).1.length c9), false)])).map Prod.fst).flatMap lC)) (k := 2) rfl (fun _ _ h => rowA_congr (by simp) (by simp [lC, row, at_]) _ _ h) ?_
 refine r_conv (B := rowA v_21 3 1 (((iv2 ++ [(((cq.getD k es6).1, Value.slice a9 (cq.getD k es6).1.length c9), false)])).map Prod.snd).length ((((iv2 ++ [(((cq.getD k es6).1, Value.slice a9 (cq.getD k es6).1.length c9), false)])).map Prod.snd).flatMap oC)) (k := 3) rfl (fun _ _ h => rowA_congr (by simp) (by simp [oC, vi, row, at_]) _ _ h) ?_
 dsimp only [List.set_cons_zero, List.set_cons_succ]
 refine r_shutX (E1 := 29) (E2 := 3) (ls := ls) (iv := (iv2 ++ [(((cq.getD k es6).1, Value.slice a9 (cq.getD k es6).1.length c9), false)])) (ta) (v_19) (v_21) ?_
 refine r_val .none rfl (p_move rfl) (r_val .none rfl (p_move rfl) (r_val .none rfl (p_move rfl) ?_))
 refine r_callo (k := 0) (vs := [_, _]) .none rfl cl47 rfl rfl (fun w F hw hA hFG => rt_see (R := fun r => r = Value.int .i64 (find (RV ls (iv2 ++ [(((cq.getD k es6).1, Value.slice a9 (cq.getD k es6).1.length c9), false)])) (cq.getD k es6).1)) (fun G' va vb vc hle hX hG => c_rfind16 b va vb vc ls (iv2 ++ [(((cq.getD k es6).1, Value.slice a9 (cq.getD k es6).1.length c9), false)]) _ (cq.getD k es6).1 hX (hLS.mono hle) (hC3.mono hle) ⟨by omega, by rw [List.length_append]; simp; omega⟩ (hc9.mono hle) w hG) hw hA hFG) ?_
 refine r_bslice (vs := [(0, Value.int _ _)]) (c := #[_]) .none rfl Try.underlying33 el3 rfl rfl rfl (bs3_10i2 _ _) (IsRow.lit _) (fun b_3 => ?_)
 refine r_append (k := 4) (k2 := 0) .none rfl Try.underlying33 el3 rfl (by decide) rfl rfl rfl rfl rfl (one_lit rfl rfl) (by simp only [maxLen]; have := idsK_len (R := RV ls iv) (cs := schains [] cl) (k := k); omega) (by have := idsK_len (R := RV ls iv) (cs := schains [] cl) (k := k); omega) (fun v_23 => ?_)
 refine r_row1 (k := 4) rfl (fun o_24 => ?_)
 refine r_val .none rfl (p_assign rfl) (r_nil ?_)
 refine e_norm_block ?_
 refine e_next (c_region ?_)
 refine r_val .none rfl (p_add rfl rfl (by omega)) ?_
 refine r_val .none rfl (p_move rfl) (r_nil ?_)
 refine e_front (k := 1) rfl ?_
 refine e_front (k := 5) rfl ?_
 refine e_front (k := 5) rfl ?_
 refine e_round ((k + 1, _, (iv2 ++ [(((cq.getD k es6).1, Value.slice a9 (cq.getD k es6).1.length c9), false)]))) ⟨⟨by dsimp only; omega, by rw [pushes_take hck, step_no hz9]; exact hR3, hC3, by rw [List.length_append]; simp; omega⟩, by dsimp only; omega⟩ rfl ⟨rfl, rfl, rfl, rfl, rfl, rfl, rfl, trivial⟩ (.keep (fun _ _ h => rowA_snoc (idsK_next hgood hck (by rw [step_no hz9, RV_find hR3])) rfl rfl rfl _ _ h) (.keep (fun _ _ h => h) (.keep (fun _ _ h => h) (.drop (.drop (.drop (.nil)))))))))
 · (
 have hz9 : find (pushes (RV ls iv) ((schains [] cl).take k)) (cq.getD k es6).1 ≠ 0 := by rw [← hR2]; exact h_18
 first
 | (exfalso; omega)
 | (
 refine c_cond_f rfl (c_skip (e_next (c_region (r_val .none rfl (p_move rfl) ?_))))
 refine r_val .none rfl (p_move rfl) (r_val .none rfl (p_move rfl) ?_)
 refine r_callo (k := 2) (vs := [_, _]) .none rfl cl47 rfl rfl (fun w F hw hA hFG => rt_see (R := fun r => r = Value.int .i64 (find (RV ls iv2) (cq.getD k es6).1)) (fun G' va vb vc hle hX hG => c_rfind16 b va vb vc ls iv2 _ (cq.getD k es6).1 hX (hLS.mono hle) (hC2.mono hle) ⟨by omega, by omega⟩ (hc9.mono hle) w hG) hw hA hFG) ?_
 refine r_bslice (vs := [(0, Value.int _ _)]) (c := #[_]) .none rfl Try.underlying33 el3 rfl rfl rfl (bs3_10i2 _ _) (IsRow.lit _) (fun b_4 => ?_)
 refine r_append (k := 1) (k2 := 0) .none rfl Try.underlying33 el3 rfl (by decide) rfl rfl rfl rfl rfl (one_lit rfl rfl) (by simp only [maxLen]; have := idsK_len (R := RV ls iv) (cs := schains [] cl) (k := k); omega) (by have := idsK_len (R := RV ls iv) (cs := schains [] cl) (k := k); omega) (fun v_25 => ?_)
 refine r_row1 (k := 1) rfl (fun o_26 => ?_)
 refine r_val .none rfl (p_assign rfl) (r_nil ?_)
 refine e_norm_block ?_
 refine e_next (c_region ?_)
 refine r_val .none rfl (p_add rfl rfl (by omega)) ?_
 refine r_val .none rfl (p_move rfl) (r_nil ?_)
 refine e_front (k := 3) rfl ?_
 refine e_front (k := 3) rfl ?_
 refine e_front (k := 3) rfl ?_
 refine e_round ((k + 1, _, iv2)) ⟨⟨by dsimp only; omega, by rw [pushes_take hck, step_yes hz9]; exact hR2, hC2, by dsimp only; omega⟩, by dsimp only; omega⟩ rfl ⟨rfl, rfl, rfl, rfl, rfl, rfl, rfl, trivial⟩ (.keep (fun _ _ h => rowA_snoc (idsK_next hgood hck (by rw [step_yes hz9, RV_find hR2])) rfl rfl rfl _ _ h) (.keep (fun _ _ h => h) (.keep (fun _ _ h => h) (.drop (.nil)))))))))
 · (
 first
 | (exfalso; omega)
 | (
 refine c_cond_f rfl (c_exit (e_exit_then (e_exit_then ?_)))
 refine e_exit_block ?_
 refine e_next (c_seq (c_region ?_))
 rw [List.take_of_length_le (by rw [hcl, List.length_map]; omega)] at hR2
 refine r_front (k := 2) rfl ?_
 refine r_unex (fun t => ?_)
 obtain ⟨ta, tb, tc⟩ := t
 refine r_unpack ?_
 dsimp only [rtL, List.cons_append, List.nil_append]
 refine r_row1 (k := 1) rfl (fun oa => ?_)
 refine r_row1 (k := 2) rfl (fun ob => ?_)
 refine r_row1 (k := 3) rfl (fun oc => ?_)
 refine r_val .none rfl (p_move rfl) (r_val .none rfl (p_move rfl) ?_)
 refine r_val .none rfl (p_nilcheck rfl) ?_
 refine r_val .none rfl (p_field Try.underlying61 rfl sz26 rfl) ?_
 refine r_val .none rfl (p_ld (k := 0) Try.underlying26 rfl rfl rfl (by first | exact odt rfl | omega) rfl) ?_
 refine r_val .none rfl (p_move rfl) ?_
 refine r_bslice (vs := [(0, Value.slice _ _ _)]) (c := #[_]) .none rfl Try.underlying26 el29 rfl rfl rfl (bs29_10s3 _ _ _) (IsRow.lit _) (fun b_5 => ?_)
 refine r_append (k := 2) (k2 := 0) .none rfl Try.underlying26 el29 rfl (by decide) rfl rfl rfl rfl rfl (one_lit rfl rfl) (by simp only [maxLen]; omega) (by omega) (fun v_27 => ?_)
 refine r_row1 (k := 2) rfl (fun o_28 => ?_)
 refine r_val .none rfl (p_nilcheck rfl) ?_
 refine r_val .none rfl (p_field Try.underlying61 rfl sz26 rfl) ?_
 refine r_st (k := 1) .none sz26 rfl rfl o_28 rfl (by first | exact odt rfl | omega) ?_
 refine r_nil (e_next (c_seq (c_region (r_val .none rfl (p_move rfl) ?_))))
 refine r_val .none rfl (p_assign rfl) (r_nil (e_next ?_))
 refine c_ret ?_
 refine e_front (k := 4) rfl ?_
 refine e_front (k := 4) rfl ?_
 refine e_front (k := 4) rfl ?_
 refine e_front (k := 4) rfl ?_
 refine e_conv (B := box b 3 61 (at_ [v_27, tb, tc])) (k := 0) rfl (fun _ _ h => box_congr (fun i hi => by match i, hi with | 0, _ => rfl | 1, _ => rfl | 2, _ => rfl) _ _ h) ?_
 refine e_conv (B := rowA v_27 29 1 (ls ++ [(cl, Value.slice a0 cl.length c0)]).length ((ls ++ [(cl, Value.slice a0 cl.length c0)]).flatMap lC)) (k := 1) rfl (fun _ _ h => rowA_congr (by simp) (by simp [lC, row, at_]) _ _ h) ?_
 dsimp only [List.set_cons_zero, List.set_cons_succ]
 refine e_shutX (E1 := 29) (E2 := 3) (ls := ls ++ [(cl, Value.slice a0 cl.length c0)]) (iv := iv2) (v_27) (tb) (tc) ?_
 refine e_freeze (k := 2) rfl (fun G_29 hn_30 hs_31 => ?_)
 replace hs := hs.mono hn_30.le
 replace hLS := StC.mono hLS hn_30.le
 replace hCS := StC.mono hCS hn_30.le
 replace hcq := hcq.mono hn_30.le
 replace hcp := StC.mono hcp hn_30.le
 replace hC2 := StC.mono hC2 hn_30.le
 refine e_ret1 Try.results25 (.tmp rfl .nil) (fun w hm => ⟨_, iv2, (hn_2.trans hn_30), hm.has, ⟨SlL.of2 (cells := cI) (0 : Int) (fun _ => rfl) (by rw [idsK_all (by rw [hcl, List.length_map]; omega)]) (by rw [idsK_all (by rw [hcl, List.length_map]; omega)]) hs_31, RV_add hR2, hC2⟩, hm.keptG [rtA 61 29 3 b (ls ++ [(cl, Value.slice a0 cl.length c0)]) (iv2)] (.keep (fun _ _ h => h) (.drop (.drop (.nil)))) (rtA 61 29 3 b (ls ++ [(cl, Value.slice a0 cl.length c0)]) (iv2)) (fun F' h => (starL_oneE _ _).1 h)⟩)))
end Go.Proofs.Ytdkfdncbldngdaa

/- Walks: what Go functions of this chapter come to, each as a function on plain data; no condition but those that each theorem names. Printed by a program of this work (gen.py). -/
namespace Go.Proofs.Ytdkfdncbldngdaa
open Go.Gx Go.Gx.T16 Go.Gx.T8 Go.Gx.T6 Go.Gx.T4 Go.Gx.T3 Go.Gx.T4 Go.Gx.T3 Go.Gx.T6 Go.Gx.T8 Go.Gx.T4 Go.Gx.T3 Go.Gx.T8 Go.Gx.T4 Go.Gx.T3 Go.Gx.T8 Go.Gx.T6 Go.Gx.T4 Go.Gx.T3
theorem cl46 : Callable Try.prog 46 := callable Try.func46 (by kernel_rfl) rfl
set_option maxHeartbeats 2000000 in
theorem c_rremY {F : Nat → Prop} {G : Ghost} (b : Nat) (ls : List (List ST × Value)) (iv : List IV) (v : Value) (cl : List ST) (hs : Ss G v cl) (hLS : StC G ls) (hCS : StC G (iv.map Prod.fst)) (hnl : ls.length ≤ 900 ∧ iv.length ≤ 3000) (hlz : ∀ q ∈ ls, sszL q.1 ≤ 4000) (hth : there (RV ls iv) cl = true) (w : World) (hG : Has G w) (hA : (rtA 61 29 3 b (ls) (iv)).holds w F) (hFG : ∀ b, F b → G b = none) :
    Calls Try.prog 24 #[Value.pointer (some ⟨b, 0, none⟩), v] w (Ret fun r w' => ∃ (G' : Ghost) (z' : List (List ST × Value) × List IV), GNew w F G G' ∧ Has G' w' ∧ ((∃ u, r = Value.tuple #[u, Value.bool true] ∧ SlL G' u 1 cI (0 : Int) (goneR (RV ls iv) cl)) ∧ RV z'.1 z'.2 = remR (RV ls iv) cl ∧ StC G' z'.1 ∧ StC G' (z'.2.map Prod.fst)) ∧ KeptG (rtA 61 29 3 b z'.1 z'.2) F G' w w') := by
 refine enterO (args := [_, _]) (G := G) (A := rtA 61 29 3 b (ls) (iv)) (l := [(0, Value.pointer (some ⟨b, 0, none⟩)), (1, v)]) Try.func24 rfl Try.ntmps24 hG hA hFG ⟨rfl, rfl, trivial⟩ (Nat.le_of_ble_eq_true rfl) ?_
 have hvl : (iv.map Prod.fst).length = iv.length := List.length_map _
 refine c_unex (fun t => ?_)
 obtain ⟨ta, tb, tc⟩ := t
 refine c_unpack ?_
 dsimp only [rtL, List.cons_append, List.nil_append]
 refine c_row1 (k := 1) rfl (fun oa => ?_)
 refine c_row1 (k := 2) rfl (fun ob => ?_)
 refine c_row1 (k := 3) rfl (fun oc => ?_)
 refine c_seq (c_region (r_val .none rfl (p_assign rfl) (r_val .none rfl (p_assign rfl) (r_nil ?_))))
 refine e_next (c_seq (c_region (r_val .none rfl (p_assign rfl) (r_nil ?_))))
 refine e_next (c_seq (c_region (r_val .none rfl (p_assign rfl) (r_nil ?_))))
 refine e_next (c_seq (c_seq (c_region (r_val .none rfl (p_move rfl) ?_))))
 refine r_val .none rfl (p_nilcheck rfl) ?_
 refine r_val .none rfl (p_field Try.underlying61 rfl sz26 rfl) ?_
 refine r_val .none rfl (p_ld (k := 0) Try.underlying26 rfl rfl rfl (by first | exact odt rfl | omega) rfl) ?_
 refine r_val .none rfl (p_leno (k := 1) Try.underlying26 rfl rfl) ?_
 refine r_val .none rfl (p_move rfl) (r_nil (e_next (c_block ?_)))
 refine c_nilrow 29 1 ?_
 refine c_name (d := 0) rfl (fun u_1 hu_1 => ?_)
 refine c_name (d := 1) rfl (fun u_2 hu_2 => ?_)
 refine c_name (d := 4) rfl (fun u_3 hu_3 => ?_)
 refine c_name (d := 5) rfl (fun u_4 hu_4 => ?_)
 refine c_name (d := 15) rfl (fun u_5 hu_5 => ?_)
 refine c_name (d := 16) rfl (fun u_6 hu_6 => ?_)
 refine c_nameL (k := 1) rfl (fun A_7 hA_7 => ?_)
 refine c_nameL (k := 2) rfl (fun A_8 hA_8 => ?_)
 refine c_nameL (k := 3) rfl (fun A_9 hA_9 => ?_)
 refine c_nameL (k := 4) rfl (fun A_10 hA_10 => ?_)
 refine c_loop (σ := Nat × Value) (fun s' => [(17, Value.int .i64 (s'.1 : Nat)), (7, Value.bool (((ls.map Prod.fst).take s'.1).any (ceq · cl))), (6, s'.2), (0, u_1), (1, u_2), (4, u_3), (5, u_4), (15, u_5), (16, u_6)]) (fun s' => [rowA (s'.2) 29 1 ((remP cl (ls.take s'.1))).length (((remP cl (ls.take s'.1))).flatMap lC), A_7, A_8, A_9, A_10]) (fun _ => _) (fun s' => s'.1 ≤ ls.length) (fun s' => ls.length - s'.1) ((0, _)) (Nat.zero_le _) rfl ⟨rfl, (congrArg (fun b => some (Value.bool b)) (by simp)), rfl, rfl, rfl, rfl, rfl, rfl, rfl, trivial⟩ (.keep (fun _ _ h => rowA_nil (by simp [remP]) _ _ h) (.keep (fun _ _ h => h) (.keep (fun _ _ h => h) (.keep (fun _ _ h => h) (.keep (fun _ _ h => h) (.nil)))))) (fun s' hphi => ?_)
 subst hu_1
 subst hu_2
 subst hu_3
 subst hu_4
 subst hu_5
 subst hu_6
 subst hA_7
 subst hA_8
 subst hA_9
 subst hA_10
 obtain ⟨k, ov⟩ := s'
 dsimp only at hphi ⊢
 refine c_seq (c_region ?_)
 refine r_val .none rfl (p_lt rfl rfl) ?_
 refine r_nil (e_next (c_seq ?_))
 refine c_splitd (d := 18) rfl (fun h_11 => ?_) (fun h_11 => ?_)
 · (
 first
 | (exfalso; first | omega)
 | (
 refine c_cond_t rfl (c_skip (e_next (c_seq (c_block ?_))))
 refine c_seq (c_region ?_)
 refine r_iaddr_o (k := 2) .none rfl Try.underlying26 sz29 rfl rfl rfl (by first | exact odt rfl | omega) (fun p_12 c_13 hv_14 => ?_)
 refine r_val .none rfl (p_ldo0 (k := 2) Try.underlying29 rfl rfl hv_14 rfl (by first | exact odt rfl | omega) (by first | exact odt rfl | omega) ((flatMap_get (cells := lC) (fun _ => rfl) es6 _ _ _ (by first | exact odt rfl | omega) (by first | exact odt rfl | omega)).trans rfl)) ?_
 refine r_val .none rfl (p_assign rfl) ?_
 have hc8 := hLS _ (getD_mem (i := k) (d := es6) (by omega))
 obtain ⟨a9, c9, he9⟩ := ss_len hc8
 have hc9 : Ss G (Value.slice a9 (ls.getD k es6).1.length c9) (ls.getD k es6).1 := by rw [← he9]; exact hc8
 refine r_say (d := 9) (v := Value.slice a9 (ls.getD k es6).1.length c9) (congrArg some he9) ?_
 have hpk : (ls.getD k es6) = ((ls.getD k es6).1, Value.slice a9 (ls.getD k es6).1.length c9) := by rw [← he9]
 have htk9 : ls.take (k + 1) = ls.take k ++ [(ls.getD k es6)] := by rw [List.take_succ_eq_append_getElem (by omega)]; simp [List.getD, List.getElem?_eq_getElem (show k < ls.length by omega)]
 have hmk9 : (ls.take k).map Prod.fst = (ls.map Prod.fst).take k := List.map_take
 refine r_nil (e_next (c_seq (c_seq (c_region ?_))))
 refine r_val .none rfl (p_move rfl) ?_
 refine r_val .none rfl (p_not rfl) ?_
 refine r_val .none rfl (p_move rfl) ?_
 refine r_splitn (d := 23) rfl (fun h_15 => ?_) (fun h_15 => ?_)
 · (
 have hf9 : ((ls.map Prod.fst).take k).any (ceq · cl) = false := by simpa using h_15
 first
 | (exfalso; first | omega)
 | (
 refine r_val (.some rfl rfl) rfl (p_move rfl) ?_
 refine r_val (.some rfl rfl) rfl (p_move rfl) ?_
 refine r_call (vs := [_, _]) (.some rfl rfl) rfl cl36 rfl (fun w hw => c_all8 _ _ (ls.getD k es6).1 cl hc9 hs w hw) ?_
 refine r_val .none rfl (p_pick_t rfl rfl) ?_
 refine r_nil (e_next ?_)
 refine c_split (d := 27) rfl (fun h_16 => ?_) (fun h_16 => ?_)
 · (
 have hE9 : ceq (ls.getD k es6).1 cl = true := h_16
 first
 | (exfalso; first | omega)
 | (
 refine c_cond_t rfl (c_seq (c_region (r_val .none rfl (p_assign rfl) (r_nil ?_))))
 refine e_next (c_exit (e_exit_then ?_))
 refine e_exit_block ?_
 refine e_next (c_region ?_)
 refine r_val .none rfl (p_add rfl rfl (by omega)) ?_
 refine r_val .none rfl (p_move rfl) (r_nil ?_)
 refine e_front (k := 4) rfl ?_
 refine e_front (k := 4) rfl ?_
 refine e_front (k := 4) rfl ?_
 refine e_front (k := 4) rfl ?_
 refine e_front (k := 4) rfl ?_
 refine e_round ((k + 1, _)) ⟨by dsimp only; omega, by dsimp only; omega⟩ rfl ⟨rfl, (congrArg (fun b => some (Value.bool b)) (by rw [any_next (map_getElem (d := es6) (by omega)), hE9, Bool.or_true])), rfl, rfl, rfl, rfl, rfl, rfl, rfl, trivial⟩ (.keep (fun _ _ h => by rw [htk9, remP_snoc, hmk9, if_neg (by rw [hf9]; simp), if_pos hE9]; rw [remP_none (by rw [hmk9]; exact hf9)] at h; exact h) (.keep (fun _ _ h => h) (.keep (fun _ _ h => h) (.keep (fun _ _ h => h) (.keep (fun _ _ h => h) (.nil))))))))
 · (
 have hE9 : ceq (ls.getD k es6).1 cl = false := h_16
 first
 | (exfalso; first | omega)
 | (
 refine c_cond_f rfl (c_skip (e_next (c_region (r_val .none rfl (p_move rfl) ?_))))
 refine r_val .none rfl (p_move rfl) ?_
 refine r_bslice (vs := [(0, Value.slice _ _ _)]) (c := #[_]) .none rfl Try.underlying26 el29 rfl rfl rfl (bs29_10s3 _ _ _) (IsRow.lit _) (fun b_1 => ?_)
 refine r_append (k := 1) (k2 := 0) .none rfl Try.underlying26 el29 rfl (by decide) rfl rfl rfl rfl rfl (one_lit rfl rfl) (by simp only [maxLen]; have h9 := remP_len (cl := cl) (ls.take k); rw [List.length_take] at h9; omega) (by have h9 := remP_len (cl := cl) (ls.take k); rw [List.length_take] at h9; omega) (fun v_17 => ?_)
 refine r_row1 (k := 1) rfl (fun o_18 => ?_)
 refine r_val .none rfl (p_assign rfl) (r_nil ?_)
 refine e_norm_block ?_
 refine e_next (c_region ?_)
 refine r_val .none rfl (p_add rfl rfl (by omega)) ?_
 refine r_val .none rfl (p_move rfl) (r_nil ?_)
 refine e_front (k := 5) rfl ?_
 refine e_front (k := 5) rfl ?_
 refine e_front (k := 5) rfl ?_
 refine e_front (k := 5) rfl ?_
 refine e_front (k := 5) rfl ?_
 refine e_round ((k + 1, _)) ⟨by dsimp only; omega, by dsimp only; omega⟩ rfl ⟨rfl, (congrArg (fun b => some (Value.bool b)) (by rw [any_next (map_getElem (d := es6) (by omega))]; first | (rw [hf9, Bool.true_or]; done) | (rw [hE9, Bool.or_false]; done))), rfl, rfl, rfl, rfl, rfl, rfl, rfl, trivial⟩ (.keep (fun _ _ h => rowA_snoc (by rw [htk9, remP_snoc, hmk9]; first | (rw [if_pos hf9]; done) | (rw [if_neg (by rw [hf9]; simp), if_neg (by rw [hE9]; simp), remP_none (by rw [hmk9]; exact hf9)]; done)) rfl rfl (by rw [hpk]; rfl) _ _ h) (.keep (fun _ _ h => h) (.keep (fun _ _ h => h) (.keep (fun _ _ h => h) (.keep (fun _ _ h => h) (.drop (.nil)))))))))))
 · (
 have hf9 : ((ls.map Prod.fst).take k).any (ceq · cl) = true := by simpa using h_15
 first
 | (exfalso; first | omega)
 | (
 refine r_skip rfl (.no rfl rfl) ?_
 refine r_skip rfl (.no rfl rfl) ?_
 refine r_skip rfl (.no rfl rfl) ?_
 refine r_val .none rfl (p_pick_f rfl rfl) ?_
 refine r_nil (e_next (c_cond_f rfl (c_skip (e_next ?_))))
 refine c_region (r_val .none rfl (p_move rfl) (r_val .none rfl (p_move rfl) ?_))
 refine r_bslice (vs := [(0, Value.slice _ _ _)]) (c := #[_]) .none rfl Try.underlying26 el29 rfl rfl rfl (bs29_10s3 _ _ _) (IsRow.lit _) (fun b_2 => ?_)
 refine r_append (k := 1) (k2 := 0) .none rfl Try.underlying26 el29 rfl (by decide) rfl rfl rfl rfl rfl (one_lit rfl rfl) (by simp only [maxLen]; have h9 := remP_len (cl := cl) (ls.take k); rw [List.length_take] at h9; omega) (by have h9 := remP_len (cl := cl) (ls.take k); rw [List.length_take] at h9; omega) (fun v_19 => ?_)
 refine r_row1 (k := 1) rfl (fun o_20 => ?_)
 refine r_val .none rfl (p_assign rfl) (r_nil ?_)
 refine e_norm_block ?_
 refine e_next (c_region ?_)
 refine r_val .none rfl (p_add rfl rfl (by omega)) ?_
 refine r_val .none rfl (p_move rfl) (r_nil ?_)
 refine e_front (k := 5) rfl ?_
 refine e_front (k := 5) rfl ?_
 refine e_front (k := 5) rfl ?_
 refine e_front (k := 5) rfl ?_
 refine e_front (k := 5) rfl ?_
 refine e_round ((k + 1, _)) ⟨by dsimp only; omega, by dsimp only; omega⟩ rfl ⟨rfl, (congrArg (fun b => some (Value.bool b)) (by rw [any_next (map_getElem (d := es6) (by omega))]; first | (rw [hf9, Bool.true_or]; done) | (rw [hE9, Bool.or_false]; done))), rfl, rfl, rfl, rfl, rfl, rfl, rfl, trivial⟩ (.keep (fun _ _ h => rowA_snoc (by rw [htk9, remP_snoc, hmk9]; first | (rw [if_pos hf9]; done) | (rw [if_neg (by rw [hf9]; simp), if_neg (by rw [hE9]; simp), remP_none (by rw [hmk9]; exact hf9)]; done)) rfl rfl (by rw [hpk]; rfl) _ _ h) (.keep (fun _ _ h => h) (.keep (fun _ _ h => h) (.keep (fun _ _ h => h) (.keep (fun _ _ h => h) (.drop (.nil)))))))))))
 · (
 first
 | (exfalso; first | omega)
 | (
 refine c_cond_f rfl (c_exit (e_exit_then (e_exit_then ?_)))
 refine e_exit_block ?_
 refine e_next (c_seq (c_seq (c_region (r_val .none rfl (p_move rfl) ?_))))
 refine r_val .none rfl (p_not rfl) ?_
 refine r_nil (e_next ?_)
 refine c_splitn (d := 34) rfl (fun h_21 => ?_) (fun h_21 => ?_)
 · (
 have hx : False := (by have h9 := h_21; rw [List.take_of_length_le (by rw [List.length_map]; omega)] at h9; rw [show (ls.map Prod.fst).any (ceq · cl) = true from hth] at h9; simp at h9)
 exact hx.elim)
 · (
 first
 | (exfalso; first | omega)
 | (
 refine c_cond_f rfl (c_skip (e_next (c_seq (c_region ?_))))
 refine r_val .none rfl (p_move rfl) (r_val .none rfl (p_move rfl) ?_)
 refine r_val .none rfl (p_nilcheck rfl) ?_
 refine r_val .none rfl (p_field Try.underlying61 rfl sz26 rfl) ?_
 refine r_row1 (k := 0) rfl (fun ol => ?_)
 refine r_st (k := 1) .none sz26 rfl rfl ol rfl (by first | exact odt rfl | omega) ?_
 refine r_nil (e_next (c_seq (c_region (r_val .none rfl (p_assign rfl) ?_))))
 refine r_nil (e_next (c_seq (c_seq (c_region ?_))))
 obtain rfl : k = ls.length := by omega
 refine r_front (k := 2) rfl ?_
 refine r_drop0 ?_
 refine r_front (k := 3) rfl ?_
 refine r_front (k := 3) rfl ?_
 refine r_front (k := 2) rfl ?_
 refine r_front (k := 3) rfl ?_
 refine r_conv (B := box b 3 61 (at_ [ov, tb, tc])) (k := 0) rfl (fun _ _ h => box_congr (fun i hi => by match i, hi with | 0, _ => rfl | 1, _ => rfl | 2, _ => rfl) _ _ h) ?_
 refine r_conv (B := rowA ov 29 1 ((remP cl ls)).length (((remP cl ls)).flatMap lC)) (k := 1) rfl (fun _ _ h => by rw [List.take_of_length_le (Nat.le_refl _)] at h; exact h) ?_
 dsimp only [List.set_cons_zero, List.set_cons_succ]
 refine r_shutX (E1 := 29) (E2 := 3) (ls := (remP cl ls)) (iv := iv) (ov) (tb) (tc) ?_
 refine r_val .none rfl (p_move rfl) ?_
 refine r_unex (fun t => ?_)
 obtain ⟨ta, tb, tc⟩ := t
 refine r_unpack ?_
 dsimp only [rtL, List.cons_append, List.nil_append]
 refine r_row1 (k := 1) rfl (fun oa => ?_)
 refine r_row1 (k := 2) rfl (fun ob => ?_)
 refine r_row1 (k := 3) rfl (fun oc => ?_)
 refine r_val .none rfl (p_nilcheck rfl) ?_
 refine r_val .none rfl (p_field Try.underlying61 rfl sz26 rfl) ?_
 refine r_val .none rfl (p_ld (k := 0) Try.underlying26 rfl rfl rfl (by first | exact odt rfl | omega) rfl) ?_
 refine r_val .none rfl (p_leno (k := 2) Try.underlying26 rfl rfl) ?_
 refine r_front (k := 3) rfl ?_
 refine r_front (k := 3) rfl ?_
 refine r_front (k := 3) rfl ?_
 refine r_front (k := 3) rfl ?_
 refine r_conv (B := box b 3 61 (at_ [ta, tb, tc])) (k := 0) rfl (fun _ _ h => box_congr (fun i hi => by match i, hi with | 0, _ => rfl | 1, _ => rfl | 2, _ => rfl) _ _ h) ?_
 dsimp only [List.set_cons_zero, List.set_cons_succ]
 refine r_shutX (E1 := 29) (E2 := 3) (ls := (remP cl ls)) (iv := iv) (ta) (tb) (tc) ?_
 refine r_val .none rfl (p_sub rfl rfl (by omega)) ?_
 refine r_val .none rfl (p_assign rfl) (r_nil (e_next (c_block ?_)))
 refine c_nilrow 3 1 ?_
 refine c_name (d := 0) rfl (fun u_22 hu_22 => ?_)
 refine c_name (d := 4) rfl (fun u_23 hu_23 => ?_)
 refine c_name (d := 5) rfl (fun u_24 hu_24 => ?_)
 refine c_loop (σ := Nat × Value) (fun s' => [(11, Value.int .i64 ((s'.1 : Nat) - 1)), (10, s'.2), (0, u_22), (4, u_23), (5, u_24)]) (fun s' => [rowA (s'.2) 3 1 ((numsF (fun c => decide (((remP cl ls).map Prod.fst).countP (usesOf c) = 0)) ((itsV iv).drop s'.1) (2 + ((s'.1 : Nat) : Int))).reverse).length (((numsF (fun c => decide (((remP cl ls).map Prod.fst).countP (usesOf c) = 0)) ((itsV iv).drop s'.1) (2 + ((s'.1 : Nat) : Int))).reverse).flatMap cI), rtA 61 29 3 b ((remP cl ls)) ((mkV (fun c => decide (((remP cl ls).map Prod.fst).countP (usesOf c) = 0)) iv s'.1))]) (fun _ => _) (fun s' => s'.1 ≤ iv.length) (fun s' => s'.1) ((iv.length, _)) (Nat.le_refl _) rfl ⟨(congrArg (fun z => some (Value.int .i64 z)) (by simp)), rfl, rfl, rfl, rfl, trivial⟩ (.keep (fun _ _ h => rowA_nil (by rw [List.drop_eq_nil_of_le (by rw [itsV_len]; exact Nat.le_refl _)]; rfl) _ _ h) (.keep (fun _ _ h => by rw [mkV_all _ (Nat.le_refl _)]; exact h) (.nil))) (fun s' hphi => ?_)
 subst hu_22
 subst hu_23
 subst hu_24
 obtain ⟨n, gv⟩ := s'
 dsimp only at hphi ⊢
 refine c_seq (c_seq (c_region (r_val .none rfl (p_move rfl) ?_)))
 refine r_val .none rfl (p_ge rfl rfl) ?_
 refine r_nil (e_next ?_)
 refine c_splitd (d := 46) rfl (fun h_25 => ?_) (fun h_25 => ?_)
 · (
 obtain ⟨m, rfl⟩ : ∃ m, n = m + 1 := ⟨n - 1, by omega⟩
 have hml : ((mkV (fun c => decide (((remP cl ls).map Prod.fst).countP (usesOf c) = 0)) iv (m + 1)).map Prod.snd).length = iv.length := by rw [List.length_map, mkV_len]
 have hmf : ((mkV (fun c => decide (((remP cl ls).map Prod.fst).countP (usesOf c) = 0)) iv (m + 1)).map Prod.fst).length = iv.length := by rw [List.length_map, mkV_len]
 first
 | (exfalso; first | omega)
 | (
 refine c_cond_t rfl (c_skip (e_next (c_seq (c_block ?_))))
 refine c_seq (c_region (r_val .none rfl (p_move rfl) ?_))
 refine r_front (k := 1) rfl ?_
 refine r_unex (fun t => ?_)
 obtain ⟨ta, tb, tc⟩ := t
 refine r_unpack ?_
 dsimp only [rtL, List.cons_append, List.nil_append]
 refine r_row1 (k := 1) rfl (fun oa => ?_)
 refine r_row1 (k := 2) rfl (fun ob => ?_)
 refine r_row1 (k := 3) rfl (fun oc => ?_)
 refine r_val .none rfl (p_nilcheck rfl) ?_
 refine r_val .none rfl (p_field Try.underlying61 rfl sz33 rfl) ?_
 refine r_val .none rfl (p_ld (k := 0) Try.underlying33 rfl rfl rfl (by first | exact odt rfl | omega) rfl) ?_
 refine r_val .none rfl (p_move rfl) ?_
 refine r_say (d := 53) (v := Value.int .i64 ((m : Nat) : Int)) (congrArg (fun x => some (Value.int .i64 x)) (by push_cast; omega)) ?_
 refine r_iaddr_o (k := 3) .none rfl Try.underlying33 sz3 rfl rfl rfl (by first | exact odt rfl | omega) (fun p_26 c_27 hv_28 => ?_)
 refine r_val .none rfl (p_ldo0 (k := 3) Try.underlying3 rfl rfl hv_28 rfl (by first | exact odt rfl | omega) (by first | exact odt rfl | omega) ((flatMap_get (cells := oC) (fun _ => rfl) false _ _ _ (by first | exact odt rfl | omega) (by first | exact odt rfl | omega)).trans (rfl : _ = Value.int _ _))) ?_
 refine r_val .none rfl (p_eq rfl rfl) ?_
 refine r_val .none rfl (p_move rfl) ?_
 refine r_splitd (d := 57) rfl (fun h_29 => ?_) (fun h_29 => ?_)
 · (
 have ho9 : oV iv m = false := by (have ho := h_29; rw [mkV_o (fun c => decide (((remP cl ls).map Prod.fst).countP (usesOf c) = 0)) (by omega)] at ho; cases e : oV iv m with | false => rfl | true => (rw [e] at ho; simp [vi] at ho))
 first
 | (exfalso; first | omega)
 | (
 refine r_val (.some rfl rfl) rfl (p_move rfl) ?_
 refine r_val (.some rfl rfl) rfl (p_move rfl) ?_
 refine r_val (.some rfl rfl) rfl (p_nilcheck rfl) ?_
 refine r_val (.some rfl rfl) rfl (p_field Try.underlying61 rfl sz26 rfl) ?_
 refine r_val (.some rfl rfl) rfl (p_ld (k := 0) Try.underlying26 rfl rfl rfl (by first | exact odt rfl | omega) rfl) ?_
 refine r_val (.some rfl rfl) rfl (p_move rfl) ?_
 refine r_say (d := 63) (v := Value.int .i64 ((m : Nat) : Int)) (congrArg (fun x => some (Value.int .i64 x)) (by push_cast; omega)) ?_
 refine r_iaddr_o (k := 2) (.some rfl rfl) rfl Try.underlying26 sz29 rfl rfl rfl (by first | exact odt rfl | omega) (fun p_30 c_31 hv_32 => ?_)
 refine r_val (.some rfl rfl) rfl (p_ldo0 (k := 2) Try.underlying29 rfl rfl hv_32 rfl (by first | exact odt rfl | omega) (by first | exact odt rfl | omega) ((flatMap_get (cells := lC) (fun _ => rfl) es6 _ _ _ (by first | exact odt rfl | omega) (by first | exact odt rfl | omega)).trans rfl)) ?_
 refine r_say (d := 65) (v := ((iv.map Prod.fst).getD m es6).2) (by show some ((((mkV (fun c => decide (((remP cl ls).map Prod.fst).countP (usesOf c) = 0)) iv (m + 1))).map Prod.fst).getD m es6).2 = _; rw [mkV_fst]) ?_
 have hcm9 := hCS _ (getD_mem (i := m) (d := es6) (by rw [List.length_map]; omega))
 refine r_front (k := 3) rfl ?_
 refine r_front (k := 3) rfl ?_
 refine r_front (k := 3) rfl ?_
 refine r_front (k := 3) rfl ?_
 refine r_conv (B := box b 3 61 (at_ [ta, tb, tc])) (k := 0) rfl (fun _ _ h => box_congr (fun i hi => by match i, hi with | 0, _ => rfl | 1, _ => rfl | 2, _ => rfl) _ _ h) ?_
 dsimp only [List.set_cons_zero, List.set_cons_succ]
 refine r_shutX (E1 := 29) (E2 := 3) (ls := (remP cl ls)) (iv := (mkV (fun c => decide (((remP cl ls).map Prod.fst).countP (usesOf c) = 0)) iv (m + 1))) (ta) (tb) (tc) ?_
 refine r_callo (k := 0) (vs := [_, _]) (.some rfl rfl) rfl cl46 rfl rfl (fun w F hw hA hFG => rt_see (R := fun r => r = Value.int .i64 (uses (RV (remP cl ls) (mkV (fun c => decide (((remP cl ls).map Prod.fst).countP (usesOf c) = 0)) iv (m + 1))) (cV iv m) : Nat)) (fun G' va vb vc hle hX hG => c_ruses16 b va vb vc (remP cl ls) (mkV (fun c => decide (((remP cl ls).map Prod.fst).countP (usesOf c) = 0)) iv (m + 1)) _ (cV iv m) hX (fun q hq => (hLS q (remP_mem q hq)).mono hle) (by rw [mkV_fst]; exact hCS.mono hle) ⟨by have := remP_len (cl := cl) ls; omega, by rw [mkV_len]; omega⟩ (hcm9.mono hle) (fun q hq => hlz q (remP_mem q hq)) w hG) hw hA hFG) ?_
 refine r_val (.some rfl rfl) rfl (p_eq rfl rfl) ?_
 refine r_val .none rfl (p_pick_t rfl rfl) ?_
 refine r_nil (e_next ?_)
 refine c_splitd (d := 68) rfl (fun h_33 => ?_) (fun h_33 => ?_)
 · (
 have hdd9 : (fun c => decide (((remP cl ls).map Prod.fst).countP (usesOf c) = 0)) (cV iv m) = true := decide_eq_true (by have h9 := h_33; unfold uses RV at h9; simp only at h9; omega)
 first
 | (exfalso; first | omega)
 | (
 refine c_cond_t rfl (c_seq (c_region (r_val .none rfl (p_move rfl) ?_)))
 refine r_unex (fun t => ?_)
 obtain ⟨ta, tb, tc⟩ := t
 refine r_unpack ?_
 dsimp only [rtL, List.cons_append, List.nil_append]
 refine r_row1 (k := 1) rfl (fun oa => ?_)
 refine r_row1 (k := 2) rfl (fun ob => ?_)
 refine r_row1 (k := 3) rfl (fun oc => ?_)
 refine r_val .none rfl (p_nilcheck rfl) ?_
 refine r_val .none rfl (p_field Try.underlying61 rfl sz33 rfl) ?_
 refine r_val .none rfl (p_ld (k := 0) Try.underlying33 rfl rfl rfl (by first | exact odt rfl | omega) rfl) ?_
 refine r_val .none rfl (p_move rfl) ?_
 refine r_say (d := 73) (v := Value.int .i64 ((m : Nat) : Int)) (congrArg (fun x => some (Value.int .i64 x)) (by push_cast; omega)) ?_
 refine r_iaddr_o (k := 3) .none rfl Try.underlying33 sz3 rfl rfl rfl (by first | exact odt rfl | omega) (fun p_34 c_35 hv_36 => ?_)
 refine r_stoe (k := 3) (cells := oC) true (fun _ => rfl) .none sz3 rfl rfl rfl (by intro z hz; simp only [oC, List.mem_singleton] at hz; subst hz; rfl) rfl hv_36 (by rw [List.length_map, mkV_len]; omega) ?_
 refine r_front (k := 3) rfl ?_
 refine r_front (k := 3) rfl ?_
 refine r_front (k := 3) rfl ?_
 refine r_front (k := 3) rfl ?_
 refine r_conv (B := box b 3 61 (at_ [ta, tb, tc])) (k := 0) rfl (fun _ _ h => box_congr (fun i hi => by match i, hi with | 0, _ => rfl | 1, _ => rfl | 2, _ => rfl) _ _ h) ?_
 refine r_conv (B := rowA tb 29 1 (((mkV (fun c => decide (((remP cl ls).map Prod.fst).countP (usesOf c) = 0)) iv m)).map Prod.fst).length ((((mkV (fun c => decide (((remP cl ls).map Prod.fst).countP (usesOf c) = 0)) iv m)).map Prod.fst).flatMap lC)) (k := 2) rfl (fun _ _ h => by rw [mkV_fst] at h ⊢; exact h) ?_
 refine r_conv (B := rowA tc 3 1 (((mkV (fun c => decide (((remP cl ls).map Prod.fst).countP (usesOf c) = 0)) iv m)).map Prod.snd).length ((((mkV (fun c => decide (((remP cl ls).map Prod.fst).countP (usesOf c) = 0)) iv m)).map Prod.snd).flatMap oC)) (k := 3) rfl (fun _ _ h => by rw [mkV_set (fun c => decide (((remP cl ls).map Prod.fst).countP (usesOf c) = 0)) (by omega) hdd9]; exact h) ?_
 dsimp only [List.set_cons_zero, List.set_cons_succ]
 refine r_shutX (E1 := 29) (E2 := 3) (ls := (remP cl ls)) (iv := (mkV (fun c => decide (((remP cl ls).map Prod.fst).countP (usesOf c) = 0)) iv m)) (ta) (tb) (tc) ?_
 refine r_nil (e_next (c_region (r_val .none rfl (p_move rfl) (r_val .none rfl (p_move rfl) ?_))))
 refine r_val .none rfl (p_add rfl rfl (by omega)) ?_
 refine r_bslice (vs := [(0, Value.int _ _)]) (c := #[_]) .none rfl Try.underlying33 el3 rfl rfl rfl (bs3_10i2 _ _) (IsRow.lit _) (fun b_3 => ?_)
 refine r_append (k := 2) (k2 := 0) .none rfl Try.underlying33 el3 rfl (by decide) rfl rfl rfl rfl rfl (one_lit rfl rfl) (by simp only [maxLen]; rw [List.length_reverse]; have h9 := numsF_len (fun c => decide (((remP cl ls).map Prod.fst).countP (usesOf c) = 0)) ((itsV iv).drop (m + 1)) (2 + ((m + 1 : Nat) : Int)); rw [List.length_drop, itsV_len] at h9; omega) (by rw [List.length_reverse]; have h9 := numsF_len (fun c => decide (((remP cl ls).map Prod.fst).countP (usesOf c) = 0)) ((itsV iv).drop (m + 1)) (2 + ((m + 1 : Nat) : Int)); rw [List.length_drop, itsV_len] at h9; omega) (fun v_37 => ?_)
 refine r_row1 (k := 2) rfl (fun o_38 => ?_)
 refine r_val .none rfl (p_assign rfl) (r_nil ?_)
 refine e_norm_block ?_
 refine e_next (c_region (r_val .none rfl (p_move rfl) ?_))
 refine r_val .none rfl (p_sub rfl rfl (by omega)) ?_
 refine r_val .none rfl (p_assign rfl) (r_nil ?_)
 refine e_front (k := 1) rfl ?_
 refine e_front (k := 2) rfl ?_
 refine e_round ((m, _)) ⟨by dsimp only; omega, by dsimp only; omega⟩ rfl ⟨(congrArg (fun z => some (Value.int .i64 z)) (by push_cast; omega)), rfl, rfl, rfl, rfl, trivial⟩ (.keep (fun _ _ h => rowA_snoc (by rw [nums_down (by omega), if_pos ⟨ho9, hdd9⟩, List.reverse_append]; show _ ++ [(2 : Int) + (m : Nat)] = _; congr 2; push_cast; omega) rfl rfl rfl _ _ h) (.keep (fun _ _ h => h) (.drop (.nil))))))
 · (
 have hdd9 : (fun c => decide (((remP cl ls).map Prod.fst).countP (usesOf c) = 0)) (cV iv m) = false := decide_eq_false (by have h9 := h_33; unfold uses RV at h9; simp only at h9; omega)
 first
 | (exfalso; first | omega)
 | (
 refine c_cond_f rfl (c_skip ?_)
 refine e_norm_block ?_
 refine e_next (c_region (r_val .none rfl (p_move rfl) ?_))
 refine r_val .none rfl (p_sub rfl rfl (by omega)) ?_
 refine r_val .none rfl (p_assign rfl) (r_nil ?_)
 have hsm9 : (mkV (fun c => decide (((remP cl ls).map Prod.fst).countP (usesOf c) = 0)) iv m) = (mkV (fun c => decide (((remP cl ls).map Prod.fst).countP (usesOf c) = 0)) iv (m + 1)) := mkV_same (fun c => decide (((remP cl ls).map Prod.fst).countP (usesOf c) = 0)) (by omega) (by first | exact .inl ho9 | exact .inr hdd9)
 refine e_front (k := 1) rfl ?_
 refine e_round ((m, _)) ⟨by dsimp only; omega, by dsimp only; omega⟩ rfl ⟨(congrArg (fun z => some (Value.int .i64 z)) (by push_cast; omega)), rfl, rfl, rfl, rfl, trivial⟩ (.keep (fun _ _ h => by rw [nums_down (by omega), if_neg (by rintro ⟨h1, h2⟩; first | (rw [show decide (((remP cl ls).map Prod.fst).countP (usesOf (cV iv m)) = 0) = false from hdd9] at h2; cases h2; done) | (rw [ho9] at h1; cases h1; done)), List.nil_append]; exact h) (.keep (fun _ _ h => by rw [hsm9]; exact h) (.nil)))))))
 · (
 have ho9 : oV iv m = true := by (have ho := h_29; rw [mkV_o (fun c => decide (((remP cl ls).map Prod.fst).countP (usesOf c) = 0)) (by omega)] at ho; cases e : oV iv m with | true => rfl | false => (rw [e] at ho; simp [vi] at ho))
 first
 | (exfalso; first | omega)
 | (
 refine r_skip rfl (.no rfl rfl) ?_
 refine r_skip rfl (.no rfl rfl) ?_
 refine r_skip rfl (.no rfl rfl) ?_
 refine r_skip rfl (.no rfl rfl) ?_
 refine r_skip rfl (.no rfl rfl) ?_
 refine r_skip rfl (.no rfl rfl) ?_
 refine r_skip rfl (.no rfl rfl) ?_
 refine r_skip rfl (.no rfl rfl) ?_
 refine r_skip rfl (.no rfl rfl) ?_
 refine r_skip rfl (.no rfl rfl) ?_
 refine r_val .none rfl (p_pick_f rfl rfl) ?_
 refine r_nil (e_next (c_cond_f rfl (c_skip ?_)))
 refine e_norm_block ?_
 refine e_next (c_region (r_val .none rfl (p_move rfl) ?_))
 refine r_val .none rfl (p_sub rfl rfl (by omega)) ?_
 refine r_val .none rfl (p_assign rfl) (r_nil ?_)
 refine e_front (k := 3) rfl ?_
 refine e_front (k := 3) rfl ?_
 refine e_front (k := 3) rfl ?_
 refine e_front (k := 3) rfl ?_
 refine e_conv (B := box b 3 61 (at_ [ta, tb, tc])) (k := 0) rfl (fun _ _ h => box_congr (fun i hi => by match i, hi with | 0, _ => rfl | 1, _ => rfl | 2, _ => rfl) _ _ h) ?_
 dsimp only [List.set_cons_zero, List.set_cons_succ]
 refine e_shutX (E1 := 29) (E2 := 3) (ls := (remP cl ls)) (iv := (mkV (fun c => decide (((remP cl ls).map Prod.fst).countP (usesOf c) = 0)) iv (m + 1))) (ta) (tb) (tc) ?_
 have hsm9 : (mkV (fun c => decide (((remP cl ls).map Prod.fst).countP (usesOf c) = 0)) iv m) = (mkV (fun c => decide (((remP cl ls).map Prod.fst).countP (usesOf c) = 0)) iv (m + 1)) := mkV_same (fun c => decide (((remP cl ls).map Prod.fst).countP (usesOf c) = 0)) (by omega) (by first | exact .inl ho9 | exact .inr hdd9)
 refine e_front (k := 1) rfl ?_
 refine e_round ((m, _)) ⟨by dsimp only; omega, by dsimp only; omega⟩ rfl ⟨(congrArg (fun z => some (Value.int .i64 z)) (by push_cast; omega)), rfl, rfl, rfl, rfl, trivial⟩ (.keep (fun _ _ h => by rw [nums_down (by omega), if_neg (by rintro ⟨h1, h2⟩; first | (rw [show decide (((remP cl ls).map Prod.fst).countP (usesOf (cV iv m)) = 0) = false from hdd9] at h2; cases h2; done) | (rw [ho9] at h1; cases h1; done)), List.nil_append]; exact h) (.keep (fun _ _ h => by rw [hsm9]; exact h) (.nil)))))))
 · (
 first
 | (exfalso; first | omega)
 | (
 refine c_cond_f rfl (c_exit (e_exit_then (e_exit_then ?_)))
 refine e_exit_block ?_
 refine e_next (c_seq (c_region (r_val .none rfl (p_move rfl) (r_val .none rfl (p_assign rfl) ?_))))
 refine r_val .none rfl (p_assign rfl) (r_nil (e_next ?_))
 refine c_ret ?_
 obtain rfl : n = 0 := by omega
 refine e_freeze (k := 0) rfl (fun G_39 hn_40 hs_41 => ?_)
 replace hs := hs.mono hn_40.le
 replace hLS := StC.mono hLS hn_40.le
 replace hCS := StC.mono hCS hn_40.le
 have hrm9 : RV (remP cl ls) (mkV (fun c => decide (((remP cl ls).map Prod.fst).countP (usesOf c) = 0)) iv 0) = remR (RV ls iv) cl := by (unfold RV remR; rw [mkV_its, remP_map])
 have hgo9 : goneR (RV ls iv) cl = (numsF (fun c => decide (((remP cl ls).map Prod.fst).countP (usesOf c) = 0)) ((itsV iv).drop 0) (2 + ((0 : Nat) : Int))).reverse := by (unfold goneR RV; rw [remP_map]; rfl)
 refine e_retn Try.results24 (.tmp rfl (.tmp rfl .nil)) rfl (fun w hm => ⟨_, ((remP cl ls), (mkV (fun c => decide (((remP cl ls).map Prod.fst).countP (usesOf c) = 0)) iv 0)), hn_40, hm.has, ⟨⟨_, rfl, SlL.of2 (cells := cI) (0 : Int) (fun _ => rfl) (by rw [hgo9]) (by rw [hgo9]) hs_41⟩, hrm9, fun q hq => hLS q (remP_mem q hq), by rw [mkV_fst]; exact hCS⟩, hm.keptG [rtA 61 29 3 b ((remP cl ls)) ((mkV (fun c => decide (((remP cl ls).map Prod.fst).countP (usesOf c) = 0)) iv 0))] (.keep (fun _ _ h => h) (.nil)) (rtA 61 29 3 b ((remP cl ls)) ((mkV (fun c => decide (((remP cl ls).map Prod.fst).countP (usesOf c) = 0)) iv 0))) (fun F' h => (starL_oneE _ _).1 h)⟩)))))))
end Go.Proofs.Ytdkfdncbldngdaa

/- Walks: what Go functions of this chapter come to, each as a function on plain data; no condition but those that each theorem names. Printed by a program of this work (gen.py). -/
namespace Go.Proofs.Ytdkfdncbldngdaa
open Go.Gx Go.Gx.T16 Go.Gx.T8 Go.Gx.T6 Go.Gx.T4 Go.Gx.T3 Go.Gx.T4 Go.Gx.T3 Go.Gx.T6 Go.Gx.T8 Go.Gx.T4 Go.Gx.T3 Go.Gx.T8 Go.Gx.T4 Go.Gx.T3 Go.Gx.T8 Go.Gx.T6 Go.Gx.T4 Go.Gx.T3

set_option maxHeartbeats 2000000 in
theorem c_rremN {F : Nat → Prop} {G : Ghost} (b : Nat) (ls : List (List ST × Value)) (iv : List IV) (v : Value) (cl : List ST) (hs : Ss G v cl) (hLS : StC G ls) (hCS : StC G (iv.map Prod.fst)) (hnl : ls.length ≤ 900 ∧ iv.length ≤ 3000) (hlz : ∀ q ∈ ls, sszL q.1 ≤ 4000) (hth : there (RV ls iv) cl = false) (w : World) (hG : Has G w) (hA : (rtA 61 29 3 b (ls) (iv)).holds w F) (hFG : ∀ b, F b → G b = none) :
    Calls Try.prog 24 #[Value.pointer (some ⟨b, 0, none⟩), v] w (Ret fun r w' => r = Value.tuple #[Value.slice none 0 0, Value.bool false] ∧ Kept (rtA 61 29 3 b (ls) (iv)) F w w') := by
 refine enterO (args := [_, _]) (G := G) (A := rtA 61 29 3 b (ls) (iv)) (l := [(0, Value.pointer (some ⟨b, 0, none⟩)), (1, v)]) Try.func24 rfl Try.ntmps24 hG hA hFG ⟨rfl, rfl, trivial⟩ (Nat.le_of_ble_eq_true rfl) ?_
 have hvl : (iv.map Prod.fst).length = iv.length := List.length_map _
 refine c_unex (fun t => ?_)
 refine c_unpack ?_
 dsimp only [rtL, List.cons_append, List.nil_append]
 refine c_row1 (k := 1) rfl (fun oa => ?_)
 refine c_row1 (k := 2) rfl (fun ob => ?_)
 refine c_row1 (k := 3) rfl (fun oc => ?_)
 refine c_seq (c_region (r_val .none rfl (p_assign rfl) (r_val .none rfl (p_assign rfl) (r_nil ?_))))
 refine e_next (c_seq (c_region (r_val .none rfl (p_assign rfl) (r_nil ?_))))
 refine e_next (c_seq (c_region (r_val .none rfl (p_assign rfl) (r_nil ?_))))
 refine e_next (c_seq (c_seq (c_region (r_val .none rfl (p_move rfl) ?_))))
 refine r_val .none rfl (p_nilcheck rfl) ?_
 refine r_val .none rfl (p_field Try.underlying61 rfl sz26 rfl) ?_
 refine r_val .none rfl (p_ld (k := 0) Try.underlying26 rfl rfl rfl (by first | exact odt rfl | omega) rfl) ?_
 refine r_val .none rfl (p_leno (k := 1) Try.underlying26 rfl rfl) ?_
 refine r_val .none rfl (p_move rfl) (r_nil (e_next (c_block ?_)))
 refine c_nilrow 29 1 ?_
 refine c_name (d := 0) rfl (fun u_1 hu_1 => ?_)
 refine c_name (d := 1) rfl (fun u_2 hu_2 => ?_)
 refine c_name (d := 4) rfl (fun u_3 hu_3 => ?_)
 refine c_name (d := 5) rfl (fun u_4 hu_4 => ?_)
 refine c_name (d := 15) rfl (fun u_5 hu_5 => ?_)
 refine c_name (d := 16) rfl (fun u_6 hu_6 => ?_)
 refine c_nameL (k := 1) rfl (fun A_7 hA_7 => ?_)
 refine c_nameL (k := 2) rfl (fun A_8 hA_8 => ?_)
 refine c_nameL (k := 3) rfl (fun A_9 hA_9 => ?_)
 refine c_nameL (k := 4) rfl (fun A_10 hA_10 => ?_)
 refine c_loop (σ := Nat × Value) (fun s' => [(17, Value.int .i64 (s'.1 : Nat)), (7, Value.bool (((ls.map Prod.fst).take s'.1).any (ceq · cl))), (6, s'.2), (0, u_1), (1, u_2), (4, u_3), (5, u_4), (15, u_5), (16, u_6)]) (fun s' => [rowA (s'.2) 29 1 ((remP cl (ls.take s'.1))).length (((remP cl (ls.take s'.1))).flatMap lC), A_7, A_8, A_9, A_10]) (fun _ => _) (fun s' => s'.1 ≤ ls.length) (fun s' => ls.length - s'.1) ((0, _)) (Nat.zero_le _) rfl ⟨rfl, (congrArg (fun b => some (Value.bool b)) (by simp)), rfl, rfl, rfl, rfl, rfl, rfl, rfl, trivial⟩ (.keep (fun _ _ h => rowA_nil (by simp [remP]) _ _ h) (.keep (fun _ _ h => h) (.keep (fun _ _ h => h) (.keep (fun _ _ h => h) (.keep (fun _ _ h => h) (.nil)))))) (fun s' hphi => ?_)
 subst hu_1
 subst hu_2
 subst hu_3
 subst hu_4
 subst hu_5
 subst hu_6
 subst hA_7
 subst hA_8
 subst hA_9
 subst hA_10
 obtain ⟨k, ov⟩ := s'
 dsimp only at hphi ⊢
 refine c_seq (c_region ?_)
 refine r_val .none rfl (p_lt rfl rfl) ?_
 refine r_nil (e_next (c_seq ?_))
 refine c_splitd (d := 18) rfl (fun h_11 => ?_) (fun h_11 => ?_)
 · (
 first
 | (exfalso; first | omega)
 | (
 refine c_cond_t rfl (c_skip (e_next (c_seq (c_block ?_))))
 refine c_seq (c_region ?_)
 refine r_iaddr_o (k := 2) .none rfl Try.underlying26 sz29 rfl rfl rfl (by first | exact odt rfl | omega) (fun p_12 c_13 hv_14 => ?_)
 refine r_val .none rfl (p_ldo0 (k := 2) Try.underlying29 rfl rfl hv_14 rfl (by first | exact odt rfl | omega) (by first | exact odt rfl | omega) ((flatMap_get (cells := lC) (fun _ => rfl) es6 _ _ _ (by first | exact odt rfl | omega) (by first | exact odt rfl | omega)).trans rfl)) ?_
 refine r_val .none rfl (p_assign rfl) ?_
 have hc8 := hLS _ (getD_mem (i := k) (d := es6) (by omega))
 obtain ⟨a9, c9, he9⟩ := ss_len hc8
 have hc9 : Ss G (Value.slice a9 (ls.getD k es6).1.length c9) (ls.getD k es6).1 := by rw [← he9]; exact hc8
 refine r_say (d := 9) (v := Value.slice a9 (ls.getD k es6).1.length c9) (congrArg some he9) ?_
 have hpk : (ls.getD k es6) = ((ls.getD k es6).1, Value.slice a9 (ls.getD k es6).1.length c9) := by rw [← he9]
 have htk9 : ls.take (k + 1) = ls.take k ++ [(ls.getD k es6)] := by rw [List.take_succ_eq_append_getElem (by omega)]; simp [List.getD, List.getElem?_eq_getElem (show k < ls.length by omega)]
 have hmk9 : (ls.take k).map Prod.fst = (ls.map Prod.fst).take k := List.map_take
 refine r_nil (e_next (c_seq (c_seq (c_region ?_))))
 refine r_val .none rfl (p_move rfl) ?_
 refine r_val .none rfl (p_not rfl) ?_
 refine r_val .none rfl (p_move rfl) ?_
 refine r_splitn (d := 23) rfl (fun h_15 => ?_) (fun h_15 => ?_)
 · (
 have hf9 : ((ls.map Prod.fst).take k).any (ceq · cl) = false := by simpa using h_15
 first
 | (exfalso; first | omega)
 | (
 refine r_val (.some rfl rfl) rfl (p_move rfl) ?_
 refine r_val (.some rfl rfl) rfl (p_move rfl) ?_
 refine r_call (vs := [_, _]) (.some rfl rfl) rfl cl36 rfl (fun w hw => c_all8 _ _ (ls.getD k es6).1 cl hc9 hs w hw) ?_
 refine r_val .none rfl (p_pick_t rfl rfl) ?_
 refine r_nil (e_next ?_)
 refine c_split (d := 27) rfl (fun h_16 => ?_) (fun h_16 => ?_)
 · (
 have hE9 : ceq (ls.getD k es6).1 cl = true := h_16
 first
 | (exfalso; first | omega)
 | (
 refine c_cond_t rfl (c_seq (c_region (r_val .none rfl (p_assign rfl) (r_nil ?_))))
 refine e_next (c_exit (e_exit_then ?_))
 refine e_exit_block ?_
 refine e_next (c_region ?_)
 refine r_val .none rfl (p_add rfl rfl (by omega)) ?_
 refine r_val .none rfl (p_move rfl) (r_nil ?_)
 refine e_front (k := 4) rfl ?_
 refine e_front (k := 4) rfl ?_
 refine e_front (k := 4) rfl ?_
 refine e_front (k := 4) rfl ?_
 refine e_front (k := 4) rfl ?_
 refine e_round ((k + 1, _)) ⟨by dsimp only; omega, by dsimp only; omega⟩ rfl ⟨rfl, (congrArg (fun b => some (Value.bool b)) (by rw [any_next (map_getElem (d := es6) (by omega)), hE9, Bool.or_true])), rfl, rfl, rfl, rfl, rfl, rfl, rfl, trivial⟩ (.keep (fun _ _ h => by rw [htk9, remP_snoc, hmk9, if_neg (by rw [hf9]; simp), if_pos hE9]; rw [remP_none (by rw [hmk9]; exact hf9)] at h; exact h) (.keep (fun _ _ h => h) (.keep (fun _ _ h => h) (.keep (fun _ _ h => h) (.keep (fun _ _ h => h) (.nil))))))))
 · (
 have hE9 : ceq (ls.getD k es6).1 cl = false := h_16
 first
 | (exfalso; first | omega)
 | (
 refine c_cond_f rfl (c_skip (e_next (c_region (r_val .none rfl (p_move rfl) ?_))))
 refine r_val .none rfl (p_move rfl) ?_
 refine r_bslice (vs := [(0, Value.slice _ _ _)]) (c := #[_]) .none rfl Try.underlying26 el29 rfl rfl rfl (bs29_10s3 _ _ _) (IsRow.lit _) (fun b_1 => ?_)
 refine r_append (k := 1) (k2 := 0) .none rfl Try.underlying26 el29 rfl (by decide) rfl rfl rfl rfl rfl (one_lit rfl rfl) (by simp only [maxLen]; have h9 := remP_len (cl := cl) (ls.take k); rw [List.length_take] at h9; omega) (by have h9 := remP_len (cl := cl) (ls.take k); rw [List.length_take] at h9; omega) (fun v_17 => ?_)
 refine r_row1 (k := 1) rfl (fun o_18 => ?_)
 refine r_val .none rfl (p_assign rfl) (r_nil ?_)
 refine e_norm_block ?_
 refine e_next (c_region ?_)
 refine r_val .none rfl (p_add rfl rfl (by omega)) ?_
 refine r_val .none rfl (p_move rfl) (r_nil ?_)
 refine e_front (k := 5) rfl ?_
 refine e_front (k := 5) rfl ?_
 refine e_front (k := 5) rfl ?_
 refine e_front (k := 5) rfl ?_
 refine e_front (k := 5) rfl ?_
 refine e_round ((k + 1, _)) ⟨by dsimp only; omega, by dsimp only; omega⟩ rfl ⟨rfl, (congrArg (fun b => some (Value.bool b)) (by rw [any_next (map_getElem (d := es6) (by omega))]; first | (rw [hf9, Bool.true_or]; done) | (rw [hE9, Bool.or_false]; done))), rfl, rfl, rfl, rfl, rfl, rfl, rfl, trivial⟩ (.keep (fun _ _ h => rowA_snoc (by rw [htk9, remP_snoc, hmk9]; first | (rw [if_pos hf9]; done) | (rw [if_neg (by rw [hf9]; simp), if_neg (by rw [hE9]; simp), remP_none (by rw [hmk9]; exact hf9)]; done)) rfl rfl (by rw [hpk]; rfl) _ _ h) (.keep (fun _ _ h => h) (.keep (fun _ _ h => h) (.keep (fun _ _ h => h) (.keep (fun _ _ h => h) (.drop (.nil)))))))))))
 · (
 have hf9 : ((ls.map Prod.fst).take k).any (ceq · cl) = true := by simpa using h_15
 first
 | (exfalso; first | omega)
 | (
 refine r_skip rfl (.no rfl rfl) ?_
 refine r_skip rfl (.no rfl rfl) ?_
 refine r_skip rfl (.no rfl rfl) ?_
 refine r_val .none rfl (p_pick_f rfl rfl) ?_
 refine r_nil (e_next (c_cond_f rfl (c_skip (e_next ?_))))
 refine c_region (r_val .none rfl (p_move rfl) (r_val .none rfl (p_move rfl) ?_))
 refine r_bslice (vs := [(0, Value.slice _ _ _)]) (c := #[_]) .none rfl Try.underlying26 el29 rfl rfl rfl (bs29_10s3 _ _ _) (IsRow.lit _) (fun b_2 => ?_)
 refine r_append (k := 1) (k2 := 0) .none rfl Try.underlying26 el29 rfl (by decide) rfl rfl rfl rfl rfl (one_lit rfl rfl) (by simp only [maxLen]; have h9 := remP_len (cl := cl) (ls.take k); rw [List.length_take] at h9; omega) (by have h9 := remP_len (cl := cl) (ls.take k); rw [List.length_take] at h9; omega) (fun v_19 => ?_)
 refine r_row1 (k := 1) rfl (fun o_20 => ?_)
 refine r_val .none rfl (p_assign rfl) (r_nil ?_)
 refine e_norm_block ?_
 refine e_next (c_region ?_)
 refine r_val .none rfl (p_add rfl rfl (by omega)) ?_
 refine r_val .none rfl (p_move rfl) (r_nil ?_)
 refine e_front (k := 5) rfl ?_
 refine e_front (k := 5) rfl ?_
 refine e_front (k := 5) rfl ?_
 refine e_front (k := 5) rfl ?_
 refine e_front (k := 5) rfl ?_
 refine e_round ((k + 1, _)) ⟨by dsimp only; omega, by dsimp only; omega⟩ rfl ⟨rfl, (congrArg (fun b => some (Value.bool b)) (by rw [any_next (map_getElem (d := es6) (by omega))]; first | (rw [hf9, Bool.true_or]; done) | (rw [hE9, Bool.or_false]; done))), rfl, rfl, rfl, rfl, rfl, rfl, rfl, trivial⟩ (.keep (fun _ _ h => rowA_snoc (by rw [htk9, remP_snoc, hmk9]; first | (rw [if_pos hf9]; done) | (rw [if_neg (by rw [hf9]; simp), if_neg (by rw [hE9]; simp), remP_none (by rw [hmk9]; exact hf9)]; done)) rfl rfl (by rw [hpk]; rfl) _ _ h) (.keep (fun _ _ h => h) (.keep (fun _ _ h => h) (.keep (fun _ _ h => h) (.keep (fun _ _ h => h) (.drop (.nil)))))))))))
 · (
 first
 | (exfalso; first | omega)
 | (
 refine c_cond_f rfl (c_exit (e_exit_then (e_exit_then ?_)))
 refine e_exit_block ?_
 refine e_next (c_seq (c_seq (c_region (r_val .none rfl (p_move rfl) ?_))))
 refine r_val .none rfl (p_not rfl) ?_
 refine r_nil (e_next ?_)
 refine c_splitn (d := 34) rfl (fun h_21 => ?_) (fun h_21 => ?_)
 · (
 first
 | (exfalso; first | omega)
 | (
 refine c_cond_t rfl (c_seq (c_region (r_val .none rfl (p_assign rfl) (r_val .none rfl (p_assign rfl) ?_))))
 refine r_nil (e_next ?_)
 refine c_ret ?_
 refine e_ret_then ?_
 refine e_front (k := 4) rfl ?_
 refine e_front (k := 4) rfl ?_
 refine e_front (k := 4) rfl ?_
 refine e_front (k := 4) rfl ?_
 refine e_conv (B := box b 3 61 (at_ [t.1, t.2.1, t.2.2])) (k := 0) rfl (fun _ _ h => box_congr (fun i hi => by match i, hi with | 0, _ => rfl | 1, _ => rfl | 2, _ => rfl) _ _ h) ?_
 dsimp only [List.set_cons_zero, List.set_cons_succ]
 refine e_shutX (E1 := 29) (E2 := 3) (ls := ls) (iv := iv) (t.1) (t.2.1) (t.2.2) ?_
 refine e_retn Try.results24 (.tmp rfl (.tmp rfl .nil)) rfl (fun w hm => ⟨rfl, hm.kept [rtA 61 29 3 b (ls) (iv)] (.keep (fun _ _ h => h) (.drop (.nil))) (rtA 61 29 3 b (ls) (iv)) (fun F' h => (starL_oneE _ _).1 h)⟩)))
 · (
 have hx : False := (by have h9 := h_21; rw [List.take_of_length_le (by rw [List.length_map]; omega)] at h9; rw [show (ls.map Prod.fst).any (ceq · cl) = false from hth] at h9; simp at h9)
 exact hx.elim)))
end Go.Proofs.Ytdkfdncbldngdaa

/- Is a trie just the document's: what the walk goes by; no program in sight. -/
namespace Go.Gx.T16
open Go.Gx Go.Gx.T3 Go.Gx.T4 Go.Gx.T6 Go.Gx.T8
theorem RSeen.mono {G G' : Ghost} {b : Nat} {va vb vc : Value} {ls : List (List ST × Value)} {iv : List IV} (h : RSeen G b va vb vc ls iv) (hle : GLe G G') : RSeen G' b va vb vc ls iv := ⟨h.row.mono hle, h.l.mono hle, h.c.mono hle, h.o.mono hle⟩
mutual
theorem chain1_of : ∀ (c : CT) (ch : List CT) (ah : List ST), (schain1 ah (stepOf ch c)).length ≤ size c
  | .mk h l, ch, ah => by
    rw [stepOf, size]
    split
    · have := chains_of l ch ah
      rw [schain1]
      split <;> simp <;> omega
    · rw [schain1]
      split <;> simp [schains] <;> omega
theorem chains_of : ∀ (l : List CT) (ch : List CT) (ah : List ST), (schains ah (stepsOf ch l)).length ≤ sizeL l
  | [], _, _ => by simp [stepsOf, schains]
  | c :: t, ch, ah => by
    have h1 := chain1_of c ch ah
    have h2 := chains_of t (ch ++ [c]) (ah ++ [stepOf ch c])
    rw [stepsOf, schains, sizeL, List.length_append]; omega
end
theorem add_len2 (R : RT) (l : List CT) : (addR R (stepsOf [] l)).its.length ≤ R.its.length + sizeL l := by
  have h1 := (pushes_len (schains [] (stepsOf [] l)) R).2
  have h2 := chains_of l [] []
  show (pushes R (schains [] (stepsOf [] l))).its.length ≤ _
  omega
section
variable {R : RT} {id : Int} {c d : List ST}
theorem nR_some (h : getR R id = some c) : nR R id = ndR R c := by unfold nR; rw [h]; rfl
theorem nR_none (h : getR R id = none) : nR R id = pn0 := by unfold nR; rw [h]; rfl
theorem nR_kids (R : RT) (id : Int) : (nR R id).kids.length ≤ R.its.length ∧ (nR R id).outer.length ≤ R.its.length := by
  cases h : getR R id with
  | none => rw [nR_none h]; exact ⟨Nat.zero_le _, Nat.zero_le _⟩
  | some c => rw [nR_some h]; exact ⟨numsF_len _ _ _, numsF_len _ _ _⟩
theorem chain_small {m : Nat} (hU : Used R) (hl : ∀ x ∈ R.lists, sszL x ≤ m) (h : getR R id = some c) : sszL c ≤ m := by
  rcases getR_iff.1 h with ⟨_, rfl⟩ | ⟨_, j, _, hj⟩
  · exact Nat.zero_le _
  · have h1 := hU c (List.mem_of_getElem? hj)
    obtain ⟨l, h2, h3⟩ := List.countP_pos_iff.1 h1
    rcases usesOf_iff.1 h3 with rfl | h4
    · exact Nat.zero_le _
    · have h5 := schains_size l [] c h4
      have h6 := hl l h2
      rw [show sszL ([] : List ST) = 0 from rfl] at h5
      omega
theorem find_is (hC : Clo R) (h : getR R id = some c) : find R d = id ↔ d = c := by
  constructor
  · intro e
    have h0 := get_lt h
    have h1 : find R d ≠ 0 := by omega
    have h2 := find_some hC.ne h1
    rw [e, h] at h2
    exact (Option.some.inj h2).symm
  · rintro rfl
    exact find_of hC h
/-- Has a number's chain something? -/
def pickR (R : RT) (q : List ST → Bool) (k : Int) : Bool := match getR R k with
  | some d => q d
  | none => false
theorem pickR_some {q : List ST → Bool} (h : getR R id = some d) : pickR R q id = q d := by unfold pickR; rw [h]
theorem sorted_same : ∀ {a b : List Int}, a.Pairwise (· < ·) → b.Pairwise (· < ·) → (∀ k, k ∈ a ↔ k ∈ b) → a = b := fun {a b} ha hb h => by
  refine List.Perm.eq_of_pairwise (le := (· < ·)) (fun x y _ _ h1 h2 => by omega) ha hb ?_
  exact (List.perm_ext_iff_of_nodup (ha.imp (fun h => Int.ne_of_lt h)) (hb.imp (fun h => Int.ne_of_lt h))).2 h
theorem all_pick {q : List ST → Bool} (h0 : q [] = false) : (all R).filter (pickR R q) = numsF q R.its 2 := by
  refine sorted_same ((all_sorted R).filter _) numsF_sorted fun k => ?_
  rw [List.mem_filter, all_mem, numsF_mem]
  constructor
  · rintro ⟨⟨d, hd⟩, hq⟩
    rw [pickR_some hd] at hq
    rcases getR_iff.1 hd with ⟨_, rfl⟩ | ⟨_, j, h1, h2⟩
    · rw [h0] at hq; cases hq
    · exact ⟨j, d, by omega, h2, hq⟩
  · rintro ⟨j, d, h1, h2, h3⟩
    have hd : getR R k = some d := getR_iff.2 (.inr ⟨by omega, j, by omega, h2⟩)
    exact ⟨⟨d, hd⟩, by rw [pickR_some hd]; exact h3⟩
theorem all_kids (R : RT) (c : List ST) : (all R).filter (pickR R (isKid c)) = kidsR R c := all_pick (by simp [isKid])
theorem all_outer (R : RT) (c : List ST) : (all R).filter (pickR R (isOuter c)) = outerR R c := all_pick (by rfl)
theorem filt_yes {P : Int → Bool} {l : List Int} {j : Nat} (hj : j < l.length) (h : P (l.getD j 0) = true) : (l.take (j + 1)).filter P = (l.take j).filter P ++ [l.getD j 0] := by
  have e : l[j] = l.getD j 0 := by simp [List.getD, hj]
  rw [List.take_succ_eq_append_getElem hj, List.filter_append, e, List.filter_cons_of_pos h, List.filter_nil]
theorem filt_no {P : Int → Bool} {l : List Int} {j : Nat} (hj : j < l.length) (h : P (l.getD j 0) = false) : (l.take (j + 1)).filter P = (l.take j).filter P := by
  have e : l[j] = l.getD j 0 := by simp [List.getD, hj]
  rw [List.take_succ_eq_append_getElem hj, List.filter_append, e, List.filter_cons_of_neg (by rw [h]; simp), List.filter_nil, List.append_nil]
theorem kid_take (hd : d.length = c.length + 1) : isKid c d = ceq (d.take c.length) c := by
  unfold isKid
  rw [List.dropLast_eq_take, hd, decide_eq_true rfl, Bool.true_and, Nat.add_sub_cancel]
theorem pick_kid_yes {k : Int} (hC : Clo R) (h : getR R id = some c) (hk : getR R k = some d) (hl : d.length = c.length + 1) (hf : find R (d.take c.length) = id) : pickR R (isKid c) k = true := by
  rw [pickR_some hk, kid_take hl]
  exact (ceq_iff _ _).2 ((find_is hC h).1 hf)
theorem pick_kid_no {k : Int} (hC : Clo R) (h : getR R id = some c) (hk : getR R k = some d) (hl : d.length ≠ c.length + 1 ∨ find R (d.take c.length) ≠ id) : pickR R (isKid c) k = false := by
  rw [pickR_some hk]
  by_cases hd : d.length = c.length + 1
  · rw [kid_take hd]
    refine ceq_ne fun e => ?_
    rcases hl with hl | hl
    · exact hl hd
    · exact hl ((find_is hC h).2 e)
  · unfold isKid
    rw [decide_eq_false hd, Bool.false_and]
theorem outer_is (hC : Clo R) (h : getR R id = some c) : isOuter c d = decide (inner R d = id) := by
  unfold isOuter inner
  cases innerOf d with
  | none =>
    have := get_lt h
    exact (decide_eq_false (show ¬ (0 : Int) = id by omega)).symm
  | some e =>
    simp only
    by_cases he : e = c
    · rw [(ceq_iff e c).2 he, decide_eq_true ((find_is hC h).2 he)]
    · rw [ceq_ne he, decide_eq_false (fun h2 => he ((find_is hC h).1 h2))]
theorem last_is {rs : List SVal} {m : Nat} (h : c = rs.map Prod.fst) (hm : rs.length = m + 1) : c.getLastD sZ = (rs.getD m s0).1 ∧ c.dropLast = (rs.map Prod.fst).take m := by
  have e : c = (rs.map Prod.fst).take m ++ [(rs.getD m s0).1] := by rw [h, ← sv_take (k := m) (by omega), List.take_of_length_le (by rw [List.length_map]; omega)]
  exact ⟨by rw [e]; simp, by conv => lhs; rw [e, List.dropLast_concat]⟩
theorem par_nil (h : c.length = 0) : (ndR R c).par = 0 := by show (if c.length = 0 then (0 : Int) else _) = 0; rw [if_pos h]
theorem par_snoc {rs : List SVal} {m : Nat} (h : c = rs.map Prod.fst) (hm : rs.length = m + 1) : (ndR R c).par = find R ((rs.map Prod.fst).take m) := by
  show (if c.length = 0 then (0 : Int) else find R c.dropLast) = _
  rw [if_neg (by rw [h, List.length_map]; omega), (last_is h hm).2]
theorem par_pos (hC : Clo R) (hg : getR R id = some c) (h : c.length ≠ 0) : 0 < (ndR R c).par := by
  show 0 < (if c.length = 0 then (0 : Int) else find R c.dropLast)
  rw [if_neg h]
  rcases getR_iff.1 hg with ⟨_, rfl⟩ | ⟨_, j, _, hj⟩
  · exact absurd rfl h
  · have h1 := (hC.up j c hj).1
    have h2 := (find_nonneg R c.dropLast).1
    omega
theorem last_small {m : Nat} (h : sszL c ≤ m) (hm : 1 ≤ m := by omega) : ssz (c.getLastD sZ) ≤ m := by
  rcases List.eq_nil_or_concat c with rfl | ⟨a, e, rfl⟩
  · exact hm
  · have h8 := sszL_mem (l := a ++ [e]) (x := e) (by simp)
    simp only [List.concat_eq_append] at h ⊢
    rw [List.getLastD_concat]; omega
end
end Go.Gx.T16
