/- Texts of this work, laid together: a logic of steps, plain laws, and walks of Go functions, each without a condition but those that its theorems name. -/
import Derived.Test.YtdkfdncbldngdaaKTrieBack3
import Derived.Test.YtdkfdncbldngdaaRows
/- Walks: what Go functions of this chapter come to, each as a function on plain data; no condition but those that each theorem names. Printed by a program of this work (gen.py). -/
namespace Go.Proofs.Ytdkfdncbldngdaa
open Go.Gx Go.Gx.T16 Go.Gx.T8 Go.Gx.T6 Go.Gx.T4 Go.Gx.T3 Go.Gx.T8 Go.Gx.T4 Go.Gx.T3 Go.Gx.T8 Go.Gx.T6 Go.Gx.T4 Go.Gx.T3
theorem sz71 : SzIs Try.prog 71 13 := by
 unfold SzIs
 kernel_rfl
theorem zr71 : ZeroIs Try.prog 71 (Value.agg #[Value.int .i64 0, Value.int .i64 0, Value.int .i64 0, Value.int .i64 0, Value.slice none 0 0, Value.slice none 0 0, Value.int .i64 0, Value.slice none 0 0, Value.int .i64 0, Value.int .i64 0, Value.int .i64 0, Value.int .i64 0, Value.slice none 0 0]) := by
 unfold ZeroIs
 kernel_rfl
theorem cl33 : Callable Try.prog 33 := callable Try.func33 (by kernel_rfl) rfl
theorem cl38 : Callable Try.prog 38 := callable Try.func38 (by kernel_rfl) rfl
theorem bl71_  : Program.built Try.prog 71 [] = some #[Value.int .i64 0, Value.int .i64 0, Value.int .i64 0, Value.int .i64 0, Value.slice none 0 0, Value.slice none 0 0, Value.int .i64 0, Value.slice none 0 0, Value.int .i64 0, Value.int .i64 0, Value.int .i64 0, Value.int .i64 0, Value.slice none 0 0] := by
 kernel_rfl
theorem c_zfrom {F : Nat → Prop} {G : Ghost} (p : Nat) (id : Int) (c : List ST) (v : Value) (cl : List ST) (l : NL) (ls : Int) (R : RT) (z : Nat) (hV : Seen 71 3 G l R) (hc : getR R id = some c) (hs : Ss G v cl) (w : World) (hG : Has G w) (hA : (starL (trL 74 p (KS.mk l ls) z)).holds w F) (hFG : ∀ b, F b → G b = none) :
    Calls Try.prog 38 #[Value.pointer (some ⟨p, 0, none⟩), Value.int .i64 id, v] w (Ret fun r w' => r = Value.int .i64 (find R (c ++ cl)) ∧ Kept (starL (trL 74 p (KS.mk l ls) z)) F w w') := by
 refine enterO (args := [_, _, _]) (G := G) (A := starL (trL 74 p (KS.mk l ls) z)) (l := [(0, Value.pointer (some ⟨p, 0, none⟩)), (1, Value.int .i64 id), (2, v)]) Try.func38 rfl Try.ntmps38 hG hA hFG ⟨rfl, rfl, rfl, trivial⟩ (Nat.le_of_ble_eq_true rfl) ?_
 obtain ⟨rs, hr, hrt, hrs, hl⟩ := hs.inv
 have hbd := hr.bound
 refine c_seq (c_region (r_val .none rfl (p_assign rfl) (r_nil (e_next ?_))))
 refine c_seq (c_seq (c_region (r_val .none rfl (p_move rfl) ?_)))
 refine r_val .none rfl (p_leng Try.underlying35 rfl hr) ?_
 have bd_1 := (hr).bound
 refine r_val .none rfl (p_move rfl) (r_nil (e_next (c_block ?_)))
 refine c_name (d := 0) rfl (fun u_2 hu_2 => ?_)
 refine c_name (d := 9) rfl (fun u_3 hu_3 => ?_)
 refine c_name (d := 10) rfl (fun u_4 hu_4 => ?_)
 refine c_nameL (k := 0) rfl (fun A_5 hA_5 => ?_)
 refine c_loop (σ := Nat) (fun k => [(11, Value.int .i64 (k : Nat)), (1, Value.int .i64 (find R (c ++ (rs.map Prod.fst).take k))), (0, u_2), (9, u_3), (10, u_4)]) (fun k => [A_5]) (fun _ => _) (fun k => k ≤ rs.length ∧ find R (c ++ (rs.map Prod.fst).take k) ≠ 0) (fun k => rs.length - k) (0) ⟨Nat.zero_le _, by rw [List.take_zero, List.append_nil, find_of hV.clo hc]; have := get_lt hc; omega⟩ rfl ⟨rfl, (congrArg (fun z => some (Value.int .i64 z)) (by rw [List.take_zero, List.append_nil]; exact (find_of hV.clo hc).symm)), rfl, rfl, rfl, trivial⟩ (.keep (fun _ _ h => h) (.nil)) (fun k hphi => ?_)
 subst hu_2
 subst hu_3
 subst hu_4
 subst hA_5
 have hcg := find_some hV.clo.ne hphi.2
 refine c_seq (c_region ?_)
 refine r_val .none rfl (p_lt rfl rfl) ?_
 refine r_nil (e_next (c_seq ?_))
 refine c_splitd (d := 12) rfl (fun h_6 => ?_) (fun h_6 => ?_)
 · (
 first
 | (exfalso; omega)
 | (
 refine c_cond_t rfl (c_skip (e_next (c_seq (c_block ?_))))
 refine c_seq (c_region ?_)
 refine r_iaddr_g .none rfl Try.underlying35 sz50 rfl hr rfl (by first | exact odt rfl | omega) (fun p_8 o_9 R_7 => ?_)
 have ht_10 := hrt _ (getD_mem (i := k) (d := s0) (by omega))
 have hc_11 := hrs _ (getD_mem (i := k) (d := s0) (by omega))
 refine r_val .none rfl (p_ldga0 Try.underlying50 rfl sz50 rfl R_7 (by first | exact odt rfl | omega) (rfl : _ = Value.agg #[_, _, _, _, _, _])) ?_
 refine r_alloc .none rfl zr50 (IsRow.lit _) (fun b_1 => ?_)
 refine r_stw (k := 0) .none sz50 rfl rfl (IsRow.lit _) (one_lit rfl (all_cons rfl (all_cons rfl (all_cons rfl (all_cons rfl (all_cons (ht_10).one (all_cons (hc_11).one rfl))))))) rfl ?_
 refine r_nil (e_next (c_seq (c_region (r_val .none rfl (p_move rfl) ?_))))
 refine r_val .none rfl (p_move rfl) ?_
 refine r_val .none rfl (p_ldw (k := 0) Try.underlying50 rfl sz50 rfl rfl (rfl : _ = Value.agg #[_, _, _, _, _, _])) ?_
 refine r_callo (k := 1) (vs := [_, _, _]) .none rfl cl33 rfl rfl (fun w F hw hA hFG => c_zbelow _ _ _ (rs.getD k s0).1 _ _ _ _ _ z hV hcg ht_10 hc_11 w hw hA hFG) ?_
 refine r_val .none rfl (p_assign rfl) (r_nil (e_next (c_seq (c_region ?_))))
 refine r_val .none rfl (p_move rfl) ?_
 refine r_val .none rfl (p_eq rfl rfl) ?_
 refine r_nil (e_next ?_)
 refine c_splitd (d := 20) rfl (fun h_12 => ?_) (fun h_12 => ?_)
 · (
 have hE := h_12
 first
 | (exfalso; omega)
 | (
 refine c_cond_t rfl (c_seq (c_region (r_val .none rfl (p_assign rfl) (r_nil ?_))))
 refine e_next ?_
 refine c_ret ?_
 refine e_ret_block ?_
 refine e_ret_then ?_
 refine e_ret_then ?_
 refine e_ret_block ?_
 refine e_ret_then ?_
 refine e_ret1 Try.results38 (.tmp rfl .nil) (fun w hm => ⟨?_, hm.kept [starL (trL 74 p (KS.mk l ls) z)] (.drop (.keep (fun _ _ h => h) (.nil))) (starL (trL 74 p (KS.mk l ls) z)) (fun F' h => (starL_oneE _ _).1 h)⟩)
 first
 | (exact congrArg (Value.int .i64) (by rw [hl, find_no (k := k + 1) hV.clo (by rw [chain_take (by omega), ← List.append_assoc]; exact hE)]))
 | (exact congrArg (Value.int .i64) (by rw [hl, List.take_of_length_le (by simp; omega)]))))
 · (
 have hE := h_12
 first
 | (exfalso; omega)
 | (
 refine c_cond_f rfl (c_skip ?_)
 refine e_norm_block ?_
 refine e_next (c_region ?_)
 refine r_val .none rfl (p_add rfl rfl (by omega)) ?_
 refine r_val .none rfl (p_move rfl) (r_nil ?_)
 refine e_round (k + 1) ⟨⟨by omega, by rw [chain_take (by omega), ← List.append_assoc]; exact hE⟩, by omega⟩ rfl ⟨rfl, (congrArg (fun z => some (Value.int .i64 z)) (by rw [chain_take (by omega), List.append_assoc])), rfl, rfl, rfl, trivial⟩ (.drop (.keep (fun _ _ h => h) (.nil)))))))
 · (
 first
 | (exfalso; omega)
 | (
 refine c_cond_f rfl (c_exit (e_exit_then (e_exit_then ?_)))
 refine e_exit_block ?_
 refine e_next (c_seq (c_region (r_val .none rfl (p_move rfl) (r_val .none rfl (p_assign rfl) ?_))))
 refine r_nil (e_next ?_)
 refine c_ret ?_
 refine e_ret1 Try.results38 (.tmp rfl .nil) (fun w hm => ⟨?_, hm.kept [starL (trL 74 p (KS.mk l ls) z)] (.keep (fun _ _ h => h) (.nil)) (starL (trL 74 p (KS.mk l ls) z)) (fun F' h => (starL_oneE _ _).1 h)⟩)
 first
 | (exact congrArg (Value.int .i64) (by rw [hl, find_no (k := k + 1) hV.clo (by rw [chain_take (by omega), ← List.append_assoc]; exact hE)]))
 | (exact congrArg (Value.int .i64) (by rw [hl, List.take_of_length_le (by simp; omega)]))))
theorem c_zfind {F : Nat → Prop} {G : Ghost} (p : Nat) (v : Value) (cl : List ST) (l : NL) (ls : Int) (R : RT) (z : Nat) (hV : Seen 71 3 G l R) (hs : Ss G v cl) (w : World) (hG : Has G w) (hA : (starL (trL 74 p (KS.mk l ls) z)).holds w F) (hFG : ∀ b, F b → G b = none) :
    Calls Try.prog 18 #[Value.pointer (some ⟨p, 0, none⟩), v] w (Ret fun r w' => r = Value.int .i64 (find R cl) ∧ Kept (starL (trL 74 p (KS.mk l ls) z)) F w w') := by
 refine enterO (args := [_, _]) (G := G) (A := starL (trL 74 p (KS.mk l ls) z)) (l := [(0, Value.pointer (some ⟨p, 0, none⟩)), (1, v)]) Try.func18 rfl Try.ntmps18 hG hA hFG ⟨rfl, rfl, trivial⟩ (Nat.le_of_ble_eq_true rfl) ?_
 refine c_seq (c_region (r_val .none rfl (p_assign rfl) (r_nil (e_next ?_))))
 refine c_seq (c_region (r_val .none rfl (p_move rfl) (r_val .none rfl (p_move rfl) ?_)))
 refine r_callo (k := 0) (vs := [_, _, _]) .none rfl cl38 rfl rfl (fun w F hw hA hFG => c_zfrom _ 1 [] _ _ _ _ _ z hV (getR_iff.2 (.inl ⟨rfl, rfl⟩)) hs w hw hA hFG) ?_
 refine r_val .none rfl (p_assign rfl) (r_nil (e_next ?_))
 refine c_ret ?_
 refine e_ret1 Try.results18 (.tmp rfl .nil) (fun w hm => ⟨?_, hm.kept [starL (trL 74 p (KS.mk l ls) z)] (.keep (fun _ _ h => h) (.nil)) (starL (trL 74 p (KS.mk l ls) z)) (fun F' h => (starL_oneE _ _).1 h)⟩)
 rfl
theorem c_kfrom {F : Nat → Prop} {G : Ghost} (p : Nat) (id : Int) (c : List ST) (v : Value) (cl : List ST) (l : NL) (ls : Int) (R : RT) (hV : Seen 71 3 G l R) (hc : getR R id = some c) (hs : Ss G v cl) (w : World) (hG : Has G w) (hA : (trR 74 p (KS.mk l ls)).holds w F) (hFG : ∀ b, F b → G b = none) : Calls Try.prog 38 #[Value.pointer (some ⟨p, 0, none⟩), Value.int .i64 id, v] w (Ret fun r w' => r = Value.int .i64 (find R (c ++ cl)) ∧ Kept (trR 74 p (KS.mk l ls)) F w w') :=
 see_z (R := fun r => r = Value.int .i64 (find R (c ++ cl))) (fun z hA => c_zfrom p id c v cl l ls R z hV hc hs w hG hA hFG) hA
theorem c_kfind {F : Nat → Prop} {G : Ghost} (p : Nat) (v : Value) (cl : List ST) (l : NL) (ls : Int) (R : RT) (hV : Seen 71 3 G l R) (hs : Ss G v cl) (w : World) (hG : Has G w) (hA : (trR 74 p (KS.mk l ls)).holds w F) (hFG : ∀ b, F b → G b = none) : Calls Try.prog 18 #[Value.pointer (some ⟨p, 0, none⟩), v] w (Ret fun r w' => r = Value.int .i64 (find R cl) ∧ Kept (trR 74 p (KS.mk l ls)) F w w') :=
 see_z (R := fun r => r = Value.int .i64 (find R cl)) (fun z hA => c_zfind p v cl l ls R z hV hs w hG hA hFG) hA
theorem c_klen {F : Nat → Prop} {G : Ghost} (p : Nat)  (l : NL) (ls : Int) (R : RT) (hV : Seen 71 3 G l R)  (w : World) (hG : Has G w) (hA : (trR 74 p (KS.mk l ls)).holds w F) (hFG : ∀ b, F b → G b = none) :
    Calls Try.prog 15 #[Value.pointer (some ⟨p, 0, none⟩)] w (Ret fun r w' => r = Value.int .i64 (l.length : Nat) ∧ Kept (trR 74 p (KS.mk l ls)) F w w') := by
 refine enterO (args := [_]) (G := G) (A := trR 74 p (KS.mk l ls)) (l := [(0, Value.pointer (some ⟨p, 0, none⟩))]) Try.func15 rfl Try.ntmps15 hG hA hFG ⟨rfl, trivial⟩ (Nat.le_of_ble_eq_true rfl) ?_
 refine c_openK (fun z => ?_)
 dsimp only [trC]
 refine c_seq (c_region (r_val .none rfl (p_assign rfl) (r_nil (e_next ?_))))
 refine c_seq (c_region (r_val .none rfl (p_move rfl) ?_))
 refine r_val .none rfl (p_nilcheck rfl) ?_
 refine r_val .none rfl (p_field Try.underlying74 rfl sz72 rfl) ?_
 refine r_val .none rfl (p_ld (k := 0) Try.underlying72 rfl rfl rfl (by first | exact odt rfl | omega) (rfl : _ = Value.map _)) ?_
 refine r_val .none rfl (p_len_map (i := 1) Try.underlying72 rfl rfl) ?_
 refine r_val .none rfl (p_assign rfl) (r_nil (e_next ?_))
 refine c_ret ?_
 refine e_ret1 Try.results15 (.tmp rfl .nil) (fun w hm => ⟨?_, hm.kept [box p 2 74 (at_ (trC (KS.mk (l) ls) z)), mapA z kI veN2 (l)] (.keep (fun _ _ h => h) (.keep (fun _ _ h => h) (.nil))) (trR 74 p (KS.mk (l) ls)) (fun F' h => ⟨z, h⟩)⟩)
 rfl
theorem c_katY {F : Nat → Prop} {G : Ghost} (p : Nat) (id : Int) (bx : Nat) (kv ov : Value) (x : Nd) (l : NL) (ls : Int) (R : RT) (hV : Seen 71 3 G l R) (hN : lkp l id = some (bx, kv, ov, x)) (w : World) (hG : Has G w) (hA : (trR 74 p (KS.mk l ls)).holds w F) (hFG : ∀ b, F b → G b = none) :
    Calls Try.prog 39 #[Value.pointer (some ⟨p, 0, none⟩), Value.int .i64 id] w (Ret fun r w' => r = Value.agg #[.int .i64 x.st.1.h.k, .int .i64 x.st.1.h.k0, .int .i64 x.st.1.h.k1, .int .i64 x.st.1.h.k2, x.st.2.1, x.st.2.2, .int .i64 x.par, kv, .int .i64 x.dep, .int .i64 x.uses, .int .i64 x.ends, .int .i64 x.inn, ov] ∧ Kept (trR 74 p (KS.mk l ls)) F w w') := by
 refine enterO (args := [_, _]) (G := G) (A := trR 74 p (KS.mk l ls)) (l := [(0, Value.pointer (some ⟨p, 0, none⟩)), (1, Value.int .i64 id)]) Try.func39 rfl Try.ntmps39 hG hA hFG ⟨rfl, rfl, trivial⟩ (Nat.le_of_ble_eq_true rfl) ?_
 refine c_openK (fun z => ?_)
 dsimp only [trC]
 obtain ⟨hR, hK, hO, hst, hss, hsz⟩ := hV.row hN
 replace hR : RowAt G bx 0 13 (at_ [.int .i64 x.st.1.h.k, .int .i64 x.st.1.h.k0, .int .i64 x.st.1.h.k1, .int .i64 x.st.1.h.k2, x.st.2.1, x.st.2.2, .int .i64 x.par, kv, .int .i64 x.dep, .int .i64 x.uses, .int .i64 x.ends, .int .i64 x.inn, ov]) := hR
 refine c_seq (c_region ?_)
 refine r_alloc .none rfl zr71 (IsRow.lit _) (fun b_1 => ?_)
 refine r_nil (e_next (c_seq (c_seq (c_region ?_))))
 refine r_val .none rfl (p_move rfl) ?_
 refine r_val .none rfl (p_nilcheck rfl) ?_
 refine r_val .none rfl (p_field Try.underlying74 rfl sz72 rfl) ?_
 refine r_val .none rfl (p_ld (k := 1) Try.underlying72 rfl rfl rfl (by first | exact odt rfl | omega) (rfl : _ = Value.map _)) ?_
 refine r_val .none rfl (p_move rfl) ?_
 refine r_val .none rfl (p_lookup_yes (i := 2) Try.underlying72 (KeyT.int Try.underlying3) zr69 rfl rfl rfl hN) ?_
 refine r_val .none rfl (p_assign rfl) (r_nil (e_next (c_seq (c_region ?_))))
 refine r_val .none rfl (p_move rfl) ?_
 refine r_val .none rfl (p_ne_ptr Try.underlying69 (by first | exact .inr rfl | exact .inl rfl) rfl rfl) ?_
 refine r_say (d := 13) (v := Value.bool true) rfl ?_
 refine r_nil (e_next (c_cond_t rfl (c_seq (c_region ?_))))
 refine r_val .none rfl (p_move rfl) ?_
 refine r_val .none rfl (p_nilcheck rfl) ?_
 refine r_val .none rfl (p_ldga0 Try.underlying71 rfl sz71 rfl hR (by first | exact odt rfl | omega) (rfl : _ = Value.agg #[_, _, _, _, _, _, _, _, _, _, _, _, _])) ?_
 refine r_stw (k := 0) .none sz71 rfl rfl (IsRow.lit _) (one_lit rfl (all_cons rfl (all_cons rfl (all_cons rfl (all_cons rfl (all_cons (hst).one (all_cons (hss).one (all_cons rfl (all_cons (hK).one (all_cons rfl (all_cons rfl (all_cons rfl (all_cons rfl (all_cons (hO).one rfl)))))))))))))) rfl ?_
 refine r_nil (e_next ?_)
 refine c_ret ?_
 refine e_ret_then ?_
 refine e_ret1 Try.results39 (.cell (k := 0) rfl Try.underlying71 rfl sz71 rfl (rfl : _ = Value.agg #[_, _, _, _, _, _, _, _, _, _, _, _, _]) .nil) (fun w hm => ⟨?_, hm.kept [box p 2 74 (at_ (trC (KS.mk (l) ls) z)), mapA z kI veN2 (l)] (.drop (.keep (fun _ _ h => h) (.keep (fun _ _ h => h) (.nil)))) (trR 74 p (KS.mk (l) ls)) (fun F' h => ⟨z, h⟩)⟩)
 rfl
theorem c_katN {F : Nat → Prop} {G : Ghost} (p : Nat) (id : Int) (l : NL) (ls : Int) (R : RT) (hV : Seen 71 3 G l R) (hN : lkp l id = none) (w : World) (hG : Has G w) (hA : (trR 74 p (KS.mk l ls)).holds w F) (hFG : ∀ b, F b → G b = none) :
    Calls Try.prog 39 #[Value.pointer (some ⟨p, 0, none⟩), Value.int .i64 id] w (Ret fun r w' => r = Value.agg #[.int .i64 0, .int .i64 0, .int .i64 0, .int .i64 0, .slice none 0 0, .slice none 0 0, .int .i64 0, .slice none 0 0, .int .i64 0, .int .i64 0, .int .i64 0, .int .i64 0, .slice none 0 0] ∧ Kept (trR 74 p (KS.mk l ls)) F w w') := by
 refine enterO (args := [_, _]) (G := G) (A := trR 74 p (KS.mk l ls)) (l := [(0, Value.pointer (some ⟨p, 0, none⟩)), (1, Value.int .i64 id)]) Try.func39 rfl Try.ntmps39 hG hA hFG ⟨rfl, rfl, trivial⟩ (Nat.le_of_ble_eq_true rfl) ?_
 refine c_openK (fun z => ?_)
 dsimp only [trC]
 refine c_seq (c_region ?_)
 refine r_alloc .none rfl zr71 (IsRow.lit _) (fun b_1 => ?_)
 refine r_nil (e_next (c_seq (c_seq (c_region ?_))))
 refine r_val .none rfl (p_move rfl) ?_
 refine r_val .none rfl (p_nilcheck rfl) ?_
 refine r_val .none rfl (p_field Try.underlying74 rfl sz72 rfl) ?_
 refine r_val .none rfl (p_ld (k := 1) Try.underlying72 rfl rfl rfl (by first | exact odt rfl | omega) (rfl : _ = Value.map _)) ?_
 refine r_val .none rfl (p_move rfl) ?_
 refine r_val .none rfl (p_lookup_no (i := 2) Try.underlying72 (KeyT.int Try.underlying3) zr69 rfl rfl rfl hN) ?_
 refine r_val .none rfl (p_assign rfl) (r_nil (e_next (c_seq (c_region ?_))))
 refine r_val .none rfl (p_move rfl) ?_
 refine r_val .none rfl (p_ne_ptr Try.underlying69 (by first | exact .inr rfl | exact .inl rfl) rfl rfl) ?_
 refine r_say (d := 13) (v := Value.bool false) rfl ?_
 refine r_nil (e_next (c_cond_f rfl (c_skip (e_next ?_))))
 refine c_seq (c_region ?_)
 refine r_val .none rfl (p_build (vs := []) rfl (bl71_ )) ?_
 refine r_stw (k := 0) .none sz71 rfl rfl (IsRow.lit _) (one_lit rfl rfl) rfl ?_
 refine r_nil (e_next ?_)
 refine c_ret ?_
 refine e_ret1 Try.results39 (.cell (k := 0) rfl Try.underlying71 rfl sz71 rfl (rfl : _ = Value.agg #[_, _, _, _, _, _, _, _, _, _, _, _, _]) .nil) (fun w hm => ⟨?_, hm.kept [box p 2 74 (at_ (trC (KS.mk (l) ls) z)), mapA z kI veN2 (l)] (.drop (.keep (fun _ _ h => h) (.keep (fun _ _ h => h) (.nil)))) (trR 74 p (KS.mk (l) ls)) (fun F' h => ⟨z, h⟩)⟩)
 rfl
end Go.Proofs.Ytdkfdncbldngdaa

/- Walks: what Go functions of this chapter come to, each as a function on plain data; no condition but those that each theorem names. Printed by a program of this work (gen.py). -/
namespace Go.Proofs.Ytdkfdncbldngdaa
open Go.Gx Go.Gx.T16 Go.Gx.T8 Go.Gx.T6 Go.Gx.T4 Go.Gx.T3 Go.Gx.T8 Go.Gx.T4 Go.Gx.T3 Go.Gx.T8 Go.Gx.T6 Go.Gx.T4 Go.Gx.T3
theorem cl63 : Callable Try.prog 63 := callable Try.func63 (by kernel_rfl) rfl
theorem cl75 : Callable Try.prog 75 := callable Try.func75 (by kernel_rfl) rfl
theorem bl50_0i1_1a3_2s3 (x0 : Int) (x1 : Value) (x2 : Value) (x3 : Value) (x4 : Option Addr) (x5 : Nat) (x6 : Nat) : Program.built Try.prog 50 [(0, Value.int .i64 x0), (1, Value.agg #[x1, x2, x3]), (2, Value.slice x4 x5 x6)] = some #[Value.int .i64 x0, x1, x2, x3, Value.slice x4 x5 x6, Value.slice none 0 0] := by
 kernel_rfl
theorem el3 : ElemIs Try.prog 3 1 8 (Value.int .i64 0) := by
 unfold ElemIs
 kernel_rfl
def CloneIs (n : Nat) : Prop := ∀ (c : ST) (ta sb : Value) (G : Ghost) (w : World), SizeOf.sizeOf c ≤ n → ssz c ≤ 1000 → SlL G ta 3 tC t0 c.h.ts → Ss G sb c.subs → Has G w → Calls Try.prog 63 #[Value.agg #[Value.int .i64 c.h.k, Value.int .i64 c.h.k0, Value.int .i64 c.h.k1, Value.int .i64 c.h.k2, ta, sb]] w (Ret fun r w' => ∃ G', GNew w nX G G' ∧ Has G' w' ∧ (∃ ua ub, r = Value.agg #[Value.int .i64 (c).h.k, Value.int .i64 (c).h.k0, Value.int .i64 (c).h.k1, Value.int .i64 (c).h.k2, ua, ub] ∧ SlL G' ua 3 tC t0 (c).h.ts ∧ Ss G' ub (c).subs) ∧ Since nX w w')
theorem c_cloneT_a (a : Option Addr) (cap : Nat) (rs : List (TD)) {G : Ghost} (hr : SlL G (Value.slice a rs.length cap) 3 tC t0 rs) (hlen : rs.length ≤ 1000) (w : World) (hG : Has G w) :
    Calls Try.prog 75 #[Value.slice a rs.length cap] w (Ret fun r w' => Since nX w w' ∧ ∃ F', (rowA r 52 3 (rs).length ((rs).flatMap tC)).holds w' F' ∧ ∀ b, F' b → w.heap.size ≤ b) := by
 refine enter (args := [_]) (X := nX) (G := G) (l := [(0, Value.slice a rs.length cap)]) Try.func75 rfl Try.ntmps75 hG ⟨rfl, trivial⟩ (Nat.le_of_ble_eq_true rfl) ?_
 refine c_seq (c_region (r_val .none rfl (p_assign rfl) (r_nil (e_next ?_))))
 refine c_seq (c_seq (c_region (r_val .none rfl (p_move rfl) ?_)))
 refine r_val .none rfl (p_eqnil Try.underlying48 rfl rfl) ?_
 refine r_nil (e_next ?_)
 refine c_split (d := 4) rfl (fun h_1 => ?_) (fun h_1 => ?_)
 · (
 have hrs : rs = [] := by cases a with | none => exact nil_rs hr | some x => cases h_1
 refine c_cond_t rfl (c_seq (c_region (r_val .none rfl (p_assign rfl) ?_)))
 refine r_nilrow 52 3 ?_
 refine r_nil (e_next ?_)
 refine c_ret ?_
 refine e_ret_then ?_
 refine e_ret1 Try.results75 (.tmp rfl .nil) (fun w hm => hm.made [rowA (.slice none 0 0) 52 3 (rs).length ((rs).flatMap tC)] (.keep (fun _ _ h => rowA_congr (by rw [hrs]; rfl) (by rw [hrs]; rfl) _ _ h) (.nil)) _ (fun F' h => starL_one h)))
 · (
 refine c_cond_f rfl (c_skip (e_next (c_seq (c_region ?_))))
 refine r_bslice0 .none rfl Try.underlying48 el52 (fun v_2 => ?_)
 refine r_val .none rfl (p_move rfl) ?_
 refine r_append_g (k := 0) .none rfl Try.underlying48 el52 rfl (by decide) rfl rfl rfl hr (fun _ _ _ hj => by rename_i j; match j, hj with | 0, _ => rfl | 1, _ => rfl | 2, _ => rfl) (by simp only [maxLen]; omega) (by omega) (fun v_3 => ?_)
 refine r_row1 (k := 0) rfl (fun o_4 => ?_)
 refine r_val .none rfl (p_assign rfl) (r_nil (e_next ?_))
 refine c_ret ?_
 refine e_ret1 Try.results75 (.tmp rfl .nil) (fun w hm => hm.made [rowA v_3 52 3 (rs).length ((rs).flatMap tC)] (.keep (fun _ _ h => rowA_congr (by omega) (by rw [flat_all (cells := tC) (fun _ => rfl)]; rfl) _ _ h) (.nil)) _ (fun F' h => starL_one h)))
theorem c_cloneT (v : Value) (rs : List (TD)) {G : Ghost} (hr : SlL G v 3 tC t0 rs) (hlen : rs.length ≤ 1000) (w : World) (hG : Has G w) : Calls Try.prog 75 #[v] w (Ret fun r w' => Since nX w w' ∧ ∃ F', (rowA r 52 3 (rs).length ((rs).flatMap tC)).holds w' F' ∧ ∀ b, F' b → w.heap.size ≤ b) := by
 obtain ⟨a, cap, rfl⟩ := SlG.len hr
 exact c_cloneT_a a cap rs hr hlen w hG
theorem c_cloneTM (v : Value) (rs : List (TD)) {G : Ghost} (hr : SlL G v 3 tC t0 rs) (hlen : rs.length ≤ 1000) (w : World) (hG : Has G w) : Calls Try.prog 75 #[v] w (Ret fun r w' => ∃ G2, GNew w nX G G2 ∧ Has G2 w' ∧ SlL G2 r 3 tC t0 rs ∧ Since nX w w') := by
 refine (c_cloneT v rs hr hlen w hG).mono (fun e w' hR => ?_)
 cases e with
 | returned r => (
 obtain ⟨G2, h1, h2, h3, h4⟩ := row_mem hG hR
 exact ⟨G2, h1, h2, SlL.of t0 (fun _ => rfl) rfl h3, h4⟩)
 | panicked c => exact hR.elim
 | outgrown => exact hR.elim
theorem c_cloneI_a (a : Option Addr) (cap : Nat) (rs : List (Int)) {G : Ghost} (hr : SlL G (Value.slice a rs.length cap) 1 cI (0 : Int) rs) (hlen : rs.length ≤ 1000) (w : World) (hG : Has G w) :
    Calls Try.prog 64 #[Value.slice a rs.length cap] w (Ret fun r w' => Since nX w w' ∧ ∃ F', (rowA r 3 1 (rs).length ((rs).flatMap cI)).holds w' F' ∧ ∀ b, F' b → w.heap.size ≤ b) := by
 refine enter (args := [_]) (X := nX) (G := G) (l := [(0, Value.slice a rs.length cap)]) Try.func64 rfl Try.ntmps64 hG ⟨rfl, trivial⟩ (Nat.le_of_ble_eq_true rfl) ?_
 refine c_seq (c_region (r_val .none rfl (p_assign rfl) (r_nil (e_next ?_))))
 refine c_seq (c_seq (c_region (r_val .none rfl (p_move rfl) ?_)))
 refine r_val .none rfl (p_eqnil Try.underlying33 rfl rfl) ?_
 refine r_nil (e_next ?_)
 refine c_split (d := 4) rfl (fun h_1 => ?_) (fun h_1 => ?_)
 · (
 have hrs : rs = [] := by cases a with | none => exact nil_rs hr | some x => cases h_1
 refine c_cond_t rfl (c_seq (c_region (r_val .none rfl (p_assign rfl) ?_)))
 refine r_nilrow 3 1 ?_
 refine r_nil (e_next ?_)
 refine c_ret ?_
 refine e_ret_then ?_
 refine e_ret1 Try.results64 (.tmp rfl .nil) (fun w hm => hm.made [rowA (.slice none 0 0) 3 1 (rs).length ((rs).flatMap cI)] (.keep (fun _ _ h => rowA_congr (by rw [hrs]; rfl) (by rw [hrs]; rfl) _ _ h) (.nil)) _ (fun F' h => starL_one h)))
 · (
 refine c_cond_f rfl (c_skip (e_next (c_seq (c_region ?_))))
 refine r_bslice0 .none rfl Try.underlying33 el3 (fun v_2 => ?_)
 refine r_val .none rfl (p_move rfl) ?_
 refine r_append_g (k := 0) .none rfl Try.underlying33 el3 rfl (by decide) rfl rfl rfl hr (fun _ _ _ hj => one_lit rfl rfl _ hj) (by simp only [maxLen]; omega) (by omega) (fun v_3 => ?_)
 refine r_row1 (k := 0) rfl (fun o_4 => ?_)
 refine r_val .none rfl (p_assign rfl) (r_nil (e_next ?_))
 refine c_ret ?_
 refine e_ret1 Try.results64 (.tmp rfl .nil) (fun w hm => hm.made [rowA v_3 3 1 (rs).length ((rs).flatMap cI)] (.keep (fun _ _ h => rowA_congr (by omega) (by rw [flat_all (cells := cI) (fun _ => rfl)]; rfl) _ _ h) (.nil)) _ (fun F' h => starL_one h)))
theorem c_cloneI (v : Value) (rs : List (Int)) {G : Ghost} (hr : SlL G v 1 cI (0 : Int) rs) (hlen : rs.length ≤ 1000) (w : World) (hG : Has G w) : Calls Try.prog 64 #[v] w (Ret fun r w' => Since nX w w' ∧ ∃ F', (rowA r 3 1 (rs).length ((rs).flatMap cI)).holds w' F' ∧ ∀ b, F' b → w.heap.size ≤ b) := by
 obtain ⟨a, cap, rfl⟩ := SlG.len hr
 exact c_cloneI_a a cap rs hr hlen w hG
theorem c_tclone_s (n : Nat) (ih : CloneIs n) (c : ST) (ta sb : Value) {G : Ghost} (hz : SizeOf.sizeOf c ≤ n + 1) (hsz : ssz c ≤ 1000) (ht : SlL G ta 3 tC t0 c.h.ts) (hs : Ss G sb c.subs) (w : World) (hG : Has G w) :
    Calls Try.prog 63 #[Value.agg #[Value.int .i64 c.h.k, Value.int .i64 c.h.k0, Value.int .i64 c.h.k1, Value.int .i64 c.h.k2, ta, sb]] w (Ret fun r w' => ∃ G', GNew w nX G G' ∧ Has G' w' ∧ (∃ ua ub, r = Value.agg #[Value.int .i64 (c).h.k, Value.int .i64 (c).h.k0, Value.int .i64 (c).h.k1, Value.int .i64 (c).h.k2, ua, ub] ∧ SlL G' ua 3 tC t0 (c).h.ts ∧ Ss G' ub (c).subs) ∧ Since nX w w') := by
 refine enter (args := [_]) (X := nX) (G := G) (l := [(0, Value.agg #[Value.int .i64 c.h.k, Value.int .i64 c.h.k0, Value.int .i64 c.h.k1, Value.int .i64 c.h.k2, ta, sb])]) Try.func63 rfl Try.ntmps63 hG ⟨rfl, trivial⟩ (Nat.le_of_ble_eq_true rfl) ?_
 obtain ⟨rs, hr, hrt, hrs, hl⟩ := hs.inv
 have hbd := hr.bound
 have hbd2 := ht.bound
 have hsq := ssz_eq c
 have hll := sszL_len c.subs
 have hlr : c.subs.length = rs.length := by rw [hl]; simp
 refine c_seq (c_region ?_)
 refine r_box .none rfl rfl (IsRow.lit _) (fun b_1 => ?_)
 refine r_alloc .none rfl zr50 (IsRow.lit _) (fun b_2 => ?_)
 refine r_nil (e_next (c_seq ?_))
 refine c_region_d (fun j => [9].contains j) _ mixed (.keep (fun _ _ h => h) (.keep (fun _ _ h => h) (.nil))) ?_
 refine d_val1 0 rfl rfl (by kernel_rfl) (fun j hj => by have h : 9 < j := (Nat.lt_of_lt_of_le (by decide : 9 < 10) hj); simp; omega) .none rfl (p_field Try.underlying50 rfl sz3 rfl) ?_
 refine d_val1 1 rfl rfl (by kernel_rfl) (fun j hj => by have h : 9 < j := (Nat.lt_of_lt_of_le (by decide : 9 < 10) hj); simp; omega) .none rfl (p_ld (k := 1) Try.underlying3 rfl rfl rfl (by first | exact odt rfl | omega) (rfl : _ = Value.int _ _)) ?_
 refine d_val1 2 rfl rfl (by kernel_rfl) (fun j hj => by have h : 9 < j := (Nat.lt_of_lt_of_le (by decide : 9 < 10) hj); simp; omega) .none rfl (p_field Try.underlying50 rfl sz47 rfl) ?_
 refine d_val1 3 rfl rfl (by kernel_rfl) (fun j hj => by have h : 9 < j := (Nat.lt_of_lt_of_le (by decide : 9 < 10) hj); simp; omega) .none rfl (p_lda (k := 1) Try.underlying47 rfl sz47 rfl rfl (by first | exact odt rfl | omega) (rfl : _ = Value.agg #[_, _, _])) ?_
 refine d_val1 4 rfl rfl (by kernel_rfl) (fun j hj => by have h : 9 < j := (Nat.lt_of_lt_of_le (by decide : 9 < 10) hj); simp; omega) .none rfl (p_field Try.underlying50 rfl sz48 rfl) ?_
 refine d_val1 5 rfl rfl (by kernel_rfl) (fun j hj => by have h : 9 < j := (Nat.lt_of_lt_of_le (by decide : 9 < 10) hj); simp; omega) .none rfl (p_ld (k := 1) Try.underlying48 rfl rfl rfl (by first | exact odt rfl | omega) rfl) ?_
 refine d_eff2 6 8 rfl rfl (by kernel_rfl) (fun K_1 hKK_1 hcK_1 => ?_) (fun K_1 hKK_1 hcK_1 => ?_)
 · (
 refine r_callm (vs := [_]) .none rfl cl75 rfl (fun w hw => c_cloneTM _ _ ht (by omega) w hw) (fun G_2 v_5 hn_3 hr_4 => ?_)
 replace ht := ht.mono hn_3.le
 replace hr := hr.mono hn_3.le
 replace hrt := fun p hm0 => (hrt p hm0).mono hn_3.le
 replace hrs := fun p hm0 => (hrs p hm0).mono hn_3.le
 have hts := hr_4
 refine r_nil (e_d (i := 6) (brk := (fun j => [9].contains j)) (ph' := true) hKK_1 hcK_1 rfl (fun _ => hn_3.le) (fun _ => .keep (fun _ _ h => h) (.keep (fun _ _ h => h) (.nil))) ?_)
 clear hKK_1 hcK_1 K_1
 obtain ⟨a_7, c_8, rfl⟩ := SlG.len hts
 refine d_val1 7 rfl rfl (by kernel_rfl) (fun j hj => by have h : 9 < j := (Nat.lt_of_lt_of_le (by decide : 9 < 10) hj); simp; omega) .none rfl (p_build (vs := [(0, Value.int _ _), (1, Value.agg #[_, _, _]), (2, Value.slice _ _ _)]) rfl (bl50_0i1_1a3_2s3 _ _ _ _ _ _ _)) ?_
 refine d_eff 8 rfl (by kernel_rfl) (fun K_9 hKK_9 hcK_9 => ?_)
 refine r_alloc .none rfl zr50 (IsRow.lit _) (fun b_3 => ?_)
 refine r_nil (e_d (i := 8) (brk := (fun j => [9].contains j)) (ph' := true) hKK_9 hcK_9 rfl (fun _ => hn_3.le) (fun _ => .drop (.keep (fun _ _ h => h) (.keep (fun _ _ h => h) (.nil)))) ?_)
 clear hKK_9 hcK_9 K_9
 refine d_eff 9 rfl (by kernel_rfl) (fun K_10 hKK_10 hcK_10 => ?_)
 refine r_stw (k := 0) .none sz50 rfl rfl (IsRow.lit _) (one_lit rfl (all_cons rfl (all_cons rfl (all_cons rfl (all_cons rfl (all_cons (hts).one (all_cons rfl rfl))))))) rfl ?_
 refine r_nil (e_d (i := 9) (brk := (fun j => [9].contains j)) (ph' := false) hKK_10 hcK_10 rfl (fun h => by cases h) (fun h => by cases h) ?_)
 clear hKK_10 hcK_10 K_10
 refine d_nil (by kernel_rfl) ?_
 refine e_next (c_seq (c_seq (c_region ?_)))
 refine r_val .none rfl (p_field Try.underlying50 rfl sz35 rfl) ?_
 refine r_val .none rfl (p_ld (k := 2) Try.underlying35 rfl rfl rfl (by first | exact odt rfl | omega) rfl) ?_
 refine r_val .none rfl (p_leng Try.underlying35 rfl hr) ?_
 have bd_11 := (hr).bound
 refine r_val .none rfl (p_move rfl) (r_nil (e_next (c_block ?_)))
 refine c_nilrow 50 6 ?_
 refine c_name (d := 2) rfl (fun u_12 hu_12 => ?_)
 refine c_name (d := 3) rfl (fun u_13 hu_13 => ?_)
 refine c_name (d := 15) rfl (fun u_14 hu_14 => ?_)
 refine c_name (d := 16) rfl (fun u_15 hu_15 => ?_)
 refine c_nameL (k := 2) rfl (fun A_16 hA_16 => ?_)
 refine c_nameL (k := 3) rfl (fun A_17 hA_17 => ?_)
 refine c_loop (σ := Nat × Value × List SVal × Ghost) (fun s => [(17, Value.int .i64 (s.1 : Nat)), (2, u_12), (3, u_13), (15, u_14), (16, u_15)]) (fun s => [rowA (s.2.1) 50 6 (s.2.2.1).length ((s.2.2.1).flatMap sC), box b_3 6 50 (at_ [.int .i64 c.h.k, .int .i64 c.h.k0, .int .i64 c.h.k1, .int .i64 c.h.k2, .slice a_7 c.h.ts.length c_8, s.2.1]), A_16, A_17]) (fun s => s.2.2.2) (fun s => s.1 ≤ rs.length ∧ s.2.2.1.map Prod.fst = (rs.map Prod.fst).take s.1 ∧ (∀ p ∈ s.2.2.1, SlL s.2.2.2 p.2.1 3 tC t0 p.1.h.ts) ∧ (∀ p ∈ s.2.2.1, Ss s.2.2.2 p.2.2 p.1.subs) ∧ GNew w nX G_2 s.2.2.2) (fun s => rs.length - s.1) ((0, _, [], _)) ⟨Nat.zero_le _, rfl, by simp, by simp, GNew.refl _ _ _⟩ rfl ⟨rfl, rfl, rfl, rfl, rfl, trivial⟩ (.keep (fun _ _ h => rowA_nil rfl _ _ h) (.keep (fun _ _ h => box_congr (fun i hi => by match i, hi with | 0, _ => rfl | 1, _ => rfl | 2, _ => rfl | 3, _ => rfl | 4, _ => rfl | 5, _ => rfl) _ _ h) (.keep (fun _ _ h => h) (.keep (fun _ _ h => h) (.nil))))) (fun s hphi => ?_)
 subst hu_12
 subst hu_13
 subst hu_14
 subst hu_15
 subst hA_16
 subst hA_17
 obtain ⟨k, v, qs, H⟩ := s
 obtain ⟨hk, hq, hqt, hqs, hgn⟩ := hphi
 dsimp only at hk hq hqt hqs hgn ⊢
 have hql : qs.length ≤ k := (by have := congrArg List.length hq; simp at this; omega)
 refine c_row1 (k := 0) rfl (fun ov => ?_)
 refine c_rowlen (k := 0) rfl (fun l63 => ?_)
 replace ht := ht.mono hgn.le
 replace hr := hr.mono hgn.le
 replace hrt := fun p hm0 => (hrt p hm0).mono hgn.le
 replace hrs := fun p hm0 => (hrs p hm0).mono hgn.le
 replace hts := hts.mono hgn.le
 refine c_seq (c_region ?_)
 refine r_val .none rfl (p_lt rfl rfl) ?_
 refine r_nil (e_next (c_seq ?_))
 refine c_splitd (d := 18) rfl (fun h_18 => ?_) (fun h_18 => ?_)
 · (
 first
 | (exfalso; omega)
 | (
 refine c_cond_t rfl (c_skip (e_next (c_seq (c_block ?_))))
 refine c_seq (c_region ?_)
 refine r_iaddr_g .none rfl Try.underlying35 sz50 rfl hr rfl (by first | exact odt rfl | omega) (fun p_20 o_21 R_19 => ?_)
 have ht_22 := hrt _ (getD_mem (i := k) (d := s0) (by omega))
 have hc_23 := hrs _ (getD_mem (i := k) (d := s0) (by omega))
 have hz8 : ssz (rs.getD k s0).1 ≤ 1000 := Nat.le_trans (sszL_mem (l := c.subs) (by rw [hl]; exact sv_mem (k := k) (by omega))) (by omega)
 refine r_val .none rfl (p_ldga0 Try.underlying50 rfl sz50 rfl R_19 (by first | exact odt rfl | omega) (rfl : _ = Value.agg #[_, _, _, _, _, _])) ?_
 refine r_alloc .none rfl zr50 (IsRow.lit _) (fun b_4 => ?_)
 refine r_stw (k := 0) .none sz50 rfl rfl (IsRow.lit _) (one_lit rfl (all_cons rfl (all_cons rfl (all_cons rfl (all_cons rfl (all_cons (ht_22).one (all_cons (hc_23).one rfl))))))) rfl ?_
 refine r_nil (e_next ?_)
 refine c_region_d (fun j => [5, 6, 7].contains j) _ mixed (.keep (fun _ _ h => h) (.keep (fun _ _ h => h) (.keep (fun _ _ h => h) (.keep (fun _ _ h => h) (.keep (fun _ _ h => h) (.nil)))))) ?_
 refine d_val1 0 rfl rfl (by kernel_rfl) (fun j hj => by have h : 7 < j := (Nat.lt_of_lt_of_le (by decide : 7 < 8) hj); simp; omega) .none rfl (p_field Try.underlying50 rfl sz35 rfl) ?_
 refine d_val1 1 rfl rfl (by kernel_rfl) (fun j hj => by have h : 7 < j := (Nat.lt_of_lt_of_le (by decide : 7 < 8) hj); simp; omega) .none rfl (p_ld (k := 2) Try.underlying35 rfl rfl rfl (by first | exact odt rfl | omega) rfl) ?_
 refine d_val1 2 rfl rfl (by kernel_rfl) (fun j hj => by have h : 7 < j := (Nat.lt_of_lt_of_le (by decide : 7 < 8) hj); simp; omega) .none rfl (p_ldw (k := 0) Try.underlying50 rfl sz50 rfl rfl (rfl : _ = Value.agg #[_, _, _, _, _, _])) ?_
 refine d_eff 3 rfl (by kernel_rfl) (fun K_24 hKK_24 hcK_24 => ?_)
 refine r_callm (vs := [_]) .none rfl cl63 rfl (fun w hw => ih (rs.getD k s0).1 _ _ _ w (ssz_at hl (by omega) hz) hz8 ht_22 hc_23 hw) (fun G_25 v_28 hn_26 hr_27 => ?_)
 replace ht := ht.mono hn_26.le
 replace hr := hr.mono hn_26.le
 replace hrt := fun p hm0 => (hrt p hm0).mono hn_26.le
 replace hrs := fun p hm0 => (hrs p hm0).mono hn_26.le
 replace hts := hts.mono hn_26.le
 replace hqt := fun p hm0 => (hqt p hm0).mono hn_26.le
 replace hqs := fun p hm0 => (hqs p hm0).mono hn_26.le
 replace R_19 := R_19.mono hn_26.le
 replace ht_22 := ht_22.mono hn_26.le
 replace hc_23 := hc_23.mono hn_26.le
 obtain ⟨u_29a, u_29b, rfl, u_29s, u_29t⟩ := hr_27
 refine r_nil (e_d (i := 3) (brk := (fun j => [5, 6, 7].contains j)) (ph' := true) hKK_24 hcK_24 rfl (fun _ => hn_26.le) (fun _ => .keep (fun _ _ h => h) (.keep (fun _ _ h => h) (.keep (fun _ _ h => h) (.keep (fun _ _ h => h) (.keep (fun _ _ h => h) (.nil)))))) ?_)
 clear hKK_24 hcK_24 K_24
 refine d_eff 4 rfl (by kernel_rfl) (fun K_30 hKK_30 hcK_30 => ?_)
 refine r_bslice (vs := [(0, Value.agg #[_, _, _, _, _, _])]) (c := #[_, _, _, _, _, _]) .none rfl Try.underlying35 el50 rfl rfl rfl (bs50_10a6 _ _ _ _ _ _) (IsRow.lit _) (fun b_5 => ?_)
 refine r_nil (e_d (i := 4) (brk := (fun j => [5, 6, 7].contains j)) (ph' := true) hKK_30 hcK_30 rfl (fun _ => hn_26.le) (fun _ => .drop (.keep (fun _ _ h => h) (.keep (fun _ _ h => h) (.keep (fun _ _ h => h) (.keep (fun _ _ h => h) (.keep (fun _ _ h => h) (.nil))))))) ?_)
 clear hKK_30 hcK_30 K_30
 refine d_eff 5 rfl (by kernel_rfl) (fun K_31 hKK_31 hcK_31 => ?_)
 refine r_append (k := 2) (k2 := 0) .none rfl Try.underlying35 el50 rfl (by decide) rfl rfl rfl rfl rfl (one_lit rfl (all_cons rfl (all_cons rfl (all_cons rfl (all_cons rfl (all_cons (u_29s).one (all_cons (u_29t).one rfl))))))) (by simp only [maxLen]; omega) (by omega) (fun v_32 => ?_)
 refine r_row1 (k := 2) rfl (fun o_33 => ?_)
 refine r_nil (e_d (i := 5) (brk := (fun j => [5, 6, 7].contains j)) (ph' := false) hKK_31 hcK_31 rfl (fun h => by cases h) (fun h => by cases h) ?_)
 clear hKK_31 hcK_31 K_31
 refine d_val2 6 rfl rfl (by kernel_rfl) .none rfl (fun _ => p_field Try.underlying50 rfl sz35 rfl) ?_
 refine d_eff 7 rfl (by kernel_rfl) (fun K_34 hKK_34 hcK_34 => ?_)
 refine r_st (k := 3) .none sz35 rfl rfl o_33 rfl (by first | exact odt rfl | omega) ?_
 refine r_nil (e_d (i := 7) (brk := (fun j => [5, 6, 7].contains j)) (ph' := false) hKK_34 hcK_34 rfl (fun h => by cases h) (fun h => by cases h) ?_)
 clear hKK_34 hcK_34 K_34
 refine d_nil (by kernel_rfl) ?_
 refine e_norm_block ?_
 refine e_next (c_region ?_)
 refine r_val .none rfl (p_add rfl rfl (by omega)) ?_
 refine r_val .none rfl (p_move rfl) (r_nil ?_)
 refine e_round ((k + 1, _, qs ++ [((rs.getD k s0).1, u_29a, u_29b)], _)) ⟨⟨by dsimp only; omega, by rw [sv_take (by omega), List.map_append, hq]; rfl, (fun p hp' => by rcases List.mem_append.1 hp' with h | h; exact hqt p h; rw [List.mem_singleton.1 h]; exact u_29s), (fun p hp' => by rcases List.mem_append.1 hp' with h | h; exact hqs p h; rw [List.mem_singleton.1 h]; exact u_29t), (hgn.trans hn_26)⟩, by dsimp only; omega⟩ rfl ⟨rfl, rfl, rfl, rfl, rfl, trivial⟩ (.drop (.drop (.keep (fun _ _ h => rowA_snoc (l := qs) (x := ((rs.getD k s0).1, u_29a, u_29b)) rfl rfl rfl rfl _ _ h) (.keep (fun _ _ h => box_congr (fun i hi => by match i, hi with | 0, _ => rfl | 1, _ => rfl | 2, _ => rfl | 3, _ => rfl | 4, _ => rfl | 5, _ => rfl) _ _ h) (.keep (fun _ _ h => h) (.keep (fun _ _ h => h) (.nil)))))))))
 · (
 first
 | (exfalso; omega)
 | (
 refine c_cond_f rfl (c_exit (e_exit_then (e_exit_then ?_)))
 refine e_exit_block ?_
 refine e_next (c_seq (c_region ?_))
 refine r_val .none rfl (p_ldw (k := 1) Try.underlying50 rfl sz50 rfl rfl (rfl : _ = Value.agg #[_, _, _, _, _, _])) ?_
 refine r_stw (k := 2) .none sz50 rfl rfl (IsRow.lit _) (one_lit rfl (all_cons rfl (all_cons rfl (all_cons rfl (all_cons rfl (all_cons (hts).one (all_cons ov rfl))))))) rfl ?_
 refine r_nil (e_next ?_)
 refine c_ret ?_
 refine e_freeze (k := 0) rfl (fun G_35 hn_36 hs_37 => ?_)
 replace ht := ht.mono hn_36.le
 replace hr := hr.mono hn_36.le
 replace hrt := fun p hm0 => (hrt p hm0).mono hn_36.le
 replace hrs := fun p hm0 => (hrs p hm0).mono hn_36.le
 replace hts := hts.mono hn_36.le
 replace hqt := fun p hm0 => (hqt p hm0).mono hn_36.le
 replace hqs := fun p hm0 => (hqs p hm0).mono hn_36.le
 refine e_ret1 Try.results63 (.cell (k := 1) rfl Try.underlying50 rfl sz50 rfl (rfl : _ = Value.agg #[_, _, _, _, _, _]) .nil) (fun w hm => ⟨_, ((hn_3.trans hgn).trans hn_36), hm.has, ?_, hm.since⟩)
 exact ⟨_, _, rfl, hts, by rw [show c.subs = qs.map Prod.fst by rw [hq, hl, List.take_of_length_le (by simp; omega)]]; exact Ss.mk qs (SlL.of s0 (fun _ => rfl) rfl hs_37) hqt hqs⟩)))
 · (
 refine r_alloc .none rfl zr50 (IsRow.lit _) (fun b_6 => ?_)
 refine r_nil (e_d (i := 8) (brk := (fun j => [9].contains j)) (ph' := true) hKK_1 hcK_1 rfl (fun _ => GLe.refl _) (fun _ => .drop (.keep (fun _ _ h => h) (.keep (fun _ _ h => h) (.nil)))) ?_)
 clear hKK_1 hcK_1 K_1
 refine d_eff 6 rfl (by kernel_rfl) (fun K_38 hKK_38 hcK_38 => ?_)
 refine r_callm (vs := [_]) .none rfl cl75 rfl (fun w hw => c_cloneTM _ _ ht (by omega) w hw) (fun G_39 v_42 hn_40 hr_41 => ?_)
 replace ht := ht.mono hn_40.le
 replace hr := hr.mono hn_40.le
 replace hrt := fun p hm0 => (hrt p hm0).mono hn_40.le
 replace hrs := fun p hm0 => (hrs p hm0).mono hn_40.le
 have hts := hr_41
 refine r_nil (e_d (i := 6) (brk := (fun j => [9].contains j)) (ph' := true) hKK_38 hcK_38 rfl (fun _ => hn_40.le) (fun _ => .drop (.keep (fun _ _ h => h) (.keep (fun _ _ h => h) (.nil)))) ?_)
 clear hKK_38 hcK_38 K_38
 obtain ⟨a_44, c_45, rfl⟩ := SlG.len hts
 refine d_val1 7 rfl rfl (by kernel_rfl) (fun j hj => by have h : 9 < j := (Nat.lt_of_lt_of_le (by decide : 9 < 10) hj); simp; omega) .none rfl (p_build (vs := [(0, Value.int _ _), (1, Value.agg #[_, _, _]), (2, Value.slice _ _ _)]) rfl (bl50_0i1_1a3_2s3 _ _ _ _ _ _ _)) ?_
 refine d_eff 9 rfl (by kernel_rfl) (fun K_46 hKK_46 hcK_46 => ?_)
 refine r_stw (k := 0) .none sz50 rfl rfl (IsRow.lit _) (one_lit rfl (all_cons rfl (all_cons rfl (all_cons rfl (all_cons rfl (all_cons (hts).one (all_cons rfl rfl))))))) rfl ?_
 refine r_nil (e_d (i := 9) (brk := (fun j => [9].contains j)) (ph' := false) hKK_46 hcK_46 rfl (fun h => by cases h) (fun h => by cases h) ?_)
 clear hKK_46 hcK_46 K_46
 refine d_nil (by kernel_rfl) ?_
 refine e_next (c_seq (c_seq (c_region ?_)))
 refine r_val .none rfl (p_field Try.underlying50 rfl sz35 rfl) ?_
 refine r_val .none rfl (p_ld (k := 2) Try.underlying35 rfl rfl rfl (by first | exact odt rfl | omega) rfl) ?_
 refine r_val .none rfl (p_leng Try.underlying35 rfl hr) ?_
 have bd_47 := (hr).bound
 refine r_val .none rfl (p_move rfl) (r_nil (e_next (c_block ?_)))
 refine c_nilrow 50 6 ?_
 refine c_name (d := 2) rfl (fun u_48 hu_48 => ?_)
 refine c_name (d := 3) rfl (fun u_49 hu_49 => ?_)
 refine c_name (d := 15) rfl (fun u_50 hu_50 => ?_)
 refine c_name (d := 16) rfl (fun u_51 hu_51 => ?_)
 refine c_nameL (k := 2) rfl (fun A_52 hA_52 => ?_)
 refine c_nameL (k := 3) rfl (fun A_53 hA_53 => ?_)
 refine c_loop (σ := Nat × Value × List SVal × Ghost) (fun s => [(17, Value.int .i64 (s.1 : Nat)), (2, u_48), (3, u_49), (15, u_50), (16, u_51)]) (fun s => [rowA (s.2.1) 50 6 (s.2.2.1).length ((s.2.2.1).flatMap sC), box b_6 6 50 (at_ [.int .i64 c.h.k, .int .i64 c.h.k0, .int .i64 c.h.k1, .int .i64 c.h.k2, .slice a_44 c.h.ts.length c_45, s.2.1]), A_52, A_53]) (fun s => s.2.2.2) (fun s => s.1 ≤ rs.length ∧ s.2.2.1.map Prod.fst = (rs.map Prod.fst).take s.1 ∧ (∀ p ∈ s.2.2.1, SlL s.2.2.2 p.2.1 3 tC t0 p.1.h.ts) ∧ (∀ p ∈ s.2.2.1, Ss s.2.2.2 p.2.2 p.1.subs) ∧ GNew w nX G_39 s.2.2.2) (fun s => rs.length - s.1) ((0, _, [], _)) ⟨Nat.zero_le _, rfl, by simp, by simp, GNew.refl _ _ _⟩ rfl ⟨rfl, rfl, rfl, rfl, rfl, trivial⟩ (.keep (fun _ _ h => rowA_nil rfl _ _ h) (.keep (fun _ _ h => box_congr (fun i hi => by match i, hi with | 0, _ => rfl | 1, _ => rfl | 2, _ => rfl | 3, _ => rfl | 4, _ => rfl | 5, _ => rfl) _ _ h) (.keep (fun _ _ h => h) (.keep (fun _ _ h => h) (.nil))))) (fun s hphi => ?_)
 subst hu_48
 subst hu_49
 subst hu_50
 subst hu_51
 subst hA_52
 subst hA_53
 obtain ⟨k, v, qs, H⟩ := s
 obtain ⟨hk, hq, hqt, hqs, hgn⟩ := hphi
 dsimp only at hk hq hqt hqs hgn ⊢
 have hql : qs.length ≤ k := (by have := congrArg List.length hq; simp at this; omega)
 refine c_row1 (k := 0) rfl (fun ov => ?_)
 refine c_rowlen (k := 0) rfl (fun l63 => ?_)
 replace ht := ht.mono hgn.le
 replace hr := hr.mono hgn.le
 replace hrt := fun p hm0 => (hrt p hm0).mono hgn.le
 replace hrs := fun p hm0 => (hrs p hm0).mono hgn.le
 replace hts := hts.mono hgn.le
 refine c_seq (c_region ?_)
 refine r_val .none rfl (p_lt rfl rfl) ?_
 refine r_nil (e_next (c_seq ?_))
 refine c_splitd (d := 18) rfl (fun h_54 => ?_) (fun h_54 => ?_)
 · (
 first
 | (exfalso; omega)
 | (
 refine c_cond_t rfl (c_skip (e_next (c_seq (c_block ?_))))
 refine c_seq (c_region ?_)
 refine r_iaddr_g .none rfl Try.underlying35 sz50 rfl hr rfl (by first | exact odt rfl | omega) (fun p_56 o_57 R_55 => ?_)
 have ht_58 := hrt _ (getD_mem (i := k) (d := s0) (by omega))
 have hc_59 := hrs _ (getD_mem (i := k) (d := s0) (by omega))
 have hz8 : ssz (rs.getD k s0).1 ≤ 1000 := Nat.le_trans (sszL_mem (l := c.subs) (by rw [hl]; exact sv_mem (k := k) (by omega))) (by omega)
 refine r_val .none rfl (p_ldga0 Try.underlying50 rfl sz50 rfl R_55 (by first | exact odt rfl | omega) (rfl : _ = Value.agg #[_, _, _, _, _, _])) ?_
 refine r_alloc .none rfl zr50 (IsRow.lit _) (fun b_7 => ?_)
 refine r_stw (k := 0) .none sz50 rfl rfl (IsRow.lit _) (one_lit rfl (all_cons rfl (all_cons rfl (all_cons rfl (all_cons rfl (all_cons (ht_58).one (all_cons (hc_59).one rfl))))))) rfl ?_
 refine r_nil (e_next ?_)
 refine c_region_d (fun j => [5, 6, 7].contains j) _ mixed (.keep (fun _ _ h => h) (.keep (fun _ _ h => h) (.keep (fun _ _ h => h) (.keep (fun _ _ h => h) (.keep (fun _ _ h => h) (.nil)))))) ?_
 refine d_val1 0 rfl rfl (by kernel_rfl) (fun j hj => by have h : 7 < j := (Nat.lt_of_lt_of_le (by decide : 7 < 8) hj); simp; omega) .none rfl (p_field Try.underlying50 rfl sz35 rfl) ?_
 refine d_val1 1 rfl rfl (by kernel_rfl) (fun j hj => by have h : 7 < j := (Nat.lt_of_lt_of_le (by decide : 7 < 8) hj); simp; omega) .none rfl (p_ld (k := 2) Try.underlying35 rfl rfl rfl (by first | exact odt rfl | omega) rfl) ?_
 refine d_val1 2 rfl rfl (by kernel_rfl) (fun j hj => by have h : 7 < j := (Nat.lt_of_lt_of_le (by decide : 7 < 8) hj); simp; omega) .none rfl (p_ldw (k := 0) Try.underlying50 rfl sz50 rfl rfl (rfl : _ = Value.agg #[_, _, _, _, _, _])) ?_
 refine d_eff 3 rfl (by kernel_rfl) (fun K_60 hKK_60 hcK_60 => ?_)
 refine r_callm (vs := [_]) .none rfl cl63 rfl (fun w hw => ih (rs.getD k s0).1 _ _ _ w (ssz_at hl (by omega) hz) hz8 ht_58 hc_59 hw) (fun G_61 v_64 hn_62 hr_63 => ?_)
 replace ht := ht.mono hn_62.le
 replace hr := hr.mono hn_62.le
 replace hrt := fun p hm0 => (hrt p hm0).mono hn_62.le
 replace hrs := fun p hm0 => (hrs p hm0).mono hn_62.le
 replace hts := hts.mono hn_62.le
 replace hqt := fun p hm0 => (hqt p hm0).mono hn_62.le
 replace hqs := fun p hm0 => (hqs p hm0).mono hn_62.le
 replace R_55 := R_55.mono hn_62.le
 replace ht_58 := ht_58.mono hn_62.le
 replace hc_59 := hc_59.mono hn_62.le
 obtain ⟨u_65a, u_65b, rfl, u_65s, u_65t⟩ := hr_63
 refine r_nil (e_d (i := 3) (brk := (fun j => [5, 6, 7].contains j)) (ph' := true) hKK_60 hcK_60 rfl (fun _ => hn_62.le) (fun _ => .keep (fun _ _ h => h) (.keep (fun _ _ h => h) (.keep (fun _ _ h => h) (.keep (fun _ _ h => h) (.keep (fun _ _ h => h) (.nil)))))) ?_)
 clear hKK_60 hcK_60 K_60
 refine d_eff 4 rfl (by kernel_rfl) (fun K_66 hKK_66 hcK_66 => ?_)
 refine r_bslice (vs := [(0, Value.agg #[_, _, _, _, _, _])]) (c := #[_, _, _, _, _, _]) .none rfl Try.underlying35 el50 rfl rfl rfl (bs50_10a6 _ _ _ _ _ _) (IsRow.lit _) (fun b_8 => ?_)
 refine r_nil (e_d (i := 4) (brk := (fun j => [5, 6, 7].contains j)) (ph' := true) hKK_66 hcK_66 rfl (fun _ => hn_62.le) (fun _ => .drop (.keep (fun _ _ h => h) (.keep (fun _ _ h => h) (.keep (fun _ _ h => h) (.keep (fun _ _ h => h) (.keep (fun _ _ h => h) (.nil))))))) ?_)
 clear hKK_66 hcK_66 K_66
 refine d_eff 5 rfl (by kernel_rfl) (fun K_67 hKK_67 hcK_67 => ?_)
 refine r_append (k := 2) (k2 := 0) .none rfl Try.underlying35 el50 rfl (by decide) rfl rfl rfl rfl rfl (one_lit rfl (all_cons rfl (all_cons rfl (all_cons rfl (all_cons rfl (all_cons (u_65s).one (all_cons (u_65t).one rfl))))))) (by simp only [maxLen]; omega) (by omega) (fun v_68 => ?_)
 refine r_row1 (k := 2) rfl (fun o_69 => ?_)
 refine r_nil (e_d (i := 5) (brk := (fun j => [5, 6, 7].contains j)) (ph' := false) hKK_67 hcK_67 rfl (fun h => by cases h) (fun h => by cases h) ?_)
 clear hKK_67 hcK_67 K_67
 refine d_val2 6 rfl rfl (by kernel_rfl) .none rfl (fun _ => p_field Try.underlying50 rfl sz35 rfl) ?_
 refine d_eff 7 rfl (by kernel_rfl) (fun K_70 hKK_70 hcK_70 => ?_)
 refine r_st (k := 3) .none sz35 rfl rfl o_69 rfl (by first | exact odt rfl | omega) ?_
 refine r_nil (e_d (i := 7) (brk := (fun j => [5, 6, 7].contains j)) (ph' := false) hKK_70 hcK_70 rfl (fun h => by cases h) (fun h => by cases h) ?_)
 clear hKK_70 hcK_70 K_70
 refine d_nil (by kernel_rfl) ?_
 refine e_norm_block ?_
 refine e_next (c_region ?_)
 refine r_val .none rfl (p_add rfl rfl (by omega)) ?_
 refine r_val .none rfl (p_move rfl) (r_nil ?_)
 refine e_round ((k + 1, _, qs ++ [((rs.getD k s0).1, u_65a, u_65b)], _)) ⟨⟨by dsimp only; omega, by rw [sv_take (by omega), List.map_append, hq]; rfl, (fun p hp' => by rcases List.mem_append.1 hp' with h | h; exact hqt p h; rw [List.mem_singleton.1 h]; exact u_65s), (fun p hp' => by rcases List.mem_append.1 hp' with h | h; exact hqs p h; rw [List.mem_singleton.1 h]; exact u_65t), (hgn.trans hn_62)⟩, by dsimp only; omega⟩ rfl ⟨rfl, rfl, rfl, rfl, rfl, trivial⟩ (.drop (.drop (.keep (fun _ _ h => rowA_snoc (l := qs) (x := ((rs.getD k s0).1, u_65a, u_65b)) rfl rfl rfl rfl _ _ h) (.keep (fun _ _ h => box_congr (fun i hi => by match i, hi with | 0, _ => rfl | 1, _ => rfl | 2, _ => rfl | 3, _ => rfl | 4, _ => rfl | 5, _ => rfl) _ _ h) (.keep (fun _ _ h => h) (.keep (fun _ _ h => h) (.nil)))))))))
 · (
 first
 | (exfalso; omega)
 | (
 refine c_cond_f rfl (c_exit (e_exit_then (e_exit_then ?_)))
 refine e_exit_block ?_
 refine e_next (c_seq (c_region ?_))
 refine r_val .none rfl (p_ldw (k := 1) Try.underlying50 rfl sz50 rfl rfl (rfl : _ = Value.agg #[_, _, _, _, _, _])) ?_
 refine r_stw (k := 2) .none sz50 rfl rfl (IsRow.lit _) (one_lit rfl (all_cons rfl (all_cons rfl (all_cons rfl (all_cons rfl (all_cons (hts).one (all_cons ov rfl))))))) rfl ?_
 refine r_nil (e_next ?_)
 refine c_ret ?_
 refine e_freeze (k := 0) rfl (fun G_71 hn_72 hs_73 => ?_)
 replace ht := ht.mono hn_72.le
 replace hr := hr.mono hn_72.le
 replace hrt := fun p hm0 => (hrt p hm0).mono hn_72.le
 replace hrs := fun p hm0 => (hrs p hm0).mono hn_72.le
 replace hts := hts.mono hn_72.le
 replace hqt := fun p hm0 => (hqt p hm0).mono hn_72.le
 replace hqs := fun p hm0 => (hqs p hm0).mono hn_72.le
 refine e_ret1 Try.results63 (.cell (k := 1) rfl Try.underlying50 rfl sz50 rfl (rfl : _ = Value.agg #[_, _, _, _, _, _]) .nil) (fun w hm => ⟨_, ((hn_40.trans hgn).trans hn_72), hm.has, ?_, hm.since⟩)
 exact ⟨_, _, rfl, hts, by rw [show c.subs = qs.map Prod.fst by rw [hq, hl, List.take_of_length_le (by simp; omega)]]; exact Ss.mk qs (SlL.of s0 (fun _ => rfl) rfl hs_73) hqt hqs⟩)))
theorem c_tclone_n : ∀ n, CloneIs n
 | 0 => fun c ta sb G w hz _ _ _ _ => absurd hz (by have := s_pos c; omega)
 | n + 1 => fun c ta sb G w hz hsz ht hs hG => c_tclone_s n (c_tclone_n n) c ta sb hz hsz ht hs w hG
theorem c_tclone (c : ST) (ta sb : Value) {G : Ghost} (hsz : ssz c ≤ 1000) (ht : SlL G ta 3 tC t0 c.h.ts) (hs : Ss G sb c.subs) (w : World) (hG : Has G w) : Calls Try.prog 63 #[Value.agg #[Value.int .i64 c.h.k, Value.int .i64 c.h.k0, Value.int .i64 c.h.k1, Value.int .i64 c.h.k2, ta, sb]] w (Ret fun r w' => ∃ G', GNew w nX G G' ∧ Has G' w' ∧ (∃ ua ub, r = Value.agg #[Value.int .i64 (c).h.k, Value.int .i64 (c).h.k0, Value.int .i64 (c).h.k1, Value.int .i64 (c).h.k2, ua, ub] ∧ SlL G' ua 3 tC t0 (c).h.ts ∧ Ss G' ub (c).subs) ∧ Since nX w w') := c_tclone_n _ c ta sb G w (Nat.le_refl _) hsz ht hs hG
end Go.Proofs.Ytdkfdncbldngdaa

/- Walks: what Go functions of this chapter come to, each as a function on plain data; no condition but those that each theorem names. Printed by a program of this work (gen.py). -/
namespace Go.Proofs.Ytdkfdncbldngdaa
open Go.Gx Go.Gx.T16 Go.Gx.T8 Go.Gx.T6 Go.Gx.T4 Go.Gx.T3 Go.Gx.T8 Go.Gx.T4 Go.Gx.T3 Go.Gx.T8 Go.Gx.T6 Go.Gx.T4 Go.Gx.T3
theorem cl39 : Callable Try.prog 39 := callable Try.func39 (by kernel_rfl) rfl
theorem cl64 : Callable Try.prog 64 := callable Try.func64 (by kernel_rfl) rfl
theorem c_kuses {F : Nat → Prop} {G : Ghost} (p : Nat) (id : Int) (l : NL) (ls : Int) (R : RT) (hV : Seen 71 3 G l R)  (w : World) (hG : Has G w) (hA : (trR 74 p (KS.mk l ls)).holds w F) (hFG : ∀ b, F b → G b = none) :
    Calls Try.prog 19 #[Value.pointer (some ⟨p, 0, none⟩), Value.int .i64 id] w (Ret fun r w' => r = Value.int .i64 ((gP (eraK l) id).getD pn0).uses ∧ Kept (trR 74 p (KS.mk l ls)) F w w') := by
 refine enterO (args := [_, _]) (G := G) (A := trR 74 p (KS.mk l ls)) (l := [(0, Value.pointer (some ⟨p, 0, none⟩)), (1, Value.int .i64 id)]) Try.func19 rfl Try.ntmps19 hG hA hFG ⟨rfl, rfl, trivial⟩ (Nat.le_of_ble_eq_true rfl) ?_
 refine c_seq (c_region (r_val .none rfl (p_assign rfl) (r_nil (e_next ?_))))
 refine c_seq (c_region (r_val .none rfl (p_move rfl) (r_val .none rfl (p_move rfl) ?_)))
 rcases hN : lkp l id with _ | ⟨bx, kv, ov, x⟩
 · (
 refine r_callo (k := 0) (vs := [_, _]) .none rfl cl39 rfl rfl (fun w F hw hA hFG => c_katN _ _ _ _ _ hV hN w hw hA hFG) ?_
 refine r_val .none rfl (p_field1 Try.underlying71 rfl Try.underlying3 rfl sz3 rfl (IsRow.lit _) rfl (by first | exact odt rfl | omega) (rfl : _ = Value.int _ _)) ?_
 refine r_val .none rfl (p_assign rfl) (r_nil (e_next ?_))
 refine c_ret ?_
 refine e_ret1 Try.results19 (.tmp rfl .nil) (fun w hm => ⟨?_, hm.kept [trR 74 p (KS.mk l ls)] (.keep (fun _ _ h => h) (.nil)) (trR 74 p (KS.mk l ls)) (fun F' h => (starL_oneE _ _).1 h)⟩)
 (rw [gP_eraN hN]; rfl))
 · (
 obtain ⟨hR, hK, hO, hst, hss, hsz⟩ := hV.row hN
 replace hR : RowAt G bx 0 13 (at_ [.int .i64 x.st.1.h.k, .int .i64 x.st.1.h.k0, .int .i64 x.st.1.h.k1, .int .i64 x.st.1.h.k2, x.st.2.1, x.st.2.2, .int .i64 x.par, kv, .int .i64 x.dep, .int .i64 x.uses, .int .i64 x.ends, .int .i64 x.inn, ov]) := hR
 refine r_callo (k := 0) (vs := [_, _]) .none rfl cl39 rfl rfl (fun w F hw hA hFG => c_katY _ _ _ _ _ _ _ _ _ hV hN w hw hA hFG) ?_
 refine r_val .none rfl (p_field1 Try.underlying71 rfl Try.underlying3 rfl sz3 rfl (IsRow.lit _) rfl (by first | exact odt rfl | omega) (rfl : _ = Value.int _ _)) ?_
 refine r_val .none rfl (p_assign rfl) (r_nil (e_next ?_))
 refine c_ret ?_
 refine e_ret1 Try.results19 (.tmp rfl .nil) (fun w hm => ⟨?_, hm.kept [trR 74 p (KS.mk l ls)] (.keep (fun _ _ h => h) (.nil)) (trR 74 p (KS.mk l ls)) (fun F' h => (starL_oneE _ _).1 h)⟩)
 (rw [gP_era hN]; rfl))
end Go.Proofs.Ytdkfdncbldngdaa

/- Walks: what Go functions of this chapter come to, each as a function on plain data; no condition but those that each theorem names. Printed by a program of this work (gen.py). -/
namespace Go.Proofs.Ytdkfdncbldngdaa
open Go.Gx Go.Gx.T16 Go.Gx.T8 Go.Gx.T6 Go.Gx.T4 Go.Gx.T3 Go.Gx.T8 Go.Gx.T4 Go.Gx.T3 Go.Gx.T8 Go.Gx.T6 Go.Gx.T4 Go.Gx.T3
theorem cl40 : Callable Try.prog 40 := callable Try.func40 (by kernel_rfl) rfl
theorem cl41 : Callable Try.prog 41 := callable Try.func41 (by kernel_rfl) rfl
theorem sortsI6 (m : Nat) : Go.Proofs.AnyZI.SortsIn Try.prog Try.sortedI_ren Fence.wide m :=
 ⟨fun blk off cap ss W hH hblk hsz => callsIn_wide.2 (Try.slices_Sort_int blk off cap ss W hH hblk hsz), fun p cap W => callsIn_wide.2 (Try.slices_Sort_int_none p cap W)⟩
theorem keysO_new (m : Option Nat) (w : World) : Calls Try.prog 41 #[.map m] w (Ret fun r w' => ∃ p, r = .func (.func 66) #[] #[.pointer (some ⟨p, 0, none⟩)] ∧ Since nX w w' ∧ ∃ F', (box p 1 72 (at_ [.map m])).holds w' F' ∧ ∀ b, F' b → w.heap.size ≤ b) := by
 refine ((callsIn_wide (n := 5)).1 (Go.Proofs.AnyZI.keys_in Try.keysI Fence.wide 5 trivial rfl m w)).mono (fun e w' hR => ?_)
 obtain ⟨rfl, rfl⟩ := hR
 refine ⟨_, rfl, ⟨rfl, rfl, rfl, by show _ ≤ (w.heap.push _).size; simp, fun k hk _ => ?_⟩, fun b => b = w.heap.size, ⟨⟨#[.map m], by show (w.heap.push _)[w.heap.size]? = _; rw [Array.getElem?_push, if_pos rfl]; rfl, IsRow.lit [_]⟩, fun _ => Iff.rfl⟩, fun b hb => by omega⟩
 show (w.heap.push _)[k]? = _
 rw [Array.getElem?_push, if_neg (by omega)]
theorem sortedI_c : KeysC Try.prog 40 66 3 := by
 intro Bm b nn D0 w hcell hlt hown hmax hbytes
 have hseq : SeqGives Fence.wide 2 Try.prog 66 #[.pointer (some ⟨Bm, 0, none⟩)] encZ (fun ss => ss.Perm (intKeys D0)) (Maps.size D0) w :=
  Go.Proofs.AnyZI.keys_gives (ρ := Try.keysI_ren) { Try.keysI with } Fence.wide _ trivial rfl (by omega) Bm b nn D0 _ hlt hcell hown
 refine ((callsIn_wide (n := 5)).1 (Go.Proofs.AnyZI.sorted_in Try.sortedI Fence.wide 5 trivial trivial trivial trivial rfl (by omega) (sortsI6 _) (enters_of Try.func42 (by kernel_rfl) rfl) 66 #[.pointer (some ⟨Bm, 0, none⟩)] trivial (enters_of Try.func66 (by kernel_rfl) rfl) _ _ hmax hbytes _ hseq)).mono (fun e w' hR => ?_)
 obtain ⟨v, ss, he, hS, hrow, _, hb⟩ := hR
 exact ⟨v, ss, he, hS, hrow, hb⟩
theorem c_kall {F : Nat → Prop} {G : Ghost} (p : Nat)  (l : NL) (ls : Int) (R : RT) (hV : Seen 71 3 G l R) (hwf : ∀ p ∈ l, (Lit.int .i64 p.1).wf = true) (hll : l.length ≤ 5000) (w : World) (hG : Has G w) (hA : (trR 74 p (KS.mk l ls)).holds w F) (hFG : ∀ b, F b → G b = none) :
    Calls Try.prog 21 #[Value.pointer (some ⟨p, 0, none⟩)] w (Ret fun r w' => Kept (starL [rowA r 3 1 ((sortI (l.map Prod.fst))).length (((sortI (l.map Prod.fst))).flatMap cI), trR 74 p (KS.mk l ls)]) F w w') := by
 refine enterO (args := [_]) (G := G) (A := trR 74 p (KS.mk l ls)) (l := [(0, Value.pointer (some ⟨p, 0, none⟩))]) Try.func21 rfl Try.ntmps21 hG hA hFG ⟨rfl, trivial⟩ (Nat.le_of_ble_eq_true rfl) ?_
 refine c_openK (fun z => ?_)
 dsimp only [trC]
 refine c_seq (c_region (r_val .none rfl (p_assign rfl) (r_nil (e_next ?_))))
 refine c_seq (c_region (r_val .none rfl (p_move rfl) ?_))
 refine r_val .none rfl (p_nilcheck rfl) ?_
 refine r_val .none rfl (p_field Try.underlying74 rfl sz72 rfl) ?_
 refine r_val .none rfl (p_ld (k := 0) Try.underlying72 rfl rfl rfl (by first | exact odt rfl | omega) (rfl : _ = Value.map _)) ?_
 refine r_callnew (S := fun p => box p 1 72 (at_ [.map (some z)])) (vr := fun p => .func (.func 66) #[] #[.pointer (some ⟨p, 0, none⟩)]) .none rfl cl41 rfl (fun w hw => keysO_new _ w) (fun p_1 => ?_)
 refine r_sorted (i := 2) (j := 0) .none rfl cl40 rfl rfl rfl sortedI_c Try.underlying3 hwf (by omega) (fun v_2 => ?_)
 refine r_val .none rfl (p_assign rfl) (r_nil (e_next ?_))
 refine c_ret ?_
 refine e_front (k := 3) rfl ?_
 refine e_front (k := 3) rfl ?_
 refine e_front (k := 2) rfl ?_
 refine e_ret1 Try.results21 (.tmp rfl .nil) (fun w hm => hm.kept [rowA v_2 3 1 ((sortI (l.map Prod.fst))).length (((sortI (l.map Prod.fst))).flatMap cI), box p 2 74 (at_ (trC (KS.mk l ls) z)), mapA z kI veN2 l] (.keep (fun _ _ h => h) (.keep (fun _ _ h => h) (.keep (fun _ _ h => h) (.drop (.nil))))) (starL [rowA v_2 3 1 ((sortI (l.map Prod.fst))).length (((sortI (l.map Prod.fst))).flatMap cI), trR 74 p (KS.mk l ls)]) (fun F' h => shut_rowK (s := KS.mk l ls) z h))
end Go.Proofs.Ytdkfdncbldngdaa

/- Tries: a node taken out and put back; what is known of a trie between calls; no program in sight. -/
namespace Go.Gx.T16
open Go.Gx Go.Gx.T3 Go.Gx.T4 Go.Gx.T6 Go.Gx.T8
section
variable {T TT E : TypeId} {p : Nat}
variable {P : Program} {ops : Array Oper} {Q : Exit → Act → World → Prop} {N : Nat} {X : Nat → Prop} {w0 w : World} {G : Ghost} {fr : List (Nat × Value)} {L : List Asrt} {rest : List Oper} {c : Code} {e : Exit}
variable {l : NL} {k : Int} {u : NB Nd} {bx : Nat} {kv ov kv' ov' : Value} {x x' : Nd}
theorem r_fnd (hk : lkp l k = some (bx, kv, ov, x)) (H : Runs P ops Q N X w0 G rest fr (box bx 13 T (at_ [.int .i64 x.st.1.h.k, .int .i64 x.st.1.h.k0, .int .i64 x.st.1.h.k1, .int .i64 x.st.1.h.k2, x.st.2.1, x.st.2.2, .int .i64 x.par, kv, .int .i64 x.dep, .int .i64 x.uses, .int .i64 x.ends, .int .i64 x.inn, ov]) :: rowA kv E 1 x.kids.length (x.kids.flatMap cI) :: rowA ov E 1 x.outer.length (x.outer.flatMap cI) :: hoard (FK (nkD T E)) (mdel l k) :: L)) :
    Runs P ops Q N X w0 G rest fr (hoard (FK (nkD T E)) l :: L) := r_fnode hk H
theorem r_ndBack (hk : lkp l k = some u) (H : Runs P ops Q N X w0 G rest fr (hoard (FK (nkD T E)) (mput l k (bx, kv, ov, x)) :: L)) :
    Runs P ops Q N X w0 G rest fr (box bx 13 T (at_ (ndC x kv ov)) :: rowA kv E 1 x.kids.length (x.kids.flatMap cI) :: rowA ov E 1 x.outer.length (x.outer.flatMap cI) :: hoard (FK (nkD T E)) (mdel l k) :: L) := r_nodeBack (v := (bx, kv, ov, x)) hk H
theorem e_ndBack (hk : lkp l k = some u) (H : ERuns Q e N X w0 G fr (hoard (FK (nkD T E)) (mput l k (bx, kv, ov, x)) :: L)) :
    ERuns Q e N X w0 G fr (box bx 13 T (at_ (ndC x kv ov)) :: rowA kv E 1 x.kids.length (x.kids.flatMap cI) :: rowA ov E 1 x.outer.length (x.outer.flatMap cI) :: hoard (FK (nkD T E)) (mdel l k) :: L) := fun a w hS => H a w ⟨hS.fr, Mem.nodeBack (v := (bx, kv, ov, x)) hk hS.mem⟩
theorem c_fnd (hk : lkp l k = some (bx, kv, ov, x)) (H : CRuns P c Q N X w0 G fr (box bx 13 T (at_ [.int .i64 x.st.1.h.k, .int .i64 x.st.1.h.k0, .int .i64 x.st.1.h.k1, .int .i64 x.st.1.h.k2, x.st.2.1, x.st.2.2, .int .i64 x.par, kv, .int .i64 x.dep, .int .i64 x.uses, .int .i64 x.ends, .int .i64 x.inn, ov]) :: rowA kv E 1 x.kids.length (x.kids.flatMap cI) :: rowA ov E 1 x.outer.length (x.outer.flatMap cI) :: hoard (FK (nkD T E)) (mdel l k) :: L)) :
    CRuns P c Q N X w0 G fr (hoard (FK (nkD T E)) l :: L) := fun a w hS => H a w ⟨hS.fr, (hS.mem.focus hk).unpack⟩
theorem c_ndBack (hk : lkp l k = some u) (H : CRuns P c Q N X w0 G fr (hoard (FK (nkD T E)) (mput l k (bx, kv, ov, x)) :: L)) :
    CRuns P c Q N X w0 G fr (box bx 13 T (at_ (ndC x kv ov)) :: rowA kv E 1 x.kids.length (x.kids.flatMap cI) :: rowA ov E 1 x.outer.length (x.outer.flatMap cI) :: hoard (FK (nkD T E)) (mdel l k) :: L) := fun a w hS => H a w ⟨hS.fr, Mem.nodeBack (v := (bx, kv, ov, x)) hk hS.mem⟩
theorem c_ndNew (hk : lkp l k = none) (H : CRuns P c Q N X w0 G fr (hoard (FK (nkD T E)) (mput l k (bx, kv, ov, x)) :: L)) :
    CRuns P c Q N X w0 G fr (box bx 13 T (at_ (ndC x kv ov)) :: rowA kv E 1 x.kids.length (x.kids.flatMap cI) :: rowA ov E 1 x.outer.length (x.outer.flatMap cI) :: hoard (FK (nkD T E)) l :: L) := fun a w hS => by
  have h1 : Mem X w0 G w (FK (nkD T E) (k, (bx, kv, ov, x)) :: hoard (FK (nkD T E)) l :: L) := Mem.nodeIn (v := (bx, kv, ov, x)) (k := k) hS.mem
  exact H a w ⟨hS.fr, h1.fnew hk⟩
theorem e_ndNew (hk : lkp l k = none) (H : ERuns Q e N X w0 G fr (hoard (FK (nkD T E)) (mput l k (bx, kv, ov, x)) :: L)) :
    ERuns Q e N X w0 G fr (box bx 13 T (at_ (ndC x kv ov)) :: rowA kv E 1 x.kids.length (x.kids.flatMap cI) :: rowA ov E 1 x.outer.length (x.outer.flatMap cI) :: hoard (FK (nkD T E)) l :: L) := fun a w hS => by
  have h1 : Mem X w0 G w (FK (nkD T E) (k, (bx, kv, ov, x)) :: hoard (FK (nkD T E)) l :: L) := Mem.nodeIn (v := (bx, kv, ov, x)) (k := k) hS.mem
  exact H a w ⟨hS.fr, h1.fnew hk⟩
theorem e_conv {k : Nat} {A B : Asrt} (hL : L[k]? = some A) (hI : ∀ w F, A.holds w F → B.holds w F) (h : ERuns Q e N X w0 G fr (L.set k B)) : ERuns Q e N X w0 G fr L := fun a w hS => by
  obtain ⟨F, hA, _, hput⟩ := hS.mem.take hL
  exact h a w ⟨hS.fr, hput w B F (Since.refl _ _) (hI w F hA) (fun b hb => .inl hb)⟩
theorem c_convk {k : Nat} {A B : Asrt} (hL : L[k]? = some A) (hI : ∀ w F, A.holds w F → B.holds w F) (h : CRuns P c Q N X w0 G fr (L.set k B)) : CRuns P c Q N X w0 G fr L := fun a w hS => by
  obtain ⟨F, hA, _, hput⟩ := hS.mem.take hL
  exact h a w ⟨hS.fr, hput w B F (Since.refl _ _) (hI w F hA) (fun b hb => .inl hb)⟩
theorem trE_mk3 {l : NL} {n : List (Int × Nd)} {ls : Int} (z : Nat) (hl : n = eraK l) {w : World} {F : Nat → Prop} (h : (starL [box p 2 TT (at_ (trC (KS.mk l ls) z)), mapA z kI veN2 l, hoard (FK (nkD T E)) l]).holds w F) : (trE (nkD T E) TT p (KS.mk n ls)).holds w F := by
  obtain ⟨F1, F2, h1, h2, h3⟩ := (star_assoc _ _ _ w F).1 h
  exact ⟨l, hl, F1, F2, ⟨z, (star_congr .rfl (star_tt _) w F1).2 h1⟩, h2, h3⟩
theorem Mem.shutE {l : NL} {n : List (Int × Nd)} {ls : Int} (z : Nat) (hl : n = eraK l) (h : Mem X w0 G w (box p 2 TT (at_ (trC (KS.mk l ls) z)) :: mapA z kI veN2 l :: hoard (FK (nkD T E)) l :: L)) : Mem X w0 G w (trE (nkD T E) TT p (KS.mk n ls) :: L) := by
  obtain ⟨F, h1, h2, h3⟩ := Sep.packL [box p 2 TT (at_ (trC (KS.mk l ls) z)), mapA z kI veN2 l, hoard (FK (nkD T E)) l] h.sep
  exact ⟨h.since, h.has, F, trE_mk3 z hl h1, h2, h3⟩
theorem r_shutE {l : NL} {n : List (Int × Nd)} {ls : Int} (z : Nat) (hl : n = eraK l) (H : Runs P ops Q N X w0 G rest fr (trE (nkD T E) TT p (KS.mk n ls) :: L)) : Runs P ops Q N X w0 G rest fr (box p 2 TT (at_ (trC (KS.mk l ls) z)) :: mapA z kI veN2 l :: hoard (FK (nkD T E)) l :: L) := fun a w hS => H a w ⟨hS.fr, Mem.shutE z hl hS.mem⟩
theorem e_shutE {l : NL} {n : List (Int × Nd)} {ls : Int} (z : Nat) (hl : n = eraK l) (H : ERuns Q e N X w0 G fr (trE (nkD T E) TT p (KS.mk n ls) :: L)) : ERuns Q e N X w0 G fr (box p 2 TT (at_ (trC (KS.mk l ls) z)) :: mapA z kI veN2 l :: hoard (FK (nkD T E)) l :: L) := fun a w hS => H a w ⟨hS.fr, Mem.shutE z hl hS.mem⟩
theorem mdel_mput {α : Type} : ∀ {l : List (Int × α)} {a k : Int} {v : α}, a ≠ k → mdel (mput l a v) k = mput (mdel l k) a v
  | [], a, k, v, h => by simp [mput, mdel, h]
  | q :: t, a, k, v, h => by
    rw [mput, mdel]
    by_cases e1 : q.1 = a
    · have e2 : ¬ q.1 = k := fun e => h (e1 ▸ e)
      rw [if_pos e1, if_neg e2, mdel, if_neg h, mput, if_pos e1]
    · rw [if_neg e1, mdel]
      by_cases e2 : q.1 = k
      · rw [if_pos e2, if_pos e2]
      · rw [if_neg e2, if_neg e2, mput, if_neg e1, mdel_mput h]
end
/-- The steps' values of all nodes. -/
def StS (G : Ghost) (s : KS Nd) : Prop := ∀ q ∈ s.nodes, StAt G q.2.st
theorem StS.mono {G G' : Ghost} {s : KS Nd} (h : StS G s) (hle : GLe G G') : StS G' s := fun q hq => (h q hq).mono hle
theorem StS.get {G : Ghost} {s : KS Nd} (h : StS G s) {k : Int} {x : Nd} (hk : lkp s.nodes k = some x) : StAt G x.st := h _ (lkp_some hk)
theorem seen_of {T E : TypeId} {G G' : Ghost} {s : KS Nd} {R : RT} {l : NL} (hT : KInv (gP s.nodes) R ∧ Clo R) (hS : StS G s) (hl : s.nodes = eraK l) (hn : ∀ q ∈ l, NodeAt (nkD T E) G' q.2) (hle : GLe G G') : Seen T E G' l R :=
  ⟨hn, fun q hq => (hS (q.1, q.2.2.2.2) (by rw [hl]; exact List.mem_map.2 ⟨q, hq, rfl⟩)).mono hle, by rw [← hl]; exact hT.1, hT.2⟩
/-- What a number's node has; what one has that isn't there. -/
def nR (R : RT) (id : Int) : PN := ((getR R id).map (ndR R)).getD pn0
theorem nR_eq {s : KS Nd} {R : RT} {l : NL} (hT : TI s R) (hl : s.nodes = eraK l) (id : Int) : (gP (eraK l) id).getD pn0 = nR R id := by rw [← hl, hT.inv id]; rfl
theorem TI.kc {s : KS Nd} {R : RT} (h : TI s R) : KInv (gP s.nodes) R ∧ Clo R := ⟨h.inv.k, h.clo⟩
theorem mput_mem {α : Type} : ∀ {l : List (Int × α)} {k : Int} {v : α} {q : Int × α}, q ∈ mput l k v → q = (k, v) ∨ q ∈ l
  | [], k, v, q, h => by simp [mput] at h; exact .inl h
  | p :: t, k, v, q, h => by
    rw [mput] at h
    split at h
    · rcases List.mem_cons.1 h with h | h
      · exact .inl h
      · exact .inr (List.mem_cons_of_mem _ h)
    · rcases List.mem_cons.1 h with h | h
      · exact .inr (by rw [h]; simp)
      · rcases mput_mem h with h | h
        · exact .inl h
        · exact .inr (List.mem_cons_of_mem _ h)
theorem StS.put {G : Ghost} {l : List (Int × Nd)} {ls ls' k : Int} {x : Nd} (h : StS G ⟨l, ls⟩) (hx : StAt G x.st) : StS G ⟨mput l k x, ls'⟩ := fun q hq => by
  rcases mput_mem hq with rfl | hq
  · exact hx
  · exact h q hq
theorem StS.use {G : Ghost} (y : Int) : ∀ {ks : List Int} {l : List (Int × Nd)} {ls : Int}, StS G ⟨l, ls⟩ → StS G ⟨useL y ks l, ls⟩
  | [], _, _, h => h
  | k :: t, l, ls, h => by
    rw [useL]
    cases hk : lkp l k with
    | none => exact StS.use y h
    | some x => exact StS.use y (h.put (x := { x with uses := x.uses + y }) (show StAt G x.st from h.get (s := ⟨l, ls⟩) hk))
/-- One number's use more. -/
def use1 (y : Int) (k : Int) (l : List (Int × Nd)) : List (Int × Nd) := match lkp l k with
  | some x => mput l k { x with uses := x.uses + y }
  | none => l
theorem useL_cons (y k : Int) (t : List Int) (l : List (Int × Nd)) : useL y (k :: t) l = useL y t (use1 y k l) := by
  rw [useL, use1]; split <;> rename_i h <;> simp only [h]
theorem useL_append (y : Int) : ∀ (a b : List Int) (l : List (Int × Nd)), useL y (a ++ b) l = useL y b (useL y a l)
  | [], _, _ => rfl
  | k :: t, b, l => by rw [List.cons_append, useL_cons, useL_cons, useL_append y t b]
theorem useL_take (y : Int) {ks : List Int} {j : Nat} (hj : j < ks.length) (l : List (Int × Nd)) : useL y (ks.take (j + 1)) l = use1 y (ks.getD j 0) (useL y (ks.take j) l) := by
  rw [List.take_succ_eq_append_getElem hj, useL_append, useL_cons]
  simp [useL, List.getD, List.getElem?_eq_getElem hj]
theorem take_not {ks : List Int} {j : Nat} (hn : ks.Nodup) (hj : j < ks.length) : ¬ ks.getD j 0 ∈ ks.take j := by
  intro h
  obtain ⟨i, hi⟩ := List.getElem?_of_mem h
  rw [List.getElem?_take] at hi
  split at hi
  · rename_i hij
    have e : ks[i]? = ks[j]? := by rw [hi]; simp [List.getD, List.getElem?_eq_getElem hj]
    have h1 : i < ks.length := by omega
    rw [List.getElem?_eq_getElem h1, List.getElem?_eq_getElem hj] at e
    have := (List.getElem_inj hn).1 (Option.some.inj e)
    omega
  · cases hi
/-- The node that is next. -/
theorem use_next {y : Int} {ks : List Int} {j : Nat} {s : KS Nd} {l : NL} (hn : ks.Nodup) (hj : j < ks.length) (hl : eraK l = useL y (ks.take j) s.nodes) (hin : ∀ k ∈ ks, lkp s.nodes k ≠ none) :
    ∃ bx kv ov x, lkp l (ks.getD j 0) = some (bx, kv, ov, x) ∧ lkp s.nodes (ks.getD j 0) = some x := by
  have hm : ks.getD j 0 ∈ ks := getD_mem hj
  cases hx : lkp s.nodes (ks.getD j 0) with
  | none => exact absurd hx (hin _ hm)
  | some x =>
    have h1 := useL_at y (hn.sublist (List.take_sublist j ks)) (l := s.nodes) (ks.getD j 0)
    rw [← hl, hx, Option.map_some, if_neg (take_not hn hj)] at h1
    obtain ⟨b, kv, ov, h2⟩ := eraK_some h1
    exact ⟨b, kv, ov, x, h2, rfl⟩
theorem use_step {y : Int} {ks : List Int} {j : Nat} {s : KS Nd} {l : NL} {bx : Nat} {kv ov : Value} {x : Nd} (hj : j < ks.length) (hl : eraK l = useL y (ks.take j) s.nodes) (hx : lkp l (ks.getD j 0) = some (bx, kv, ov, x)) :
    eraK (mput l (ks.getD j 0) (bx, kv, ov, { x with uses := x.uses + y })) = useL y (ks.take (j + 1)) s.nodes := by
  rw [useL_take y hj, ← hl, eraK_mput, use1, eraK_lkp, hx]; rfl
theorem TI.fresh {s : KS Nd} {R : RT} {l : NL} (h : TI s R) (hl : s.nodes = eraK l) : lkp l (s.last + 1) = none := by
  have h1 := h.inv (s.last + 1)
  have h2 : getR R (s.last + 1) = none := by
    cases e : getR R (s.last + 1) with
    | none => rfl
    | some d => have h3 := get_lt e; have h4 := h.last; omega
  rw [h2, hl] at h1
  have h5 := gP_none.1 h1
  rw [eraK_lkp] at h5
  cases e : lkp l (s.last + 1) with
  | none => rfl
  | some v => rw [e] at h5; cases h5
theorem TI.node {s : KS Nd} {R : RT} {l : NL} {id : Int} {c : List ST} (h : TI s R) (hl : s.nodes = eraK l) (hg : getR R id = some c) : ∃ bx kv ov x, lkp l id = some (bx, kv, ov, x) ∧ lkp s.nodes id = some x ∧ x.pn = ndR R c := by
  obtain ⟨x, h1, h2⟩ := h.at hg
  have h3 := h1
  rw [hl] at h3
  obtain ⟨b, kv, ov, h4⟩ := eraK_some h3
  exact ⟨b, kv, ov, x, h4, h1, h2⟩
theorem numsF_len (p : List ST → Bool) : ∀ (l : List It) (i : Int), (numsF p l i).length ≤ l.length
  | [], _ => Nat.le_refl _
  | x :: t, i => by
    have := numsF_len p t (i + 1)
    rw [numsF]
    split <;> simp <;> omega
theorem mkL_outer {s : KS Nd} {R : RT} {id : Int} {a : List ST} {x : Nd} {st : SVal} (hT : TI s R) (ha : getR R id = some a) (hx : lkp s.nodes id = some x) {k : Int} {d : List ST} (hd : getR R k = some d) {z : Nd} (hz : lkp (mkL s id x st) k = some z) : z.outer.length ≤ R.its.length := by
  have h1 := gP_some hz
  rw [mkL_at hT ha, if_neg (by have := get_lt hd; omega)] at h1
  by_cases e : k = id
  · rw [if_pos e] at h1
    have h2 : x.outer = z.outer := congrArg PN.outer (Option.some.inj h1)
    rw [← h2, show x.outer = outerR R a from congrArg PN.outer (mk_pn hT ha hx)]
    exact numsF_len _ _ _
  · rw [if_neg e, hT.inv k, hd] at h1
    have h2 : outerR R d = z.outer := congrArg PN.outer (Option.some.inj h1)
    rw [← h2]
    exact numsF_len _ _ _
theorem chain_len {R : RT} (hC : Clo R) : ∀ (n : Nat) {id : Int} {c : List ST}, c.length ≤ n → getR R id = some c → (c.length : Int) + 1 ≤ id
  | 0, id, c, hn, h => by have := get_lt h; omega
  | n + 1, id, c, hn, h => by
    rcases getR_iff.1 h with ⟨rfl, rfl⟩ | ⟨_, j, rfl, h2⟩
    · simp
    · have h3 := hC.up j c h2
      have hne := hC.ne _ (List.mem_of_getElem? h2)
      have h4 : 0 < c.length := List.length_pos_iff.2 hne
      have h5 := chain_len hC n (c := c.dropLast) (by rw [List.length_dropLast]; omega) (find_some hC.ne h3.1)
      rw [List.length_dropLast] at h5
      omega
section
variable {T TT E : TypeId} {p : Nat} {P : Program} {f : FuncId} {vs : Array Value}
theorem hd_see {K : NK Nd} {l : NL} {ls : Int} {R : Value → Prop} {G : Ghost} {w : World} {F : Nat → Prop}
    (hc : ∀ (G' : Ghost) (F' : Nat → Prop), GLe G G' → (∀ q ∈ l, NodeAt K G' q.2) → Has G' w → (trR TT p ⟨l, ls⟩).holds w F' → (∀ b, F' b → G' b = none) → Calls P f vs w (Ret fun r w' => R r ∧ Kept (trR TT p ⟨l, ls⟩) F' w w'))
    (hG : Has G w) (hA : (starL [hoard (FK K) l, trR TT p ⟨l, ls⟩]).holds w F) (hF : ∀ b, F b → G b = none) : Calls P f vs w (Ret fun r w' => R r ∧ Kept (starL [hoard (FK K) l, trR TT p ⟨l, ls⟩]) F w w') :=
  with_seen (H := hoard (FK K) l) (A := trR TT p ⟨l, ls⟩) (B := fun _ => trR TT p ⟨l, ls⟩) (R := R) (S := fun G' => ∀ q ∈ l, NodeAt K G' q.2)
    (fun F1 hM => by obtain ⟨G', h1, h2, h3⟩ := hM.freezeHK; exact ⟨G', h1, h2, h3.has⟩) (fun G' F' hle hs hG' hA' hF' => hc G' F' hle hs hG' hA' hF') hG hA hF
end
end Go.Gx.T16

/- Walks: what Go functions of this chapter come to, each as a function on plain data; no condition but those that each theorem names. Printed by a program of this work (gen.py). -/
namespace Go.Proofs.Ytdkfdncbldngdaa
open Go.Gx Go.Gx.T16 Go.Gx.T8 Go.Gx.T6 Go.Gx.T4 Go.Gx.T3 Go.Gx.T8 Go.Gx.T4 Go.Gx.T3 Go.Gx.T8 Go.Gx.T6 Go.Gx.T4 Go.Gx.T3
theorem cl42 : Callable Try.prog 42 := callable Try.func42 (by kernel_rfl) rfl
theorem cl43 : Callable Try.prog 43 := callable Try.func43 (by kernel_rfl) rfl
theorem sortC : SortC Try.prog 42 := fun b o c zs w h1 h2 h3 => Try.slices_Sort_int b o c zs w h1 h2 h3
theorem sortN : SortN Try.prog 42 := fun p c w => Try.slices_Sort_int_none p c w
theorem compC : CompC Try.prog 43 := fun b o c zs w h1 h2 h3 => Try.slices_Compact_int b o c zs w h1 h2 h3
theorem compN : CompN Try.prog 43 := fun a c w => Try.slices_Compact_int_empty a c w
theorem c_kuse {F : Nat → Prop} {G : Ghost} (p : Nat) (v : Value) (ids : List Int) (y : Int) (s : KS Nd) (hs : SlL G v 1 cI (0 : Int) ids) (hin : ∀ k ∈ ids, lkp s.nodes k ≠ none) (hyb : -1 ≤ y ∧ y ≤ 1) (hub : ∀ k x, lkp s.nodes k = some x → -5000 ≤ x.uses ∧ x.uses ≤ 5000) (hlen : ids.length ≤ 1000) (w : World) (hG : Has G w) (hA : (trE (nkD 71 3) 74 p (s)).holds w F) (hFG : ∀ b, F b → G b = none) :
    Calls Try.prog 35 #[Value.pointer (some ⟨p, 0, none⟩), v, Value.int .i64 y] w (Ret fun r w' => r = Value.tuple #[] ∧ Kept (trE (nkD 71 3) 74 p (KS.mk (useL y (Go.Gx.Set.once ids) s.nodes) s.last)) F w w') := by
 refine enterO (args := [_, _, _]) (G := G) (A := trE (nkD 71 3) 74 p (s)) (l := [(0, Value.pointer (some ⟨p, 0, none⟩)), (1, v), (2, Value.int .i64 y)]) Try.func35 rfl Try.ntmps35 hG hA hFG ⟨rfl, rfl, rfl, trivial⟩ (Nat.le_of_ble_eq_true rfl) ?_
 refine c_unex (fun l => ?_)
 refine c_unand (fun hl => ?_)
 refine c_unpack ?_
 refine c_openK (fun z => ?_)
 dsimp only [trC]
 have hnd : (Go.Gx.Set.once ids).Nodup := (Go.Gx.Set.once_rises ids).imp (fun h => Int.ne_of_lt h)
 have hol : (Go.Gx.Set.once ids).length ≤ ids.length := Nat.le_trans (compact_le _) (by rw [List.length_mergeSort]; exact Nat.le_refl _)
 have hink : ∀ k ∈ Go.Gx.Set.once ids, lkp s.nodes k ≠ none := fun k hk => hin k (Go.Gx.Set.mem_once.1 hk)
 refine c_seq (c_region (r_val .none rfl (p_move rfl) ?_))
 refine r_callrow (vs := [_]) .none rfl cl64 rfl (fun w hw => c_cloneI _ _ hs hlen w hw) (fun v_1 => ?_)
 refine r_val .none rfl (p_assign rfl) (r_nil (e_next (c_seq (c_region ?_))))
 refine r_val .none rfl (p_move rfl) ?_
 refine r_sort (k := 0) (zs := _) .none rfl cl42 rfl rfl sortC sortN (by omega) ?_
 refine r_nil (e_next (c_seq (c_region (r_val .none rfl (p_move rfl) ?_))))
 refine r_compact (k := 0) .none rfl cl43 rfl rfl compC compN (compact_le _) (fun v_2 => ?_)
 refine r_conv (B := rowA v_2 3 1 (Go.Gx.Set.once ids).length ((Go.Gx.Set.once ids).flatMap cI)) (k := 0) rfl (fun _ _ h => h) ?_
 dsimp only [List.set_cons_zero, List.set_cons_succ]
 refine r_val .none rfl (p_leno (k := 0) Try.underlying33 rfl rfl) ?_
 refine r_val .none rfl (p_move rfl) (r_nil (e_next (c_block ?_)))
 refine c_name (d := 0) rfl (fun u_3 hu_3 => ?_)
 refine c_name (d := 2) rfl (fun u_4 hu_4 => ?_)
 refine c_name (d := 13) rfl (fun u_5 hu_5 => ?_)
 refine c_name (d := 14) rfl (fun u_6 hu_6 => ?_)
 refine c_nameL (k := 0) rfl (fun A_7 hA_7 => ?_)
 refine c_nameL (k := 1) rfl (fun A_8 hA_8 => ?_)
 refine c_loop (σ := Nat × NL) (fun s' => [(15, Value.int .i64 (s'.1 : Nat)), (0, u_3), (2, u_4), (13, u_5), (14, u_6)]) (fun s' => [A_7, A_8, mapA z kI veN2 s'.2, hoard (FK (nkD 71 3)) (s'.2)]) (fun _ => _) (fun s' => s'.1 ≤ (Go.Gx.Set.once ids).length ∧ eraK s'.2 = useL y ((Go.Gx.Set.once ids).take s'.1) s.nodes) (fun s' => (Go.Gx.Set.once ids).length - s'.1) ((0, l)) ⟨Nat.zero_le _, by rw [List.take_zero]; exact hl.symm⟩ rfl ⟨rfl, rfl, rfl, rfl, rfl, trivial⟩ (.keep (fun _ _ h => h) (.keep (fun _ _ h => h) (.keep (fun _ _ h => h) (.keep (fun _ _ h => h) (.nil))))) (fun s' hphi => ?_)
 subst hu_3
 subst hu_4
 subst hu_5
 subst hu_6
 subst hA_7
 subst hA_8
 obtain ⟨j, l2⟩ := s'
 obtain ⟨hj, hl2⟩ := hphi
 dsimp only at hj hl2 ⊢
 refine c_seq (c_region ?_)
 refine r_val .none rfl (p_lt rfl rfl) ?_
 refine r_nil (e_next (c_seq ?_))
 refine c_splitd (d := 16) rfl (fun h_9 => ?_) (fun h_9 => ?_)
 · (
 have hjl := h_9
 obtain ⟨bx, kv, ov, x, hN, hNs⟩ := use_next hnd (by omega) hl2 hink
 first
 | (exfalso; omega)
 | (
 refine c_cond_t rfl (c_skip (e_next (c_seq (c_block ?_))))
 refine c_seq (c_region ?_)
 refine r_iaddr_o (k := 0) .none rfl Try.underlying33 sz3 rfl rfl rfl (by first | exact odt rfl | omega) (fun p_10 c_11 hv_12 => ?_)
 refine r_val .none rfl (p_ldo0 (k := 0) Try.underlying3 rfl rfl hv_12 rfl (by first | exact odt rfl | omega) (by first | exact odt rfl | omega) ((flatMap_get (cells := cI) (fun _ => rfl) (0 : Int) _ _ _ (by first | exact odt rfl | omega) (by first | exact odt rfl | omega)).trans (rfl : _ = Value.int _ _))) ?_
 refine r_val .none rfl (p_assign rfl) (r_nil (e_next (c_region (r_val .none rfl (p_move rfl) ?_))))
 refine r_val .none rfl (p_nilcheck rfl) ?_
 refine r_val .none rfl (p_field Try.underlying74 rfl sz72 rfl) ?_
 refine r_val .none rfl (p_ld (k := 1) Try.underlying72 rfl rfl rfl (by first | exact odt rfl | omega) (rfl : _ = Value.map _)) ?_
 refine r_val .none rfl (p_move rfl) ?_
 refine r_val .none rfl (p_lookup_yes (i := 2) Try.underlying72 (KeyT.int Try.underlying3) zr69 rfl rfl rfl hN) ?_
 refine r_front (k := 3) rfl ?_
 refine r_fnd hN ?_
 refine r_val .none rfl (p_nilcheck rfl) ?_
 refine r_val .none rfl (p_field Try.underlying71 rfl sz3 rfl) ?_
 refine r_val .none rfl (p_ld (k := 0) Try.underlying3 rfl rfl rfl (by first | exact odt rfl | omega) (rfl : _ = Value.int _ _)) ?_
 refine r_val .none rfl (p_move rfl) ?_
 refine r_val .none rfl (p_add rfl rfl (by have h9 := hub _ _ hNs; omega)) ?_
 refine r_val .none rfl (p_nilcheck rfl) ?_
 refine r_val .none rfl (p_field Try.underlying71 rfl sz3 rfl) ?_
 refine r_st (k := 0) .none sz3 rfl rfl rfl rfl (by first | exact odt rfl | omega) ?_
 refine r_front (k := 3) rfl ?_
 refine r_front (k := 3) rfl ?_
 refine r_front (k := 3) rfl ?_
 refine r_front (k := 3) rfl ?_
 refine r_conv (B := box bx 13 71 (at_ (ndC { x with uses := x.uses + y } kv ov))) (k := 0) rfl (fun _ _ h => box_congr (fun i hi => by match i, hi with | 0, _ => rfl | 1, _ => rfl | 2, _ => rfl | 3, _ => rfl | 4, _ => rfl | 5, _ => rfl | 6, _ => rfl | 7, _ => rfl | 8, _ => rfl | 9, _ => rfl | 10, _ => rfl | 11, _ => rfl | 12, _ => rfl) _ _ h) ?_
 dsimp only [List.set_cons_zero]
 refine r_ndBack (x := { x with uses := x.uses + y }) hN ?_
 refine r_nil ?_
 refine e_norm_block ?_
 refine e_next (c_region ?_)
 refine r_val .none rfl (p_add rfl rfl (by omega)) ?_
 refine r_val .none rfl (p_move rfl) (r_nil ?_)
 refine e_front (k := 3) rfl ?_
 refine e_front (k := 3) rfl ?_
 refine e_front (k := 3) rfl ?_
 refine e_round ((j + 1, mput l2 ((Go.Gx.Set.once ids).getD j 0) (bx, kv, ov, { x with uses := x.uses + y }))) ⟨⟨by dsimp only; omega, use_step (by omega) hl2 hN⟩, by dsimp only; omega⟩ rfl ⟨rfl, rfl, rfl, rfl, rfl, trivial⟩ (.keep (fun _ _ h => h) (.keep (fun _ _ h => h) (.keep (fun _ _ h => mapA_retell (v := (bx, kv, ov, { x with uses := x.uses + y })) hN rfl h) (.keep (fun _ _ h => h) (.nil)))))))
 · (
 first
 | (exfalso; omega)
 | (
 refine c_cond_f rfl (c_exit (e_exit_then (e_exit_then ?_)))
 refine e_exit_block ?_
 refine e_front (k := 3) rfl ?_
 refine e_front (k := 3) rfl ?_
 refine e_front (k := 3) rfl ?_
 refine e_end0 Try.results35 (fun w hm => ⟨rfl, hm.kept [box p 2 74 (at_ (trC (KS.mk (l2) s.last) z)), mapA z kI veN2 (l2), hoard (FK (nkD 71 3)) (l2)] (.keep (fun _ _ h => h) (.keep (fun _ _ h => h) (.keep (fun _ _ h => h) (.drop (.nil))))) (trE (nkD 71 3) 74 p (KS.mk (useL y (Go.Gx.Set.once ids) s.nodes) s.last)) (fun F' h => trE_mk3 z (by rw [hl2, List.take_of_length_le (by omega)]) h)⟩)))
end Go.Proofs.Ytdkfdncbldngdaa

/- Walks: what Go functions of this chapter come to, each as a function on plain data; no condition but those that each theorem names. Printed by a program of this work (gen.py). -/
namespace Go.Proofs.Ytdkfdncbldngdaa
open Go.Gx Go.Gx.T16 Go.Gx.T8 Go.Gx.T6 Go.Gx.T4 Go.Gx.T3 Go.Gx.T8 Go.Gx.T4 Go.Gx.T3 Go.Gx.T8 Go.Gx.T6 Go.Gx.T4 Go.Gx.T3
theorem bl71_0a6_1i1_3i1 (x0 : Value) (x1 : Value) (x2 : Value) (x3 : Value) (x4 : Value) (x5 : Value) (x6 : Int) (x7 : Int) : Program.built Try.prog 71 [(0, Value.agg #[x0, x1, x2, x3, x4, x5]), (1, Value.int .i64 x6), (3, Value.int .i64 x7)] = some #[x0, x1, x2, x3, x4, x5, Value.int .i64 x6, Value.slice none 0 0, Value.int .i64 x7, Value.int .i64 0, Value.int .i64 0, Value.int .i64 0, Value.slice none 0 0] := by
 kernel_rfl
theorem bs3_10i2 (a0 : IntKind) (a1 : Int) : Instr.fill (fun i => some (i * 1, 1)) ((Array.range (1 * 1)).map ((Value.int .i64 0).cells[· % (Value.int .i64 0).cells.size]!)) [(0, Value.int a0 a1)] = some #[Value.int a0 a1] := by
 kernel_rfl
set_option maxHeartbeats 2000000 in
theorem c_kmake {F : Nat → Prop} {G : Ghost} (p : Nat) (id : Int) (a : List ST) (c2 : ST) (ta sb : Value) (R : RT) (s : KS Nd) (hT : TI s R) (hS : StS G s) (ha : getR R id = some a) (hF : Fit R (a ++ [c2])) (ht : SlL G ta 3 tC t0 c2.h.ts) (hs : Ss G sb c2.subs) (hsz : ssz c2 ≤ 1000) (hln : R.its.length ≤ 4000) (w : World) (hG : Has G w) (hA : (trE (nkD 71 3) 74 p (s)).holds w F) (hFG : ∀ b, F b → G b = none) :
    Calls Try.prog 34 #[Value.pointer (some ⟨p, 0, none⟩), Value.int .i64 id, Value.agg #[Value.int .i64 c2.h.k, Value.int .i64 c2.h.k0, Value.int .i64 c2.h.k1, Value.int .i64 c2.h.k2, ta, sb]] w (Ret fun r w' => ∃ G' s', GNew w F G G' ∧ Has G' w' ∧ (r = Value.int .i64 (s.last + 1) ∧ TI s' (push R (a ++ [c2])) ∧ StS G' s') ∧ KeptG (trE (nkD 71 3) 74 p (s')) F G' w w') := by
 refine enterO (args := [_, _, _]) (G := G) (A := trE (nkD 71 3) 74 p (s)) (l := [(0, Value.pointer (some ⟨p, 0, none⟩)), (1, Value.int .i64 id), (2, Value.agg #[Value.int .i64 c2.h.k, Value.int .i64 c2.h.k0, Value.int .i64 c2.h.k1, Value.int .i64 c2.h.k2, ta, sb])]) Try.func34 rfl Try.ntmps34 hG hA hFG ⟨rfl, rfl, rfl, trivial⟩ (Nat.le_of_ble_eq_true rfl) ?_
 refine c_unex (fun l => ?_)
 refine c_unand (fun hl => ?_)
 refine c_unpack ?_
 refine c_openK (fun z => ?_)
 dsimp only [trC]
 obtain ⟨bx, kv, ov, x, hN, hNs, hpn⟩ := hT.node hl ha
 have hno := hT.fresh hl
 have hid := get_lt ha
 have hla := hT.last
 have hdep : x.dep = (a.length : Int) := congrArg PN.dep hpn
 have hal := chain_len hT.clo a.length (Nat.le_refl _) ha
 have hkl : x.kids.length ≤ R.its.length := by rw [show x.kids = kidsR R a from congrArg PN.kids hpn]; exact numsF_len _ _ _
 refine c_seq (c_region ?_)
 refine r_box .none rfl rfl (IsRow.lit _) (fun b_1 => ?_)
 refine r_val .none rfl (p_assign rfl) (r_nil (e_next (c_seq (c_region ?_))))
 refine r_val .none rfl (p_move rfl) ?_
 refine r_val .none rfl (p_nilcheck rfl) ?_
 refine r_val .none rfl (p_field Try.underlying74 rfl sz3 rfl) ?_
 refine r_val .none rfl (p_ld (k := 1) Try.underlying3 rfl rfl rfl (by first | exact odt rfl | omega) (rfl : _ = Value.int _ _)) ?_
 refine r_val .none rfl (p_add rfl rfl (by omega)) ?_
 refine r_val .none rfl (p_nilcheck rfl) ?_
 refine r_val .none rfl (p_field Try.underlying74 rfl sz3 rfl) ?_
 refine r_st (k := 1) .none sz3 rfl rfl rfl rfl (by first | exact odt rfl | omega) ?_
 refine r_nil (e_next (c_seq ?_))
 refine c_front (k := 3) rfl ?_
 refine c_fnd hN ?_
 refine c_region_d (fun _ => false) _ mixed (.keep (fun _ _ h => h) (.keep (fun _ _ h => h) (.keep (fun _ _ h => h) (.keep (fun _ _ h => h) (.keep (fun _ _ h => h) (.keep (fun _ _ h => h) (.keep (fun _ _ h => h) (.nil)))))))) ?_
 refine d_val1 0 rfl rfl (by kernel_rfl) (fun _ _ => rfl) .none rfl (p_ldw (k := 4) Try.underlying50 rfl sz50 rfl rfl (rfl : _ = Value.agg #[_, _, _, _, _, _])) ?_
 refine d_val1 2 rfl rfl (by kernel_rfl) (fun _ _ => rfl) .none rfl (p_move rfl) ?_
 refine d_val1 3 rfl rfl (by kernel_rfl) (fun _ _ => rfl) .none rfl (p_move rfl) ?_
 refine d_val1 4 rfl rfl (by kernel_rfl) (fun _ _ => rfl) .none rfl (p_nilcheck rfl) ?_
 refine d_val1 5 rfl rfl (by kernel_rfl) (fun _ _ => rfl) .none rfl (p_field Try.underlying74 rfl sz72 rfl) ?_
 refine d_val1 6 rfl rfl (by kernel_rfl) (fun _ _ => rfl) .none rfl (p_ld (k := 5) Try.underlying72 rfl rfl rfl (by first | exact odt rfl | omega) (rfl : _ = Value.map _)) ?_
 refine d_val1 7 rfl rfl (by kernel_rfl) (fun _ _ => rfl) .none rfl (p_move rfl) ?_
 refine d_val1 8 rfl rfl (by kernel_rfl) (fun _ _ => rfl) .none rfl (p_lookup_yes (i := 6) Try.underlying72 (KeyT.int Try.underlying3) zr69 rfl rfl rfl hN) ?_
 refine d_val1 9 rfl rfl (by kernel_rfl) (fun _ _ => rfl) .none rfl (p_nilcheck rfl) ?_
 refine d_val1 10 rfl rfl (by kernel_rfl) (fun _ _ => rfl) .none rfl (p_field Try.underlying71 rfl sz3 rfl) ?_
 refine d_val1 11 rfl rfl (by kernel_rfl) (fun _ _ => rfl) .none rfl (p_ld (k := 0) Try.underlying3 rfl rfl rfl (by first | exact odt rfl | omega) (rfl : _ = Value.int _ _)) ?_
 refine d_val1 12 rfl rfl (by kernel_rfl) (fun _ _ => rfl) .none rfl (p_add rfl rfl (by omega)) ?_
 refine d_eff 1 rfl (by kernel_rfl) (fun K_1 hKK_1 hcK_1 => ?_)
 refine r_callm (vs := [_]) .none rfl cl63 rfl (fun w hw => c_tclone _ _ _ hsz ht hs w hw) (fun G_2 v_5 hn_3 hr_4 => ?_)
 replace hS := hS.mono hn_3.le
 replace ht := ht.mono hn_3.le
 replace hs := hs.mono hn_3.le
 obtain ⟨u_6a, u_6b, rfl, u_6s, u_6t⟩ := hr_4
 refine r_nil (e_d (i := 1) (brk := (fun _ => false)) (ph' := true) hKK_1 hcK_1 rfl (fun _ => hn_3.le) (fun _ => .keep (fun _ _ h => h) (.keep (fun _ _ h => h) (.keep (fun _ _ h => h) (.keep (fun _ _ h => h) (.keep (fun _ _ h => h) (.keep (fun _ _ h => h) (.keep (fun _ _ h => h) (.nil)))))))) ?_)
 clear hKK_1 hcK_1 K_1
 refine d_val1 13 rfl rfl (by kernel_rfl) (fun _ _ => rfl) .none rfl (p_build (vs := [(0, Value.agg #[_, _, _, _, _, _]), (1, Value.int _ _), (3, Value.int _ _)]) rfl (bl71_0a6_1i1_3i1 _ _ _ _ _ _ _ _)) ?_
 refine d_eff 14 rfl (by kernel_rfl) (fun K_7 hKK_7 hcK_7 => ?_)
 refine r_box .none rfl rfl (IsRow.lit _) (fun b_2 => ?_)
 refine r_nil (e_d (i := 14) (brk := (fun _ => false)) (ph' := true) hKK_7 hcK_7 rfl (fun _ => hn_3.le) (fun _ => .drop (.keep (fun _ _ h => h) (.keep (fun _ _ h => h) (.keep (fun _ _ h => h) (.keep (fun _ _ h => h) (.keep (fun _ _ h => h) (.keep (fun _ _ h => h) (.keep (fun _ _ h => h) (.nil))))))))) ?_)
 clear hKK_7 hcK_7 K_7
 refine d_val1 15 rfl rfl (by kernel_rfl) (fun _ _ => rfl) .none rfl (p_assign rfl) ?_
 refine d_nil (by kernel_rfl) ?_
 refine e_next (c_seq ?_)
 refine c_front (k := 4) rfl ?_
 refine c_front (k := 4) rfl ?_
 refine c_front (k := 4) rfl ?_
 refine c_front (k := 4) rfl ?_
 refine c_convk (B := box bx 13 71 (at_ (ndC x kv ov))) (k := 0) rfl (fun _ _ h => box_congr (fun i hi => by match i, hi with | 0, _ => rfl | 1, _ => rfl | 2, _ => rfl | 3, _ => rfl | 4, _ => rfl | 5, _ => rfl | 6, _ => rfl | 7, _ => rfl | 8, _ => rfl | 9, _ => rfl | 10, _ => rfl | 11, _ => rfl | 12, _ => rfl) _ _ h) ?_
 dsimp only [List.set_cons_zero]
 refine c_ndBack (x := x) hN ?_
 rw [mput_same hN]
 refine c_nilrow 3 1 ?_
 refine c_nilrow 3 1 ?_
 refine c_front (k := 2) rfl ?_
 refine c_front (k := 2) rfl ?_
 refine c_front (k := 2) rfl ?_
 refine c_front (k := 3) rfl ?_
 refine c_convk (B := box b_2 13 71 (at_ (ndC (mkN s id x (c2, u_6a, u_6b) 0) (.slice none 0 0) (.slice none 0 0)))) (k := 0) rfl (fun _ _ h => box_congr (fun i hi => by match i, hi with | 0, _ => rfl | 1, _ => rfl | 2, _ => rfl | 3, _ => rfl | 4, _ => rfl | 5, _ => rfl | 6, _ => rfl | 7, _ => rfl | 8, _ => rfl | 9, _ => rfl | 10, _ => rfl | 11, _ => rfl | 12, _ => rfl) _ _ h) ?_
 dsimp only [List.set_cons_zero]
 refine c_ndNew (x := (mkN s id x (c2, u_6a, u_6b) 0)) hno ?_
 have hN4 : lkp (mput l (s.last + 1) (b_2, Value.slice none 0 0, Value.slice none 0 0, (mkN s id x (c2, u_6a, u_6b) 0))) id = some (bx, kv, ov, x) := by rw [lkp_mput, if_neg (by omega)]; exact hN
 refine c_region_d (fun _ => false) _ mixed (.keep (fun _ _ h => h) (.keep (fun _ _ h => h) (.keep (fun _ _ h => h) (.drop (.nil))))) ?_
 refine d_val1 0 rfl rfl (by kernel_rfl) (fun _ _ => rfl) .none rfl (p_move rfl) ?_
 refine d_val1 1 rfl rfl (by kernel_rfl) (fun _ _ => rfl) .none rfl (p_nilcheck rfl) ?_
 refine d_val1 2 rfl rfl (by kernel_rfl) (fun _ _ => rfl) .none rfl (p_field Try.underlying74 rfl sz72 rfl) ?_
 refine d_val1 3 rfl rfl (by kernel_rfl) (fun _ _ => rfl) .none rfl (p_ld (k := 2) Try.underlying72 rfl rfl rfl (by first | exact odt rfl | omega) (rfl : _ = Value.map _)) ?_
 refine d_val1 4 rfl rfl (by kernel_rfl) (fun _ _ => rfl) .none rfl (p_move rfl) ?_
 refine d_val1 5 rfl rfl (by kernel_rfl) (fun _ _ => rfl) .none rfl (p_nilcheck rfl) ?_
 refine d_val1 6 rfl rfl (by kernel_rfl) (fun _ _ => rfl) .none rfl (p_field Try.underlying74 rfl sz3 rfl) ?_
 refine d_val1 7 rfl rfl (by kernel_rfl) (fun _ _ => rfl) .none rfl (p_ld (k := 2) Try.underlying3 rfl rfl rfl (by first | exact odt rfl | omega) (rfl : _ = Value.int _ _)) ?_
 refine d_val1 8 rfl rfl (by kernel_rfl) (fun _ _ => rfl) .none rfl (p_move rfl) ?_
 refine d_eff 9 rfl (by kernel_rfl) (fun K_8 hKK_8 hcK_8 => ?_)
 refine r_mapup (i := 3) (k := s.last + 1) (a := (b_2, Value.slice none 0 0, Value.slice none 0 0, (mkN s id x (c2, u_6a, u_6b) 0))) .none Try.underlying72 (KeyT.int Try.underlying3) rfl rfl rfl rfl ?_
 refine r_nil (e_d (i := 9) (brk := (fun _ => false)) (ph' := true) hKK_8 hcK_8 rfl (fun _ => GLe.refl _) (fun _ => .keep (fun _ _ h => h) (.keep (fun _ _ h => h) (.keep (fun _ _ h => h) (.drop (.nil))))) ?_)
 clear hKK_8 hcK_8 K_8
 refine d_nil (by kernel_rfl) ?_
 refine e_next (c_seq ?_)
 refine c_fnd hN4 ?_
 refine c_row1 (k := 1) rfl (fun okv => ?_)
 refine c_row1 (k := 2) rfl (fun oov => ?_)
 refine c_region_d (fun j => [23].contains j) _ mixed (.keep (fun _ _ h => h) (.drop (.keep (fun _ _ h => h) (.keep (fun _ _ h => h) (.keep (fun _ _ h => h) (.keep (fun _ _ h => h) (.keep (fun _ _ h => h) (.nil)))))))) ?_
 refine d_val1 0 rfl rfl (by kernel_rfl) (fun j hj => by have h : 23 < j := (Nat.lt_of_lt_of_le (by decide : 23 < 24) hj); simp; omega) .none rfl (p_move rfl) ?_
 refine d_val1 1 rfl rfl (by kernel_rfl) (fun j hj => by have h : 23 < j := (Nat.lt_of_lt_of_le (by decide : 23 < 24) hj); simp; omega) .none rfl (p_nilcheck rfl) ?_
 refine d_val1 2 rfl rfl (by kernel_rfl) (fun j hj => by have h : 23 < j := (Nat.lt_of_lt_of_le (by decide : 23 < 24) hj); simp; omega) .none rfl (p_field Try.underlying74 rfl sz72 rfl) ?_
 refine d_val1 3 rfl rfl (by kernel_rfl) (fun j hj => by have h : 23 < j := (Nat.lt_of_lt_of_le (by decide : 23 < 24) hj); simp; omega) .none rfl (p_ld (k := 4) Try.underlying72 rfl rfl rfl (by first | exact odt rfl | omega) (rfl : _ = Value.map _)) ?_
 refine d_val1 4 rfl rfl (by kernel_rfl) (fun j hj => by have h : 23 < j := (Nat.lt_of_lt_of_le (by decide : 23 < 24) hj); simp; omega) .none rfl (p_move rfl) ?_
 refine d_val1 5 rfl rfl (by kernel_rfl) (fun j hj => by have h : 23 < j := (Nat.lt_of_lt_of_le (by decide : 23 < 24) hj); simp; omega) .none rfl (p_lookup_yes (i := 5) Try.underlying72 (KeyT.int Try.underlying3) zr69 rfl rfl rfl hN4) ?_
 refine d_val1 6 rfl rfl (by kernel_rfl) (fun j hj => by have h : 23 < j := (Nat.lt_of_lt_of_le (by decide : 23 < 24) hj); simp; omega) .none rfl (p_move rfl) ?_
 refine d_val1 7 rfl rfl (by kernel_rfl) (fun j hj => by have h : 23 < j := (Nat.lt_of_lt_of_le (by decide : 23 < 24) hj); simp; omega) .none rfl (p_nilcheck rfl) ?_
 refine d_val1 8 rfl rfl (by kernel_rfl) (fun j hj => by have h : 23 < j := (Nat.lt_of_lt_of_le (by decide : 23 < 24) hj); simp; omega) .none rfl (p_field Try.underlying74 rfl sz72 rfl) ?_
 refine d_val1 9 rfl rfl (by kernel_rfl) (fun j hj => by have h : 23 < j := (Nat.lt_of_lt_of_le (by decide : 23 < 24) hj); simp; omega) .none rfl (p_ld (k := 4) Try.underlying72 rfl rfl rfl (by first | exact odt rfl | omega) (rfl : _ = Value.map _)) ?_
 refine d_val1 10 rfl rfl (by kernel_rfl) (fun j hj => by have h : 23 < j := (Nat.lt_of_lt_of_le (by decide : 23 < 24) hj); simp; omega) .none rfl (p_move rfl) ?_
 refine d_val1 11 rfl rfl (by kernel_rfl) (fun j hj => by have h : 23 < j := (Nat.lt_of_lt_of_le (by decide : 23 < 24) hj); simp; omega) .none rfl (p_lookup_yes (i := 5) Try.underlying72 (KeyT.int Try.underlying3) zr69 rfl rfl rfl hN4) ?_
 refine d_val1 12 rfl rfl (by kernel_rfl) (fun j hj => by have h : 23 < j := (Nat.lt_of_lt_of_le (by decide : 23 < 24) hj); simp; omega) .none rfl (p_nilcheck rfl) ?_
 refine d_val1 13 rfl rfl (by kernel_rfl) (fun j hj => by have h : 23 < j := (Nat.lt_of_lt_of_le (by decide : 23 < 24) hj); simp; omega) .none rfl (p_field Try.underlying71 rfl sz33 rfl) ?_
 refine d_val1 14 rfl rfl (by kernel_rfl) (fun j hj => by have h : 23 < j := (Nat.lt_of_lt_of_le (by decide : 23 < 24) hj); simp; omega) .none rfl (p_ld (k := 0) Try.underlying33 rfl rfl rfl (by first | exact odt rfl | omega) rfl) ?_
 refine d_val1 15 rfl rfl (by kernel_rfl) (fun j hj => by have h : 23 < j := (Nat.lt_of_lt_of_le (by decide : 23 < 24) hj); simp; omega) .none rfl (p_move rfl) ?_
 refine d_val1 16 rfl rfl (by kernel_rfl) (fun j hj => by have h : 23 < j := (Nat.lt_of_lt_of_le (by decide : 23 < 24) hj); simp; omega) .none rfl (p_nilcheck rfl) ?_
 refine d_val1 17 rfl rfl (by kernel_rfl) (fun j hj => by have h : 23 < j := (Nat.lt_of_lt_of_le (by decide : 23 < 24) hj); simp; omega) .none rfl (p_field Try.underlying74 rfl sz3 rfl) ?_
 refine d_val1 18 rfl rfl (by kernel_rfl) (fun j hj => by have h : 23 < j := (Nat.lt_of_lt_of_le (by decide : 23 < 24) hj); simp; omega) .none rfl (p_ld (k := 4) Try.underlying3 rfl rfl rfl (by first | exact odt rfl | omega) (rfl : _ = Value.int _ _)) ?_
 refine d_eff 19 rfl (by kernel_rfl) (fun K_9 hKK_9 hcK_9 => ?_)
 refine r_bslice (vs := [(0, Value.int _ _)]) (c := #[_]) .none rfl Try.underlying33 el3 rfl rfl rfl (bs3_10i2 _ _) (IsRow.lit _) (fun b_3 => ?_)
 refine r_nil (e_d (i := 19) (brk := (fun j => [23].contains j)) (ph' := true) hKK_9 hcK_9 rfl (fun _ => GLe.refl _) (fun _ => .drop (.keep (fun _ _ h => h) (.drop (.keep (fun _ _ h => h) (.keep (fun _ _ h => h) (.keep (fun _ _ h => h) (.keep (fun _ _ h => h) (.keep (fun _ _ h => h) (.nil))))))))) ?_)
 clear hKK_9 hcK_9 K_9
 refine d_eff 20 rfl (by kernel_rfl) (fun K_10 hKK_10 hcK_10 => ?_)
 refine r_append (k := 2) (k2 := 0) .none rfl Try.underlying33 el3 rfl (by decide) rfl rfl rfl rfl rfl (one_lit rfl rfl) (by simp only [maxLen]; omega) (by omega) (fun v_11 => ?_)
 refine r_row1 (k := 2) rfl (fun o_12 => ?_)
 refine r_nil (e_d (i := 20) (brk := (fun j => [23].contains j)) (ph' := true) hKK_10 hcK_10 rfl (fun _ => GLe.refl _) (fun _ => .drop (.keep (fun _ _ h => h) (.drop (.keep (fun _ _ h => h) (.keep (fun _ _ h => h) (.keep (fun _ _ h => h) (.keep (fun _ _ h => h) (.keep (fun _ _ h => h) (.nil))))))))) ?_)
 clear hKK_10 hcK_10 K_10
 refine d_val1 21 rfl rfl (by kernel_rfl) (fun j hj => by have h : 23 < j := (Nat.lt_of_lt_of_le (by decide : 23 < 24) hj); simp; omega) .none rfl (p_nilcheck rfl) ?_
 refine d_val1 22 rfl rfl (by kernel_rfl) (fun j hj => by have h : 23 < j := (Nat.lt_of_lt_of_le (by decide : 23 < 24) hj); simp; omega) .none rfl (p_field Try.underlying71 rfl sz33 rfl) ?_
 refine d_eff 23 rfl (by kernel_rfl) (fun K_13 hKK_13 hcK_13 => ?_)
 refine r_st (k := 1) .none sz33 rfl rfl o_12 rfl (by first | exact odt rfl | omega) ?_
 refine r_nil (e_d (i := 23) (brk := (fun j => [23].contains j)) (ph' := false) hKK_13 hcK_13 rfl (fun h => by cases h) (fun h => by cases h) ?_)
 clear hKK_13 hcK_13 K_13
 refine d_nil (by kernel_rfl) ?_
 refine e_next (c_seq (c_seq (c_region ?_)))
 refine r_front (k := 4) rfl ?_
 refine r_front (k := 4) rfl ?_
 refine r_front (k := 4) rfl ?_
 refine r_front (k := 4) rfl ?_
 refine r_conv (B := box bx 13 71 (at_ (ndC (mkX s x) v_11 ov))) (k := 0) rfl (fun _ _ h => box_congr (fun i hi => by match i, hi with | 0, _ => rfl | 1, _ => rfl | 2, _ => rfl | 3, _ => rfl | 4, _ => rfl | 5, _ => rfl | 6, _ => rfl | 7, _ => rfl | 8, _ => rfl | 9, _ => rfl | 10, _ => rfl | 11, _ => rfl | 12, _ => rfl) _ _ h) ?_
 refine r_conv (B := rowA v_11 3 1 (mkX s x).kids.length ((mkX s x).kids.flatMap cI)) (k := 1) rfl (fun _ _ h => rowA_snoc rfl rfl rfl rfl _ _ h) ?_
 dsimp only [List.set_cons_zero, List.set_cons_succ]
 refine r_ndBack (x := (mkX s x)) hN4 ?_
 refine r_conv (B := mapA z kI veN2 (mput (mput l (s.last + 1) (b_2, Value.slice none 0 0, Value.slice none 0 0, (mkN s id x (c2, u_6a, u_6b) 0))) id (bx, v_11, ov, (mkX s x)))) (k := 4) rfl (fun _ _ h => mapA_retell (v := (bx, v_11, ov, (mkX s x))) hN4 rfl h) ?_
 dsimp only [List.set_cons_zero, List.set_cons_succ]
 have hl2 : eraK (mput (mput l (s.last + 1) (b_2, Value.slice none 0 0, Value.slice none 0 0, (mkN s id x (c2, u_6a, u_6b) 0))) id (bx, v_11, ov, (mkX s x))) = mkL s id x (c2, u_6a, u_6b) := by rw [eraK_mput, eraK_mput, ← hl]; rfl
 have hst2 : StS G_2 ⟨mkL s id x (c2, u_6a, u_6b), s.last + 1⟩ := StS.put (ls := s.last + 1) (StS.put (ls := s.last + 1) (show StS G_2 ⟨s.nodes, s.last + 1⟩ from hS) (show StAt G_2 (c2, u_6a, u_6b) from ⟨u_6s, u_6t, hsz⟩)) (show StAt G_2 x.st from hS.get hNs)
 refine r_val .none rfl (p_field Try.underlying50 rfl sz3 rfl) ?_
 refine r_val .none rfl (p_ld (k := 2) Try.underlying3 rfl rfl rfl (by first | exact odt rfl | omega) (rfl : _ = Value.int _ _)) ?_
 refine r_val .none rfl (p_eq rfl rfl) ?_
 refine r_nil (e_next ?_)
 refine c_splitd (d := 65) rfl (fun h_14 => ?_) (fun h_14 => ?_)
 · (
 have hk : c2.h.k = 3 := h_14
 first
 | (exfalso; omega)
 | (
 refine c_cond_t rfl (c_seq (c_region (r_val .none rfl (p_move rfl) (r_val .none rfl (p_move rfl) ?_))))
 refine r_val .none rfl (p_move rfl) ?_
 refine r_val .none rfl (p_field Try.underlying50 rfl sz35 rfl) ?_
 refine r_val .none rfl (p_ld (k := 2) Try.underlying35 rfl rfl rfl (by first | exact odt rfl | omega) rfl) ?_
 refine r_front (k := 4) rfl ?_
 refine r_front (k := 4) rfl ?_
 refine r_conv (B := box p 2 74 (at_ (trC (KS.mk (mput (mput l (s.last + 1) (b_2, Value.slice none 0 0, Value.slice none 0 0, (mkN s id x (c2, u_6a, u_6b) 0))) id (bx, v_11, ov, (mkX s x))) (s.last + 1)) z))) (k := 0) rfl (fun _ _ h => box_congr (fun i hi => by match i, hi with | 0, _ => rfl | 1, _ => rfl) _ _ h) ?_
 dsimp only [List.set_cons_zero]
 refine r_shutK (s := KS.mk (mput (mput l (s.last + 1) (b_2, Value.slice none 0 0, Value.slice none 0 0, (mkN s id x (c2, u_6a, u_6b) 0))) id (bx, v_11, ov, (mkX s x))) (s.last + 1)) z ?_
 refine r_front (k := 1) rfl ?_
 refine r_pack [_, _] ?_
 have hin : True ∧ find R (a ++ c2.subs) ≠ 0 := ⟨trivial, (mk_inner (st := (c2, u_6a, u_6b)) hT ha hNs hF hk).2⟩
 refine r_callo (k := 0) (vs := [_, _, _]) .none rfl cl38 rfl rfl (fun w F hw hA hFG => hd_see (K := nkD 71 3) (R := fun r => r = Value.int .i64 (find R (a ++ c2.subs))) (fun G' F' hle hnd hG' hA' hF' => by (have h9 := c_kfrom p id a _ c2.subs (mput (mput l (s.last + 1) (b_2, Value.slice none 0 0, Value.slice none 0 0, (mkN s id x (c2, u_6a, u_6b) 0))) id (bx, v_11, ov, (mkX s x))) (s.last + 1) (push R (a ++ [c2])) (seen_of (s := ⟨mkL s id x (c2, u_6a, u_6b), s.last + 1⟩) ⟨mkL_k (st := (c2, u_6a, u_6b)) hT ha hNs hF, push_clo hT.clo hF⟩ hst2 hl2.symm hnd hle) (by rw [getR_push, if_neg (by omega)]; exact ha) (hs.mono hle) w hG' hA' hF'; rw [find_push_old hF.ne hin.2] at h9; exact h9)) hw hA hFG) ?_
 refine r_unpack ?_
 refine r_front (k := 1) rfl ?_
 refine r_openK (fun z2 => ?_)
 dsimp only [trC]
 have hgi := find_some hT.clo.ne hin.2
 obtain ⟨yz, hyz, _, _⟩ := mkL_k (st := (c2, u_6a, u_6b)) hT ha hNs hF _ _ (show getR (push R (a ++ [c2])) (find R (a ++ c2.subs)) = some (a ++ c2.subs) by rw [getR_push, if_neg (by have := get_lt hgi; omega)]; exact hgi)
 obtain ⟨xz, hz1, _⟩ := gP_inv hyz
 have hzo := mkL_outer hT ha hNs hgi hz1
 rw [← hl2] at hz1
 obtain ⟨bxz, kvz, ovz, hNz⟩ := eraK_some hz1
 have hgil := get_lt hgi
 have hNn : lkp (mput (mput l (s.last + 1) (b_2, Value.slice none 0 0, Value.slice none 0 0, (mkN s id x (c2, u_6a, u_6b) 0))) id (bx, v_11, ov, (mkX s x))) (s.last + 1) = some (b_2, Value.slice none 0 0, Value.slice none 0 0, (mkN s id x (c2, u_6a, u_6b) 0)) := by rw [lkp_mput, if_neg (by omega), lkp_mput, if_pos rfl]
 refine r_front (k := 2) rfl ?_
 refine r_fnd hNn ?_
 refine r_val .none rfl (p_nilcheck rfl) ?_
 refine r_val .none rfl (p_field Try.underlying71 rfl sz3 rfl) ?_
 refine r_st (k := 0) .none sz3 rfl rfl rfl rfl (by first | exact odt rfl | omega) ?_
 refine r_nil (e_next (c_seq ?_))
 refine c_region_q mixed (by kernel_rfl) ?_
 refine q_val .none rfl (p_move rfl) ?_
 refine q_val .none rfl (p_nilcheck rfl) ?_
 refine q_val .none rfl (p_field Try.underlying74 rfl sz72 rfl) ?_
 refine q_val .none rfl (p_ld (k := 4) Try.underlying72 rfl rfl rfl (by first | exact odt rfl | omega) (rfl : _ = Value.map _)) ?_
 refine q_val .none rfl (p_move rfl) ?_
 refine q_val .none rfl (p_nilcheck rfl) ?_
 refine q_val .none rfl (p_field Try.underlying71 rfl sz3 rfl) ?_
 refine q_val .none rfl (p_ld (k := 0) Try.underlying3 rfl rfl rfl (by first | exact odt rfl | omega) (rfl : _ = Value.int _ _)) ?_
 refine q_val .none rfl (p_lookup_yes (i := 5) Try.underlying72 (KeyT.int Try.underlying3) zr69 rfl rfl rfl hNz) ?_
 refine q_val .none rfl (p_assign rfl) ?_
 refine q_nil ?_
 refine e_next ?_
 refine c_front (k := 3) rfl ?_
 refine c_front (k := 3) rfl ?_
 refine c_front (k := 3) rfl ?_
 refine c_front (k := 3) rfl ?_
 refine c_convk (B := box b_2 13 71 (at_ (ndC (mkN s id x (c2, u_6a, u_6b) (find R (a ++ c2.subs))) (.slice none 0 0) (.slice none 0 0)))) (k := 0) rfl (fun _ _ h => box_congr (fun i hi => by match i, hi with | 0, _ => rfl | 1, _ => rfl | 2, _ => rfl | 3, _ => rfl | 4, _ => rfl | 5, _ => rfl | 6, _ => rfl | 7, _ => rfl | 8, _ => rfl | 9, _ => rfl | 10, _ => rfl | 11, _ => rfl | 12, _ => rfl) _ _ h) ?_
 dsimp only [List.set_cons_zero]
 refine c_ndBack (x := (mkN s id x (c2, u_6a, u_6b) (find R (a ++ c2.subs)))) hNn ?_
 refine c_convk (B := mapA z2 kI veN2 (mput (mput (mput l (s.last + 1) (b_2, Value.slice none 0 0, Value.slice none 0 0, (mkN s id x (c2, u_6a, u_6b) 0))) id (bx, v_11, ov, (mkX s x))) (s.last + 1) (b_2, Value.slice none 0 0, Value.slice none 0 0, (mkN s id x (c2, u_6a, u_6b) (find R (a ++ c2.subs)))))) (k := 2) rfl (fun _ _ h => mapA_retell (v := (b_2, Value.slice none 0 0, Value.slice none 0 0, (mkN s id x (c2, u_6a, u_6b) (find R (a ++ c2.subs))))) hNn rfl h) ?_
 dsimp only [List.set_cons_zero, List.set_cons_succ]
 have hMz : lkp (mput (mput (mput l (s.last + 1) (b_2, Value.slice none 0 0, Value.slice none 0 0, (mkN s id x (c2, u_6a, u_6b) 0))) id (bx, v_11, ov, (mkX s x))) (s.last + 1) (b_2, Value.slice none 0 0, Value.slice none 0 0, (mkN s id x (c2, u_6a, u_6b) (find R (a ++ c2.subs))))) (find R (a ++ c2.subs)) = some (bxz, kvz, ovz, xz) := by rw [lkp_mput, if_neg (by omega)]; exact hNz
 refine c_fnd hMz ?_
 refine c_row1 (k := 1) rfl (fun okvz => ?_)
 refine c_row1 (k := 2) rfl (fun oovz => ?_)
 refine c_region_d (fun j => [13].contains j) _ mixed (.keep (fun _ _ h => h) (.keep (fun _ _ h => h) (.drop (.keep (fun _ _ h => h) (.keep (fun _ _ h => h) (.keep (fun _ _ h => h) (.keep (fun _ _ h => h) (.keep (fun _ _ h => h) (.nil))))))))) ?_
 refine d_val1 0 rfl rfl (by kernel_rfl) (fun j hj => by have h : 13 < j := (Nat.lt_of_lt_of_le (by decide : 13 < 14) hj); simp; omega) .none rfl (p_move rfl) ?_
 refine d_val1 1 rfl rfl (by kernel_rfl) (fun j hj => by have h : 13 < j := (Nat.lt_of_lt_of_le (by decide : 13 < 14) hj); simp; omega) .none rfl (p_move rfl) ?_
 refine d_val1 2 rfl rfl (by kernel_rfl) (fun j hj => by have h : 13 < j := (Nat.lt_of_lt_of_le (by decide : 13 < 14) hj); simp; omega) .none rfl (p_nilcheck rfl) ?_
 refine d_val1 3 rfl rfl (by kernel_rfl) (fun j hj => by have h : 13 < j := (Nat.lt_of_lt_of_le (by decide : 13 < 14) hj); simp; omega) .none rfl (p_field Try.underlying71 rfl sz33 rfl) ?_
 refine d_val1 4 rfl rfl (by kernel_rfl) (fun j hj => by have h : 13 < j := (Nat.lt_of_lt_of_le (by decide : 13 < 14) hj); simp; omega) .none rfl (p_ld (k := 0) Try.underlying33 rfl rfl rfl (by first | exact odt rfl | omega) rfl) ?_
 refine d_val1 5 rfl rfl (by kernel_rfl) (fun j hj => by have h : 13 < j := (Nat.lt_of_lt_of_le (by decide : 13 < 14) hj); simp; omega) .none rfl (p_move rfl) ?_
 refine d_val1 6 rfl rfl (by kernel_rfl) (fun j hj => by have h : 13 < j := (Nat.lt_of_lt_of_le (by decide : 13 < 14) hj); simp; omega) .none rfl (p_nilcheck rfl) ?_
 refine d_val1 7 rfl rfl (by kernel_rfl) (fun j hj => by have h : 13 < j := (Nat.lt_of_lt_of_le (by decide : 13 < 14) hj); simp; omega) .none rfl (p_field Try.underlying74 rfl sz3 rfl) ?_
 refine d_val1 8 rfl rfl (by kernel_rfl) (fun j hj => by have h : 13 < j := (Nat.lt_of_lt_of_le (by decide : 13 < 14) hj); simp; omega) .none rfl (p_ld (k := 3) Try.underlying3 rfl rfl rfl (by first | exact odt rfl | omega) (rfl : _ = Value.int _ _)) ?_
 refine d_eff 9 rfl (by kernel_rfl) (fun K_15 hKK_15 hcK_15 => ?_)
 refine r_bslice (vs := [(0, Value.int _ _)]) (c := #[_]) .none rfl Try.underlying33 el3 rfl rfl rfl (bs3_10i2 _ _) (IsRow.lit _) (fun b_4 => ?_)
 refine r_nil (e_d (i := 9) (brk := (fun j => [13].contains j)) (ph' := true) hKK_15 hcK_15 rfl (fun _ => GLe.refl _) (fun _ => .drop (.keep (fun _ _ h => h) (.keep (fun _ _ h => h) (.drop (.keep (fun _ _ h => h) (.keep (fun _ _ h => h) (.keep (fun _ _ h => h) (.keep (fun _ _ h => h) (.keep (fun _ _ h => h) (.nil)))))))))) ?_)
 clear hKK_15 hcK_15 K_15
 refine d_eff 10 rfl (by kernel_rfl) (fun K_16 hKK_16 hcK_16 => ?_)
 refine r_append (k := 3) (k2 := 0) .none rfl Try.underlying33 el3 rfl (by decide) rfl rfl rfl rfl rfl (one_lit rfl rfl) (by simp only [maxLen]; omega) (by omega) (fun v_17 => ?_)
 refine r_row1 (k := 3) rfl (fun o_18 => ?_)
 refine r_nil (e_d (i := 10) (brk := (fun j => [13].contains j)) (ph' := true) hKK_16 hcK_16 rfl (fun _ => GLe.refl _) (fun _ => .drop (.keep (fun _ _ h => h) (.keep (fun _ _ h => h) (.drop (.keep (fun _ _ h => h) (.keep (fun _ _ h => h) (.keep (fun _ _ h => h) (.keep (fun _ _ h => h) (.keep (fun _ _ h => h) (.nil)))))))))) ?_)
 clear hKK_16 hcK_16 K_16
 refine d_val1 11 rfl rfl (by kernel_rfl) (fun j hj => by have h : 13 < j := (Nat.lt_of_lt_of_le (by decide : 13 < 14) hj); simp; omega) .none rfl (p_nilcheck rfl) ?_
 refine d_val1 12 rfl rfl (by kernel_rfl) (fun j hj => by have h : 13 < j := (Nat.lt_of_lt_of_le (by decide : 13 < 14) hj); simp; omega) .none rfl (p_field Try.underlying71 rfl sz33 rfl) ?_
 refine d_eff 13 rfl (by kernel_rfl) (fun K_19 hKK_19 hcK_19 => ?_)
 refine r_st (k := 1) .none sz33 rfl rfl o_18 rfl (by first | exact odt rfl | omega) ?_
 refine r_nil (e_d (i := 13) (brk := (fun j => [13].contains j)) (ph' := false) hKK_19 hcK_19 rfl (fun h => by cases h) (fun h => by cases h) ?_)
 clear hKK_19 hcK_19 K_19
 refine d_nil (by kernel_rfl) ?_
 refine e_next (c_seq (c_region ?_))
 refine r_front (k := 4) rfl ?_
 refine r_front (k := 4) rfl ?_
 refine r_front (k := 4) rfl ?_
 refine r_front (k := 4) rfl ?_
 refine r_conv (B := box bxz 13 71 (at_ (ndC { xz with outer := xz.outer ++ [s.last + 1] } kvz v_17))) (k := 0) rfl (fun _ _ h => box_congr (fun i hi => by match i, hi with | 0, _ => rfl | 1, _ => rfl | 2, _ => rfl | 3, _ => rfl | 4, _ => rfl | 5, _ => rfl | 6, _ => rfl | 7, _ => rfl | 8, _ => rfl | 9, _ => rfl | 10, _ => rfl | 11, _ => rfl | 12, _ => rfl) _ _ h) ?_
 refine r_conv (B := rowA v_17 3 1 (xz.outer ++ [s.last + 1]).length ((xz.outer ++ [s.last + 1]).flatMap cI)) (k := 2) rfl (fun _ _ h => rowA_snoc rfl rfl rfl rfl _ _ h) ?_
 dsimp only [List.set_cons_zero, List.set_cons_succ]
 refine r_ndBack (x := { xz with outer := xz.outer ++ [s.last + 1] }) hMz ?_
 refine r_conv (B := mapA z2 kI veN2 (mput (mput (mput (mput l (s.last + 1) (b_2, Value.slice none 0 0, Value.slice none 0 0, (mkN s id x (c2, u_6a, u_6b) 0))) id (bx, v_11, ov, (mkX s x))) (s.last + 1) (b_2, Value.slice none 0 0, Value.slice none 0 0, (mkN s id x (c2, u_6a, u_6b) (find R (a ++ c2.subs))))) (find R (a ++ c2.subs)) (bxz, kvz, v_17, { xz with outer := xz.outer ++ [s.last + 1] }))) (k := 3) rfl (fun _ _ h => mapA_retell (v := (bxz, kvz, v_17, { xz with outer := xz.outer ++ [s.last + 1] })) hMz rfl h) ?_
 dsimp only [List.set_cons_zero, List.set_cons_succ]
 refine r_val .none rfl (p_move rfl) ?_
 refine r_val .none rfl (p_nilcheck rfl) ?_
 refine r_val .none rfl (p_field Try.underlying74 rfl sz3 rfl) ?_
 refine r_val .none rfl (p_ld (k := 2) Try.underlying3 rfl rfl rfl (by first | exact odt rfl | omega) (rfl : _ = Value.int _ _)) ?_
 refine r_val .none rfl (p_assign rfl) (r_nil (e_next ?_))
 refine c_ret ?_
 refine e_front (k := 3) rfl ?_
 refine e_front (k := 3) rfl ?_
 refine e_ret1 Try.results34 (.tmp rfl .nil) (fun w hm => ⟨_, ⟨(mkL3 s id x (c2, u_6a, u_6b) (find R (a ++ c2.subs)) xz), s.last + 1⟩, hn_3, hm.has, ⟨rfl, (mk_ncc (st := (c2, u_6a, u_6b)) hT ha hNs hF hk (z := xz) (by show lkp (mput _ _ _) (find R (a ++ c2.subs)) = _; rw [← hl2, lkp_mput, if_neg (by omega)]; exact hz1)), (StS.put (ls := s.last + 1) (StS.put (ls := s.last + 1) hst2 (show StAt _ (c2, u_6a, u_6b) from ⟨u_6s, u_6t, hsz⟩)) (show StAt _ xz.st from hst2.get (by rw [← hl2]; exact hz1)))⟩, hm.keptG [box p 2 74 (at_ (trC (KS.mk (mput (mput (mput (mput l (s.last + 1) (b_2, Value.slice none 0 0, Value.slice none 0 0, (mkN s id x (c2, u_6a, u_6b) 0))) id (bx, v_11, ov, (mkX s x))) (s.last + 1) (b_2, Value.slice none 0 0, Value.slice none 0 0, (mkN s id x (c2, u_6a, u_6b) (find R (a ++ c2.subs))))) (find R (a ++ c2.subs)) (bxz, kvz, v_17, { xz with outer := xz.outer ++ [s.last + 1] })) (s.last + 1)) z2)), mapA z2 kI veN2 (mput (mput (mput (mput l (s.last + 1) (b_2, Value.slice none 0 0, Value.slice none 0 0, (mkN s id x (c2, u_6a, u_6b) 0))) id (bx, v_11, ov, (mkX s x))) (s.last + 1) (b_2, Value.slice none 0 0, Value.slice none 0 0, (mkN s id x (c2, u_6a, u_6b) (find R (a ++ c2.subs))))) (find R (a ++ c2.subs)) (bxz, kvz, v_17, { xz with outer := xz.outer ++ [s.last + 1] })), hoard (FK (nkD 71 3)) ((mput (mput (mput (mput l (s.last + 1) (b_2, Value.slice none 0 0, Value.slice none 0 0, (mkN s id x (c2, u_6a, u_6b) 0))) id (bx, v_11, ov, (mkX s x))) (s.last + 1) (b_2, Value.slice none 0 0, Value.slice none 0 0, (mkN s id x (c2, u_6a, u_6b) (find R (a ++ c2.subs))))) (find R (a ++ c2.subs)) (bxz, kvz, v_17, { xz with outer := xz.outer ++ [s.last + 1] })))] (.keep (fun _ _ h => box_congr (fun i hi => by match i, hi with | 0, _ => rfl | 1, _ => rfl) _ _ h) (.keep (fun _ _ h => h) (.keep (fun _ _ h => h) (.drop (.drop (.drop (.nil))))))) (trE (nkD 71 3) 74 p (KS.mk (mkL3 s id x (c2, u_6a, u_6b) (find R (a ++ c2.subs)) xz) (s.last + 1))) (fun F' h => trE_mk3 z2 (show (mkL3 s id x (c2, u_6a, u_6b) (find R (a ++ c2.subs)) xz) = eraK (mput (mput (mput (mput l (s.last + 1) (b_2, Value.slice none 0 0, Value.slice none 0 0, (mkN s id x (c2, u_6a, u_6b) 0))) id (bx, v_11, ov, (mkX s x))) (s.last + 1) (b_2, Value.slice none 0 0, Value.slice none 0 0, (mkN s id x (c2, u_6a, u_6b) (find R (a ++ c2.subs))))) (find R (a ++ c2.subs)) (bxz, kvz, v_17, { xz with outer := xz.outer ++ [s.last + 1] })) by rw [eraK_mput, eraK_mput, hl2]; rfl) h)⟩)))
 · (
 have hk : ¬ c2.h.k = 3 := h_14
 first
 | (exfalso; omega)
 | (
 refine c_cond_f rfl (c_skip (e_next (c_seq (c_region ?_))))
 refine r_val .none rfl (p_move rfl) ?_
 refine r_val .none rfl (p_nilcheck rfl) ?_
 refine r_val .none rfl (p_field Try.underlying74 rfl sz3 rfl) ?_
 refine r_val .none rfl (p_ld (k := 3) Try.underlying3 rfl rfl rfl (by first | exact odt rfl | omega) (rfl : _ = Value.int _ _)) ?_
 refine r_val .none rfl (p_assign rfl) (r_nil (e_next ?_))
 refine c_ret ?_
 refine e_front (k := 4) rfl ?_
 refine e_front (k := 4) rfl ?_
 refine e_ret1 Try.results34 (.tmp rfl .nil) (fun w hm => ⟨_, ⟨(mkL s id x (c2, u_6a, u_6b)), s.last + 1⟩, hn_3, hm.has, ⟨rfl, (mk_other (st := (c2, u_6a, u_6b)) hT ha hNs hF hk), hst2⟩, hm.keptG [box p 2 74 (at_ (trC (KS.mk (mput (mput l (s.last + 1) (b_2, Value.slice none 0 0, Value.slice none 0 0, (mkN s id x (c2, u_6a, u_6b) 0))) id (bx, v_11, ov, (mkX s x))) (s.last + 1)) z)), mapA z kI veN2 (mput (mput l (s.last + 1) (b_2, Value.slice none 0 0, Value.slice none 0 0, (mkN s id x (c2, u_6a, u_6b) 0))) id (bx, v_11, ov, (mkX s x))), hoard (FK (nkD 71 3)) ((mput (mput l (s.last + 1) (b_2, Value.slice none 0 0, Value.slice none 0 0, (mkN s id x (c2, u_6a, u_6b) 0))) id (bx, v_11, ov, (mkX s x))))] (.keep (fun _ _ h => box_congr (fun i hi => by match i, hi with | 0, _ => rfl | 1, _ => rfl) _ _ h) (.keep (fun _ _ h => h) (.keep (fun _ _ h => h) (.drop (.drop (.nil)))))) (trE (nkD 71 3) 74 p (KS.mk (mkL s id x (c2, u_6a, u_6b)) (s.last + 1))) (fun F' h => trE_mk3 z hl2.symm h)⟩)))
end Go.Proofs.Ytdkfdncbldngdaa

/- Plain laws of tries: lists that come and go; no program in sight. -/
namespace Go.Gx.T16
open Go.Gx Go.Gx.T3 Go.Gx.T4 Go.Gx.T6 Go.Gx.T8

/-- A chain's number is there. -/
theorem find_mem_ids {R : RT} (hC : Clo R) {cl : List ST} (hf : ∀ c ∈ schains [] cl, find R c ≠ 0) {k : Int} {c : List ST} (h : getR R k = some c) (hc : c ≠ []) : k ∈ (schains [] cl).map (find R) ↔ usesOf c cl = true := by
  rw [usesOf_iff]
  constructor
  · intro hk
    obtain ⟨d, hd, he⟩ := List.mem_map.1 hk
    have h1 := find_some hC.ne (hf d hd)
    rw [he, h] at h1
    simp only [Option.some.injEq] at h1
    rw [h1]; exact .inr hd
  · rintro (h1 | h1)
    · exact absurd h1 hc
    · exact List.mem_map.2 ⟨c, h1, find_of hC h⟩
theorem one_not_id {R : RT} {cl : List ST} : ¬ (1 : Int) ∈ (schains [] cl).map (find R) := by
  intro h
  obtain ⟨d, hd, he⟩ := List.mem_map.1 h
  have hne := (schains_up cl [] d hd).1
  unfold find at he
  rw [if_neg (fun e => hne (List.eq_nil_of_length_eq_zero e)), findF_nums] at he
  cases hn : numsF (ceq · d) R.its 2 with
  | nil => rw [hn] at he; simp at he
  | cons k t =>
    have hk : k ∈ numsF (ceq · d) R.its 2 := by rw [hn]; simp
    have := numsF_ge hk
    rw [hn] at he
    simp at he
    omega
theorem chain_found {R : RT} {cl : List ST} (hf : ∀ c ∈ schains [] cl, find R c ≠ 0) : find R cl ≠ 0 := by
  cases cl with
  | nil => rw [find_nil]; omega
  | cons s t => exact hf _ (last_chain (by simp))
theorem end_here {R : RT} (hC : Clo R) {cl : List ST} (hf : ∀ c ∈ schains [] cl, find R c ≠ 0) {k : Int} {c : List ST} (h : getR R k = some c) : k = find R cl ↔ ceq cl c = true := by
  rw [ceq_iff]
  constructor
  · rintro rfl
    rw [find_some hC.ne (chain_found hf)] at h
    simpa using h
  · rintro rfl; exact (find_of hC h).symm
/-- Nodes whose kids and steps are the same. -/
def KSame (l l' : List (Int × Nd)) : Prop := ∀ k x, lkp l k = some x → ∃ y, lkp l' k = some y ∧ y.kids = x.kids ∧ y.st = x.st
theorem KSame.kinv {l l' : List (Int × Nd)} {R : RT} (h : KSame l l') (hK : KInv (gP l) R) : KInv (gP l') R := fun id c hc => by
  obtain ⟨x, h1, h2, h3⟩ := hK id c hc
  obtain ⟨y, h4, rfl⟩ := gP_inv h1
  obtain ⟨z, h5, h6, h7⟩ := h id y h4
  refine ⟨z.pn, gP_some h5, ?_, ?_⟩
  · show z.kids = _; rw [h6]; exact h2
  · show z.st.1 = _; rw [h7]; exact h3
theorem KSame.refl (l : List (Int × Nd)) : KSame l l := fun _ x h => ⟨x, h, rfl, rfl⟩
theorem KSame.trans {a b c : List (Int × Nd)} (h : KSame a b) (h' : KSame b c) : KSame a c := fun k x hx => by
  obtain ⟨y, h1, h2, h3⟩ := h k x hx
  obtain ⟨z, h4, h5, h6⟩ := h' k y h1
  exact ⟨z, h4, h5.trans h2, h6.trans h3⟩
theorem KSame.put {l : List (Int × Nd)} {i : Int} {x y : Nd} (hx : lkp l i = some x) (hk : y.kids = x.kids) (hs : y.st = x.st) : KSame l (mput l i y) := fun k z hz => by
  rw [lkp_mput]
  by_cases e : i = k
  · subst e
    rw [hx] at hz
    simp only [Option.some.injEq] at hz
    subst hz
    exact ⟨y, by rw [if_pos rfl], hk, hs⟩
  · exact ⟨z, by rw [if_neg e]; exact hz, rfl, rfl⟩
theorem KSame.use (y : Int) : ∀ (ks : List Int) (l : List (Int × Nd)), KSame l (useL y ks l)
  | [], l => KSame.refl l
  | k :: t, l => by
    rw [useL]
    cases hk : lkp l k with
    | none => exact KSame.use y t l
    | some x => exact (KSame.put (x := x) (y := { x with uses := x.uses + y }) hk rfl rfl).trans (KSame.use y t _)
/-- What a list more, or one fewer, makes of the nodes: in whatever order. -/
def told (y : Int) (ids : List Int) (e : Int) (k : Int) (x : Nd) : Nd := { x with uses := x.uses + (if k = 1 ∨ k ∈ ids then y else 0), ends := x.ends + (if k = e then y else 0) }
theorem TI.tell {s : KS Nd} {R : RT} (h : TI s R) {cl : List ST} {ls : List (List ST)} {y : Int} {l' : List (Int × Nd)} (hf : ∀ c ∈ schains [] cl, find R c ≠ 0) (hl : Lst ⟨ls, R.its⟩) (hn : (l'.map (·.1)).Nodup)
    (hy : ∀ p : List ST → Bool, (ls.countP p : Int) = R.lists.countP p + (if p cl = true then y else 0))
    (hk : ∀ k, lkp l' k = (lkp s.nodes k).map (told y ((schains [] cl).map (find R)) (find R cl) k)) : TI ⟨l', s.last⟩ ⟨ls, R.its⟩ := by
  refine h.retell hl hn (fun k c hg x hx => ⟨told y ((schains [] cl).map (find R)) (find R cl) k x, by rw [hk, hx]; rfl, ?_⟩) (fun k h0 => by rw [hk, h0]; rfl)
  obtain ⟨x', h1, h2⟩ := h.at hg
  rw [hx] at h1
  simp only [Option.some.injEq] at h1
  subst h1
  have hu : x.uses = (R.lists.countP (usesOf c) : Int) := congrArg PN.uses h2
  have he : x.ends = (R.lists.countP (ceq · c) : Int) := congrArg PN.ends h2
  have e1 : x.uses + (if k = 1 ∨ k ∈ (schains [] cl).map (find R) then y else 0) = (ls.countP (usesOf c) : Int) := by
    rw [hy, hu]
    congr 1
    rcases getR_iff.1 hg with ⟨rfl, rfl⟩ | ⟨hk1, j, _, hj⟩
    · rw [if_pos (.inl rfl), if_pos (usesOf_iff.2 (.inl rfl))]
    · have hc := h.clo.ne _ (List.mem_of_getElem? hj)
      have := find_mem_ids h.clo hf hg hc
      by_cases hm : k ∈ (schains [] cl).map (find R)
      · rw [if_pos (.inr hm), if_pos (this.1 hm)]
      · rw [if_neg (by rintro (h | h); exact hk1 h; exact hm h), if_neg (fun h => hm (this.2 h))]
  have e2 : x.ends + (if k = find R cl then y else 0) = (ls.countP (ceq · c) : Int) := by
    rw [hy, he]
    congr 1
    have := end_here h.clo hf hg
    by_cases hm : k = find R cl
    · rw [if_pos hm, if_pos (this.1 hm)]
    · rw [if_neg hm, if_neg (fun h => hm (this.2 h))]
  show PN.mk x.st.1 x.par x.dep (x.uses + (if k = 1 ∨ k ∈ (schains [] cl).map (find R) then y else 0)) (x.ends + (if k = find R cl then y else 0)) x.inn x.kids x.outer = _
  rw [e1, e2]
  rfl
section
variable {s : KS Nd} {R : RT} {cl : List ST} {x1 x2 : Nd}
abbrev idsR (R : RT) (cl : List ST) : List Int := (schains [] cl).map (find R)
theorem once_mem {R : RT} {cl : List ST} {k : Int} : k ∈ Go.Gx.Set.once (idsR R cl) ↔ k ∈ idsR R cl := Go.Gx.Set.mem_once
theorem once_nodup (l : List Int) : (Go.Gx.Set.once l).Nodup := (Go.Gx.Set.once_rises l).imp (fun h => Int.ne_of_lt h)
/-- A list more. -/
def addR (R : RT) (cl : List ST) : RT := ⟨R.lists ++ [cl], (pushes R (schains [] cl)).its⟩
theorem add_TI (hT : TI s (pushes R (schains [] cl))) (h1 : lkp (useL 1 (Go.Gx.Set.once (idsR (pushes R (schains [] cl)) cl)) s.nodes) 1 = some x1)
    (h2 : lkp (mput (useL 1 (Go.Gx.Set.once (idsR (pushes R (schains [] cl)) cl)) s.nodes) 1 { x1 with uses := x1.uses + 1 }) (find (pushes R (schains [] cl)) cl) = some x2) :
    TI ⟨mput (mput (useL 1 (Go.Gx.Set.once (idsR (pushes R (schains [] cl)) cl)) s.nodes) 1 { x1 with uses := x1.uses + 1 }) (find (pushes R (schains [] cl)) cl) { x2 with ends := x2.ends + 1 }, s.last⟩ (addR R cl) := by
  have hg := schains_good0 cl R
  have hf := find_pushes (R := R) (good_ne hg)
  have hTl : (pushes R (schains [] cl)).lists = R.lists := pushes_lists _ _
  rw [show addR R cl = ⟨(pushes R (schains [] cl)).lists ++ [cl], (pushes R (schains [] cl)).its⟩ by rw [hTl]; rfl]
  refine hT.tell (cl := cl) (y := 1) hf ?_ (mput_nodup _ _ (mput_nodup _ _ (useL_nodup 1 hT.nod))) (fun p => ?_) (fun k => ?_)
  · intro l hl c hc
    rw [find_lists]
    rcases List.mem_append.1 hl with hl | hl
    · exact hT.lst l hl c hc
    · rw [List.mem_singleton.1 hl] at hc
      exact hf c hc
  · rw [List.countP_append, List.countP_cons, List.countP_nil]
    push_cast
    split <;> simp
  · have hU := useL_at 1 (once_nodup (idsR (pushes R (schains [] cl)) cl)) (l := s.nodes)
    rw [lkp_mput] at h2
    rw [lkp_mput, lkp_mput, hU]
    rw [hU] at h1
    rw [hU] at h2
    have n1 : ¬ (1 : Int) ∈ Go.Gx.Set.once (idsR (pushes R (schains [] cl)) cl) := fun h => one_not_id (once_mem.1 h)
    simp only [if_neg n1] at h1
    cases hk : lkp s.nodes k with
    | none =>
      by_cases e1 : find (pushes R (schains [] cl)) cl = k
      · exfalso
        by_cases e2 : (1 : Int) = k
        · rw [← e2] at hk; rw [hk] at h1; cases h1
        · rw [e1, if_neg e2, hk] at h2; cases h2
      · rw [if_neg e1]
        by_cases e2 : (1 : Int) = k
        · rw [← e2] at hk; rw [hk] at h1; cases h1
        · rw [if_neg e2]; rfl
    | some x =>
      by_cases e1 : find (pushes R (schains [] cl)) cl = k
      · rw [if_pos e1]
        rw [e1] at h2
        by_cases e2 : (1 : Int) = k
        · subst e2
          rw [if_pos rfl] at h2
          rw [hk] at h1
          simp only [Option.map_some, Option.some.injEq] at h1 h2 ⊢
          subst h1
          rw [← h2]
          simp [told, e1]
        · rw [if_neg e2, hk] at h2
          simp only [Option.map_some, Option.some.injEq] at h2 ⊢
          rw [← h2]
          by_cases hm : k ∈ Go.Gx.Set.once (idsR (pushes R (schains [] cl)) cl)
          · rw [if_pos hm]
            unfold told
            rw [if_pos (.inr (once_mem.1 hm)), if_pos e1.symm]
          · rw [if_neg hm]
            unfold told
            rw [if_neg (by rintro (h | h); exact e2 h.symm; exact hm (once_mem.2 h)), if_pos e1.symm]
            simp
      · rw [if_neg e1]
        by_cases e2 : (1 : Int) = k
        · subst e2
          rw [if_pos rfl]
          rw [hk] at h1
          simp only [Option.map_some, Option.some.injEq] at h1 ⊢
          subst h1
          unfold told
          rw [if_pos (.inl rfl), if_neg (fun e => e1 e.symm)]
          simp
        · rw [if_neg e2]
          simp only [Option.map_some, Option.some.injEq]
          by_cases hm : k ∈ Go.Gx.Set.once (idsR (pushes R (schains [] cl)) cl)
          · rw [if_pos hm]
            unfold told
            rw [if_pos (.inr (once_mem.1 hm)), if_neg (fun e => e1 e.symm)]
            simp
          · rw [if_neg hm]
            unfold told
            rw [if_neg (by rintro (h | h); exact e2 h.symm; exact hm (once_mem.2 h)), if_neg (fun e => e1 e.symm)]
            simp
end
end Go.Gx.T16

/- Tries: what the walks of the functions that change one go by; no program in sight. -/
namespace Go.Gx.T16
open Go.Gx Go.Gx.T3 Go.Gx.T4 Go.Gx.T6 Go.Gx.T8
/-- The numbers of the first chains. -/
def idsK (R : RT) (cs : List (List ST)) (k : Nat) : List Int := (cs.take k).map (find (pushes R (cs.take k)))
theorem idsK_len {R : RT} {cs : List (List ST)} {k : Nat} : (idsK R cs k).length ≤ k := by simp [idsK]; omega
theorem idsK_next {R : RT} {cs : List (List ST)} {k : Nat} {c : List ST} {x : Int} (hg : Good R cs) (hk : cs[k]? = some c) (hx : x = find (step (pushes R (cs.take k)) c) c) : idsK R cs (k + 1) = idsK R cs k ++ [x] := by
  have hne := good_ne hg
  obtain ⟨hlt, h2⟩ := List.getElem?_eq_some_iff.1 hk
  unfold idsK
  rw [pushes_take hk, List.take_succ_eq_append_getElem hlt, List.map_append, h2, hx]
  congr 1
  refine List.map_congr_left fun d hd => ?_
  exact find_step_old (hne c (by rw [← h2]; exact List.getElem_mem hlt)) (find_pushes (fun y hy => hne y (List.mem_of_mem_take hy)) d hd)
theorem idsK_all {R : RT} {cs : List (List ST)} {k : Nat} (h : cs.length ≤ k) : idsK R cs k = cs.map (find (pushes R cs)) := by
  unfold idsK
  rw [List.take_of_length_le h]
theorem step_no {R : RT} {c : List ST} (h : find R c = 0) : step R c = push R c := by unfold step; rw [if_pos h]
theorem step_yes {R : RT} {c : List ST} (h : find R c ≠ 0) : step R c = R := by unfold step; rw [if_neg h]
section
variable {s : KS Nd} {R : RT}
theorem TI.has (hT : TI s R) {c : List ST} (h : find R c ≠ 0) : lkp s.nodes (find R c) ≠ none := by
  obtain ⟨x, h1, _⟩ := hT.at (find_some hT.clo.ne h)
  rw [h1]; simp
theorem TI.got (hT : TI s R) {k : Int} {x : Nd} (h : lkp s.nodes k = some x) : ∃ c, getR R k = some c ∧ x.pn = ndR R c := by
  have h1 := hT.inv k
  rw [gP_some h] at h1
  obtain ⟨c, h2, h3⟩ := Option.map_eq_some_iff.1 h1.symm
  exact ⟨c, h2, h3.symm⟩
theorem TI.bound (hT : TI s R) {m : Nat} (hm : R.lists.length ≤ m) {k : Int} {x : Nd} (h : lkp s.nodes k = some x) : 0 ≤ x.uses ∧ x.uses ≤ m ∧ 0 ≤ x.ends ∧ x.ends ≤ m := by
  obtain ⟨c, _, h2⟩ := hT.got h
  have h3 : x.uses = (R.lists.countP (usesOf c) : Int) := congrArg PN.uses h2
  have h4 : x.ends = (R.lists.countP (ceq · c) : Int) := congrArg PN.ends h2
  have h5 := List.countP_le_length (p := usesOf c) (l := R.lists)
  have h6 := List.countP_le_length (p := (ceq · c)) (l := R.lists)
  omega
theorem useL_some (y : Int) {ks : List Int} (hn : ks.Nodup) {l : List (Int × Nd)} {k : Int} {x : Nd} (h : lkp l k = some x) : ∃ x', lkp (useL y ks l) k = some x' ∧ (x'.uses = x.uses ∨ x'.uses = x.uses + y) ∧ x'.ends = x.ends := by
  rw [useL_at y hn, h]
  refine ⟨_, rfl, ?_⟩
  simp only
  split <;> simp
theorem ids_in (hT : TI s R) {cs : List (List ST)} (hf : ∀ c ∈ cs, find R c ≠ 0) : ∀ k ∈ cs.map (find R), lkp s.nodes k ≠ none := fun k hk => by
  obtain ⟨c, h1, rfl⟩ := List.mem_map.1 hk
  exact hT.has (hf c h1)
end
section
variable {T TT E : TypeId} {p : Nat} {P : Program} {f : FuncId} {vs : Array Value}
/-- A call that sees all nodes while one is taken out. -/
theorem hd_seeX {l : NL} {ls k : Int} {z bx : Nat} {kv ov : Value} {x : Nd} {R : Value → Prop} {G : Ghost} {w : World} {F : Nat → Prop} (hk : lkp l k = some (bx, kv, ov, x))
    (hc : ∀ (G' : Ghost) (F' : Nat → Prop), GLe G G' → (∀ q ∈ l, NodeAt (nkD T E) G' q.2) → Has G' w → (starL (trL TT p ⟨l, ls⟩ z)).holds w F' → (∀ b, F' b → G' b = none) → Calls P f vs w (Ret fun r w' => R r ∧ Kept (starL (trL TT p ⟨l, ls⟩ z)) F' w w'))
    (hG : Has G w) (hA : (starL [starL [box bx 13 T (at_ [.int .i64 x.st.1.h.k, .int .i64 x.st.1.h.k0, .int .i64 x.st.1.h.k1, .int .i64 x.st.1.h.k2, x.st.2.1, x.st.2.2, .int .i64 x.par, kv, .int .i64 x.dep, .int .i64 x.uses, .int .i64 x.ends, .int .i64 x.inn, ov]), rowA kv E 1 x.kids.length (x.kids.flatMap cI), rowA ov E 1 x.outer.length (x.outer.flatMap cI), hoard (FK (nkD T E)) (mdel l k)], starL (trL TT p ⟨l, ls⟩ z)]).holds w F) (hF : ∀ b, F b → G b = none) :
    Calls P f vs w (Ret fun r w' => R r ∧ Kept (starL [starL [box bx 13 T (at_ [.int .i64 x.st.1.h.k, .int .i64 x.st.1.h.k0, .int .i64 x.st.1.h.k1, .int .i64 x.st.1.h.k2, x.st.2.1, x.st.2.2, .int .i64 x.par, kv, .int .i64 x.dep, .int .i64 x.uses, .int .i64 x.ends, .int .i64 x.inn, ov]), rowA kv E 1 x.kids.length (x.kids.flatMap cI), rowA ov E 1 x.outer.length (x.outer.flatMap cI), hoard (FK (nkD T E)) (mdel l k)], starL (trL TT p ⟨l, ls⟩ z)]) F w w') :=
  with_seen (A := starL (trL TT p ⟨l, ls⟩ z)) (B := fun _ => starL (trL TT p ⟨l, ls⟩ z)) (R := R) (S := fun G' => ∀ q ∈ l, NodeAt (nkD T E) G' q.2)
    (fun F1 hM => by
      have h1 := hM.unpack
      have h2 : Mem F1 w G w (hoard (FK (nkD T E)) (mput l k (bx, kv, ov, x)) :: []) := Mem.nodeBack (v := (bx, kv, ov, x)) hk h1
      rw [mput_same hk] at h2
      obtain ⟨G', h3, h4, h5⟩ := h2.freezeHK
      exact ⟨G', h3, h4, h5.has⟩) (fun G' F' hle hs hG' hA' hF' => hc G' F' hle hs hG' hA' hF') hG hA hF
end
end Go.Gx.T16

/- Walks: what Go functions of this chapter come to, each as a function on plain data; no condition but those that each theorem names. Printed by a program of this work (gen.py). -/
namespace Go.Proofs.Ytdkfdncbldngdaa
open Go.Gx Go.Gx.T16 Go.Gx.T8 Go.Gx.T6 Go.Gx.T4 Go.Gx.T3 Go.Gx.T8 Go.Gx.T4 Go.Gx.T3 Go.Gx.T8 Go.Gx.T6 Go.Gx.T4 Go.Gx.T3
theorem cl18 : Callable Try.prog 18 := callable Try.func18 (by kernel_rfl) rfl
theorem cl32 : Callable Try.prog 32 := callable Try.func32 (by kernel_rfl) rfl
theorem cl34 : Callable Try.prog 34 := callable Try.func34 (by kernel_rfl) rfl
theorem cl35 : Callable Try.prog 35 := callable Try.func35 (by kernel_rfl) rfl
set_option maxHeartbeats 2000000 in
theorem c_kadd {F : Nat → Prop} {G : Ghost} (p : Nat) (v : Value) (cl : List ST) (R : RT) (s : KS Nd) (hT : TI s R) (hS : StS G s) (hs : Ss G v cl) (hsz : sszL cl ≤ 1000) (hcap : R.its.length ≤ 3000 ∧ R.lists.length ≤ 3000) (w : World) (hG : Has G w) (hA : (trE (nkD 71 3) 74 p (s)).holds w F) (hFG : ∀ b, F b → G b = none) :
    Calls Try.prog 12 #[Value.pointer (some ⟨p, 0, none⟩), v] w (Ret fun r w' => ∃ G' s', GNew w F G G' ∧ Has G' w' ∧ (SlL G' r 1 cI (0 : Int) (idsR (pushes R (schains [] cl)) cl) ∧ TI s' (addR R cl) ∧ StS G' s') ∧ KeptG (trE (nkD 71 3) 74 p (s')) F G' w w') := by
 refine enterO (args := [_, _]) (G := G) (A := trE (nkD 71 3) 74 p (s)) (l := [(0, Value.pointer (some ⟨p, 0, none⟩)), (1, v)]) Try.func12 rfl Try.ntmps12 hG hA hFG ⟨rfl, rfl, trivial⟩ (Nat.le_of_ble_eq_true rfl) ?_
 have hcl : (schains [] cl).length ≤ 1000 := Nat.le_trans (schains_len cl []) hsz
 have hgood := schains_good0 cl R
 refine c_seq (c_region (r_val .none rfl (p_assign rfl) (r_nil (e_next ?_))))
 refine c_seq (c_region (r_val .none rfl (p_assign rfl) (r_nil (e_next ?_))))
 refine c_seq (c_seq (c_region (r_val .none rfl (p_move rfl) ?_)))
 refine r_callm (vs := [_]) .none rfl cl32 rfl (fun w hw => c_chainsS _ _ hsz hs w hw) (fun G_1 v_4 hn_2 hr_3 => ?_)
 replace hs := hs.mono hn_2.le
 replace hS := hS.mono hn_2.le
 obtain ⟨qs, hq, hqp, hql⟩ := hr_3
 have hqn : (schains [] cl).length = qs.length := by rw [hql, List.length_map]
 refine r_val .none rfl (p_leng Try.underlying41 rfl hq) ?_
 have bd_6 := (hq).bound
 refine r_val .none rfl (p_move rfl) (r_nil (e_next (c_block ?_)))
 refine c_nilrow 3 1 ?_
 refine c_name (d := 0) rfl (fun u_7 hu_7 => ?_)
 refine c_name (d := 1) rfl (fun u_8 hu_8 => ?_)
 refine c_name (d := 4) rfl (fun u_9 hu_9 => ?_)
 refine c_name (d := 11) rfl (fun u_10 hu_10 => ?_)
 refine c_name (d := 12) rfl (fun u_11 hu_11 => ?_)
 refine c_loop (σ := Nat × Value × KS Nd × Ghost) (fun s' => [(13, Value.int .i64 (s'.1 : Nat)), (5, s'.2.1), (0, u_7), (1, u_8), (4, u_9), (11, u_10), (12, u_11)]) (fun s' => [rowA (s'.2.1) 3 1 ((idsK R (schains [] cl) s'.1)).length (((idsK R (schains [] cl) s'.1)).flatMap cI), trE (nkD 71 3) 74 p (s'.2.2.1)]) (fun s' => s'.2.2.2) (fun s' => s'.1 ≤ qs.length ∧ TI s'.2.2.1 (pushes R ((schains [] cl).take s'.1)) ∧ StS s'.2.2.2 s'.2.2.1 ∧ GNew w F G_1 s'.2.2.2) (fun s' => qs.length - s'.1) ((0, _, s, _)) ⟨Nat.zero_le _, by rw [List.take_zero]; exact hT, hS, GNew.refl _ _ _⟩ rfl ⟨rfl, rfl, rfl, rfl, rfl, rfl, rfl, trivial⟩ (.keep (fun _ _ h => rowA_nil (by simp [idsK]) _ _ h) (.keep (fun _ _ h => h) (.nil))) (fun s' hphi => ?_)
 subst hu_7
 subst hu_8
 subst hu_9
 subst hu_10
 subst hu_11
 obtain ⟨k, ov, s2, H⟩ := s'
 obtain ⟨hk, hTk, hSk, hgn⟩ := hphi
 dsimp only at hk hTk hSk hgn ⊢
 replace hs := hs.mono hgn.le
 replace hS := hS.mono hgn.le
 replace hq := hq.mono hgn.le
 replace hqp := fun p hm0 => (hqp p hm0).mono hgn.le
 refine c_seq (c_region ?_)
 refine r_val .none rfl (p_lt rfl rfl) ?_
 refine r_nil (e_next (c_seq ?_))
 refine c_splitd (d := 14) rfl (fun h_12 => ?_) (fun h_12 => ?_)
 · (
 first
 | (exfalso; omega)
 | (
 refine c_cond_t rfl (c_skip (e_next (c_seq (c_block ?_))))
 refine c_seq (c_region ?_)
 refine r_iaddr_g .none rfl Try.underlying41 sz35 rfl hq rfl (by first | exact odt rfl | omega) (fun p_14 o_15 R_13 => ?_)
 have hc_16 := hqp _ (getD_mem (i := k) (d := es6) (by omega))
 refine r_val .none rfl (p_ldg0 Try.underlying35 rfl rfl R_13 (by first | exact odt rfl | omega) rfl) ?_
 refine r_val .none rfl (p_assign rfl) ?_
 obtain ⟨rs, hr, hrt, hrs, hrl⟩ := (hc_16).inv
 have hbr := hr.bound
 have hck : (schains [] cl)[k]? = some (qs.getD k es6).1 := by rw [hql]; exact map_getElem (d := es6) (by omega)
 have hgd := good_at (R := R) (schains_good0 cl R) hck
 obtain ⟨n, hn⟩ : ∃ n, rs.length = n + 1 := ⟨rs.length - 1, by (have h1 := hgd.1; have h2 : 0 < rs.length := (by rw [← List.length_map (f := Prod.fst), ← hrl]; exact List.length_pos_iff.2 h1); omega)⟩
 have hce : (qs.getD k es6).1 = ((rs.map Prod.fst).take n) ++ [(rs.getD n s0).1] := by rw [hrl, ← sv_take (k := n) (by omega), List.take_of_length_le (by rw [List.length_map]; omega)]
 have hup : find (pushes R ((schains [] cl).take k)) ((rs.map Prod.fst).take n) ≠ 0 := by (have h1 := hgd.2.1; rw [hce, List.dropLast_concat] at h1; exact h1)
 have hszn : ssz (rs.getD n s0).1 ≤ 1000 := by (have h1 := schain_small hql (k := k) (by omega) hsz; rw [hrl] at h1; exact Nat.le_trans (sszL_mem (sv_mem (k := n) (by omega))) h1)
 have hat := find_some hTk.clo.ne hup
 have hln2 : (pushes R ((schains [] cl).take k)).its.length ≤ 4000 := by (have h1 := (pushes_len ((schains [] cl).take k) R).2; have h2 : ((schains [] cl).take k).length ≤ 1000 := (by rw [List.length_take]; omega); omega)
 refine r_nil (e_next (c_seq (c_region (r_val .none rfl (p_move rfl) ?_))))
 refine r_val .none rfl (p_move rfl) (r_val .none rfl (p_move rfl) ?_)
 refine r_val .none rfl (p_leng Try.underlying35 rfl hr) ?_
 have bd_17 := (hr).bound
 refine r_val .none rfl (p_sub rfl rfl (by omega)) ?_
 refine r_say (d := 21) (v := Value.int .i64 ((n : Nat) : Int)) (congrArg (fun x => some (Value.int .i64 x)) (by omega)) ?_
 refine r_slice0 (n) .none rfl Try.underlying35 sz50 rfl hr rfl (by first | exact odt rfl | omega) (fun v_18 hs_19 => ?_)
 have hPn : Ss H v_18 ((rs.map Prod.fst).take n) := by rw [← List.map_take]; exact Ss.mk (rs.take n) (ss_take (by omega) hs_19) (fun p hm => hrt p (List.mem_of_mem_take hm)) (fun p hm => hrs p (List.mem_of_mem_take hm))
 refine r_callo (k := 1) (vs := [_, _]) .none rfl cl18 rfl rfl (fun w F hw hA hFG => trie_see0 (R := fun r => r = Value.int .i64 (find (pushes R ((schains [] cl).take k)) ((rs.map Prod.fst).take n))) (fun l G' F' hl hle hn9 hG hA hF => c_kfind p _ ((rs.map Prod.fst).take n) l _ (pushes R ((schains [] cl).take k)) (seen_of hTk.kc hSk hl hn9 hle) (hPn.mono hle) w hG hA hF) hw hA hFG) ?_
 refine r_val .none rfl (p_assign rfl) (r_nil (e_next (c_seq (c_region ?_))))
 refine r_val .none rfl (p_move rfl) (r_val .none rfl (p_move rfl) (r_val .none rfl (p_move rfl) (r_val .none rfl (p_move rfl) ?_)))
 refine r_val .none rfl (p_leng Try.underlying35 rfl hr) ?_
 have bd_21 := (hr).bound
 refine r_val .none rfl (p_sub rfl rfl (by omega)) ?_
 refine r_say (d := 29) (v := Value.int .i64 ((n : Nat) : Int)) (congrArg (fun x => some (Value.int .i64 x)) (by omega)) ?_
 refine r_iaddr_g .none rfl Try.underlying35 sz50 rfl hr rfl (by first | exact odt rfl | omega) (fun p_23 o_24 R_22 => ?_)
 have ht_25 := hrt _ (getD_mem (i := n) (d := s0) (by omega))
 have hc_26 := hrs _ (getD_mem (i := n) (d := s0) (by omega))
 refine r_val .none rfl (p_ldga0 Try.underlying50 rfl sz50 rfl R_22 (by first | exact odt rfl | omega) (rfl : _ = Value.agg #[_, _, _, _, _, _])) ?_
 refine r_callo (k := 1) (vs := [_, _, _]) .none rfl cl33 rfl rfl (fun w F hw hA hFG => trie_see0 (R := fun r => r = Value.int .i64 (find (pushes R ((schains [] cl).take k)) (((rs.map Prod.fst).take n) ++ [(rs.getD n s0).1]))) (fun l G' F' hl hle hn9 hG hA hF => c_kbelow p _ ((rs.map Prod.fst).take n) (rs.getD n s0).1 _ _ l _ (pushes R ((schains [] cl).take k)) (seen_of hTk.kc hSk hl hn9 hle) hat (ht_25.mono hle) (hc_26.mono hle) w hG hA hF) hw hA hFG) ?_
 refine r_val .none rfl (p_assign rfl) (r_nil (e_next (c_seq (c_seq ?_))))
 refine c_region (r_val .none rfl (p_move rfl) ?_)
 refine r_val .none rfl (p_eq rfl rfl) ?_
 refine r_nil (e_next ?_)
 refine c_splitd (d := 34) rfl (fun h_27 => ?_) (fun h_27 => ?_)
 · (
 have hz9 := h_27
 first
 | (exfalso; omega)
 | (
 refine c_cond_t rfl (c_region (r_val .none rfl (p_move rfl) (r_val .none rfl (p_move rfl) (r_val .none rfl (p_move rfl) ?_))))
 refine r_val .none rfl (p_move rfl) ?_
 refine r_val .none rfl (p_leng Try.underlying35 rfl hr) ?_
 have bd_28 := (hr).bound
 refine r_val .none rfl (p_sub rfl rfl (by omega)) ?_
 refine r_say (d := 40) (v := Value.int .i64 ((n : Nat) : Int)) (congrArg (fun x => some (Value.int .i64 x)) (by omega)) ?_
 refine r_iaddr_g .none rfl Try.underlying35 sz50 rfl hr rfl (by first | exact odt rfl | omega) (fun p_30 o_31 R_29 => ?_)
 have ht_32 := hrt _ (getD_mem (i := n) (d := s0) (by omega))
 have hc_33 := hrs _ (getD_mem (i := n) (d := s0) (by omega))
 refine r_val .none rfl (p_ldga0 Try.underlying50 rfl sz50 rfl R_29 (by first | exact odt rfl | omega) (rfl : _ = Value.agg #[_, _, _, _, _, _])) ?_
 refine r_callox (k := 1) (vs := [_, _, _]) .none rfl cl34 rfl rfl (fun w F hw hA hFG => c_kmake p _ _ (rs.getD n s0).1 _ _ (pushes R ((schains [] cl).take k)) s2 hTk hSk hat ⟨by simp, hz9, by rw [List.dropLast_concat]; exact hup, fun e he => hgd.2.2 e (by rw [hce]; exact he)⟩ ht_32 hc_33 hszn hln2 w hw hA hFG) (fun G_34 v_37 z_39 hn_35 hr_36 => ?_)
 replace hs := hs.mono hn_35.le
 replace hS := hS.mono hn_35.le
 replace hq := hq.mono hn_35.le
 replace hqp := fun p hm0 => (hqp p hm0).mono hn_35.le
 replace hSk := hSk.mono hn_35.le
 replace R_13 := R_13.mono hn_35.le
 replace hc_16 := hc_16.mono hn_35.le
 replace hr := hr.mono hn_35.le
 replace hrt := fun p hm0 => (hrt p hm0).mono hn_35.le
 replace hrs := fun p hm0 => (hrs p hm0).mono hn_35.le
 replace hs_19 := hs_19.mono hn_35.le
 replace hPn := hPn.mono hn_35.le
 replace R_22 := R_22.mono hn_35.le
 replace ht_25 := ht_25.mono hn_35.le
 replace hc_26 := hc_26.mono hn_35.le
 replace R_29 := R_29.mono hn_35.le
 replace ht_32 := ht_32.mono hn_35.le
 replace hc_33 := hc_33.mono hn_35.le
 obtain ⟨rfl, hTn, hSn⟩ := hr_36
 refine r_val .none rfl (p_assign rfl) (r_nil (e_next (c_region (r_val .none rfl (p_move rfl) ?_))))
 refine r_val .none rfl (p_move rfl) ?_
 refine r_bslice (vs := [(0, Value.int _ _)]) (c := #[_]) .none rfl Try.underlying33 el3 rfl rfl rfl (bs3_10i2 _ _) (IsRow.lit _) (fun b_1 => ?_)
 refine r_append (k := 1) (k2 := 0) .none rfl Try.underlying33 el3 rfl (by decide) rfl rfl rfl rfl rfl (one_lit rfl rfl) (by simp only [maxLen]; have := idsK_len (R := R) (cs := schains [] cl) (k := k); omega) (by have := idsK_len (R := R) (cs := schains [] cl) (k := k); omega) (fun v_40 => ?_)
 refine r_row1 (k := 1) rfl (fun o_41 => ?_)
 refine r_val .none rfl (p_assign rfl) (r_nil ?_)
 refine e_norm_block ?_
 refine e_next (c_region ?_)
 refine r_val .none rfl (p_add rfl rfl (by omega)) ?_
 refine r_val .none rfl (p_move rfl) (r_nil ?_)
 refine e_round ((k + 1, _, z_39, _)) ⟨⟨by dsimp only; omega, by rw [pushes_take hck]; rw [step_no (by rw [hce]; exact hz9), hce]; exact hTn, hSn, (hgn.trans hn_35)⟩, by dsimp only; omega⟩ rfl ⟨rfl, rfl, rfl, rfl, rfl, rfl, rfl, trivial⟩ (.drop (.keep (fun _ _ h => rowA_snoc (idsK_next hgood hck (by rw [step_no (by rw [hce]; exact hz9), hce, find_push_new (by simp) hz9]; have h1 := hTk.last; omega)) rfl rfl rfl _ _ h) (.keep (fun _ _ h => h) (.nil))))))
 · (
 have hz9 := h_27
 first
 | (exfalso; omega)
 | (
 refine c_cond_f rfl (c_skip (e_next (c_region (r_val .none rfl (p_move rfl) ?_))))
 refine r_val .none rfl (p_move rfl) ?_
 refine r_bslice (vs := [(0, Value.int _ _)]) (c := #[_]) .none rfl Try.underlying33 el3 rfl rfl rfl (bs3_10i2 _ _) (IsRow.lit _) (fun b_2 => ?_)
 refine r_append (k := 1) (k2 := 0) .none rfl Try.underlying33 el3 rfl (by decide) rfl rfl rfl rfl rfl (one_lit rfl rfl) (by simp only [maxLen]; have := idsK_len (R := R) (cs := schains [] cl) (k := k); omega) (by have := idsK_len (R := R) (cs := schains [] cl) (k := k); omega) (fun v_42 => ?_)
 refine r_row1 (k := 1) rfl (fun o_43 => ?_)
 refine r_val .none rfl (p_assign rfl) (r_nil ?_)
 refine e_norm_block ?_
 refine e_next (c_region ?_)
 refine r_val .none rfl (p_add rfl rfl (by omega)) ?_
 refine r_val .none rfl (p_move rfl) (r_nil ?_)
 refine e_round ((k + 1, _, s2, _)) ⟨⟨by dsimp only; omega, by rw [pushes_take hck]; rw [step_yes (by rw [hce]; exact hz9)]; exact hTk, hSk, hgn⟩, by dsimp only; omega⟩ rfl ⟨rfl, rfl, rfl, rfl, rfl, rfl, rfl, trivial⟩ (.drop (.keep (fun _ _ h => rowA_snoc (idsK_next hgood hck (by rw [step_yes (by rw [hce]; exact hz9), hce])) rfl rfl rfl _ _ h) (.keep (fun _ _ h => h) (.nil))))))))
 · (
 first
 | (exfalso; omega)
 | (
 refine c_cond_f rfl (c_exit (e_exit_then (e_exit_then ?_)))
 refine e_exit_block ?_
 refine e_next (c_seq (c_region (r_val .none rfl (p_move rfl) (r_val .none rfl (p_move rfl) ?_))))
 have hTk0 := hTk
 rw [show pushes R ((schains [] cl).take k) = (pushes R (schains [] cl)) by rw [List.take_of_length_le (by omega)]] at hTk
 have hfd : ∀ c ∈ (schains [] cl), find (pushes R (schains [] cl)) c ≠ 0 := find_pushes (good_ne hgood)
 have hpl : (pushes R (schains [] cl)).lists = R.lists := pushes_lists _ _
 have hin2 := ids_in hTk hfd
 have hub2 : ∀ k x, lkp s2.nodes k = some x → -5000 ≤ x.uses ∧ x.uses ≤ 5000 := fun k x hx => by have := hTk.bound (m := 3000) (by rw [hpl]; exact hcap.2) hx; omega
 have hil2 : (idsR (pushes R (schains [] cl)) cl).length ≤ 1000 := by rw [List.length_map]; exact hcl
 refine r_front (k := 1) rfl ?_
 refine r_front (k := 1) rfl ?_
 refine r_conv (B := rowA ov 3 1 (idsR (pushes R (schains [] cl)) cl).length ((idsR (pushes R (schains [] cl)) cl).flatMap cI)) (k := 0) rfl (fun _ _ h => rowA_congr (by rw [idsK_all (by omega)]) (by rw [idsK_all (by omega)]) _ _ h) ?_
 dsimp only [List.set_cons_zero]
 refine r_pack [_, _] ?_
 refine r_callo (k := 0) (vs := [_, _, _]) .none rfl cl35 rfl rfl (fun w F hw hA hFG => with_row (R := fun r => r = Value.tuple #[]) (fun G' F' hle hsl hG hA hF => c_kuse p _ (idsR (pushes R (schains [] cl)) cl) (1) s2 (SlL.of (cells := cI) (0 : Int) (fun _ => rfl) rfl hsl) hin2 (by omega) hub2 hil2 w hG hA hF) hw hA hFG) ?_
 refine r_unpack ?_
 refine r_nil (e_next (c_seq (c_region ?_)))
 refine r_front (k := 1) rfl ?_
 refine r_unex (fun l => ?_)
 refine r_unand (fun hl => ?_)
 refine r_unpack ?_
 refine r_openK (fun z => ?_)
 dsimp only [trC] at hl ⊢
 obtain ⟨x10, hx10, _⟩ := hTk.at (id := 1) (c := []) rfl
 obtain ⟨x1, hx1, hu1, _⟩ := useL_some 1 (once_nodup (idsR (pushes R (schains [] cl)) cl)) hx10
 have hb1 := hTk.bound (m := 3000) (by rw [hpl]; exact hcap.2) hx10
 obtain ⟨bx1, kv1, ov1, hN1⟩ := eraK_some (by rw [← hl]; exact hx1)
 refine r_val .none rfl (p_move rfl) ?_
 refine r_val .none rfl (p_nilcheck rfl) ?_
 refine r_val .none rfl (p_field Try.underlying74 rfl sz72 rfl) ?_
 refine r_val .none rfl (p_ld (k := 0) Try.underlying72 rfl rfl rfl (by first | exact odt rfl | omega) (rfl : _ = Value.map _)) ?_
 refine r_val .none rfl (p_lookup_yes (i := 1) Try.underlying72 (KeyT.int Try.underlying3) zr69 rfl rfl rfl hN1) ?_
 refine r_front (k := 2) rfl ?_
 refine r_fnd hN1 ?_
 refine r_val .none rfl (p_nilcheck rfl) ?_
 refine r_val .none rfl (p_field Try.underlying71 rfl sz3 rfl) ?_
 refine r_val .none rfl (p_ld (k := 0) Try.underlying3 rfl rfl rfl (by first | exact odt rfl | omega) (rfl : _ = Value.int _ _)) ?_
 refine r_val .none rfl (p_add rfl rfl (by rcases hu1 with h | h <;> rw [h] <;> omega)) ?_
 refine r_val .none rfl (p_nilcheck rfl) ?_
 refine r_val .none rfl (p_field Try.underlying71 rfl sz3 rfl) ?_
 refine r_st (k := 0) .none sz3 rfl rfl rfl rfl (by first | exact odt rfl | omega) ?_
 refine r_front (k := 3) rfl ?_
 refine r_front (k := 3) rfl ?_
 refine r_front (k := 3) rfl ?_
 refine r_front (k := 3) rfl ?_
 refine r_conv (B := box bx1 13 71 (at_ (ndC { x1 with uses := x1.uses + 1 } kv1 ov1))) (k := 0) rfl (fun _ _ h => box_congr (fun i hi => by match i, hi with | 0, _ => rfl | 1, _ => rfl | 2, _ => rfl | 3, _ => rfl | 4, _ => rfl | 5, _ => rfl | 6, _ => rfl | 7, _ => rfl | 8, _ => rfl | 9, _ => rfl | 10, _ => rfl | 11, _ => rfl | 12, _ => rfl) _ _ h) ?_
 dsimp only [List.set_cons_zero]
 refine r_ndBack (x := { x1 with uses := x1.uses + 1 }) hN1 ?_
 refine r_conv (B := mapA z kI veN2 (mput l 1 (bx1, kv1, ov1, { x1 with uses := x1.uses + 1 }))) (k := 2) rfl (fun _ _ h => mapA_retell (v := (bx1, kv1, ov1, { x1 with uses := x1.uses + 1 })) hN1 rfl h) ?_
 dsimp only [List.set_cons_zero, List.set_cons_succ]
 refine r_nil (e_next (c_seq ?_))
 have hl1 : eraK (mput l 1 (bx1, kv1, ov1, { x1 with uses := x1.uses + 1 })) = mput (useL 1 (Go.Gx.Set.once (idsR (pushes R (schains [] cl)) cl)) s2.nodes) 1 { x1 with uses := x1.uses + 1 } := by rw [eraK_mput, ← hl]
 have hks : KSame s2.nodes (mput (useL 1 (Go.Gx.Set.once (idsR (pushes R (schains [] cl)) cl)) s2.nodes) 1 { x1 with uses := x1.uses + 1 }) := (KSame.use 1 _ _).trans (KSame.put (x := x1) (y := { x1 with uses := x1.uses + 1 }) hx1 rfl rfl)
 have hk1 : KInv (gP (eraK (mput l 1 (bx1, kv1, ov1, { x1 with uses := x1.uses + 1 })))) (pushes R (schains [] cl)) := by rw [hl1]; exact hks.kinv hTk.inv.k
 have hS1 : StS H ⟨eraK (mput l 1 (bx1, kv1, ov1, { x1 with uses := x1.uses + 1 })), s2.last⟩ := by rw [hl1]; exact StS.put (ls := s2.last) (hSk.use 1) (show StAt H x1.st from StS.get (s := ⟨(useL 1 (Go.Gx.Set.once (idsR (pushes R (schains [] cl)) cl)) s2.nodes), s2.last⟩) (hSk.use 1) hx1)
 obtain ⟨xe0, hxe0, _⟩ := hTk.at (find_some hTk.clo.ne (chain_found hfd))
 obtain ⟨xe1, hxe1, _, hue⟩ := useL_some 1 (once_nodup (idsR (pushes R (schains [] cl)) cl)) hxe0
 have hbe := hTk.bound (m := 3000) (by rw [hpl]; exact hcap.2) hxe0
 obtain ⟨xe, hxe, hee⟩ : ∃ xe, lkp (mput (useL 1 (Go.Gx.Set.once (idsR (pushes R (schains [] cl)) cl)) s2.nodes) 1 { x1 with uses := x1.uses + 1 }) (find (pushes R (schains [] cl)) cl) = some xe ∧ xe.ends = xe1.ends := by rw [lkp_mput]; split; (rename_i h9; rw [← h9, hx1] at hxe1; simp only [Option.some.injEq] at hxe1; exact ⟨_, rfl, by rw [← hxe1]⟩); exact ⟨_, hxe1, rfl⟩
 obtain ⟨bxe, kve, ove, hNe⟩ := eraK_some (by rw [hl1]; exact hxe)
 refine c_fnd hNe ?_
 refine c_region_d (fun j => [14].contains j) _ mixed (.keep (fun _ _ h => h) (.keep (fun _ _ h => h) (.keep (fun _ _ h => h) (.keep (fun _ _ h => h) (.keep (fun _ _ h => h) (.keep (fun _ _ h => h) (.keep (fun _ _ h => h) (.nil)))))))) ?_
 refine d_val1 0 rfl rfl (by kernel_rfl) (fun j hj => by have h : 14 < j := (Nat.lt_of_lt_of_le (by decide : 14 < 15) hj); simp; omega) .none rfl (p_move rfl) ?_
 refine d_val1 1 rfl rfl (by kernel_rfl) (fun j hj => by have h : 14 < j := (Nat.lt_of_lt_of_le (by decide : 14 < 15) hj); simp; omega) .none rfl (p_nilcheck rfl) ?_
 refine d_val1 2 rfl rfl (by kernel_rfl) (fun j hj => by have h : 14 < j := (Nat.lt_of_lt_of_le (by decide : 14 < 15) hj); simp; omega) .none rfl (p_field Try.underlying74 rfl sz72 rfl) ?_
 refine d_val1 3 rfl rfl (by kernel_rfl) (fun j hj => by have h : 14 < j := (Nat.lt_of_lt_of_le (by decide : 14 < 15) hj); simp; omega) .none rfl (p_ld (k := 4) Try.underlying72 rfl rfl rfl (by first | exact odt rfl | omega) (rfl : _ = Value.map _)) ?_
 refine d_val1 4 rfl rfl (by kernel_rfl) (fun j hj => by have h : 14 < j := (Nat.lt_of_lt_of_le (by decide : 14 < 15) hj); simp; omega) .none rfl (p_move rfl) ?_
 refine d_val1 5 rfl rfl (by kernel_rfl) (fun j hj => by have h : 14 < j := (Nat.lt_of_lt_of_le (by decide : 14 < 15) hj); simp; omega) .none rfl (p_move rfl) ?_
 refine d_eff 6 rfl (by kernel_rfl) (fun K_44 hKK_44 hcK_44 => ?_)
 refine r_front (k := 5) rfl ?_
 refine r_front (k := 5) rfl ?_
 refine r_pack [_, _] ?_
 refine r_front (k := 4) rfl ?_
 refine r_front (k := 4) rfl ?_
 refine r_front (k := 4) rfl ?_
 refine r_front (k := 4) rfl ?_
 refine r_pack [_, _, _, _] ?_
 refine r_front (k := 1) rfl ?_
 refine r_front (k := 1) rfl ?_
 refine r_pack [_, _] ?_
 refine r_callo (k := 0) (vs := [_, _]) .none rfl cl18 rfl rfl (fun w F hw hA hFG => hd_seeX (R := fun r => r = Value.int .i64 (find (pushes R (schains [] cl)) cl)) hNe (fun G' F' hle hn9 hG hA hF => c_zfind p _ cl (mput l 1 (bx1, kv1, ov1, { x1 with uses := x1.uses + 1 })) _ (pushes R (schains [] cl)) z (seen_of (s := ⟨eraK (mput l 1 (bx1, kv1, ov1, { x1 with uses := x1.uses + 1 })), s2.last⟩) ⟨hk1, hTk.clo⟩ hS1 rfl hn9 hle) (hs.mono hle) w hG hA hF) hw hA hFG) ?_
 refine r_unpack ?_
 refine r_unpack ?_
 refine r_front (k := 4) rfl ?_
 refine r_unpack ?_
 dsimp only [trL, trC]
 refine r_front (k := 6) rfl ?_
 refine r_front (k := 2) rfl ?_
 refine r_front (k := 2) rfl ?_
 refine r_front (k := 6) rfl ?_
 refine r_front (k := 6) rfl ?_
 refine r_front (k := 6) rfl ?_
 refine r_front (k := 6) rfl ?_
 refine r_nil (e_d (i := 6) (brk := (fun j => [14].contains j)) (ph' := true) hKK_44 hcK_44 rfl (fun _ => GLe.refl _) (fun _ => .keep (fun _ _ h => h) (.keep (fun _ _ h => h) (.keep (fun _ _ h => h) (.keep (fun _ _ h => h) (.keep (fun _ _ h => h) (.keep (fun _ _ h => h) (.keep (fun _ _ h => h) (.nil)))))))) ?_)
 clear hKK_44 hcK_44 K_44
 refine d_val1 7 rfl rfl (by kernel_rfl) (fun j hj => by have h : 14 < j := (Nat.lt_of_lt_of_le (by decide : 14 < 15) hj); simp; omega) .none rfl (p_lookup_yes (i := 5) Try.underlying72 (KeyT.int Try.underlying3) zr69 rfl rfl rfl hNe) ?_
 refine d_val1 8 rfl rfl (by kernel_rfl) (fun j hj => by have h : 14 < j := (Nat.lt_of_lt_of_le (by decide : 14 < 15) hj); simp; omega) .none rfl (p_nilcheck rfl) ?_
 refine d_val1 9 rfl rfl (by kernel_rfl) (fun j hj => by have h : 14 < j := (Nat.lt_of_lt_of_le (by decide : 14 < 15) hj); simp; omega) .none rfl (p_field Try.underlying71 rfl sz3 rfl) ?_
 refine d_val1 10 rfl rfl (by kernel_rfl) (fun j hj => by have h : 14 < j := (Nat.lt_of_lt_of_le (by decide : 14 < 15) hj); simp; omega) .none rfl (p_ld (k := 0) Try.underlying3 rfl rfl rfl (by first | exact odt rfl | omega) (rfl : _ = Value.int _ _)) ?_
 refine d_val1 11 rfl rfl (by kernel_rfl) (fun j hj => by have h : 14 < j := (Nat.lt_of_lt_of_le (by decide : 14 < 15) hj); simp; omega) .none rfl (p_add rfl rfl (by omega)) ?_
 refine d_val1 12 rfl rfl (by kernel_rfl) (fun j hj => by have h : 14 < j := (Nat.lt_of_lt_of_le (by decide : 14 < 15) hj); simp; omega) .none rfl (p_nilcheck rfl) ?_
 refine d_val1 13 rfl rfl (by kernel_rfl) (fun j hj => by have h : 14 < j := (Nat.lt_of_lt_of_le (by decide : 14 < 15) hj); simp; omega) .none rfl (p_field Try.underlying71 rfl sz3 rfl) ?_
 refine d_eff 14 rfl (by kernel_rfl) (fun K_45 hKK_45 hcK_45 => ?_)
 refine r_st (k := 0) .none sz3 rfl rfl rfl rfl (by first | exact odt rfl | omega) ?_
 refine r_nil (e_d (i := 14) (brk := (fun j => [14].contains j)) (ph' := false) hKK_45 hcK_45 rfl (fun h => by cases h) (fun h => by cases h) ?_)
 clear hKK_45 hcK_45 K_45
 refine d_nil (by kernel_rfl) ?_
 refine e_next (c_seq (c_region ?_))
 refine r_front (k := 3) rfl ?_
 refine r_front (k := 3) rfl ?_
 refine r_front (k := 3) rfl ?_
 refine r_front (k := 3) rfl ?_
 refine r_conv (B := box bxe 13 71 (at_ (ndC { xe with ends := xe.ends + 1 } kve ove))) (k := 0) rfl (fun _ _ h => box_congr (fun i hi => by match i, hi with | 0, _ => rfl | 1, _ => rfl | 2, _ => rfl | 3, _ => rfl | 4, _ => rfl | 5, _ => rfl | 6, _ => rfl | 7, _ => rfl | 8, _ => rfl | 9, _ => rfl | 10, _ => rfl | 11, _ => rfl | 12, _ => rfl) _ _ h) ?_
 dsimp only [List.set_cons_zero]
 refine r_ndBack (x := { xe with ends := xe.ends + 1 }) hNe ?_
 refine r_conv (B := mapA z kI veN2 (mput (mput l 1 (bx1, kv1, ov1, { x1 with uses := x1.uses + 1 })) (find (pushes R (schains [] cl)) cl) (bxe, kve, ove, { xe with ends := xe.ends + 1 }))) (k := 2) rfl (fun _ _ h => mapA_retell (v := (bxe, kve, ove, { xe with ends := xe.ends + 1 })) hNe rfl h) ?_
 dsimp only [List.set_cons_zero, List.set_cons_succ]
 refine r_val .none rfl (p_move rfl) (r_val .none rfl (p_assign rfl) (r_nil (e_next ?_)))
 refine c_ret ?_
 refine e_freeze (k := 3) rfl (fun G_46 hn_47 hs_48 => ?_)
 replace hs := hs.mono hn_47.le
 replace hS := hS.mono hn_47.le
 replace hq := hq.mono hn_47.le
 replace hqp := fun p hm0 => (hqp p hm0).mono hn_47.le
 replace hSk := hSk.mono hn_47.le
 replace hS1 := hS1.mono hn_47.le
 refine e_front (k := 2) rfl ?_
 refine e_front (k := 2) rfl ?_
 have hle9 : mput (mput (useL 1 (Go.Gx.Set.once (idsR (pushes R (schains [] cl)) cl)) s2.nodes) 1 { x1 with uses := x1.uses + 1 }) (find (pushes R (schains [] cl)) cl) { xe with ends := xe.ends + 1 } = eraK (mput (mput l 1 (bx1, kv1, ov1, { x1 with uses := x1.uses + 1 })) (find (pushes R (schains [] cl)) cl) (bxe, kve, ove, { xe with ends := xe.ends + 1 })) := by rw [eraK_mput, hl1]
 refine e_ret1 Try.results12 (.tmp rfl .nil) (fun w hm => ⟨_, ⟨(mput (mput (useL 1 (Go.Gx.Set.once (idsR (pushes R (schains [] cl)) cl)) s2.nodes) 1 { x1 with uses := x1.uses + 1 }) (find (pushes R (schains [] cl)) cl) { xe with ends := xe.ends + 1 }), s2.last⟩, ((hn_2.trans hgn).trans hn_47), hm.has, ⟨SlL.of (cells := cI) (0 : Int) (fun _ => rfl) rfl hs_48, add_TI hTk hx1 hxe, ?_⟩, hm.keptG [box p 2 74 (at_ (trC (KS.mk (mput (mput l 1 (bx1, kv1, ov1, { x1 with uses := x1.uses + 1 })) (find (pushes R (schains [] cl)) cl) (bxe, kve, ove, { xe with ends := xe.ends + 1 })) s2.last) z)), mapA z kI veN2 (mput (mput l 1 (bx1, kv1, ov1, { x1 with uses := x1.uses + 1 })) (find (pushes R (schains [] cl)) cl) (bxe, kve, ove, { xe with ends := xe.ends + 1 })), hoard (FK (nkD 71 3)) ((mput (mput l 1 (bx1, kv1, ov1, { x1 with uses := x1.uses + 1 })) (find (pushes R (schains [] cl)) cl) (bxe, kve, ove, { xe with ends := xe.ends + 1 })))] (.keep (fun _ _ h => box_congr (fun i hi => by match i, hi with | 0, _ => rfl | 1, _ => rfl) _ _ h) (.keep (fun _ _ h => h) (.keep (fun _ _ h => h) (.nil)))) (trE (nkD 71 3) 74 p (KS.mk (mput (mput (useL 1 (Go.Gx.Set.once (idsR (pushes R (schains [] cl)) cl)) s2.nodes) 1 { x1 with uses := x1.uses + 1 }) (find (pushes R (schains [] cl)) cl) { xe with ends := xe.ends + 1 }) s2.last)) (fun F' h => trE_mk3 z hle9 h)⟩)
 exact StS.put (ls := s2.last) (by rw [← hl1]; exact hS1) (show StAt _ xe.st from StS.get (s := ⟨mput (useL 1 (Go.Gx.Set.once (idsR (pushes R (schains [] cl)) cl)) s2.nodes) 1 { x1 with uses := x1.uses + 1 }, s2.last⟩) (by rw [← hl1]; exact hS1) hxe)))
end Go.Proofs.Ytdkfdncbldngdaa

/- A map's literal: an entry laid in. Generic in the program. -/
namespace Go.Gx
open Go.RowKit
variable {P : Program} {K : TypeId} {κ ν : Type} [DecidableEq κ] {ke : κ → Value} {ve : ν → Value}
variable {ops : Array Oper} {Q : Exit → Act → World → Prop} {N : Nat} {X : Nat → Prop} {w0 : World} {G : Ghost} {l : List (Nat × Value)} {L : List Asrt}
variable {rest : List Oper} {i m : Nat} {ty : TypeId} {pos : String} {after : Array Edge} {gd : Option (Nat × Bool)} {x y z : Operand} {T E : TypeId} {mv : List (κ × ν)} {k : κ} {a : ν}
theorem r_insert (hw : Wt ops l gd) (hT : P.underlying T = some (.map K E)) (hk : KeyT P K ke) (hx : ev l x = some (.map (some m))) (hL : L[i]? = some (mapA m ke ve mv)) (hy : ev l y = some (ke k)) (hz : ev l z = some (ve a))
    (h : Runs P ops Q N X w0 G rest l (L.set i (mapA m ke ve (mput mv k a)))) : Runs P ops Q N X w0 G (⟨none, .insert T x y z, ty, pos, after, gd⟩ :: rest) l L := by
  refine Runs.step hw (fun ac w hS => ?_)
  show Oper.upon P _ ac _ Q _
  obtain ⟨F, ⟨⟨es, c, hm⟩, _⟩, _⟩ := hS.mem.take hL
  obtain ⟨es', c', hr, hm'⟩ := run_update hT hk hm k a
  have hr' : (execOp ac.eval ⟨none, .insert T x y z, ty, pos, after, gd⟩).run P w = .ok .skip { w with heap := w.heap.setIfInBounds m (.map es' c') } := by
    simp only [execOp, hS.fr.eval hx, hS.fr.eval hy, hS.fr.eval hz]
    simp [hr]
  rw [hr']
  exact h _ _ ⟨hS.fr, hS.mem.setMap hL (fun F hF => (hF.2 m).2 rfl) ⟨⟨es', c', hm'⟩, fun b => Iff.rfl⟩⟩
end Go.Gx

/- Plain laws of tries: the top alone; what goes; no program in sight. -/
namespace Go.Gx.T16
open Go.Gx Go.Gx.T3 Go.Gx.T4 Go.Gx.T6 Go.Gx.T8
abbrev nd0 : Nd := ⟨s0, 0, 0, 0, 0, 0, [], []⟩
abbrev KS0 : KS Nd := ⟨[(1, nd0)], 1⟩
abbrev R0 : RT := ⟨[], []⟩
theorem new_TI : TI KS0 R0 := by
  refine ⟨fun id => ?_, ⟨by simp, by simp, by simp, by simp⟩, by simp, by simp [Lst], by simp⟩
  unfold gP getR
  by_cases h : id = 1
  · subst h
    simp [lkp]
    rfl
  · have h2 : ¬ (1 : Int) = id := fun e => h e.symm
    simp [lkp, h, h2, getF]
theorem new_StS {G : Ghost} : StS G KS0 := fun q hq => by
  simp at hq
  subst hq
  exact ⟨SlG.nil _ _ _, Ss.nil, by decide⟩
/-! ### one that goes -/
def markF : List It → Int → List It
  | [], _ => []
  | x :: t, k => if k = 0 then (x.1, true) :: t else x :: markF t (k - 1)
theorem markF_get : ∀ (l : List It) (k : Int) (j : Nat), (markF l k)[j]? = if k = j then (l[j]?).map (fun x => (x.1, true)) else l[j]?
  | [], k, j => by simp [markF]
  | x :: t, k, j => by
    rw [markF]
    by_cases h : k = 0
    · subst h
      cases j with
      | zero => simp
      | succ j => rw [if_pos rfl, if_neg (by omega)]; simp
    · rw [if_neg h]
      cases j with
      | zero => rw [if_neg (by omega)]; simp
      | succ j =>
        rw [List.getElem?_cons_succ, List.getElem?_cons_succ, markF_get t (k - 1) j]
        by_cases e : k - 1 = j
        · rw [if_pos e, if_pos (by omega)]
        · rw [if_neg e, if_neg (by omega)]
theorem markF_len : ∀ (l : List It) (k : Int), (markF l k).length = l.length
  | [], _ => rfl
  | x :: t, k => by rw [markF]; split <;> simp [markF_len t]
def kill (R : RT) (k : Int) : RT := ⟨R.lists, markF R.its (k - 2)⟩
theorem kill_at {R : RT} {k : Int} {j : Nat} {c : List ST} : (kill R k).its[j]? = some (c, false) ↔ R.its[j]? = some (c, false) ∧ k ≠ j + 2 := by
  show (markF R.its (k - 2))[j]? = _ ↔ _
  rw [markF_get]
  by_cases h : k - 2 = j
  · rw [if_pos h]
    constructor
    · intro h2
      obtain ⟨x, _, h3⟩ := Option.map_eq_some_iff.1 h2
      simp at h3
    · rintro ⟨_, h2⟩; exact absurd (by omega) h2
  · rw [if_neg h]
    exact ⟨fun h2 => ⟨h2, by omega⟩, fun h2 => h2.1⟩
theorem numsF_kill (p : List ST → Bool) (k : Int) : ∀ (l : List It) (i : Int), numsF p (markF l (k - i)) i = (numsF p l i).filter (fun x => !decide (x = k))
  | [], _ => rfl
  | x :: t, i => by
    rw [markF]
    by_cases h : k - i = 0
    · have hki : k = i := by omega
      subst hki
      rw [if_pos h, numsF, numsF, if_neg (by simp)]
      have hnot : ∀ y ∈ numsF p t (k + 1), (!decide (y = k)) = true := fun y hy => by have := (numsF_ge hy).1; simp; omega
      split
      · rw [List.filter_cons, if_neg (by simp), List.filter_eq_self.2 hnot]
      · rw [List.filter_eq_self.2 hnot]
    · rw [if_neg h, numsF, numsF, show k - i - 1 = k - (i + 1) by omega, numsF_kill p k t (i + 1)]
      split
      · rw [List.filter_cons, if_pos (by simp; omega)]
      · rfl
theorem getR_kill {R : RT} {k : Int} (hk : k ≠ 1) (id : Int) : getR (kill R k) id = if id = k then none else getR R id := by
  by_cases h : id = k
  · subst h
    rw [if_pos rfl]
    cases e : getR (kill R id) id with
    | none => rfl
    | some c =>
      exfalso
      rcases getR_iff.1 e with ⟨h1, _⟩ | ⟨_, j, h2, h3⟩
      · exact hk h1
      · exact (kill_at.1 h3).2 h2
  · rw [if_neg h]
    cases e : getR R id with
    | some c =>
      rcases getR_iff.1 e with ⟨rfl, rfl⟩ | ⟨h1, j, rfl, h3⟩
      · rfl
      · exact getR_iff.2 (.inr ⟨h1, j, rfl, kill_at.2 ⟨h3, fun e => h e.symm⟩⟩)
    | none =>
      cases e2 : getR (kill R k) id with
      | none => rfl
      | some c =>
        exfalso
        rcases getR_iff.1 e2 with ⟨rfl, rfl⟩ | ⟨h1, j, rfl, h3⟩
        · cases e
        · rw [getR_iff.2 (.inr ⟨h1, j, rfl, (kill_at.1 h3).1⟩)] at e; cases e
theorem find_kill {R : RT} {k : Int} (hC : Clo R) (hk : k ≠ 1) {c d : List ST} (hg : getR R k = some c) (hd : d ≠ c) : find (kill R k) d = find R d := by
  unfold find
  split
  · rfl
  · rw [findF_nums, findF_nums]
    show (numsF _ (markF R.its (k - 2)) 2).headD 0 = _
    rw [numsF_kill, List.filter_eq_self.2]
    intro y hy
    obtain ⟨j, e, rfl, h1, h2⟩ := numsF_mem.1 hy
    rw [ceq_iff] at h2
    subst h2
    simp only [Bool.not_eq_true', decide_eq_false_iff_not]
    rintro rfl
    have h3 : getR R (2 + (j : Int)) = some e := getR_iff.2 (.inr ⟨by omega, j, by omega, h1⟩)
    rw [hg] at h3
    exact hd (Option.some.inj h3).symm
/-- Nothing stands below, nothing needs it, no list has it. -/
structure Leaf' (R : RT) (k : Int) (c : List ST) : Prop where
  at' : getR R k = some c
  ne : k ≠ 1
  kids : kidsR R c = []
  outer : outerR R c = []
  no : uses R c = 0
theorem kid_of {R : RT} {d c : List ST} {j : Nat} (h : R.its[j]? = some (d, false)) (hd : d ≠ []) (hc : d.dropLast = c) : (2 + (j : Int)) ∈ kidsR R c := by
  refine numsF_mem.2 ⟨j, d, rfl, h, isKid_iff.2 ⟨d.getLast hd, ?_⟩⟩
  rw [← hc]; exact (List.dropLast_concat_getLast hd).symm
theorem outer_of {R : RT} {d c : List ST} {j : Nat} (h : R.its[j]? = some (d, false)) (hc : innerOf d = some c) : (2 + (j : Int)) ∈ outerR R c :=
  numsF_mem.2 ⟨j, d, rfl, h, isOuter_iff.2 hc⟩
theorem kill_clo {R : RT} {k : Int} {c : List ST} (hC : Clo R) (hL : Leaf' R k c) : Clo (kill R k) := by
  refine ⟨fun x hx => ?_, fun i j d h1 h2 => hC.once i j d (kill_at.1 h1).1 (kill_at.1 h2).1, fun j d h => ?_, fun j d e h he => ?_⟩
  · obtain ⟨j, hj⟩ := List.getElem?_of_mem hx
    have hj' : (markF R.its (k - 2))[j]? = some x := hj
    rw [markF_get] at hj'
    split at hj'
    · obtain ⟨y, h1, h2⟩ := Option.map_eq_some_iff.1 hj'
      rw [← h2]; exact hC.ne y (List.mem_of_getElem? h1)
    · exact hC.ne x (List.mem_of_getElem? hj')
  · have h1 := (kill_at.1 h).1
    have hne : d.dropLast ≠ c := fun e => by
      have := kid_of h1 (hC.ne _ (List.mem_of_getElem? h1)) e
      rw [hL.kids] at this; cases this
    rw [find_kill hC hL.ne hL.at' hne]
    exact hC.up j d h1
  · have h1 := (kill_at.1 h).1
    have hne : e ≠ c := fun e' => by
      have := outer_of h1 (by rw [he, e'])
      rw [hL.outer] at this; cases this
    rw [find_kill hC hL.ne hL.at' hne]
    exact hC.inn j d e h1 he
/-- A node when another one is gone. -/
theorem ndR_kill {R : RT} {k : Int} {c : List ST} (hC : Clo R) (hL : Leaf' R k c) {id : Int} {d : List ST} (h : getR R id = some d) :
    ndR (kill R k) d = { ndR R d with kids := (kidsR R d).filter (fun x => !decide (x = k)), outer := (outerR R d).filter (fun x => !decide (x = k)) } := by
  have hp : (if d.length = 0 then (0 : Int) else find (kill R k) d.dropLast) = if d.length = 0 then 0 else find R d.dropLast := by
    split
    · rfl
    · rename_i hd
      rcases getR_iff.1 h with ⟨_, rfl⟩ | ⟨_, j, _, h2⟩
      · exact absurd rfl hd
      · refine find_kill hC hL.ne hL.at' (fun e => ?_)
        have := kid_of h2 (hC.ne _ (List.mem_of_getElem? h2)) e
        rw [hL.kids] at this; cases this
  have hi : inner (kill R k) d = inner R d := by
    unfold inner
    cases he : innerOf d with
    | none => rfl
    | some e =>
      rcases getR_iff.1 h with ⟨_, rfl⟩ | ⟨_, j, _, h2⟩
      · simp [innerOf] at he
      · refine find_kill hC hL.ne hL.at' (fun e' => ?_)
        have := outer_of h2 (by rw [he, e'])
        rw [hL.outer] at this; cases this
  unfold ndR
  rw [hp, hi]
  show PN.mk _ _ _ _ _ _ (numsF _ (markF R.its (k - 2)) 2) (numsF _ (markF R.its (k - 2)) 2) = _
  rw [numsF_kill, numsF_kill]
  rfl
theorem kill_lst {R : RT} {k : Int} {c : List ST} (hC : Clo R) (hL : Leaf' R k c) (hl : Lst R) : Lst (kill R k) := fun l h d hd => by
  have hne : d ≠ c := fun e => by
    have h1 : 0 < uses R c := List.countP_pos_iff.2 ⟨l, h, usesOf_iff.2 (.inr (e ▸ hd))⟩
    have h2 := hL.no
    omega
  rw [find_kill hC hL.ne hL.at' hne]
  exact hl l h d hd
end Go.Gx.T16

/- Plain laws of tries: lists that go; no program in sight. -/
namespace Go.Gx.T16
open Go.Gx Go.Gx.T3 Go.Gx.T4 Go.Gx.T6 Go.Gx.T8
def notK (k : Int) (x : Int) : Bool := !decide (x = k)
def lessK (x : Nd) (k : Int) : Nd := { x with kids := x.kids.filter (notK k) }
def lessO (x : Nd) (k : Int) : Nd := { x with outer := x.outer.filter (notK k) }
theorem mdel_nodup {α : Type} : ∀ {l : List (Int × α)} (k : Int), (l.map (·.1)).Nodup → ((mdel l k).map (·.1)).Nodup := by
  intro l k h
  have hs : ∀ {l : List (Int × α)}, ((mdel l k).map (·.1)).Sublist (l.map (·.1)) := by
    intro l
    induction l with
    | nil => exact List.Sublist.slnil
    | cons p t ih =>
      rw [mdel]
      split
      · exact List.sublist_cons_self _ _
      · exact ih.cons_cons _
  exact h.sublist hs
theorem filter_id {l : List Int} {k : Int} (h : ¬ k ∈ l) : l.filter (notK k) = l := List.filter_eq_self.2 fun x hx => by
  unfold notK
  have : x ≠ k := fun e => h (e ▸ hx)
  simp [this]
section
variable {s : KS Nd} {R : RT} {k : Int} {c : List ST} {x px y : Nd}
theorem kid_par (hC : Clo R) (hk : getR R k = some c) {d : List ST} (h : k ∈ kidsR R d) : c.dropLast = d := by
  obtain ⟨s', h1⟩ := kid_get h
  rw [hk] at h1
  rw [Option.some.inj h1]; simp
theorem outer_inn (hk : getR R k = some c) {d : List ST} (h : k ∈ outerR R d) : innerOf c = some d := by
  obtain ⟨j, e, rfl, h1, h2⟩ := numsF_mem.1 h
  have h3 : getR R (2 + (j : Int)) = some e := getR_iff.2 (.inr ⟨by omega, j, by omega, h1⟩)
  rw [hk] at h3
  rw [Option.some.inj h3]
  exact isOuter_iff.1 h2
theorem leaf_ne (hC : Clo R) (hL : Leaf' R k c) : c ≠ [] := fun e => by
  rcases getR_iff.1 hL.at' with ⟨h1, _⟩ | ⟨_, j, _, h2⟩
  · exact hL.ne h1
  · exact hC.ne _ (List.mem_of_getElem? h2) e
theorem leaf_up (hC : Clo R) (hL : Leaf' R k c) : find R c.dropLast ≠ 0 ∧ find R c.dropLast < k := by
  rcases getR_iff.1 hL.at' with ⟨h1, _⟩ | ⟨_, j, rfl, h2⟩
  · exact absurd h1 hL.ne
  · exact hC.up j c h2
theorem leaf_inn (hC : Clo R) (hL : Leaf' R k c) {e : List ST} (he : innerOf c = some e) : find R e ≠ 0 ∧ find R e < k := by
  rcases getR_iff.1 hL.at' with ⟨h1, _⟩ | ⟨_, j, rfl, h2⟩
  · exact absurd h1 hL.ne
  · exact hC.inn j c e h2 he
theorem leaf_par (hT : TI s R) (hL : Leaf' R k c) (hx : lkp s.nodes k = some x) : x.par = find R c.dropLast ∧ x.inn = inner R c := by
  obtain ⟨x', h1, h2⟩ := hT.at hL.at'
  rw [hx] at h1
  rw [Option.some.inj h1]
  refine ⟨?_, congrArg PN.inn h2⟩
  have h3 : x'.par = _ := congrArg PN.par h2
  rw [h3]
  show (if c.length = 0 then (0 : Int) else find R c.dropLast) = _
  rw [if_neg (fun e => leaf_ne hT.clo hL (List.eq_nil_of_length_eq_zero e))]
/-- The kids of the one above are told anew. -/
theorem del_k (hT : TI s R) (hL : Leaf' R k c) (hx : lkp s.nodes k = some x) (hp : lkp s.nodes x.par = some px) {id : Int} {d : List ST} (h : getR R id = some d) :
    gP (mput s.nodes x.par (lessK px k)) id = some { ndR R d with kids := (kidsR R d).filter (notK k) } := by
  obtain ⟨y, h1, h2⟩ := hT.at h
  rw [gP_mput]
  obtain ⟨hpar, _⟩ := leaf_par hT hL hx
  by_cases e : x.par = id
  · rw [if_pos e]
    rw [e, h1] at hp
    rw [← Option.some.inj hp]
    show some { y.pn with kids := y.kids.filter (notK k) } = _
    rw [h2, show y.kids = kidsR R d from congrArg PN.kids h2]
  · rw [if_neg e, gP_some h1, h2, filter_id]
    · rfl
    · intro hk
      have h3 := kid_par hT.clo hL.at' hk
      rw [hpar, h3, find_of hT.clo h] at e
      exact e rfl
theorem del_TI0 (hT : TI s R) (hL : Leaf' R k c) (hx : lkp s.nodes k = some x) (hp : lkp s.nodes x.par = some px) (hi : ¬ 0 < x.inn) : TI ⟨mdel (mput s.nodes x.par (lessK px k)) k, s.last⟩ (kill R k) := by
  have hn := mput_nodup x.par (lessK px k) hT.nod
  refine ⟨fun id => ?_, kill_clo hT.clo hL, by show _ = ((markF R.its (k - 2)).length : Int) + 1; rw [markF_len]; exact hT.last, kill_lst hT.clo hL hT.lst, mdel_nodup k hn⟩
  show gP (mdel _ k) id = _
  unfold gP
  rw [lkp_mdel hn, getR_kill hL.ne]
  by_cases e : k = id
  · rw [if_pos e, if_pos e.symm]; rfl
  · rw [if_neg e, if_neg (fun h => e h.symm)]
    cases h : getR R id with
    | none =>
      have h1 := gP_none.1 (show gP s.nodes id = none by rw [hT.inv id, h]; rfl)
      rw [lkp_mput, if_neg (fun e' => by rw [e', h1] at hp; cases hp), h1]; rfl
    | some d =>
      have h1 := del_k hT hL hx hp h
      unfold gP at h1
      rw [h1, Option.map_some, ndR_kill hT.clo hL h]
      have h2 : (outerR R d).filter (fun x => !decide (x = k)) = outerR R d := filter_id fun hk => by
        have h3 := outer_inn hL.at' hk
        have h4 := leaf_inn hT.clo hL h3
        have h5 := (leaf_par hT hL hx).2
        unfold inner at h5
        rw [h3] at h5
        simp only at h5
        have h6 := (find_nonneg R d).1
        exact hi (by rw [h5]; omega)
      rw [h2]
      rfl
theorem del_TI1 (hT : TI s R) (hL : Leaf' R k c) (hx : lkp s.nodes k = some x) (hp : lkp s.nodes x.par = some px) (hi : 0 < x.inn) (hy : lkp (mput s.nodes x.par (lessK px k)) x.inn = some y) :
    TI ⟨mdel (mput (mput s.nodes x.par (lessK px k)) x.inn (lessO y k)) k, s.last⟩ (kill R k) := by
  have hn := mput_nodup x.inn (lessO y k) (mput_nodup x.par (lessK px k) hT.nod)
  obtain ⟨e, he⟩ : ∃ e, innerOf c = some e := by
    have h5 := (leaf_par hT hL hx).2
    unfold inner at h5
    cases h : innerOf c with
    | none => rw [h] at h5; simp at h5; omega
    | some e => exact ⟨e, rfl⟩
  have hinn : x.inn = find R e := by
    have h5 := (leaf_par hT hL hx).2
    unfold inner at h5
    rw [he] at h5; exact h5
  have hge := find_some hT.clo.ne (leaf_inn hT.clo hL he).1
  refine ⟨fun id => ?_, kill_clo hT.clo hL, by show _ = ((markF R.its (k - 2)).length : Int) + 1; rw [markF_len]; exact hT.last, kill_lst hT.clo hL hT.lst, mdel_nodup k hn⟩
  show gP (mdel _ k) id = _
  unfold gP
  rw [lkp_mdel hn, getR_kill hL.ne]
  by_cases e1 : k = id
  · rw [if_pos e1, if_pos e1.symm]; rfl
  · rw [if_neg e1, if_neg (fun h => e1 h.symm), lkp_mput]
    by_cases e2 : x.inn = id
    · have h : getR R id = some e := by rw [← e2, hinn]; exact hge
      have h1 := del_k hT hL hx hp h
      rw [if_pos e2, h, Option.map_some, Option.map_some, ndR_kill hT.clo hL h]
      rw [e2] at hy
      rw [gP_some hy] at h1
      have h3 := Option.some.inj h1
      show some { y.pn with outer := y.pn.outer.filter (notK k) } = _
      rw [h3]
      rfl
    · rw [if_neg e2]
      cases h : getR R id with
      | none =>
        have h1 := gP_none.1 (show gP s.nodes id = none by rw [hT.inv id, h]; rfl)
        rw [lkp_mput, if_neg (fun e' => by rw [e', h1] at hp; cases hp), h1]; rfl
      | some d =>
        have h1 := del_k hT hL hx hp h
        unfold gP at h1
        rw [h1, Option.map_some, ndR_kill hT.clo hL h]
        have h2 : (outerR R d).filter (fun x => !decide (x = k)) = outerR R d := filter_id fun hk => by
          have h3 := outer_inn hL.at' hk
          rw [he] at h3
          rw [hinn, Option.some.inj h3, find_of hT.clo h] at e2
          exact e2 rfl
        rw [h2]
        rfl
end
/-! ### a list fewer -/
def remL (cl : List ST) : List (List ST) → List (List ST)
  | [] => []
  | x :: t => if ceq x cl = true then t else x :: remL cl t
def there (R : RT) (cl : List ST) : Bool := R.lists.any (ceq · cl)
theorem remL_count {cl : List ST} (p : List ST → Bool) : ∀ {l : List (List ST)}, l.any (ceq · cl) = true → (remL cl l).countP p + (if p cl = true then 1 else 0) = l.countP p
  | [], h => by simp at h
  | x :: t, h => by
    rw [remL]
    by_cases e : ceq x cl = true
    · rw [if_pos e]
      rw [ceq_iff] at e
      subst e
      rw [List.countP_cons]
    · rw [if_neg e, List.countP_cons, List.countP_cons]
      rw [List.any_cons, Bool.or_eq_true] at h
      have := remL_count p (l := t) (h.resolve_left e)
      omega
theorem remL_sub {cl : List ST} : ∀ {l : List (List ST)}, ∀ x ∈ remL cl l, x ∈ l
  | [], x, h => by cases h
  | y :: t, x, h => by
    rw [remL] at h
    split at h
    · exact List.mem_cons_of_mem _ h
    · rcases List.mem_cons.1 h with rfl | h
      · simp
      · exact List.mem_cons_of_mem _ (remL_sub x h)
theorem remL_len {cl : List ST} : ∀ (l : List (List ST)), (remL cl l).length ≤ l.length
  | [] => Nat.le_refl _
  | y :: t => by have := remL_len (cl := cl) t; rw [remL]; split <;> simp <;> omega
/-- The list is there just if its node is, and some list ends at it. -/
theorem there_iff {s : KS Nd} {R : RT} (hT : TI s R) {cl : List ST} : there R cl = true ↔ find R cl ≠ 0 ∧ ∀ x, lkp s.nodes (find R cl) = some x → x.ends ≠ 0 := by
  unfold there
  rw [List.any_eq_true]
  constructor
  · rintro ⟨l, hl, he⟩
    rw [ceq_iff] at he
    subst he
    have hf : find R l ≠ 0 := by
      cases l with
      | nil => rw [find_nil]; omega
      | cons a t => exact hT.lst _ hl _ (last_chain (by simp))
    refine ⟨hf, fun x hx h0 => ?_⟩
    obtain ⟨c, h1, h2⟩ := hT.got hx
    rw [find_some hT.clo.ne hf] at h1
    rw [← Option.some.inj h1] at h2
    have h3 : x.ends = (R.lists.countP (ceq · l) : Int) := congrArg PN.ends h2
    have h4 : 0 < R.lists.countP (ceq · l) := List.countP_pos_iff.2 ⟨l, hl, ceq_self l⟩
    omega
  · rintro ⟨hf, he⟩
    obtain ⟨x, h1, h2⟩ := hT.at (find_some hT.clo.ne hf)
    have h3 : x.ends = (R.lists.countP (ceq · cl) : Int) := congrArg PN.ends h2
    have h4 := he x h1
    have h5 : 0 < R.lists.countP (ceq · cl) := by omega
    obtain ⟨l, hl, h6⟩ := List.countP_pos_iff.1 h5
    exact ⟨l, hl, h6⟩
/-- All that are there are some list's. -/
def Used (R : RT) : Prop := ∀ c, (c, false) ∈ R.its → 0 < uses R c
def remR (R : RT) (cl : List ST) : RT := ⟨remL cl R.lists, R.its.map fun x => (x.1, x.2 || decide ((remL cl R.lists).countP (usesOf x.1) = 0))⟩
def goneR (R : RT) (cl : List ST) : List Int := (numsF (fun c => decide ((remL cl R.lists).countP (usesOf c) = 0)) R.its 2).reverse
/-- Has a number a chain that no list has? -/
def dead (R : RT) (k : Int) : Bool := match getR R k with
  | some c => decide (uses R c = 0)
  | none => false
def kills (R : RT) : List Int → RT
  | [] => R
  | k :: t => kills (if dead R k = true then kill R k else R) t
theorem kills_append (a b : List Int) : ∀ R, kills R (a ++ b) = kills (kills R a) b := by
  induction a with
  | nil => intro R; rfl
  | cons k t ih => intro R; exact ih _
theorem kills_lists : ∀ (ks : List Int) (R : RT), (kills R ks).lists = R.lists
  | [], _ => rfl
  | k :: t, R => by rw [kills, kills_lists t]; split <;> rfl
/-- What is known while numbers go, the greatest first. -/
structure Going (R : RT) (ks : List Int) : Prop where
  clo : Clo R
  one : ∀ k ∈ ks, k ≠ 1
  fall : ks.Pairwise (· > ·)
  rest : ∀ k c, getR R k = some c → c ≠ [] → uses R c = 0 → k ∈ ks
theorem going_leaf {R : RT} {k : Int} {t : List Int} {c : List ST} (h : Going R (k :: t)) (hg : getR R k = some c) (hu : uses R c = 0) : Leaf' R k c := by
  have key : ∀ (j : Nat) d, R.its[j]? = some (d, false) → (d.dropLast = c ∨ innerOf d = some c) → ((j : Int) + 2 > k) → False := fun j d hj hd hgt => by
    have hne := h.clo.ne _ (List.mem_of_getElem? hj)
    have h1 : getR R ((j : Int) + 2) = some d := getR_iff.2 (.inr ⟨by omega, j, rfl, hj⟩)
    have h2 : uses R d = 0 := Nat.eq_zero_of_le_zero (Nat.le_trans (uses_le (R := R) hne hd) (Nat.le_of_eq hu))
    have h3 := h.rest _ _ h1 hne h2
    rcases List.mem_cons.1 h3 with h4 | h4
    · omega
    · have := (List.pairwise_cons.1 h.fall).1 _ h4; omega
  refine ⟨hg, h.one k (by simp), ?_, ?_, hu⟩
  · refine numsF_none fun y hy ho => ?_
    obtain ⟨d, o⟩ := y
    simp only at ho; subst ho
    cases e : isKid c d with
    | false => rfl
    | true =>
      exfalso
      obtain ⟨s', rfl⟩ := isKid_iff.1 e
      obtain ⟨j, hj⟩ := List.getElem?_of_mem hy
      have h1 := h.clo.up j _ hj
      rw [List.dropLast_concat, find_of h.clo hg] at h1
      exact key j _ hj (.inl (by simp)) (by omega)
  · refine numsF_none fun y hy ho => ?_
    obtain ⟨d, o⟩ := y
    simp only at ho; subst ho
    cases e : isOuter c d with
    | false => rfl
    | true =>
      exfalso
      obtain ⟨j, hj⟩ := List.getElem?_of_mem hy
      have h0 := isOuter_iff.1 e
      have h1 := h.clo.inn j _ _ hj h0
      rw [find_of h.clo hg] at h1
      exact key j _ hj (.inr h0) (by omega)
theorem going_kill {R : RT} {k : Int} {t : List Int} {c : List ST} (h : Going R (k :: t)) (hg : getR R k = some c) (hu : uses R c = 0) : Going (kill R k) t := by
  have hL := going_leaf h hg hu
  refine ⟨kill_clo h.clo hL, fun k' hk' => h.one k' (List.mem_cons_of_mem _ hk'), (List.pairwise_cons.1 h.fall).2, fun k' d hd hne hud => ?_⟩
  rw [getR_kill hL.ne] at hd
  split at hd
  · cases hd
  · rename_i hne'
    rcases List.mem_cons.1 (h.rest k' d hd hne hud) with h1 | h1
    · exact absurd h1 hne'
    · exact h1
theorem going_skip {R : RT} {k : Int} {t : List Int} (h : Going R (k :: t)) (hd : dead R k = false) : Going R t := by
  refine ⟨h.clo, fun k' hk' => h.one k' (List.mem_cons_of_mem _ hk'), (List.pairwise_cons.1 h.fall).2, fun k' d hg hne hu => ?_⟩
  rcases List.mem_cons.1 (h.rest k' d hg hne hu) with h1 | h1
  · subst h1
    unfold dead at hd
    rw [hg] at hd
    simp [hu] at hd
  · exact h1
end Go.Gx.T16

/- Plain laws of tries: a list that goes, whole; no program in sight. -/
namespace Go.Gx.T16
open Go.Gx Go.Gx.T3 Go.Gx.T4 Go.Gx.T6 Go.Gx.T8
theorem same_falls : ∀ {a b : List Int}, a.Pairwise (· > ·) → b.Pairwise (· > ·) → (∀ x, x ∈ a ↔ x ∈ b) → a = b
  | [], [], _, _, _ => rfl
  | [], y :: t, _, _, h => by have := (h y).2 (by simp); cases this
  | x :: t, [], _, _, h => by have := (h x).1 (by simp); cases this
  | x :: t, y :: u, ha, hb, h => by
    have h1 := List.pairwise_cons.1 ha
    have h2 := List.pairwise_cons.1 hb
    have e : x = y := by
      rcases List.mem_cons.1 ((h x).1 (by simp)) with e | e
      · exact e
      · rcases List.mem_cons.1 ((h y).2 (by simp)) with e' | e'
        · exact e'.symm
        · have := h2.1 x e; have := h1.1 y e'; omega
    subst e
    rw [same_falls h1.2 h2.2 (fun z => ?_)]
    constructor
    · intro hz
      rcases List.mem_cons.1 ((h z).1 (List.mem_cons_of_mem _ hz)) with e | e
      · have := h1.1 z hz; omega
      · exact e
    · intro hz
      rcases List.mem_cons.1 ((h z).2 (List.mem_cons_of_mem _ hz)) with e | e
      · have := h2.1 z hz; omega
      · exact e
theorem kills_get : ∀ {ks : List Int} {R : RT} {k : Int}, (∀ x ∈ ks, x ≠ 1) → ¬ k ∈ ks → getR (kills R ks) k = getR R k
  | [], _, _, _, _ => rfl
  | x :: t, R, k, h1, hk => by
    rw [kills, kills_get (fun y hy => h1 y (List.mem_cons_of_mem _ hy)) (fun h => hk (List.mem_cons_of_mem _ h))]
    split
    · rw [getR_kill (h1 x (by simp)), if_neg (fun e => hk (by rw [e]; exact List.mem_cons_self))]
    · rfl
theorem dead_of {R : RT} {k : Int} {c : List ST} (h : getR R k = some c) : dead R k = decide (uses R c = 0) := by unfold dead; rw [h]
theorem dead_kills {R : RT} {ks : List Int} {k : Int} (h1 : ∀ x ∈ ks, x ≠ 1) (hk : ¬ k ∈ ks) : dead (kills R ks) k = dead R k := by
  unfold dead uses
  rw [kills_get h1 hk, kills_lists]
theorem going_its : ∀ {ks : List Int} {R : RT}, Going R ks → (kills R ks).its = R.its.map fun x => (x.1, x.2 || decide (uses R x.1 = 0))
  | [], R, h => by
    rw [kills]
    refine (List.map_id _).symm.trans (List.map_congr_left fun x hx => ?_)
    obtain ⟨c, o⟩ := x
    cases o with
    | true => rfl
    | false =>
      have hne := h.clo.ne _ hx
      obtain ⟨j, hj⟩ := List.getElem?_of_mem hx
      have hu : ¬ uses R c = 0 := fun e => by have := h.rest ((j : Int) + 2) c (getR_iff.2 (.inr ⟨by omega, j, rfl, hj⟩)) hne e; cases this
      simp [hu]
  | k :: t, R, h => by
    rw [kills]
    split
    · rename_i hd
      unfold dead at hd
      cases hg : getR R k with
      | none => rw [hg] at hd; cases hd
      | some c =>
        rw [hg] at hd
        have hu : uses R c = 0 := by simpa using hd
        rw [going_its (going_kill h hg hu)]
        show (markF R.its (k - 2)).map _ = _
        refine List.ext_getElem? fun j => ?_
        rw [List.getElem?_map, List.getElem?_map, markF_get]
        have huu : ∀ d, uses (kill R k) d = uses R d := fun _ => rfl
        by_cases e : k - 2 = j
        · rw [if_pos e]
          rcases getR_iff.1 hg with ⟨h1, _⟩ | ⟨_, j', h2, h3⟩
          · exact absurd h1 (h.one k (by simp))
          · obtain rfl : j = j' := by omega
            rw [h3]
            simp [hu]
        · rw [if_neg e]
          simp only [huu]
    · rename_i hd
      exact going_its (going_skip h (by simpa using hd))
theorem uses_rem {R : RT} {cl c : List ST} (hth : there R cl = true) : (remL cl R.lists).countP (usesOf c) + (if usesOf c cl = true then 1 else 0) = uses R c := remL_count (usesOf c) hth
section
variable {s : KS Nd} {R : RT} {cl : List ST} {x x1 : Nd}
abbrev remI (R : RT) (cl : List ST) : RT := ⟨remL cl R.lists, R.its⟩
theorem there_found (hT : TI s R) (hth : there R cl = true) : ∀ c ∈ schains [] cl, find R c ≠ 0 := by
  obtain ⟨l, hl, he⟩ := List.any_eq_true.1 hth
  rw [ceq_iff] at he
  subst he
  exact hT.lst l hl
abbrev ksR (R : RT) (cl : List ST) : List Int := (Go.Gx.Set.once (idsR R cl)).reverse
theorem ks_mem {k : Int} : k ∈ ksR R cl ↔ k ∈ idsR R cl := by rw [List.mem_reverse]; exact once_mem
theorem rem_going (hC : Clo R) (hU : Used R) (hth : there R cl = true) (hf : ∀ c ∈ schains [] cl, find R c ≠ 0) : Going (remI R cl) (ksR R cl) := by
  refine ⟨clo_lists _ hC, fun k hk e => one_not_id (e ▸ ks_mem.1 hk), ?_, fun k c hg hne hu => ?_⟩
  · show (Go.Gx.Set.once (idsR R cl)).reverse.Pairwise _
    rw [List.pairwise_reverse]
    exact Go.Gx.Set.once_rises _
  · have h1 : 0 < uses R c := by
      rcases getR_iff.1 hg with ⟨_, e⟩ | ⟨_, j, _, hj⟩
      · exact absurd e hne
      · exact hU c (List.mem_of_getElem? hj)
    have h2 : (remL cl R.lists).countP (usesOf c) = 0 := hu
    have h3 := uses_rem (c := c) hth
    have h4 : usesOf c cl = true := by
      cases e : usesOf c cl with
      | true => rfl
      | false => rw [e] at h3; simp at h3; omega
    exact ks_mem.2 ((find_mem_ids hC hf hg hne).2 h4)
theorem rem_its (hC : Clo R) (hU : Used R) (hth : there R cl = true) (hf : ∀ c ∈ schains [] cl, find R c ≠ 0) : kills (remI R cl) (ksR R cl) = remR R cl := by
  have h1 := going_its (rem_going hC hU hth hf)
  have h2 := kills_lists (ksR R cl) (remI R cl)
  cases e : kills (remI R cl) (ksR R cl) with
  | mk ls its =>
    rw [e] at h1 h2
    unfold remR
    congr
theorem rem_gone (hC : Clo R) (hU : Used R) (hth : there R cl = true) (hf : ∀ c ∈ schains [] cl, find R c ≠ 0) : (ksR R cl).filter (dead (remI R cl)) = goneR R cl := by
  have hG := rem_going hC hU hth hf
  refine same_falls (hG.fall.filter _) ?_ (fun k => ?_)
  · unfold goneR
    rw [List.pairwise_reverse]
    exact numsF_sorted
  · have hm : k ∈ goneR R cl ↔ k ∈ numsF (fun c => decide ((remL cl R.lists).countP (usesOf c) = 0)) R.its 2 := List.mem_reverse
    rw [List.mem_filter, hm]
    constructor
    · rintro ⟨h1, h2⟩
      unfold dead at h2
      cases hg : getR (remI R cl) k with
      | none => rw [hg] at h2; cases h2
      | some c =>
        rw [hg] at h2
        rcases getR_iff.1 hg with ⟨e, _⟩ | ⟨_, j, h3, h4⟩
        · exact absurd e (hG.one k h1)
        · exact numsF_mem.2 ⟨j, c, by omega, h4, h2⟩
    · intro h
      obtain ⟨j, c, rfl, h1, h2⟩ := numsF_mem.1 h
      have hg : getR (remI R cl) (2 + (j : Int)) = some c := getR_iff.2 (.inr ⟨by omega, j, by omega, h1⟩)
      have hne := hC.ne _ (List.mem_of_getElem? h1)
      have hu : uses (remI R cl) c = 0 := of_decide_eq_true h2
      exact ⟨hG.rest _ _ hg hne hu, by rw [dead_of hg, hu]; rfl⟩
theorem dec_TI (hT : TI s R) (hth : there R cl = true) (hx : lkp s.nodes (find R cl) = some x) (h1 : lkp (mput s.nodes (find R cl) { x with ends := x.ends - 1 }) 1 = some x1) :
    TI ⟨useL (-1) (Go.Gx.Set.once (idsR R cl)) (mput (mput s.nodes (find R cl) { x with ends := x.ends - 1 }) 1 { x1 with uses := x1.uses - 1 }), s.last⟩ (remI R cl) := by
  have hf := there_found hT hth
  refine hT.tell (cl := cl) (y := -1) hf (fun l hl c hc => hT.lst l (remL_sub l hl) c hc) (useL_nodup _ (mput_nodup _ _ (mput_nodup _ _ hT.nod))) (fun p => ?_) (fun k => ?_)
  · have := remL_count p (l := R.lists) hth
    by_cases e : p cl = true
    · rw [if_pos e] at this ⊢; omega
    · rw [if_neg e] at this ⊢; omega
  · rw [useL_at _ (once_nodup _), lkp_mput, lkp_mput]
    rw [lkp_mput] at h1
    have n1 : ¬ (1 : Int) ∈ Go.Gx.Set.once (idsR R cl) := fun h => one_not_id (once_mem.1 h)
    by_cases e1 : (1 : Int) = k
    · subst e1
      rw [if_pos rfl, Option.map_some, if_neg n1]
      by_cases e2 : find R cl = 1
      · rw [if_pos e2] at h1
        rw [e2] at hx
        rw [hx, Option.map_some, ← Option.some.inj h1]
        unfold told
        rw [if_pos (.inl rfl), if_pos e2.symm]
        rfl
      · rw [if_neg e2] at h1
        rw [h1, Option.map_some]
        unfold told
        rw [if_pos (.inl rfl), if_neg (fun e => e2 e.symm)]
        simp [Int.sub_eq_add_neg]
    · rw [if_neg e1]
      by_cases e2 : find R cl = k
      · rw [if_pos e2, Option.map_some]
        rw [e2] at hx
        rw [hx, Option.map_some]
        unfold told
        by_cases hm : k ∈ Go.Gx.Set.once (idsR R cl)
        · rw [if_pos hm, if_pos (.inr (once_mem.1 hm)), if_pos e2.symm]; rfl
        · rw [if_neg hm, if_neg (by rintro (h | h); exact e1 h.symm; exact hm (once_mem.2 h)), if_pos e2.symm]
          simp [Int.sub_eq_add_neg]
      · rw [if_neg e2]
        cases hk : lkp s.nodes k with
        | none => rfl
        | some z =>
          rw [Option.map_some, Option.map_some]
          unfold told
          by_cases hm : k ∈ Go.Gx.Set.once (idsR R cl)
          · rw [if_pos hm, if_pos (.inr (once_mem.1 hm)), if_neg (fun e => e2 e.symm)]; simp
          · rw [if_neg hm, if_neg (by rintro (h | h); exact e1 h.symm; exact hm (once_mem.2 h)), if_neg (fun e => e2 e.symm)]; simp
end
end Go.Gx.T16

/- Walks: what Go functions of this chapter come to, each as a function on plain data; no condition but those that each theorem names. Printed by a program of this work (gen.py). -/
namespace Go.Proofs.Ytdkfdncbldngdaa
open Go.Gx Go.Gx Go.Gx.T16 Go.Gx.T8 Go.Gx.T6 Go.Gx.T4 Go.Gx.T3 Go.Gx.T8 Go.Gx.T4 Go.Gx.T3 Go.Gx.T8 Go.Gx.T6 Go.Gx.T4 Go.Gx.T3
theorem cl69 : Callable Try.prog 69 := callable Try.func69 (by kernel_rfl) rfl
theorem cl70 : Callable Try.prog 70 := callable Try.func70 (by kernel_rfl) rfl
theorem cl88 : Callable Try.prog 88 := callable Try.func88 (by kernel_rfl) rfl
theorem bl74_0m1_1i1 (x0 : Option Nat) (x1 : Int) : Program.built Try.prog 74 [(0, Value.map x0), (1, Value.int .i64 x1)] = some #[Value.map x0, Value.int .i64 x1] := by
 kernel_rfl
theorem kept_true {F : Nat → Prop} {w w' : World} (h : Since nX w w') : Kept (pureA True) F w w' := ⟨⟨h.os, h.tape, h.output, h.size, fun k hk _ => h.block k hk id⟩, fun _ => False, ⟨trivial, fun _ h => h⟩, fun _ h => h.elim⟩
theorem c_knew {G : Ghost}  (w : World) (hG : Has G w) :
    Calls Try.prog 7 #[] w (Ret fun r w' => ∃ p, r = Value.pointer (some ⟨p, 0, none⟩) ∧ Since nX w w' ∧ ∃ F', (trE (nkD 71 3) 74 p KS0).holds w' F' ∧ ∀ b, F' b → w.heap.size ≤ b) := by
 refine enter (args := []) (X := nX) (G := G) (l := []) Try.func7 rfl Try.ntmps7 hG trivial (Nat.le_of_ble_eq_true rfl) ?_
 refine c_seq (c_region (r_val .none rfl (p_assign rfl) (r_nil (e_next ?_))))
 refine c_seq (c_region ?_)
 refine r_makemap .none rfl kI (veN2 (σ := Nd)) (fun m_1 => ?_)
 refine r_val .none rfl (p_build (vs := []) rfl (bl71_ )) ?_
 refine r_box .none rfl rfl (IsRow.lit _) (fun b_1 => ?_)
 refine r_insert (i := 1) (k := (1 : Int)) (a := (b_1, Value.slice none 0 0, Value.slice none 0 0, nd0)) .none Try.underlying72 (KeyT.int Try.underlying3) rfl rfl rfl rfl ?_
 refine r_val .none rfl (p_move rfl) ?_
 refine r_val .none rfl (p_build (vs := [(0, Value.map _), (1, Value.int _ _)]) rfl (bl74_0m1_1i1 _ _)) ?_
 refine r_box .none rfl rfl (IsRow.lit _) (fun b_2 => ?_)
 refine r_val .none rfl (p_assign rfl) (r_nil (e_next ?_))
 refine c_ret ?_
 refine e_nilrow 0 3 1 ?_
 refine e_nilrow 0 3 1 ?_
 refine e_hnil (FK (nkD 71 3)) ?_
 refine e_front (k := 2) rfl ?_
 refine e_front (k := 2) rfl ?_
 refine e_front (k := 4) rfl ?_
 refine e_conv (B := box b_1 13 71 (at_ (ndC nd0 (.slice none 0 0) (.slice none 0 0)))) (k := 0) rfl (fun _ _ h => box_congr (fun i hi => by match i, hi with | 0, _ => rfl | 1, _ => rfl | 2, _ => rfl | 3, _ => rfl | 4, _ => rfl | 5, _ => rfl | 6, _ => rfl | 7, _ => rfl | 8, _ => rfl | 9, _ => rfl | 10, _ => rfl | 11, _ => rfl | 12, _ => rfl) _ _ h) ?_
 dsimp only [List.set_cons_zero]
 refine e_ndNew (k := 1) (x := nd0) rfl ?_
 refine e_front (k := 2) rfl ?_
 refine e_front (k := 2) rfl ?_
 refine e_ret1 Try.results7 (.tmp rfl .nil) (fun w hm => ⟨_, rfl, hm.made [box b_2 2 74 (at_ (trC (KS.mk [((1 : Int), (b_1, Value.slice none 0 0, Value.slice none 0 0, nd0))] 1) m_1)), mapA m_1 kI veN2 [((1 : Int), (b_1, Value.slice none 0 0, Value.slice none 0 0, nd0))], hoard (FK (nkD 71 3)) ([((1 : Int), (b_1, Value.slice none 0 0, Value.slice none 0 0, nd0))])] (.keep (fun _ _ h => box_congr (fun i hi => by match i, hi with | 0, _ => rfl | 1, _ => rfl) _ _ h) (.keep (fun _ _ h => h) (.keep (fun _ _ h => h) (.nil)))) (trE (nkD 71 3) 74 _ KS0) (fun F' h => trE_mk3 (n := [(1, nd0)]) m_1 rfl h)⟩)
theorem c_ixI (v : Value) (zs : List (Int)) (g : Nat) (cs : List Value) {σ : Type} (A : σ → Asrt) (p : Int → σ → Bool × σ) (s0 : σ) {G : Ghost} {F : Nat → Prop} (hcg : Callable Try.prog g) (hcl : HCL Try.prog g cs (fun x : Int => Value.int .i64 x) A p G) (w : World) (hG : Has G w) (hA : (starL [rowA v 3 1 (zs).length ((zs).flatMap cI), A (s0)]).holds w F) (hFG : ∀ b, F b → G b = none) :
    Calls Try.prog 88 #[v, Value.func (.func g) #[] cs.toArray] w (Ret fun r w' => r = Value.int .i64 (ixD p zs 0 s0).1 ∧ Kept (starL [rowA v 3 1 (zs).length ((zs).flatMap cI), A ((ixD p zs 0 s0).2)]) F w w') := by
 refine enterO (args := [_, _]) (G := G) (A := starL [rowA v 3 1 (zs).length ((zs).flatMap cI), A (s0)]) (l := [(0, v), (1, Value.func (.func g) #[] cs.toArray)]) Try.func88 rfl Try.ntmps88 hG hA hFG ⟨rfl, rfl, trivial⟩ (Nat.le_of_ble_eq_true rfl) ?_
 refine c_unpack ?_
 refine c_rowlen (k := 0) rfl (fun hbd => ?_)
 refine c_seq (c_region (r_val .none rfl (p_assign rfl) (r_nil (e_next ?_))))
 refine c_seq (c_seq (c_region (r_val .none rfl (p_move rfl) ?_)))
 refine r_val .none rfl (p_leno (k := 0) Try.underlying33 rfl rfl) ?_
 refine r_val .none rfl (p_move rfl) (r_nil (e_next (c_block ?_)))
 refine c_name (d := 0) rfl (fun u_1 hu_1 => ?_)
 refine c_name (d := 1) rfl (fun u_2 hu_2 => ?_)
 refine c_name (d := 7) rfl (fun u_3 hu_3 => ?_)
 refine c_nameL (k := 0) rfl (fun A_4 hA_4 => ?_)
 refine c_loop (σ := Nat × σ) (fun s => [(8, Value.int .i64 (s.1 : Nat)), (0, u_1), (1, u_2), (7, u_3)]) (fun s => [A_4, A s.2]) (fun _ => _) (fun s => s.1 ≤ zs.length ∧ ixD p (zs.drop s.1) s.1 s.2 = ixD p zs 0 s0) (fun s => zs.length - s.1) ((0, s0)) ⟨Nat.zero_le _, rfl⟩ rfl ⟨rfl, rfl, rfl, rfl, trivial⟩ (.keep (fun _ _ h => h) (.keep (fun _ _ h => h) (.nil))) (fun s hphi => ?_)
 subst hu_1
 subst hu_2
 subst hu_3
 subst hA_4
 obtain ⟨j, t⟩ := s
 obtain ⟨hj, hix⟩ := hphi
 dsimp only at hj hix ⊢
 refine c_seq (c_region ?_)
 refine r_val .none rfl (p_lt rfl rfl) ?_
 refine r_nil (e_next (c_seq ?_))
 refine c_splitd (d := 9) rfl (fun h_5 => ?_) (fun h_5 => ?_)
 · (
 first
 | (exfalso; omega)
 | (
 refine c_cond_t rfl (c_skip (e_next (c_seq (c_block ?_))))
 refine c_seq (c_region (r_val .none rfl (p_move rfl) (r_val .none rfl (p_assign rfl) (r_nil ?_))))
 refine e_next (c_seq (c_region (r_val .none rfl (p_move rfl) (r_val .none rfl (p_move rfl) ?_))))
 refine r_val .none rfl (p_move rfl) ?_
 refine r_iaddr_o (k := 0) .none rfl Try.underlying33 sz3 rfl rfl rfl (by first | exact odt rfl | omega) (fun p_6 c_7 hv_8 => ?_)
 refine r_val .none rfl (p_ldo0 (k := 0) Try.underlying3 rfl rfl hv_8 rfl (by first | exact odt rfl | omega) (by first | exact odt rfl | omega) ((flatMap_get (cells := cI) (fun _ => rfl) (0 : Int) _ _ _ (by first | exact odt rfl | omega) (by first | exact odt rfl | omega)).trans (rfl : _ = Value.int _ _))) ?_
 refine r_yieldo (k := 1) (us := [_]) .none rfl rfl rfl hcg rfl (fun w F hw hA hFG => hcl (zs.getD j (0 : Int)) t w F hw hA hFG) ?_
 refine r_nil (e_next ?_)
 refine c_split (d := 16) rfl (fun h_9 => ?_) (fun h_9 => ?_)
 · (
 have hE := h_9
 first
 | (exfalso; omega)
 | (
 refine c_cond_t rfl (c_seq (c_region (r_val .none rfl (p_move rfl) (r_val .none rfl (p_assign rfl) ?_))))
 refine r_nil (e_next ?_)
 refine c_ret ?_
 refine e_ret_block ?_
 refine e_ret_then ?_
 refine e_ret_then ?_
 refine e_ret_block ?_
 refine e_ret_then ?_
 refine e_ret1 Try.results88 (.tmp rfl .nil) (fun w hm => ?_)
 first
 | (rw [← hix, ixD_yes (0 : Int) (by omega) hE]; exact ⟨rfl, hm.kept [_, _] (.keep (fun _ _ h => h) (.keep (fun _ _ h => h) (.nil))) _ (fun F' h => h)⟩)
 | (rw [← hix, List.drop_eq_nil_of_le (by omega)]; exact ⟨rfl, hm.kept [_, _] (.keep (fun _ _ h => h) (.keep (fun _ _ h => h) (.nil))) _ (fun F' h => h)⟩)))
 · (
 have hE := h_9
 first
 | (exfalso; omega)
 | (
 refine c_cond_f rfl (c_skip ?_)
 refine e_norm_block ?_
 refine e_next (c_region ?_)
 refine r_val .none rfl (p_add rfl rfl (by omega)) ?_
 refine r_val .none rfl (p_move rfl) (r_nil ?_)
 refine e_round ((j + 1, (p (zs.getD j (0 : Int)) t).2)) ⟨⟨by dsimp only; omega, by rw [← hix]; exact (ixD_no (0 : Int) (by omega) (by rw [hE]; simp)).symm⟩, by dsimp only; omega⟩ rfl ⟨rfl, rfl, rfl, rfl, trivial⟩ (.keep (fun _ _ h => h) (.keep (fun _ _ h => h) (.nil)))))))
 · (
 first
 | (exfalso; omega)
 | (
 refine c_cond_f rfl (c_exit (e_exit_then (e_exit_then ?_)))
 refine e_exit_block ?_
 refine e_next (c_seq (c_region (r_val .none rfl (p_assign rfl) (r_nil ?_))))
 refine e_next ?_
 refine c_ret ?_
 refine e_ret1 Try.results88 (.tmp rfl .nil) (fun w hm => ?_)
 first
 | (rw [← hix, ixD_yes (0 : Int) (by omega) hE]; exact ⟨rfl, hm.kept [_, _] (.keep (fun _ _ h => h) (.keep (fun _ _ h => h) (.nil))) _ (fun F' h => h)⟩)
 | (rw [← hix, List.drop_eq_nil_of_le (by omega)]; exact ⟨rfl, hm.kept [_, _] (.keep (fun _ _ h => h) (.keep (fun _ _ h => h) (.nil))) _ (fun F' h => h)⟩)))
theorem c_delI (v : Value) (zs : List (Int)) (g : Nat) (cs : List Value) {σ : Type} (A : σ → Asrt) (p : Int → σ → Bool × σ) (s0 : σ) {G : Ghost} {F : Nat → Prop} (hcg : Callable Try.prog g) (hcl : HCL Try.prog g cs (fun x : Int => Value.int .i64 x) A p G) (w : World) (hG : Has G w) (hA : (starL [rowA v 3 1 (zs).length ((zs).flatMap cI), A (s0)]).holds w F) (hFG : ∀ b, F b → G b = none) :
    Calls Try.prog 69 #[v, Value.func (.func g) #[] cs.toArray] w (Ret fun r w' => Kept (starL [rowA r 3 1 ((dels p zs s0).1).length (((dels p zs s0).1).flatMap cI), A ((dels p zs s0).2)]) F w w') := by
 refine enterO (args := [_, _]) (G := G) (A := starL [rowA v 3 1 (zs).length ((zs).flatMap cI), A (s0)]) (l := [(0, v), (1, Value.func (.func g) #[] cs.toArray)]) Try.func69 rfl Try.ntmps69 hG hA hFG ⟨rfl, rfl, trivial⟩ (Nat.le_of_ble_eq_true rfl) ?_
 refine c_unpack ?_
 refine c_rowlen (k := 0) rfl (fun hbd => ?_)
 refine c_seq (c_region (r_val .none rfl (p_assign rfl) (r_nil (e_next ?_))))
 refine c_seq (c_region (r_val .none rfl (p_move rfl) (r_val .none rfl (p_move rfl) ?_)))
 refine r_pack [_, _] ?_
 refine r_callo (k := 0) (vs := [_, _]) .none rfl cl88 rfl rfl (fun w F hw hA hFG => c_ixI v zs g cs A p s0 hcg hcl w hw hA hFG) ?_
 refine r_unpack ?_
 refine r_val .none rfl (p_assign rfl) (r_nil (e_next (c_seq (c_seq ?_))))
 refine c_region (r_val .none rfl (p_move rfl) ?_)
 refine r_val .none rfl (p_eq rfl rfl) ?_
 refine r_nil (e_next ?_)
 refine c_splitd (d := 12) rfl (fun h_1 => ?_) (fun h_1 => ?_)
 · (
 have hnone := ixD_none p zs 0 s0 h_1
 skip
 first
 | (exfalso; omega)
 | (
 refine c_cond_t rfl (c_seq (c_region (r_val .none rfl (p_move rfl) (r_val .none rfl (p_assign rfl) ?_))))
 refine r_nil (e_next ?_)
 refine c_ret ?_
 refine e_ret_then ?_
 refine e_ret1 Try.results69 (.tmp rfl .nil) (fun w hm => ?_)
 exact hm.kept [_, _] (.keep (fun _ _ h => rowA_congr (by rw [hnone]) (by rw [hnone]) _ _ h) (.keep (fun _ _ h => by rw [hnone]; exact h) (.nil))) _ (fun F' h => h)))
 · (
 obtain ⟨i0, hi0, hil, hds⟩ := ixD_some0 p zs s0 h_1
 rw [hi0]
 first
 | (exfalso; omega)
 | (
 refine c_cond_f rfl (c_skip (e_next (c_seq (c_seq ?_))))
 refine c_region (r_val .none rfl (p_move rfl) ?_)
 refine r_val .none rfl (p_add rfl rfl (by omega)) ?_
 refine r_val .none rfl (p_assign rfl) (r_nil (e_next (c_block ?_)))
 refine c_name (d := 0) rfl (fun u_2 hu_2 => ?_)
 refine c_name (d := 1) rfl (fun u_3 hu_3 => ?_)
 refine c_name (d := 4) rfl (fun u_4 hu_4 => ?_)
 refine c_loop (σ := Nat × List (Int)) (fun s => [(6, Value.int .i64 (s.1 : Nat)), (5, Value.int .i64 ((dels p (zs.take s.1) s0).1.length : Nat)), (0, u_2), (1, u_3), (4, u_4)]) (fun s => [rowA (v) 3 1 (s.2).length ((s.2).flatMap cI), A (dels p (zs.take s.1) s0).2]) (fun _ => _) (fun s => (s.1 ≤ zs.length ∧ s.2.length = zs.length ∧ (dels p (zs.take s.1) s0).1.length < s.1) ∧ s.2.take (dels p (zs.take s.1) s0).1.length = (dels p (zs.take s.1) s0).1 ∧ s.2.drop s.1 = zs.drop s.1) (fun s => zs.length - s.1) ((i0 + 1, zs)) ⟨⟨by omega, rfl, by rw [hds]; simp; omega⟩, by rw [hds]; simp, rfl⟩ rfl ⟨rfl, (congrArg (fun n : Nat => some (Value.int .i64 (n : Int))) (by rw [hds]; simp; omega)), rfl, rfl, rfl, trivial⟩ (.keep (fun _ _ h => h) (.keep (fun _ _ h => by rw [hds]; exact h) (.nil))) (fun s hphi => ?_)
 subst hu_2
 subst hu_3
 subst hu_4
 obtain ⟨j, ys⟩ := s
 obtain ⟨⟨hj, hyl, hlt⟩, hty, hdr⟩ := hphi
 dsimp only at hj hyl hlt hty hdr ⊢
 refine c_seq (c_seq (c_region (r_val .none rfl (p_move rfl) (r_val .none rfl (p_move rfl) ?_))))
 refine r_val .none rfl (p_leno (k := 0) Try.underlying33 rfl rfl) ?_
 refine r_val .none rfl (p_lt rfl rfl) ?_
 refine r_nil (e_next ?_)
 refine c_splitd (d := 19) rfl (fun h_5 => ?_) (fun h_5 => ?_)
 · (
 first
 | (exfalso; omega)
 | (
 refine c_cond_t rfl (c_skip (e_next (c_seq (c_block ?_))))
 refine c_seq (c_region (r_val .none rfl (p_move rfl) (r_val .none rfl (p_move rfl) ?_)))
 refine r_iaddr_o (k := 0) .none rfl Try.underlying33 sz3 rfl rfl rfl (by first | exact odt rfl | omega) (fun p_6 c_7 hv_8 => ?_)
 refine r_val .none rfl (p_ldo0 (k := 0) Try.underlying3 rfl rfl hv_8 rfl (by first | exact odt rfl | omega) (by first | exact odt rfl | omega) ((flatMap_get (cells := cI) (fun _ => rfl) (0 : Int) _ _ _ (by first | exact odt rfl | omega) (by first | exact odt rfl | omega)).trans (rfl : _ = Value.int _ _))) ?_
 rw [drop_getD (0 : Int) hdr]
 refine r_val .none rfl (p_assign rfl) (r_nil (e_next (c_seq (c_region ?_))))
 refine r_val .none rfl (p_move rfl) (r_val .none rfl (p_move rfl) ?_)
 refine r_yieldo (k := 1) (us := [_]) .none rfl rfl rfl hcg rfl (fun w F hw hA hFG => hcl (zs.getD j (0 : Int)) _ w F hw hA hFG) ?_
 refine r_val .none rfl (p_not rfl) ?_
 refine r_nil (e_next ?_)
 refine c_splitn (d := 29) rfl (fun h_9 => ?_) (fun h_9 => ?_)
 · (
 have hE := h_9
 have hnx := dels_next p (0 : Int) (l := zs) (j := j) (by omega) s0
 rw [hE, if_neg (by simp)] at hnx
 first
 | (exfalso; omega)
 | (
 refine c_cond_t rfl (c_seq (c_region (r_val .none rfl (p_move rfl) (r_val .none rfl (p_move rfl) ?_))))
 refine r_val .none rfl (p_move rfl) ?_
 refine r_iaddr_o (k := 0) .none rfl Try.underlying33 sz3 rfl rfl rfl (by first | exact odt rfl | omega) (fun p_10 c_11 hv_12 => ?_)
 refine r_stoe (k := 0) (cells := cI) (zs.getD j (0 : Int)) (fun _ => rfl) .none sz3 rfl rfl rfl (by simp [Value.oneCell']) rfl hv_12 (by omega) ?_
 refine r_nil (e_next (c_region (r_val .none rfl (p_move rfl) ?_)))
 refine r_val .none rfl (p_add rfl rfl (by omega)) ?_
 refine r_val .none rfl (p_assign rfl) (r_nil ?_)
 refine e_norm_block ?_
 refine e_next (c_region (r_val .none rfl (p_move rfl) ?_))
 refine r_val .none rfl (p_add rfl rfl (by omega)) ?_
 refine r_val .none rfl (p_assign rfl) (r_nil ?_)
 refine e_round ((j + 1, ys.set (dels p (zs.take j) s0).1.length (zs.getD j (0 : Int)))) ⟨⟨⟨by dsimp only; omega, by dsimp only; rw [List.length_set]; exact hyl, by dsimp only; rw [hnx]; simp; omega⟩, by dsimp only; rw [hnx, List.length_append, List.length_singleton, set_take (by omega), hty], by dsimp only; rw [set_drop (by omega)]; exact drop_next hdr⟩, by dsimp only; omega⟩ rfl ⟨rfl, (congrArg (fun n : Nat => some (Value.int .i64 (n : Int))) (by rw [hnx]; first | done | simp)), rfl, rfl, rfl, trivial⟩ (.keep (fun _ _ h => h) (.keep (fun _ _ h => by dsimp only; rw [hnx]; first | done | exact h) (.nil)))))
 · (
 have hE := h_9
 have hnx := dels_next p (0 : Int) (l := zs) (j := j) (by omega) s0
 rw [hE, if_pos rfl, List.append_nil] at hnx
 first
 | (exfalso; omega)
 | (
 refine c_cond_f rfl (c_skip ?_)
 refine e_norm_block ?_
 refine e_next (c_region (r_val .none rfl (p_move rfl) ?_))
 refine r_val .none rfl (p_add rfl rfl (by omega)) ?_
 refine r_val .none rfl (p_assign rfl) (r_nil ?_)
 refine e_round ((j + 1, ys)) ⟨⟨⟨by dsimp only; omega, hyl, by dsimp only; rw [hnx]; dsimp only; omega⟩, by dsimp only; rw [hnx]; first | done | exact hty, drop_next hdr⟩, by dsimp only; omega⟩ rfl ⟨rfl, (congrArg (fun n : Nat => some (Value.int .i64 (n : Int))) (by rw [hnx]; first | done | simp)), rfl, rfl, rfl, trivial⟩ (.keep (fun _ _ h => h) (.keep (fun _ _ h => by dsimp only; rw [hnx]; first | done | exact h) (.nil)))))))
 · (
 first
 | (exfalso; omega)
 | (
 refine c_cond_f rfl (c_exit (e_exit_then (e_exit_then ?_)))
 refine e_exit_block ?_
 refine e_next (c_seq (c_region ?_))
 refine r_rowblk (k := 0) rfl (by omega) (fun blk cap hv hcap => ?_)
 refine r_val .none rfl (p_move rfl) (r_val .none rfl (p_move rfl) ?_)
 refine r_val .none rfl (p_slice_o (a := (dels p (zs.take j) s0).1.length) (m := ys.length) (q := .i64) (q' := .i64) Try.underlying33 sz3 rfl hv hcap (some (.tmp 37)) none rfl rfl (by omega) (Nat.le_refl _)) ?_
 refine r_clear (k := 0) (a := (dels p (zs.take j) s0).1.length) .none Try.underlying33 el3 rfl (by decide) (by decide) rfl (fun h => by rw [if_neg (by omega)]) (by omega) rfl hv (fun ys2 hy2 => ?_)
 refine r_nil (e_next (c_seq (c_region (r_val .none rfl (p_move rfl) ?_))))
 refine r_val .none rfl (p_move rfl) ?_
 refine r_val .none rfl (p_slice_o0 (m := (dels p (zs.take j) s0).1.length) Try.underlying33 sz3 rfl hv hcap rfl (by omega)) ?_
 refine r_cut (k := 0) (m := (dels p (zs.take j) s0).1.length) rfl hv (by omega) ?_
 refine r_val .none rfl (p_assign rfl) (r_nil (e_next ?_))
 refine c_ret ?_
 refine e_ret1 Try.results69 (.tmp rfl .nil) (fun w hm => ?_)
 have htk : zs.take j = zs := List.take_of_length_le (by omega)
 exact hm.kept [_, _] (.keep (fun _ _ h => rowA_congr (by rw [htk]) (by rw [hy2, flatMap_take (cells := cI) (fun _ => rfl), hty, htk]) _ _ h) (.keep (fun _ _ h => by rw [htk] at h; exact h) (.nil))) _ (fun F' h => h)))))
theorem c_kwo1 (k id : Int) (b : Nat) {G : Ghost} (hR : RowAt G b 0 1 (at_ [.int .i64 id])) (w : World) (hG : Has G w) :
    Calls Try.prog 70 #[Value.int .i64 k, Value.pointer (some ⟨b, 0, none⟩)] w (Ret fun r w' => r = Value.bool (decide (k = id)) ∧ Since nX w w') := by
 refine enter (args := [_, _]) (X := nX) (G := G) (l := [(0, Value.int .i64 k), (1, Value.pointer (some ⟨b, 0, none⟩))]) Try.func70 rfl Try.ntmps70 hG ⟨rfl, rfl, trivial⟩ (Nat.le_of_ble_eq_true rfl) ?_
 refine c_seq (c_region (r_val .none rfl (p_assign rfl) (r_nil (e_next ?_))))
 refine c_seq (c_region (r_val .none rfl (p_move rfl) ?_))
 refine r_val .none rfl (p_ldg0 Try.underlying3 rfl rfl hR (by first | exact odt rfl | omega) (rfl : _ = Value.int _ _)) ?_
 refine r_val .none rfl (p_eq rfl rfl) ?_
 refine r_val .none rfl (p_assign rfl) (r_nil (e_next ?_))
 refine c_ret ?_
 refine e_ret1 Try.results70 (.tmp rfl .nil) (fun w hm => ⟨?_, hm.since⟩)
 rfl
theorem c_kwithout {F : Nat → Prop} {G : Ghost} (v : Value) (zs : List Int) (id : Int)  (w : World) (hG : Has G w) (hA : (rowA v 3 1 zs.length (zs.flatMap cI)).holds w F) (hFG : ∀ b, F b → G b = none) :
    Calls Try.prog 45 #[v, Value.int .i64 id] w (Ret fun r w' => Kept (rowA r 3 1 (zs.filter (notK id)).length ((zs.filter (notK id)).flatMap cI)) F w w') := by
 refine enterO (args := [_, _]) (G := G) (A := rowA v 3 1 zs.length (zs.flatMap cI)) (l := [(0, v), (1, Value.int .i64 id)]) Try.func45 rfl Try.ntmps45 hG hA hFG ⟨rfl, rfl, trivial⟩ (Nat.le_of_ble_eq_true rfl) ?_
 refine c_seq (c_region ?_)
 refine r_box .none rfl rfl (IsRow.lit [_]) (fun b_1 => ?_)
 refine r_val .none rfl (p_assign rfl) (r_nil (e_next (c_seq (c_region ?_))))
 refine r_val .none rfl (p_move rfl) ?_
 refine r_freezeX (k := 0) rfl (fun G_1 hn_2 hR_3 => ?_)
 refine r_val .none rfl (p_mkfunc (vs := [_]) rfl) ?_
 refine r_hnil (FN (κ := Int)) ?_
 refine r_front (k := 1) rfl ?_
 refine r_pack [_, _] ?_
 refine r_callor (k := 0) (vs := [_, _]) .none rfl cl69 rfl rfl (fun w F hw hA hFG => c_delI v zs 70 [.pointer (some ⟨b_1, 0, none⟩)] (fun _ : Unit => pureA True) (fun (k : Int) (_ : Unit) => (decide (k = id), ())) () cl70 (fun k s w F hw hA hF => (c_kwo1 k id _ hR_3 w hw).mono (fun e w' hR => by cases e with | returned r => exact ⟨hR.1, kept_true hR.2⟩ | panicked c => exact hR.elim | outgrown => exact hR.elim)) w hw hA hFG) (fun r_4 => ?_)
 refine r_unpack ?_
 refine r_val .none rfl (p_assign rfl) (r_nil (e_next ?_))
 refine c_ret ?_
 refine e_ret1 Try.results45 (.tmp rfl .nil) (fun w hm => hm.kept [rowA r_4 3 1 (zs.filter (notK id)).length ((zs.filter (notK id)).flatMap cI)] (.keep (fun _ _ h => rowA_congr (by rw [dels_pure]; rfl) (by rw [dels_pure]; rfl) _ _ h) (.drop (.nil))) (rowA r_4 3 1 (zs.filter (notK id)).length ((zs.filter (notK id)).flatMap cI)) (fun F' h => (starL_oneE _ _).1 h))
end Go.Proofs.Ytdkfdncbldngdaa

/- Tries: what the walk of Remove goes by; no program in sight. -/
namespace Go.Gx.T16
open Go.Gx Go.Gx.T3 Go.Gx.T4 Go.Gx.T6 Go.Gx.T8
section
variable {s s2 : KS Nd} {R : RT} {cl : List ST} {j : Nat}
theorem ks_nodup : (ksR R cl).Nodup := List.pairwise_reverse.2 ((once_nodup _).imp Ne.symm)
/-- The number that is next is some chain's. -/
theorem ks_next (hC : Clo R) (hf : ∀ c ∈ schains [] cl, find R c ≠ 0) (hj : j < (ksR R cl).length) :
    ∃ c, getR R ((ksR R cl).getD j 0) = some c ∧ getR (kills (remI R cl) ((ksR R cl).take j)) ((ksR R cl).getD j 0) = some c ∧ ¬ (ksR R cl).getD j 0 ∈ (ksR R cl).take j ∧ (ksR R cl).getD j 0 ≠ 1 := by
  have h1 : (ksR R cl).getD j 0 ∈ ksR R cl := getD_mem hj
  obtain ⟨c, h2, h3⟩ := List.mem_map.1 (ks_mem.1 h1)
  have h4 := find_some hC.ne (hf c h2)
  rw [h3] at h4
  have h5 := take_not (ks_nodup (R := R) (cl := cl)) hj
  have h6 : ∀ x ∈ (ksR R cl).take j, x ≠ 1 := fun x hx e => one_not_id (e ▸ ks_mem.1 (List.mem_of_mem_take hx))
  refine ⟨c, h4, ?_, h5, fun e => one_not_id (e ▸ ks_mem.1 h1)⟩
  rw [kills_get h6 h5]; exact h4
theorem kills_take (hj : j < (ksR R cl).length) : kills (remI R cl) ((ksR R cl).take (j + 1)) = if dead (kills (remI R cl) ((ksR R cl).take j)) ((ksR R cl).getD j 0) = true then kill (kills (remI R cl) ((ksR R cl).take j)) ((ksR R cl).getD j 0) else kills (remI R cl) ((ksR R cl).take j) := by
  rw [List.take_succ_eq_append_getElem hj, kills_append]
  simp [kills, List.getD, List.getElem?_eq_getElem hj]
theorem filter_take (hj : j < (ksR R cl).length) {p : Int → Bool} : ((ksR R cl).take (j + 1)).filter p = ((ksR R cl).take j).filter p ++ if p ((ksR R cl).getD j 0) = true then [(ksR R cl).getD j 0] else [] := by
  rw [List.take_succ_eq_append_getElem hj, List.filter_append]
  congr 1
  simp [List.filter_cons, List.getD, List.getElem?_eq_getElem hj]
theorem dead_take (hf1 : ∀ x ∈ (ksR R cl).take j, x ≠ 1) (h : ¬ (ksR R cl).getD j 0 ∈ (ksR R cl).take j) : dead (kills (remI R cl) ((ksR R cl).take j)) ((ksR R cl).getD j 0) = dead (remI R cl) ((ksR R cl).getD j 0) := dead_kills hf1 h
theorem ks_one {x : Int} (hx : x ∈ (ksR R cl).take j) : x ≠ 1 := fun e => one_not_id (e ▸ ks_mem.1 (List.mem_of_mem_take hx))
theorem uses_node {k : Int} {c : List ST} {x : Nd} (hT : TI s R) (hg : getR R k = some c) (hx : lkp s.nodes k = some x) : x.uses = (uses R c : Int) := by
  obtain ⟨y, h1, h2⟩ := hT.at hg
  rw [hx] at h1
  rw [Option.some.inj h1]; exact congrArg PN.uses h2
theorem StS.del {G : Ghost} {l : List (Int × Nd)} {ls ls' k : Int} (h : StS G ⟨l, ls⟩) : StS G ⟨mdel l k, ls'⟩ := fun q hq => by
  have : ∀ {l : List (Int × Nd)}, q ∈ mdel l k → q ∈ l := by
    intro l
    induction l with
    | nil => intro h; cases h
    | cons p t ih =>
      intro h
      rw [mdel] at h
      split at h
      · exact List.mem_cons_of_mem _ h
      · rcases List.mem_cons.1 h with rfl | h
        · simp
        · exact List.mem_cons_of_mem _ (ih h)
  exact h q (this hq)
end
end Go.Gx.T16

/- Walks: what Go functions of this chapter come to, each as a function on plain data; no condition but those that each theorem names. Printed by a program of this work (gen.py). -/
namespace Go.Proofs.Ytdkfdncbldngdaa
open Go.Gx Go.Gx.T16 Go.Gx.T8 Go.Gx.T6 Go.Gx.T4 Go.Gx.T3 Go.Gx.T8 Go.Gx.T4 Go.Gx.T3 Go.Gx.T8 Go.Gx.T6 Go.Gx.T4 Go.Gx.T3

end Go.Proofs.Ytdkfdncbldngdaa

/- Walks: what Go functions of this chapter come to, each as a function on plain data; no condition but those that each theorem names. Printed by a program of this work (gen.py). -/
namespace Go.Proofs.Ytdkfdncbldngdaa
open Go.Gx Go.Gx.T16 Go.Gx.T8 Go.Gx.T6 Go.Gx.T4 Go.Gx.T3 Go.Gx.T8 Go.Gx.T4 Go.Gx.T3 Go.Gx.T8 Go.Gx.T6 Go.Gx.T4 Go.Gx.T3
theorem cl44 : Callable Try.prog 44 := callable Try.func44 (by kernel_rfl) rfl
theorem cl45 : Callable Try.prog 45 := callable Try.func45 (by kernel_rfl) rfl
theorem revI : Rev1C Try.prog 44 kI := fun blk cap zs w hH hsz => Try.slices_Reverse_int blk 0 cap zs w hH hsz
theorem revI0 : Rev1N Try.prog 44 := fun p cap w => Try.slices_Reverse_int_empty p cap w
set_option maxHeartbeats 2000000 in
theorem c_kremY {F : Nat → Prop} {G : Ghost} (p : Nat) (v : Value) (cl : List ST) (R : RT) (s : KS Nd) (hT : TI s R) (hS : StS G s) (hs : Ss G v cl) (hsz : sszL cl ≤ 1000) (hU : Used R) (hth : there R cl = true) (hcap : R.lists.length ≤ 3000 ∧ R.its.length ≤ 4000) (w : World) (hG : Has G w) (hA : (trE (nkD 71 3) 74 p (s)).holds w F) (hFG : ∀ b, F b → G b = none) :
    Calls Try.prog 22 #[Value.pointer (some ⟨p, 0, none⟩), v] w (Ret fun r w' => ∃ G' s', GNew w F G G' ∧ Has G' w' ∧ ((∃ v, r = Value.tuple #[v, Value.int .i64 0] ∧ SlL G' v 1 cI (0 : Int) (goneR R cl)) ∧ TI s' (remR R cl) ∧ StS G' s') ∧ KeptG (trE (nkD 71 3) 74 p (s')) F G' w w') := by
 refine enterO (args := [_, _]) (G := G) (A := trE (nkD 71 3) 74 p (s)) (l := [(0, Value.pointer (some ⟨p, 0, none⟩)), (1, v)]) Try.func22 rfl Try.ntmps22 hG hA hFG ⟨rfl, rfl, trivial⟩ (Nat.le_of_ble_eq_true rfl) ?_
 have hfd := there_found hT hth
 obtain ⟨hf0, hend⟩ := (there_iff hT).1 hth
 obtain ⟨xe, hxe, _⟩ := hT.at (find_some hT.clo.ne hf0)
 have he0 := hend xe hxe
 have hbe := hT.bound (m := 3000) hcap.1 hxe
 have hcl : (schains [] cl).length ≤ 1000 := Nat.le_trans (schains_len cl []) hsz
 refine c_seq (c_region (r_val .none rfl (p_assign rfl) (r_val .none rfl (p_assign rfl) (r_nil ?_))))
 refine e_next (c_seq (c_region (r_val .none rfl (p_move rfl) (r_val .none rfl (p_move rfl) ?_))))
 refine r_callo (k := 0) (vs := [_, _]) .none rfl cl18 rfl rfl (fun w F hw hA hFG => trie_see0 (R := fun r => r = Value.int .i64 (find R cl)) (fun l G' F' hl hle hn9 hG hA hF => c_kfind p _ cl l _ R (seen_of hT.kc hS hl hn9 hle) (hs.mono hle) w hG hA hF) hw hA hFG) ?_
 refine r_val .none rfl (p_assign rfl) (r_nil (e_next (c_seq (c_seq ?_))))
 refine c_region (r_val .none rfl (p_move rfl) ?_)
 refine r_val .none rfl (p_eq rfl rfl) ?_
 refine r_val .none rfl (p_move rfl) ?_
 refine r_splitd (d := 21) rfl (fun h_1 => ?_) (fun h_1 => ?_)
 · (
 have hx : False := absurd h_1 hf0
 exact hx.elim)
 · (
 first
 | (exfalso; first | omega)
 | (
 refine r_unex (fun l => ?_)
 refine r_unand (fun hl => ?_)
 refine r_unpack ?_
 refine r_openK (fun z => ?_)
 dsimp only [trC] at hl ⊢
 obtain ⟨bxe, kve, ove, hNe⟩ := eraK_some (by rw [← hl]; exact hxe)
 refine r_val (.some rfl rfl) rfl (p_move rfl) ?_
 refine r_val (.some rfl rfl) rfl (p_nilcheck rfl) ?_
 refine r_val (.some rfl rfl) rfl (p_field Try.underlying74 rfl sz72 rfl) ?_
 refine r_val (.some rfl rfl) rfl (p_ld (k := 0) Try.underlying72 rfl rfl rfl (by first | exact odt rfl | omega) (rfl : _ = Value.map _)) ?_
 refine r_val (.some rfl rfl) rfl (p_move rfl) ?_
 refine r_val (.some rfl rfl) rfl (p_lookup_yes (i := 1) Try.underlying72 (KeyT.int Try.underlying3) zr69 rfl rfl rfl hNe) ?_
 refine r_front (k := 2) rfl ?_
 refine r_fnd hNe ?_
 refine r_val (.some rfl rfl) rfl (p_nilcheck rfl) ?_
 refine r_val (.some rfl rfl) rfl (p_field Try.underlying71 rfl sz3 rfl) ?_
 refine r_val (.some rfl rfl) rfl (p_ld (k := 0) Try.underlying3 rfl rfl rfl (by first | exact odt rfl | omega) (rfl : _ = Value.int _ _)) ?_
 refine r_val (.some rfl rfl) rfl (p_eq rfl rfl) ?_
 refine r_val .none rfl (p_pick_f rfl rfl) ?_
 refine r_nil (e_next ?_)
 refine c_splitd (d := 32) rfl (fun h_2 => ?_) (fun h_2 => ?_)
 · (
 have hx : False := absurd h_2 he0
 exact hx.elim)
 · (
 first
 | (exfalso; first | omega)
 | (
 refine c_cond_f rfl (c_skip (e_next (c_seq (c_region ?_))))
 refine r_val .none rfl (p_assign rfl) (r_nil (e_next (c_seq (c_seq ?_))))
 refine c_region ?_
 refine r_front (k := 3) rfl ?_
 refine r_front (k := 3) rfl ?_
 refine r_front (k := 3) rfl ?_
 refine r_front (k := 3) rfl ?_
 refine r_conv (B := box bxe 13 71 (at_ (ndC xe kve ove))) (k := 0) rfl (fun _ _ h => box_congr (fun i hi => by match i, hi with | 0, _ => rfl | 1, _ => rfl | 2, _ => rfl | 3, _ => rfl | 4, _ => rfl | 5, _ => rfl | 6, _ => rfl | 7, _ => rfl | 8, _ => rfl | 9, _ => rfl | 10, _ => rfl | 11, _ => rfl | 12, _ => rfl) _ _ h) ?_
 dsimp only [List.set_cons_zero]
 refine r_ndBack (x := xe) hNe ?_
 rw [mput_same hNe]
 refine r_front (k := 2) rfl ?_
 refine r_front (k := 2) rfl ?_
 refine r_conv (B := box p 2 74 (at_ (trC (KS.mk l s.last) z))) (k := 0) rfl (fun _ _ h => box_congr (fun i hi => by match i, hi with | 0, _ => rfl | 1, _ => rfl) _ _ h) ?_
 dsimp only [List.set_cons_zero]
 refine r_shutE (E := 3) (n := s.nodes) (l := l) z hl ?_
 refine r_val .none rfl (p_move rfl) ?_
 refine r_callm (vs := [_]) .none rfl cl32 rfl (fun w hw => c_chainsS _ _ hsz hs w hw) (fun G_3 v_6 hn_4 hr_5 => ?_)
 replace hs := hs.mono hn_4.le
 replace hS := hS.mono hn_4.le
 obtain ⟨qs, hq, hqp, hql⟩ := hr_5
 have hqn : (schains [] cl).length = qs.length := by rw [hql, List.length_map]
 refine r_val .none rfl (p_leng Try.underlying41 rfl hq) ?_
 have bd_8 := (hq).bound
 refine r_val .none rfl (p_move rfl) (r_nil (e_next (c_block ?_)))
 refine c_nilrow 3 1 ?_
 refine c_name (d := 0) rfl (fun u_9 hu_9 => ?_)
 refine c_name (d := 4) rfl (fun u_10 hu_10 => ?_)
 refine c_name (d := 5) rfl (fun u_11 hu_11 => ?_)
 refine c_name (d := 6) rfl (fun u_12 hu_12 => ?_)
 refine c_name (d := 34) rfl (fun u_13 hu_13 => ?_)
 refine c_name (d := 35) rfl (fun u_14 hu_14 => ?_)
 refine c_nameL (k := 1) rfl (fun A_15 hA_15 => ?_)
 refine c_loop (σ := Nat × Value) (fun s' => [(36, Value.int .i64 (s'.1 : Nat)), (7, s'.2), (0, u_9), (4, u_10), (5, u_11), (6, u_12), (34, u_13), (35, u_14)]) (fun s' => [rowA (s'.2) 3 1 ((((schains [] cl).take s'.1).map (find R))).length (((((schains [] cl).take s'.1).map (find R))).flatMap cI), A_15]) (fun _ => _) (fun s' => s'.1 ≤ qs.length) (fun s' => qs.length - s'.1) ((0, _)) (Nat.zero_le _) rfl ⟨rfl, rfl, rfl, rfl, rfl, rfl, rfl, rfl, trivial⟩ (.keep (fun _ _ h => rowA_nil (by simp) _ _ h) (.keep (fun _ _ h => h) (.nil))) (fun s' hphi => ?_)
 subst hu_9
 subst hu_10
 subst hu_11
 subst hu_12
 subst hu_13
 subst hu_14
 subst hA_15
 obtain ⟨k, ov⟩ := s'
 dsimp only at hphi ⊢
 refine c_seq (c_region ?_)
 refine r_val .none rfl (p_lt rfl rfl) ?_
 refine r_nil (e_next (c_seq ?_))
 refine c_splitd (d := 37) rfl (fun h_16 => ?_) (fun h_16 => ?_)
 · (
 first
 | (exfalso; first | omega)
 | (
 refine c_cond_t rfl (c_skip (e_next (c_seq (c_block ?_))))
 refine c_seq (c_region ?_)
 refine r_iaddr_g .none rfl Try.underlying41 sz35 rfl hq rfl (by first | exact odt rfl | omega) (fun p_18 o_19 R_17 => ?_)
 have hc_20 := hqp _ (getD_mem (i := k) (d := es6) (by omega))
 refine r_val .none rfl (p_ldg0 Try.underlying35 rfl rfl R_17 (by first | exact odt rfl | omega) rfl) ?_
 refine r_val .none rfl (p_assign rfl) (r_nil (e_next (c_region (r_val .none rfl (p_move rfl) ?_))))
 refine r_val .none rfl (p_move rfl) (r_val .none rfl (p_move rfl) ?_)
 refine r_callo (k := 1) (vs := [_, _]) .none rfl cl18 rfl rfl (fun w F hw hA hFG => trie_see0 (R := fun r => r = Value.int .i64 (find R (qs.getD k es6).1)) (fun l G' F' hl hle hn9 hG hA hF => c_kfind p _ (qs.getD k es6).1 l _ R (seen_of hT.kc hS hl hn9 hle) (hc_20.mono hle) w hG hA hF) hw hA hFG) ?_
 refine r_bslice (vs := [(0, Value.int _ _)]) (c := #[_]) .none rfl Try.underlying33 el3 rfl rfl rfl (bs3_10i2 _ _) (IsRow.lit _) (fun b_1 => ?_)
 refine r_append (k := 1) (k2 := 0) .none rfl Try.underlying33 el3 rfl (by decide) rfl rfl rfl rfl rfl (one_lit rfl rfl) (by simp only [maxLen]; rw [List.length_map, List.length_take]; omega) (by rw [List.length_map, List.length_take]; omega) (fun v_21 => ?_)
 refine r_row1 (k := 1) rfl (fun o_22 => ?_)
 refine r_val .none rfl (p_assign rfl) (r_nil ?_)
 refine e_norm_block ?_
 refine e_next (c_region ?_)
 refine r_val .none rfl (p_add rfl rfl (by omega)) ?_
 refine r_val .none rfl (p_move rfl) (r_nil ?_)
 refine e_round ((k + 1, _)) ⟨by dsimp only; omega, by dsimp only; omega⟩ rfl ⟨rfl, rfl, rfl, rfl, rfl, rfl, rfl, rfl, trivial⟩ (.drop (.keep (fun _ _ h => rowA_snoc (l := (((schains [] cl).take k).map (find R))) (x := find R (qs.getD k es6).1) (by rw [List.take_succ_eq_append_getElem (by omega), List.map_append]; simp [hql, List.getD, List.getElem?_eq_getElem (show k < qs.length by omega)]) rfl rfl rfl _ _ h) (.keep (fun _ _ h => h) (.nil))))))
 · (
 first
 | (exfalso; first | omega)
 | (
 refine c_cond_f rfl (c_exit (e_exit_then (e_exit_then ?_)))
 refine e_exit_block ?_
 refine e_next (c_seq (c_region ?_))
 refine r_front (k := 1) rfl ?_
 refine r_unex (fun l => ?_)
 refine r_unand (fun hl => ?_)
 refine r_unpack ?_
 refine r_openK (fun z => ?_)
 dsimp only [trC] at hl ⊢
 obtain ⟨bxe, kve, ove, hNe⟩ := eraK_some (by rw [← hl]; exact hxe)
 refine r_val .none rfl (p_move rfl) ?_
 refine r_val .none rfl (p_nilcheck rfl) ?_
 refine r_val .none rfl (p_field Try.underlying74 rfl sz72 rfl) ?_
 refine r_val .none rfl (p_ld (k := 0) Try.underlying72 rfl rfl rfl (by first | exact odt rfl | omega) (rfl : _ = Value.map _)) ?_
 refine r_val .none rfl (p_move rfl) ?_
 refine r_val .none rfl (p_lookup_yes (i := 1) Try.underlying72 (KeyT.int Try.underlying3) zr69 rfl rfl rfl hNe) ?_
 refine r_front (k := 2) rfl ?_
 refine r_fnd hNe ?_
 refine r_val .none rfl (p_nilcheck rfl) ?_
 refine r_val .none rfl (p_field Try.underlying71 rfl sz3 rfl) ?_
 refine r_val .none rfl (p_ld (k := 0) Try.underlying3 rfl rfl rfl (by first | exact odt rfl | omega) (rfl : _ = Value.int _ _)) ?_
 refine r_val .none rfl (p_sub rfl rfl (by omega)) ?_
 refine r_val .none rfl (p_nilcheck rfl) ?_
 refine r_val .none rfl (p_field Try.underlying71 rfl sz3 rfl) ?_
 refine r_st (k := 0) .none sz3 rfl rfl rfl rfl (by first | exact odt rfl | omega) ?_
 refine r_front (k := 3) rfl ?_
 refine r_front (k := 3) rfl ?_
 refine r_front (k := 3) rfl ?_
 refine r_front (k := 3) rfl ?_
 refine r_conv (B := box bxe 13 71 (at_ (ndC { xe with ends := xe.ends - 1 } kve ove))) (k := 0) rfl (fun _ _ h => box_congr (fun i hi => by match i, hi with | 0, _ => rfl | 1, _ => rfl | 2, _ => rfl | 3, _ => rfl | 4, _ => rfl | 5, _ => rfl | 6, _ => rfl | 7, _ => rfl | 8, _ => rfl | 9, _ => rfl | 10, _ => rfl | 11, _ => rfl | 12, _ => rfl) _ _ h) ?_
 dsimp only [List.set_cons_zero]
 refine r_ndBack (x := { xe with ends := xe.ends - 1 }) hNe ?_
 refine r_conv (B := mapA z kI veN2 (mput l (find R cl) (bxe, kve, ove, { xe with ends := xe.ends - 1 }))) (k := 2) rfl (fun _ _ h => mapA_retell (v := (bxe, kve, ove, { xe with ends := xe.ends - 1 })) hNe rfl h) ?_
 dsimp only [List.set_cons_zero, List.set_cons_succ]
 refine r_nil (e_next (c_seq (c_region ?_)))
 have hl1 : eraK (mput l (find R cl) (bxe, kve, ove, { xe with ends := xe.ends - 1 })) = (mput s.nodes (find R cl) { xe with ends := xe.ends - 1 }) := by rw [eraK_mput, ← hl]
 obtain ⟨x10, hx10, _⟩ := hT.at (id := 1) (c := []) rfl
 have hb1 := hT.bound (m := 3000) hcap.1 hx10
 obtain ⟨x1, hx1, hu1⟩ : ∃ y, lkp (mput s.nodes (find R cl) { xe with ends := xe.ends - 1 }) 1 = some y ∧ y.uses = x10.uses := by rw [lkp_mput]; split; (rename_i h9; rw [h9, hx10] at hxe; exact ⟨_, rfl, by rw [← Option.some.inj hxe]⟩); exact ⟨_, hx10, rfl⟩
 obtain ⟨bx1, kv1, ov1, hN1⟩ := eraK_some (by rw [hl1]; exact hx1)
 refine r_val .none rfl (p_move rfl) ?_
 refine r_val .none rfl (p_nilcheck rfl) ?_
 refine r_val .none rfl (p_field Try.underlying74 rfl sz72 rfl) ?_
 refine r_val .none rfl (p_ld (k := 1) Try.underlying72 rfl rfl rfl (by first | exact odt rfl | omega) (rfl : _ = Value.map _)) ?_
 refine r_val .none rfl (p_lookup_yes (i := 2) Try.underlying72 (KeyT.int Try.underlying3) zr69 rfl rfl rfl hN1) ?_
 refine r_fnd hN1 ?_
 refine r_val .none rfl (p_nilcheck rfl) ?_
 refine r_val .none rfl (p_field Try.underlying71 rfl sz3 rfl) ?_
 refine r_val .none rfl (p_ld (k := 0) Try.underlying3 rfl rfl rfl (by first | exact odt rfl | omega) (rfl : _ = Value.int _ _)) ?_
 refine r_val .none rfl (p_sub rfl rfl (by omega)) ?_
 refine r_val .none rfl (p_nilcheck rfl) ?_
 refine r_val .none rfl (p_field Try.underlying71 rfl sz3 rfl) ?_
 refine r_st (k := 0) .none sz3 rfl rfl rfl rfl (by first | exact odt rfl | omega) ?_
 refine r_front (k := 3) rfl ?_
 refine r_front (k := 3) rfl ?_
 refine r_front (k := 3) rfl ?_
 refine r_front (k := 3) rfl ?_
 refine r_conv (B := box bx1 13 71 (at_ (ndC { x1 with uses := x1.uses - 1 } kv1 ov1))) (k := 0) rfl (fun _ _ h => box_congr (fun i hi => by match i, hi with | 0, _ => rfl | 1, _ => rfl | 2, _ => rfl | 3, _ => rfl | 4, _ => rfl | 5, _ => rfl | 6, _ => rfl | 7, _ => rfl | 8, _ => rfl | 9, _ => rfl | 10, _ => rfl | 11, _ => rfl | 12, _ => rfl) _ _ h) ?_
 dsimp only [List.set_cons_zero]
 refine r_ndBack (x := { x1 with uses := x1.uses - 1 }) hN1 ?_
 refine r_conv (B := mapA z kI veN2 (mput (mput l (find R cl) (bxe, kve, ove, { xe with ends := xe.ends - 1 })) 1 (bx1, kv1, ov1, { x1 with uses := x1.uses - 1 }))) (k := 2) rfl (fun _ _ h => mapA_retell (v := (bx1, kv1, ov1, { x1 with uses := x1.uses - 1 })) hN1 rfl h) ?_
 dsimp only [List.set_cons_zero, List.set_cons_succ]
 refine r_nil (e_next (c_seq (c_region (r_val .none rfl (p_move rfl) ?_))))
 refine r_val .none rfl (p_move rfl) ?_
 have hin2 : ∀ k ∈ idsR R cl, lkp (mput (mput s.nodes (find R cl) { xe with ends := xe.ends - 1 }) 1 { x1 with uses := x1.uses - 1 }) k ≠ none := fun k hk => by (have h9 := ids_in hT hfd k hk; rw [lkp_mput]; split; simp; rw [lkp_mput]; split; simp; exact h9)
 have hub2 : ∀ k y, lkp (mput (mput s.nodes (find R cl) { xe with ends := xe.ends - 1 }) 1 { x1 with uses := x1.uses - 1 }) k = some y → -5000 ≤ y.uses ∧ y.uses ≤ 5000 := fun k y hy => by (rw [lkp_mput] at hy; split at hy; (rw [← Option.some.inj hy]; show -5000 ≤ x1.uses - 1 ∧ x1.uses - 1 ≤ 5000; omega); rw [lkp_mput] at hy; split at hy; (rw [← Option.some.inj hy]; show -5000 ≤ xe.uses ∧ xe.uses ≤ 5000; omega); have := hT.bound (m := 3000) hcap.1 hy; omega)
 have hil2 : (idsR R cl).length ≤ 1000 := by rw [List.length_map]; exact hcl
 have hTd := dec_TI hT hth hxe hx1
 have hol : (Go.Gx.Set.once (idsR R cl)).length ≤ 1000 := Nat.le_trans (compact_le _) (by rw [List.length_mergeSort]; exact hil2)
 have hkl : (ksR R cl).length ≤ 1000 := by rw [List.length_reverse]; exact hol
 have hSd : StS G_3 ⟨useL (-1) (Go.Gx.Set.once (idsR R cl)) (mput (mput s.nodes (find R cl) { xe with ends := xe.ends - 1 }) 1 { x1 with uses := x1.uses - 1 }), s.last⟩ := StS.use (-1) (StS.put (ls := s.last) (StS.put (ls := s.last) hS (show StAt G_3 xe.st from hS.get hxe)) (show StAt G_3 x1.st from StS.get (s := ⟨(mput s.nodes (find R cl) { xe with ends := xe.ends - 1 }), s.last⟩) (StS.put (ls := s.last) hS (show StAt G_3 xe.st from hS.get hxe)) hx1))
 refine r_front (k := 2) rfl ?_
 refine r_front (k := 2) rfl ?_
 refine r_conv (B := box p 2 74 (at_ (trC (KS.mk (mput (mput l (find R cl) (bxe, kve, ove, { xe with ends := xe.ends - 1 })) 1 (bx1, kv1, ov1, { x1 with uses := x1.uses - 1 })) s.last) z))) (k := 0) rfl (fun _ _ h => box_congr (fun i hi => by match i, hi with | 0, _ => rfl | 1, _ => rfl) _ _ h) ?_
 dsimp only [List.set_cons_zero]
 refine r_shutE (E := 3) (n := (mput (mput s.nodes (find R cl) { xe with ends := xe.ends - 1 }) 1 { x1 with uses := x1.uses - 1 })) (l := (mput (mput l (find R cl) (bxe, kve, ove, { xe with ends := xe.ends - 1 })) 1 (bx1, kv1, ov1, { x1 with uses := x1.uses - 1 }))) z (show (mput (mput s.nodes (find R cl) { xe with ends := xe.ends - 1 }) 1 { x1 with uses := x1.uses - 1 }) = eraK (mput (mput l (find R cl) (bxe, kve, ove, { xe with ends := xe.ends - 1 })) 1 (bx1, kv1, ov1, { x1 with uses := x1.uses - 1 })) by rw [eraK_mput, hl1]) ?_
 refine r_front (k := 1) rfl ?_
 refine r_conv (B := rowA ov 3 1 (idsR R cl).length ((idsR R cl).flatMap cI)) (k := 0) rfl (fun _ _ h => rowA_congr (by rw [List.take_of_length_le (by omega)]) (by rw [List.take_of_length_le (by omega)]) _ _ h) ?_
 dsimp only [List.set_cons_zero]
 refine r_pack [_, _] ?_
 refine r_callo (k := 0) (vs := [_, _, _]) .none rfl cl35 rfl rfl (fun w F hw hA hFG => with_row (R := fun r => r = Value.tuple #[]) (fun G' F' hle hsl hG hA hF => c_kuse p _ (idsR R cl) (-1) ⟨(mput (mput s.nodes (find R cl) { xe with ends := xe.ends - 1 }) 1 { x1 with uses := x1.uses - 1 }), s.last⟩ (SlL.of (cells := cI) (0 : Int) (fun _ => rfl) rfl hsl) hin2 (by omega) hub2 hil2 w hG hA hF) hw hA hFG) ?_
 refine r_unpack ?_
 refine r_nil (e_next (c_seq (c_region (r_val .none rfl (p_move rfl) ?_))))
 refine r_sort (k := 0) (zs := _) .none rfl cl42 rfl rfl sortC sortN (by omega) ?_
 refine r_nil (e_next (c_seq (c_region (r_val .none rfl (p_move rfl) ?_))))
 refine r_compact (k := 0) .none rfl cl43 rfl rfl compC compN (compact_le _) (fun v_23 => ?_)
 refine r_conv (B := rowA v_23 3 1 (Go.Gx.Set.once (idsR R cl)).length ((Go.Gx.Set.once (idsR R cl)).flatMap cI)) (k := 0) rfl (fun _ _ h => h) ?_
 dsimp only [List.set_cons_zero, List.set_cons_succ]
 refine r_val .none rfl (p_assign rfl) (r_nil (e_next (c_seq (c_region ?_))))
 refine r_val .none rfl (p_move rfl) ?_
 refine r_rev1 (k := 0) (zs := Go.Gx.Set.once (idsR R cl)) (enc := kI) .none rfl cl44 rfl rfl revI revI0 (by omega) ?_
 refine r_conv (B := rowA v_23 3 1 (ksR R cl).length ((ksR R cl).flatMap cI)) (k := 0) rfl (fun _ _ h => h) ?_
 dsimp only [List.set_cons_zero, List.set_cons_succ]
 refine r_nil (e_next (c_seq (c_region (r_val .none rfl (p_assign rfl) ?_))))
 refine r_nil (e_next (c_seq (c_seq (c_region ?_))))
 refine r_val .none rfl (p_move rfl) ?_
 refine r_val .none rfl (p_leno (k := 0) Try.underlying33 rfl rfl) ?_
 refine r_val .none rfl (p_move rfl) (r_nil (e_next (c_block ?_)))
 refine c_nilrow 3 1 ?_
 refine c_name (d := 0) rfl (fun u_24 hu_24 => ?_)
 refine c_name (d := 4) rfl (fun u_25 hu_25 => ?_)
 refine c_name (d := 5) rfl (fun u_26 hu_26 => ?_)
 refine c_name (d := 79) rfl (fun u_27 hu_27 => ?_)
 refine c_name (d := 80) rfl (fun u_28 hu_28 => ?_)
 refine c_nameL (k := 1) rfl (fun A_29 hA_29 => ?_)
 refine c_loop (σ := Nat × Value × KS Nd) (fun s' => [(81, Value.int .i64 (s'.1 : Nat)), (10, s'.2.1), (0, u_24), (4, u_25), (5, u_26), (79, u_27), (80, u_28)]) (fun s' => [rowA (s'.2.1) 3 1 ((((ksR R cl).take s'.1).filter (dead (remI R cl)))).length (((((ksR R cl).take s'.1).filter (dead (remI R cl)))).flatMap cI), A_29, trE (nkD 71 3) 74 p (s'.2.2)]) (fun _ => _) (fun s' => s'.1 ≤ (ksR R cl).length ∧ TI s'.2.2 (kills (remI R cl) ((ksR R cl).take s'.1)) ∧ StS G_3 s'.2.2 ∧ Going (kills (remI R cl) ((ksR R cl).take s'.1)) ((ksR R cl).drop s'.1)) (fun s' => (ksR R cl).length - s'.1) ((0, _, ⟨useL (-1) (Go.Gx.Set.once (idsR R cl)) (mput (mput s.nodes (find R cl) { xe with ends := xe.ends - 1 }) 1 { x1 with uses := x1.uses - 1 }), s.last⟩)) ⟨Nat.zero_le _, hTd, hSd, rem_going hT.clo hU hth hfd⟩ rfl ⟨rfl, rfl, rfl, rfl, rfl, rfl, rfl, trivial⟩ (.keep (fun _ _ h => rowA_nil (by simp) _ _ h) (.keep (fun _ _ h => h) (.keep (fun _ _ h => h) (.nil)))) (fun s' hphi => ?_)
 subst hu_24
 subst hu_25
 subst hu_26
 subst hu_27
 subst hu_28
 subst hA_29
 obtain ⟨j, gv, s2⟩ := s'
 obtain ⟨hj, hT2, hS2, hGo⟩ := hphi
 dsimp only at hj hT2 hS2 hGo ⊢
 refine c_seq (c_region ?_)
 refine r_val .none rfl (p_lt rfl rfl) ?_
 refine r_nil (e_next (c_seq ?_))
 refine c_splitd (d := 82) rfl (fun h_30 => ?_) (fun h_30 => ?_)
 · (
 first
 | (exfalso; first | omega)
 | (
 refine c_cond_t rfl (c_skip (e_next (c_seq (c_block ?_))))
 refine c_seq (c_region ?_)
 refine r_iaddr_o (k := 1) .none rfl Try.underlying33 sz3 rfl rfl rfl (by first | exact odt rfl | omega) (fun p_31 c_32 hv_33 => ?_)
 refine r_val .none rfl (p_ldo0 (k := 1) Try.underlying3 rfl rfl hv_33 rfl (by first | exact odt rfl | omega) (by first | exact odt rfl | omega) ((flatMap_get (cells := cI) (fun _ => rfl) (0 : Int) _ _ _ (by first | exact odt rfl | omega) (by first | exact odt rfl | omega)).trans (rfl : _ = Value.int _ _))) ?_
 refine r_val .none rfl (p_assign rfl) (r_nil (e_next (c_seq (c_region ?_))))
 refine r_front (k := 2) rfl ?_
 refine r_unex (fun l => ?_)
 refine r_unand (fun hl => ?_)
 refine r_unpack ?_
 refine r_openK (fun z => ?_)
 dsimp only [trC] at hl ⊢
 obtain ⟨c9, hg0, hg9, hnot, hk1⟩ := ks_next hT.clo hfd (j := j) (by omega)
 obtain ⟨bx, kv, ov, x, hN, hNs, hxp⟩ := hT2.node hl hg9
 have hux := uses_node hT2 hg9 hNs
 refine r_val .none rfl (p_move rfl) ?_
 refine r_val .none rfl (p_nilcheck rfl) ?_
 refine r_val .none rfl (p_field Try.underlying74 rfl sz72 rfl) ?_
 refine r_val .none rfl (p_ld (k := 0) Try.underlying72 rfl rfl rfl (by first | exact odt rfl | omega) (rfl : _ = Value.map _)) ?_
 refine r_val .none rfl (p_move rfl) ?_
 refine r_val .none rfl (p_lookup_yes (i := 1) Try.underlying72 (KeyT.int Try.underlying3) zr69 rfl rfl rfl hN) ?_
 refine r_val .none rfl (p_assign rfl) (r_nil (e_next (c_seq (c_seq ?_))))
 refine c_region (r_val .none rfl (p_move rfl) ?_)
 refine r_front (k := 2) rfl ?_
 refine r_fnd hN ?_
 refine r_row1 (k := 1) rfl (fun okv => ?_)
 refine r_row1 (k := 2) rfl (fun oov => ?_)
 refine r_val .none rfl (p_nilcheck rfl) ?_
 refine r_val .none rfl (p_field Try.underlying71 rfl sz3 rfl) ?_
 refine r_val .none rfl (p_ld (k := 0) Try.underlying3 rfl rfl rfl (by first | exact odt rfl | omega) (rfl : _ = Value.int _ _)) ?_
 refine r_val .none rfl (p_gt rfl rfl) ?_
 refine r_nil (e_next ?_)
 refine c_splitd (d := 95) rfl (fun h_34 => ?_) (fun h_34 => ?_)
 · (
 have hst9 := h_34
 first
 | (exfalso; first | omega)
 | (
 refine c_cond_t rfl (c_exit (e_exit_then ?_))
 refine e_exit_block ?_
 refine e_next (c_region ?_)
 refine r_val .none rfl (p_add rfl rfl (by omega)) ?_
 refine r_val .none rfl (p_move rfl) (r_nil ?_)
 refine e_front (k := 3) rfl ?_
 refine e_front (k := 3) rfl ?_
 refine e_front (k := 3) rfl ?_
 refine e_front (k := 3) rfl ?_
 refine e_conv (B := box bx 13 71 (at_ (ndC x kv ov))) (k := 0) rfl (fun _ _ h => box_congr (fun i hi => by match i, hi with | 0, _ => rfl | 1, _ => rfl | 2, _ => rfl | 3, _ => rfl | 4, _ => rfl | 5, _ => rfl | 6, _ => rfl | 7, _ => rfl | 8, _ => rfl | 9, _ => rfl | 10, _ => rfl | 11, _ => rfl | 12, _ => rfl) _ _ h) ?_
 dsimp only [List.set_cons_zero]
 refine e_ndBack (x := x) hN ?_
 rw [mput_same hN]
 refine e_front (k := 2) rfl ?_
 refine e_front (k := 2) rfl ?_
 refine e_conv (B := box p 2 74 (at_ (trC (KS.mk l s2.last) z))) (k := 0) rfl (fun _ _ h => box_congr (fun i hi => by match i, hi with | 0, _ => rfl | 1, _ => rfl) _ _ h) ?_
 dsimp only [List.set_cons_zero]
 refine e_shutE (E := 3) (n := s2.nodes) (l := l) z hl ?_
 refine e_front (k := 2) rfl ?_
 refine e_front (k := 2) rfl ?_
 refine e_round ((j + 1, _, s2)) ⟨⟨by dsimp only; omega, by rw [kills_take (by omega), if_neg (by rw [dead_of hg9]; simp; omega)]; exact hT2, hS2, by rw [kills_take (by omega), if_neg (by rw [dead_of hg9]; simp; omega)]; exact going_skip (by rw [← kids_drop (by omega)]; exact hGo) (by rw [dead_of hg9]; simp; omega)⟩, by dsimp only; omega⟩ rfl ⟨rfl, rfl, rfl, rfl, rfl, rfl, rfl, trivial⟩ (.keep (fun _ _ h => by rw [filter_take (by omega), ← dead_take (fun x hx => ks_one hx) hnot, dead_of hg9, if_neg (by simp; omega), List.append_nil]; exact h) (.keep (fun _ _ h => h) (.keep (fun _ _ h => h) (.nil))))))
 · (
 have hd9 := h_34
 first
 | (exfalso; first | omega)
 | (
 refine c_cond_f rfl (c_skip (e_next (c_seq ?_)))
 refine c_region_q mixed (by kernel_rfl) ?_
 have hu9 : uses (kills (remI R cl) ((ksR R cl).take j)) c9 = 0 := by omega
 have hLf := going_leaf (t := (ksR R cl).drop (j + 1)) (by rw [← kids_drop (by omega)]; exact hGo) hg9 hu9
 have hpar := (leaf_par hT2 hLf hNs).1
 have hup9 := leaf_up hT2.clo hLf
 rw [← hpar] at hup9
 obtain ⟨xP, hxP, _⟩ := hT2.at (id := x.par) (c := c9.dropLast) (by rw [hpar]; exact find_some hT2.clo.ne (by rw [← hpar]; exact hup9.1))
 obtain ⟨bxP, kvP, ovP, hNP⟩ := eraK_some (by rw [← hl]; exact hxP)
 have hMP : lkp (mdel l ((ksR R cl).getD j 0)) x.par = some (bxP, kvP, ovP, xP) := by rw [lkp_mdel_ne (by omega)]; exact hNP
 have hpl : x.par ≠ ((ksR R cl).getD j 0) := by omega
 refine q_val .none rfl (p_move rfl) ?_
 refine q_val .none rfl (p_nilcheck rfl) ?_
 refine q_val .none rfl (p_field Try.underlying74 rfl sz72 rfl) ?_
 refine q_val .none rfl (p_ld (k := 4) Try.underlying72 rfl rfl rfl (by first | exact odt rfl | omega) (rfl : _ = Value.map _)) ?_
 refine q_val .none rfl (p_move rfl) ?_
 refine q_val .none rfl (p_nilcheck rfl) ?_
 refine q_val .none rfl (p_field Try.underlying71 rfl sz3 rfl) ?_
 refine q_val .none rfl (p_ld (k := 0) Try.underlying3 rfl rfl rfl (by first | exact odt rfl | omega) (rfl : _ = Value.int _ _)) ?_
 refine q_val .none rfl (p_lookup_yes (i := 5) Try.underlying72 (KeyT.int Try.underlying3) zr69 rfl rfl rfl hNP) ?_
 refine q_val .none rfl (p_assign rfl) ?_
 refine q_nil ?_
 refine e_next (c_seq (c_region ?_))
 refine r_front (k := 3) rfl ?_
 refine r_fnd hMP ?_
 refine r_row1 (k := 1) rfl (fun okvP => ?_)
 refine r_row1 (k := 2) rfl (fun oovP => ?_)
 refine r_val .none rfl (p_move rfl) (r_val .none rfl (p_move rfl) ?_)
 refine r_val .none rfl (p_nilcheck rfl) ?_
 refine r_val .none rfl (p_field Try.underlying71 rfl sz33 rfl) ?_
 refine r_val .none rfl (p_ld (k := 0) Try.underlying33 rfl rfl rfl (by first | exact odt rfl | omega) rfl) ?_
 refine r_val .none rfl (p_move rfl) ?_
 refine r_callor (k := 1) (vs := [_, _]) .none rfl cl45 rfl rfl (fun w F hw hA hFG => c_kwithout kvP xP.kids ((ksR R cl).getD j 0) w hw hA hFG) (fun r_35 => ?_)
 dsimp only [List.set_cons_zero, List.set_cons_succ]
 refine r_row1 (k := 1) rfl (fun o_36 => ?_)
 refine r_val .none rfl (p_nilcheck rfl) ?_
 refine r_val .none rfl (p_field Try.underlying71 rfl sz33 rfl) ?_
 refine r_st (k := 0) .none sz33 rfl rfl o_36 rfl (by first | exact odt rfl | omega) ?_
 refine r_front (k := 3) rfl ?_
 refine r_front (k := 3) rfl ?_
 refine r_front (k := 3) rfl ?_
 refine r_front (k := 3) rfl ?_
 refine r_conv (B := box bxP 13 71 (at_ (ndC (lessK xP ((ksR R cl).getD j 0)) r_35 ovP))) (k := 0) rfl (fun _ _ h => box_congr (fun i hi => by match i, hi with | 0, _ => rfl | 1, _ => rfl | 2, _ => rfl | 3, _ => rfl | 4, _ => rfl | 5, _ => rfl | 6, _ => rfl | 7, _ => rfl | 8, _ => rfl | 9, _ => rfl | 10, _ => rfl | 11, _ => rfl | 12, _ => rfl) _ _ h) ?_
 refine r_conv (B := rowA r_35 3 1 (lessK xP ((ksR R cl).getD j 0)).kids.length ((lessK xP ((ksR R cl).getD j 0)).kids.flatMap cI)) (k := 1) rfl (fun _ _ h => h) ?_
 dsimp only [List.set_cons_zero, List.set_cons_succ]
 refine r_ndBack (x := (lessK xP ((ksR R cl).getD j 0))) hMP ?_
 refine r_conv (B := mapA z kI veN2 (mput l x.par (bxP, r_35, ovP, (lessK xP ((ksR R cl).getD j 0))))) (k := 5) rfl (fun _ _ h => mapA_retell (v := (bxP, r_35, ovP, (lessK xP ((ksR R cl).getD j 0)))) hNP rfl h) ?_
 dsimp only [List.set_cons_zero, List.set_cons_succ]
 refine r_nil (e_next (c_seq (c_seq (c_region ?_))))
 refine r_val .none rfl (p_move rfl) ?_
 refine r_val .none rfl (p_nilcheck rfl) ?_
 refine r_val .none rfl (p_field Try.underlying71 rfl sz3 rfl) ?_
 refine r_val .none rfl (p_ld (k := 1) Try.underlying3 rfl rfl rfl (by first | exact odt rfl | omega) (rfl : _ = Value.int _ _)) ?_
 refine r_val .none rfl (p_gt rfl rfl) ?_
 refine r_nil (e_next ?_)
 refine c_splitd (d := 118) rfl (fun h_37 => ?_) (fun h_37 => ?_)
 · (
 have hinn : 0 < x.inn := h_37
 first
 | (exfalso; first | omega)
 | (
 refine c_cond_t rfl (c_seq ?_)
 refine c_region_q mixed (by kernel_rfl) ?_
 obtain ⟨e9, he9⟩ : ∃ e, innerOf c9 = some e := by (have h5 := (leaf_par hT2 hLf hNs).2; unfold inner at h5; cases h : innerOf c9 with | none => (rw [h] at h5; simp only at h5; omega) | some e => exact ⟨e, rfl⟩)
 have hinE : x.inn = find (kills (remI R cl) ((ksR R cl).take j)) e9 := by (have h5 := (leaf_par hT2 hLf hNs).2; unfold inner at h5; rw [he9] at h5; exact h5)
 have hin9 := leaf_inn hT2.clo hLf he9
 obtain ⟨xY0, hxY0, _⟩ := hT2.at (find_some hT2.clo.ne hin9.1)
 rw [← hinE] at hxY0 hin9
 obtain ⟨xY, hxY⟩ : ∃ y, lkp (mput s2.nodes x.par (lessK xP ((ksR R cl).getD j 0))) x.inn = some y := by rw [lkp_mput]; split; exact ⟨_, rfl⟩; exact ⟨_, hxY0⟩
 obtain ⟨bxY, kvY, ovY, hNY⟩ := eraK_some (show lkp (eraK (mput l x.par (bxP, r_35, ovP, (lessK xP ((ksR R cl).getD j 0))))) x.inn = some xY by rw [eraK_mput, ← hl]; exact hxY)
 have hMY : lkp (mput (mdel l ((ksR R cl).getD j 0)) x.par (bxP, r_35, ovP, (lessK xP ((ksR R cl).getD j 0)))) x.inn = some (bxY, kvY, ovY, xY) := by (have h9 := hNY; rw [lkp_mput] at h9 ⊢; split at h9; (rename_i e; rw [if_pos e]; exact h9); (rename_i e; rw [if_neg e, lkp_mdel_ne (by omega)]; exact h9))
 refine q_val .none rfl (p_move rfl) ?_
 refine q_val .none rfl (p_nilcheck rfl) ?_
 refine q_val .none rfl (p_field Try.underlying74 rfl sz72 rfl) ?_
 refine q_val .none rfl (p_ld (k := 4) Try.underlying72 rfl rfl rfl (by first | exact odt rfl | omega) (rfl : _ = Value.map _)) ?_
 refine q_val .none rfl (p_move rfl) ?_
 refine q_val .none rfl (p_nilcheck rfl) ?_
 refine q_val .none rfl (p_field Try.underlying71 rfl sz3 rfl) ?_
 refine q_val .none rfl (p_ld (k := 1) Try.underlying3 rfl rfl rfl (by first | exact odt rfl | omega) (rfl : _ = Value.int _ _)) ?_
 refine q_val .none rfl (p_lookup_yes (i := 5) Try.underlying72 (KeyT.int Try.underlying3) zr69 rfl rfl rfl hNY) ?_
 refine q_val .none rfl (p_assign rfl) ?_
 refine q_nil ?_
 refine e_next (c_region ?_)
 refine r_fnd hMY ?_
 refine r_row1 (k := 1) rfl (fun okvY => ?_)
 refine r_row1 (k := 2) rfl (fun oovY => ?_)
 refine r_val .none rfl (p_move rfl) (r_val .none rfl (p_move rfl) ?_)
 refine r_val .none rfl (p_nilcheck rfl) ?_
 refine r_val .none rfl (p_field Try.underlying71 rfl sz33 rfl) ?_
 refine r_val .none rfl (p_ld (k := 0) Try.underlying33 rfl rfl rfl (by first | exact odt rfl | omega) rfl) ?_
 refine r_val .none rfl (p_move rfl) ?_
 refine r_callor (k := 2) (vs := [_, _]) .none rfl cl45 rfl rfl (fun w F hw hA hFG => c_kwithout ovY xY.outer ((ksR R cl).getD j 0) w hw hA hFG) (fun r_38 => ?_)
 dsimp only [List.set_cons_zero, List.set_cons_succ]
 refine r_row1 (k := 2) rfl (fun o_39 => ?_)
 refine r_val .none rfl (p_nilcheck rfl) ?_
 refine r_val .none rfl (p_field Try.underlying71 rfl sz33 rfl) ?_
 refine r_st (k := 0) .none sz33 rfl rfl o_39 rfl (by first | exact odt rfl | omega) ?_
 refine r_front (k := 3) rfl ?_
 refine r_front (k := 3) rfl ?_
 refine r_front (k := 3) rfl ?_
 refine r_front (k := 3) rfl ?_
 refine r_conv (B := box bxY 13 71 (at_ (ndC (lessO xY ((ksR R cl).getD j 0)) kvY r_38))) (k := 0) rfl (fun _ _ h => box_congr (fun i hi => by match i, hi with | 0, _ => rfl | 1, _ => rfl | 2, _ => rfl | 3, _ => rfl | 4, _ => rfl | 5, _ => rfl | 6, _ => rfl | 7, _ => rfl | 8, _ => rfl | 9, _ => rfl | 10, _ => rfl | 11, _ => rfl | 12, _ => rfl) _ _ h) ?_
 refine r_conv (B := rowA r_38 3 1 (lessO xY ((ksR R cl).getD j 0)).outer.length ((lessO xY ((ksR R cl).getD j 0)).outer.flatMap cI)) (k := 2) rfl (fun _ _ h => h) ?_
 dsimp only [List.set_cons_zero, List.set_cons_succ]
 refine r_ndBack (x := (lessO xY ((ksR R cl).getD j 0))) hMY ?_
 refine r_conv (B := mapA z kI veN2 (mput (mput l x.par (bxP, r_35, ovP, (lessK xP ((ksR R cl).getD j 0)))) x.inn (bxY, kvY, r_38, (lessO xY ((ksR R cl).getD j 0))))) (k := 5) rfl (fun _ _ h => mapA_retell (v := (bxY, kvY, r_38, (lessO xY ((ksR R cl).getD j 0)))) hNY rfl h) ?_
 dsimp only [List.set_cons_zero, List.set_cons_succ]
 refine r_nil (e_next (c_seq (c_region (r_val .none rfl (p_move rfl) ?_))))
 refine r_val .none rfl (p_nilcheck rfl) ?_
 refine r_val .none rfl (p_field Try.underlying74 rfl sz72 rfl) ?_
 refine r_val .none rfl (p_ld (k := 4) Try.underlying72 rfl rfl rfl (by first | exact odt rfl | omega) (rfl : _ = Value.map _)) ?_
 refine r_val .none rfl (p_move rfl) ?_
 refine r_delete (i := 5) (k := ((ksR R cl).getD j 0)) .none Try.underlying72 (KeyT.int Try.underlying3) rfl rfl rfl rfl ?_
 refine r_nil (e_next (c_region (r_val .none rfl (p_move rfl) (r_val .none rfl (p_move rfl) ?_))))
 refine r_bslice (vs := [(0, Value.int _ _)]) (c := #[_]) .none rfl Try.underlying33 el3 rfl rfl rfl (bs3_10i2 _ _) (IsRow.lit _) (fun b_2 => ?_)
 refine r_append (k := 7) (k2 := 0) .none rfl Try.underlying33 el3 rfl (by decide) rfl rfl rfl rfl rfl (one_lit rfl rfl) (by simp only [maxLen]; have h9 := List.length_filter_le (dead (remI R cl)) ((ksR R cl).take j); rw [List.length_take] at h9; omega) (by have h9 := List.length_filter_le (dead (remI R cl)) ((ksR R cl).take j); rw [List.length_take] at h9; omega) (fun v_40 => ?_)
 refine r_row1 (k := 7) rfl (fun o_41 => ?_)
 refine r_val .none rfl (p_assign rfl) (r_nil ?_)
 refine e_norm_block ?_
 refine e_next (c_region ?_)
 refine r_val .none rfl (p_add rfl rfl (by omega)) ?_
 refine r_val .none rfl (p_move rfl) (r_nil ?_)
 have hmd : mdel (mput (mput l x.par (bxP, r_35, ovP, (lessK xP ((ksR R cl).getD j 0)))) x.inn (bxY, kvY, r_38, (lessO xY ((ksR R cl).getD j 0)))) ((ksR R cl).getD j 0) = (mput (mput (mdel l ((ksR R cl).getD j 0)) x.par (bxP, r_35, ovP, (lessK xP ((ksR R cl).getD j 0)))) x.inn (bxY, kvY, r_38, (lessO xY ((ksR R cl).getD j 0)))) := by rw [mdel_mput (by omega), mdel_mput (by omega)]
 refine e_conv (B := mapA z kI veN2 (mput (mput (mdel l ((ksR R cl).getD j 0)) x.par (bxP, r_35, ovP, (lessK xP ((ksR R cl).getD j 0)))) x.inn (bxY, kvY, r_38, (lessO xY ((ksR R cl).getD j 0))))) (k := 6) rfl (fun _ _ h => by rw [← hmd]; exact h) ?_
 dsimp only [List.set_cons_zero, List.set_cons_succ]
 have hle9 : (mdel (mput (mput s2.nodes x.par (lessK xP ((ksR R cl).getD j 0))) x.inn (lessO xY ((ksR R cl).getD j 0))) ((ksR R cl).getD j 0)) = eraK (mput (mput (mdel l ((ksR R cl).getD j 0)) x.par (bxP, r_35, ovP, (lessK xP ((ksR R cl).getD j 0)))) x.inn (bxY, kvY, r_38, (lessO xY ((ksR R cl).getD j 0)))) := by rw [← hmd, eraK_mdel, eraK_mput, eraK_mput, ← hl]
 refine e_front (k := 1) rfl ?_
 refine e_front (k := 6) rfl ?_
 refine e_front (k := 6) rfl ?_
 refine e_conv (B := box p 2 74 (at_ (trC (KS.mk (mput (mput (mdel l ((ksR R cl).getD j 0)) x.par (bxP, r_35, ovP, (lessK xP ((ksR R cl).getD j 0)))) x.inn (bxY, kvY, r_38, (lessO xY ((ksR R cl).getD j 0)))) s2.last) z))) (k := 0) rfl (fun _ _ h => box_congr (fun i hi => by match i, hi with | 0, _ => rfl | 1, _ => rfl) _ _ h) ?_
 dsimp only [List.set_cons_zero]
 refine e_shutE (E := 3) (n := (mdel (mput (mput s2.nodes x.par (lessK xP ((ksR R cl).getD j 0))) x.inn (lessO xY ((ksR R cl).getD j 0))) ((ksR R cl).getD j 0))) (l := (mput (mput (mdel l ((ksR R cl).getD j 0)) x.par (bxP, r_35, ovP, (lessK xP ((ksR R cl).getD j 0)))) x.inn (bxY, kvY, r_38, (lessO xY ((ksR R cl).getD j 0))))) z hle9 ?_
 refine e_front (k := 6) rfl ?_
 refine e_front (k := 6) rfl ?_
 refine e_round ((j + 1, _, ⟨(mdel (mput (mput s2.nodes x.par (lessK xP ((ksR R cl).getD j 0))) x.inn (lessO xY ((ksR R cl).getD j 0))) ((ksR R cl).getD j 0)), s2.last⟩)) ⟨⟨by dsimp only; omega, by rw [kills_take (by omega), if_pos (by rw [dead_of hg9, hu9]; rfl)]; exact del_TI1 hT2 hLf hNs hxP hinn hxY, StS.del (ls := s2.last) (StS.put (ls := s2.last) (StS.put (ls := s2.last) hS2 (show StAt _ xP.st from hS2.get hxP)) (show StAt _ xY.st from StS.get (s := ⟨_, s2.last⟩) (StS.put (ls := s2.last) (k := x.par) (x := (lessK xP ((ksR R cl).getD j 0))) hS2 (show StAt _ xP.st from hS2.get hxP)) hxY)), by rw [kills_take (by omega), if_pos (by rw [dead_of hg9, hu9]; rfl)]; exact going_kill (t := (ksR R cl).drop (j + 1)) (by rw [← kids_drop (by omega)]; exact hGo) hg9 hu9⟩, by dsimp only; omega⟩ rfl ⟨rfl, rfl, rfl, rfl, rfl, rfl, rfl, trivial⟩ (.keep (fun _ _ h => rowA_snoc (by rw [filter_take (by omega), ← dead_take (fun x hx => ks_one hx) hnot, dead_of hg9, hu9]; rfl) rfl rfl rfl _ _ h) (.keep (fun _ _ h => h) (.keep (fun _ _ h => h) (.drop (.drop (.drop (.drop (.nil))))))))))
 · (
 have hinn : ¬ 0 < x.inn := h_37
 first
 | (exfalso; first | omega)
 | (
 refine c_cond_f rfl (c_skip (e_next (c_seq (c_region ?_))))
 refine r_val .none rfl (p_move rfl) ?_
 refine r_val .none rfl (p_nilcheck rfl) ?_
 refine r_val .none rfl (p_field Try.underlying74 rfl sz72 rfl) ?_
 refine r_val .none rfl (p_ld (k := 4) Try.underlying72 rfl rfl rfl (by first | exact odt rfl | omega) (rfl : _ = Value.map _)) ?_
 refine r_val .none rfl (p_move rfl) ?_
 refine r_delete (i := 5) (k := ((ksR R cl).getD j 0)) .none Try.underlying72 (KeyT.int Try.underlying3) rfl rfl rfl rfl ?_
 refine r_nil (e_next (c_region (r_val .none rfl (p_move rfl) (r_val .none rfl (p_move rfl) ?_))))
 refine r_bslice (vs := [(0, Value.int _ _)]) (c := #[_]) .none rfl Try.underlying33 el3 rfl rfl rfl (bs3_10i2 _ _) (IsRow.lit _) (fun b_3 => ?_)
 refine r_append (k := 7) (k2 := 0) .none rfl Try.underlying33 el3 rfl (by decide) rfl rfl rfl rfl rfl (one_lit rfl rfl) (by simp only [maxLen]; have h9 := List.length_filter_le (dead (remI R cl)) ((ksR R cl).take j); rw [List.length_take] at h9; omega) (by have h9 := List.length_filter_le (dead (remI R cl)) ((ksR R cl).take j); rw [List.length_take] at h9; omega) (fun v_42 => ?_)
 refine r_row1 (k := 7) rfl (fun o_43 => ?_)
 refine r_val .none rfl (p_assign rfl) (r_nil ?_)
 refine e_norm_block ?_
 refine e_next (c_region ?_)
 refine r_val .none rfl (p_add rfl rfl (by omega)) ?_
 refine r_val .none rfl (p_move rfl) (r_nil ?_)
 have hmd : mdel (mput l x.par (bxP, r_35, ovP, (lessK xP ((ksR R cl).getD j 0)))) ((ksR R cl).getD j 0) = (mput (mdel l ((ksR R cl).getD j 0)) x.par (bxP, r_35, ovP, (lessK xP ((ksR R cl).getD j 0)))) := by rw [mdel_mput (by omega)]
 refine e_conv (B := mapA z kI veN2 (mput (mdel l ((ksR R cl).getD j 0)) x.par (bxP, r_35, ovP, (lessK xP ((ksR R cl).getD j 0))))) (k := 6) rfl (fun _ _ h => by rw [← hmd]; exact h) ?_
 dsimp only [List.set_cons_zero, List.set_cons_succ]
 have hle9 : (mdel (mput s2.nodes x.par (lessK xP ((ksR R cl).getD j 0))) ((ksR R cl).getD j 0)) = eraK (mput (mdel l ((ksR R cl).getD j 0)) x.par (bxP, r_35, ovP, (lessK xP ((ksR R cl).getD j 0)))) := by rw [← hmd, eraK_mdel, eraK_mput, ← hl]
 refine e_front (k := 1) rfl ?_
 refine e_front (k := 6) rfl ?_
 refine e_front (k := 6) rfl ?_
 refine e_conv (B := box p 2 74 (at_ (trC (KS.mk (mput (mdel l ((ksR R cl).getD j 0)) x.par (bxP, r_35, ovP, (lessK xP ((ksR R cl).getD j 0)))) s2.last) z))) (k := 0) rfl (fun _ _ h => box_congr (fun i hi => by match i, hi with | 0, _ => rfl | 1, _ => rfl) _ _ h) ?_
 dsimp only [List.set_cons_zero]
 refine e_shutE (E := 3) (n := (mdel (mput s2.nodes x.par (lessK xP ((ksR R cl).getD j 0))) ((ksR R cl).getD j 0))) (l := (mput (mdel l ((ksR R cl).getD j 0)) x.par (bxP, r_35, ovP, (lessK xP ((ksR R cl).getD j 0))))) z hle9 ?_
 refine e_front (k := 6) rfl ?_
 refine e_front (k := 6) rfl ?_
 refine e_round ((j + 1, _, ⟨(mdel (mput s2.nodes x.par (lessK xP ((ksR R cl).getD j 0))) ((ksR R cl).getD j 0)), s2.last⟩)) ⟨⟨by dsimp only; omega, by rw [kills_take (by omega), if_pos (by rw [dead_of hg9, hu9]; rfl)]; exact del_TI0 hT2 hLf hNs hxP hinn, StS.del (ls := s2.last) (StS.put (ls := s2.last) hS2 (show StAt _ xP.st from hS2.get hxP)), by rw [kills_take (by omega), if_pos (by rw [dead_of hg9, hu9]; rfl)]; exact going_kill (t := (ksR R cl).drop (j + 1)) (by rw [← kids_drop (by omega)]; exact hGo) hg9 hu9⟩, by dsimp only; omega⟩ rfl ⟨rfl, rfl, rfl, rfl, rfl, rfl, rfl, trivial⟩ (.keep (fun _ _ h => rowA_snoc (by rw [filter_take (by omega), ← dead_take (fun x hx => ks_one hx) hnot, dead_of hg9, hu9]; rfl) rfl rfl rfl _ _ h) (.keep (fun _ _ h => h) (.keep (fun _ _ h => h) (.drop (.drop (.drop (.drop (.nil))))))))))))))
 · (
 first
 | (exfalso; first | omega)
 | (
 refine c_cond_f rfl (c_exit (e_exit_then (e_exit_then ?_)))
 refine e_exit_block ?_
 refine e_next (c_seq (c_region (r_val .none rfl (p_move rfl) (r_val .none rfl (p_assign rfl) ?_))))
 refine r_val .none rfl (p_assign rfl) (r_nil (e_next ?_))
 refine c_ret ?_
 refine e_freeze (k := 0) rfl (fun G_44 hn_45 hs_46 => ?_)
 replace hs := hs.mono hn_45.le
 replace hS := hS.mono hn_45.le
 replace hq := hq.mono hn_45.le
 replace hqp := fun p hm0 => (hqp p hm0).mono hn_45.le
 replace hSd := hSd.mono hn_45.le
 replace hS2 := hS2.mono hn_45.le
 have hjk : (ksR R cl).take j = (ksR R cl) := List.take_of_length_le (by omega)
 rw [hjk] at hT2
 refine e_retn Try.results22 (.tmp rfl (.tmp rfl .nil)) rfl (fun w hm => ⟨_, s2, (hn_4.trans hn_45), hm.has, ⟨⟨_, rfl, SlL.of2 (cells := cI) (0 : Int) (fun _ => rfl) (by rw [hjk, rem_gone hT.clo hU hth hfd]) (by rw [hjk, rem_gone hT.clo hU hth hfd]) hs_46⟩, by rw [← rem_its hT.clo hU hth hfd]; exact hT2, hS2⟩, hm.keptG [trE (nkD 71 3) 74 p (s2)] (.drop (.keep (fun _ _ h => h) (.nil))) (trE (nkD 71 3) 74 p (s2)) (fun F' h => (starL_oneE _ _).1 h)⟩)))))))))
end Go.Proofs.Ytdkfdncbldngdaa

/- Plain laws of tries: all nodes; what is used; no program in sight. -/
namespace Go.Gx.T16
open Go.Gx Go.Gx.T3 Go.Gx.T4 Go.Gx.T6 Go.Gx.T8
theorem all_sorted (R : RT) : (all R).Pairwise (· < ·) := List.pairwise_cons.2 ⟨fun k hk => by have := (numsF_ge hk).1; omega, numsF_sorted⟩
theorem all_mem {R : RT} {k : Int} : k ∈ all R ↔ ∃ c, getR R k = some c := by
  unfold all
  rw [List.mem_cons]
  constructor
  · rintro (rfl | h)
    · exact ⟨[], rfl⟩
    · obtain ⟨j, c, rfl, h1, _⟩ := numsF_mem.1 h
      exact ⟨c, getR_iff.2 (.inr ⟨by omega, j, by omega, h1⟩)⟩
  · rintro ⟨c, h⟩
    rcases getR_iff.1 h with ⟨rfl, _⟩ | ⟨_, j, rfl, h2⟩
    · exact .inl rfl
    · exact .inr (numsF_mem.2 ⟨j, c, by omega, h2, rfl⟩)
theorem TI.keys {s : KS Nd} {R : RT} (hT : TI s R) : (s.nodes.map (·.1)).Perm (all R) := by
  refine (List.perm_ext_iff_of_nodup hT.nod ((all_sorted R).imp (fun h => Int.ne_of_lt h))).2 fun k => ?_
  rw [all_mem]
  constructor
  · intro h
    obtain ⟨q, hq, rfl⟩ := List.mem_map.1 h
    obtain ⟨c, h1, _⟩ := hT.got (lkp_mem hT.nod (k := q.1) (v := q.2) hq)
    exact ⟨c, h1⟩
  · rintro ⟨c, h⟩
    obtain ⟨x, h1, _⟩ := hT.at h
    exact List.mem_map.2 ⟨_, lkp_some h1, rfl⟩
theorem TI.len {s : KS Nd} {R : RT} (hT : TI s R) : s.nodes.length = (all R).length := by
  have := hT.keys.length_eq
  rwa [List.length_map] at this
theorem TI.sorted {s : KS Nd} {R : RT} {l : NL} (hT : TI s R) (hl : s.nodes = eraK l) : sortI (l.map Prod.fst) = all R := by
  have e : l.map Prod.fst = s.nodes.map (·.1) := by rw [hl, eraK, List.map_map]; rfl
  rw [e, sortI_perm hT.keys]
  exact List.mergeSort_of_pairwise ((all_sorted R).imp (fun h => by simp; omega))
theorem TI.range {s : KS Nd} {R : RT} {l : NL} (hT : TI s R) (hl : s.nodes = eraK l) (hc : R.its.length ≤ 4000) : (∀ p ∈ l, (Lit.int .i64 p.1).wf = true) ∧ l.length ≤ 5000 := by
  constructor
  · intro p hp
    have h1 : p.1 ∈ s.nodes.map (·.1) := by rw [hl]; exact List.mem_map.2 ⟨(p.1, p.2.2.2.2), List.mem_map.2 ⟨p, hp, rfl⟩, rfl⟩
    obtain ⟨c, hg⟩ := all_mem.1 (hT.keys.mem_iff.1 h1)
    have := get_lt hg
    exact wf_mk (by omega)
  · have h1 := hT.len
    rw [hl, eraK_len] at h1
    have h2 := numsF_len (fun _ => true) R.its 2
    unfold all at h1
    rw [List.length_cons] at h1
    omega
/-! ### what is used -/
theorem used0 : Used R0 := fun c h => by simp at h
theorem pushes_mem : ∀ {cs : List (List ST)} {R : RT} {c : List ST}, (c, false) ∈ (pushes R cs).its → (c, false) ∈ R.its ∨ c ∈ cs
  | [], _, _, h => .inl h
  | x :: t, R, c, h => by
    rw [pushes] at h
    rcases pushes_mem h with h | h
    · unfold step at h
      split at h
      · rcases List.mem_append.1 h with h | h
        · exact .inl h
        · right; simp at h; simp [h]
      · exact .inl h
    · exact .inr (List.mem_cons_of_mem _ h)
theorem used_add {R : RT} {cl : List ST} (hU : Used R) : Used (addR R cl) := fun c h => by
  show 0 < (R.lists ++ [cl]).countP (usesOf c)
  rw [List.countP_append]
  rcases pushes_mem h with h | h
  · have := hU c h
    unfold uses at this
    omega
  · have : usesOf c cl = true := usesOf_iff.2 (.inr h)
    simp [this]
theorem add_len (R : RT) (cl : List ST) : (addR R cl).its.length ≤ R.its.length + sszL cl ∧ (addR R cl).lists.length = R.lists.length + 1 := by
  have h1 := (pushes_len (schains [] cl) R).2
  have h2 := schains_len cl []
  refine ⟨?_, by simp [addR]⟩
  show (pushes R (schains [] cl)).its.length ≤ _
  omega
theorem rem_len (R : RT) (cl : List ST) : (remR R cl).its.length = R.its.length ∧ (remR R cl).lists.length ≤ R.lists.length := by
  refine ⟨by simp [remR], remL_len _⟩
theorem ints_eq {a b : List Int} (hl : a.length = b.length) (h : ∀ i, i < a.length → a.getD i 0 = b.getD i 0) : a = b := by
  apply List.ext_getElem? 
  intro i
  by_cases hi : i < a.length
  · have := h i hi
    simp [List.getD, hi, show i < b.length by omega] at this
    rw [List.getElem?_eq_getElem hi, List.getElem?_eq_getElem (by omega), this]
  · rw [List.getElem?_eq_none (by omega), List.getElem?_eq_none (by omega)]
theorem nums_count : ∀ (l : List It) (i : Int), (numsF (fun _ => true) l i).length = l.countP (fun x => !x.2)
  | [], _ => rfl
  | x :: t, i => by
    rw [numsF, List.countP_cons, ← nums_count t (i + 1)]
    cases x.2 <;> simp
theorem all_count (R : RT) : (all R).length = R.its.countP (fun x => !x.2) + 1 := by
  unfold all
  rw [List.length_cons, nums_count]
end Go.Gx.T16
