/- Walks: what Go functions of this chapter come to, each as a function on plain data; no condition but those that each theorem names. Printed by a program of this work (gen.py). -/
import Derived.Test.YtinbigokigkfaaaW13e
import Derived.Test.YtinbigokigkfaaaGxFreeze
import Derived.Test.YtinbigokigkfaaaGxSort
import Derived.Test.YtinbigokigkfaaaRows
namespace Go.Proofs.Ytinbigokigkfaaa
open Go.Gx Go.Gx.T13 Go.Gx.T8 Go.Gx.T4 Go.Gx.T3 Go.Gx.T3 Go.Gx.T4 Go.Gx.T3 Go.Gx.T8 Go.Gx.T4 Go.Gx.T3
theorem sz72 : SzIs Try.prog 72 4 := by
  unfold SzIs
  kernel_rfl
theorem zr72 : ZeroIs Try.prog 72 (Value.agg #[Value.int .i64 0, Value.int .i64 0, Value.int .i64 0, Value.int .i64 0]) := by
  unfold ZeroIs
  kernel_rfl
theorem cl19 : Callable Try.prog 19 := callable Try.func19 (by kernel_rfl) rfl
theorem cl20 : Callable Try.prog 20 := callable Try.func20 (by kernel_rfl) rfl
theorem cl21 : Callable Try.prog 21 := callable Try.func21 (by kernel_rfl) rfl
theorem cl30 : Callable Try.prog 30 := callable Try.func30 (by kernel_rfl) rfl
theorem bl72_0i1_1a3 (x0 : Int) (x1 : Value) (x2 : Value) (x3 : Value) : Program.built Try.prog 72 [(0, Value.int .i64 x0), (1, Value.agg #[x1, x2, x3])] = some #[Value.int .i64 x0, x1, x2, x3] := by
  kernel_rfl
theorem bs3_10i2 (a0 : IntKind) (a1 : Int) : Instr.fill (fun i => some (i * 1, 1)) ((Array.range (1 * 1)).map ((Value.int .i64 0).cells[· % (Value.int .i64 0).cells.size]!)) [(0, Value.int a0 a1)] = some #[Value.int a0 a1] := by
  kernel_rfl
theorem bs47_10a8 (a0 a1 a2 a3 a4 a5 a6 a7 : Value) : Instr.fill (fun i => some (i * 8, 8)) ((Array.range (1 * 8)).map ((Value.agg #[Value.int .i64 0, Value.bool false, Value.int .i64 0, Value.bool false, Value.int .i64 0, Value.bool false, Value.int .i64 0, Value.slice none 0 0]).cells[· % (Value.agg #[Value.int .i64 0, Value.bool false, Value.int .i64 0, Value.bool false, Value.int .i64 0, Value.bool false, Value.int .i64 0, Value.slice none 0 0]).cells.size]!)) [(0, Value.agg #[a0, a1, a2, a3, a4, a5, a6, a7])] = some #[a0, a1, a2, a3, a4, a5, a6, a7] := by
  kernel_rfl
theorem bs72_10a4 (a0 a1 a2 a3 : Value) : Instr.fill (fun i => some (i * 4, 4)) ((Array.range (1 * 4)).map ((Value.agg #[Value.int .i64 0, Value.int .i64 0, Value.int .i64 0, Value.int .i64 0]).cells[· % (Value.agg #[Value.int .i64 0, Value.int .i64 0, Value.int .i64 0, Value.int .i64 0]).cells.size]!)) [(0, Value.agg #[a0, a1, a2, a3])] = some #[a0, a1, a2, a3] := by
  kernel_rfl
theorem el3 : ElemIs Try.prog 3 1 8 (Value.int .i64 0) := by
  unfold ElemIs
  kernel_rfl
theorem el47 : ElemIs Try.prog 47 8 80 (Value.agg #[Value.int .i64 0, Value.bool false, Value.int .i64 0, Value.bool false, Value.int .i64 0, Value.bool false, Value.int .i64 0, Value.slice none 0 0]) := by
  unfold ElemIs
  kernel_rfl
theorem el72 : ElemIs Try.prog 72 4 32 (Value.agg #[Value.int .i64 0, Value.int .i64 0, Value.int .i64 0, Value.int .i64 0]) := by
  unfold ElemIs
  kernel_rfl
theorem c_which (k : Int) (key : Tri) (ts : List TD) (tv uv : Value) (vb : Value) (bs : List Tri) (vf : Value) (fs : List FD) {G : Ghost} (hln : fs.length ≤ 2000) (hok : ∀ x ∈ ts, OkT x) (ht : SlL G tv 3 tC t0 ts) (hb : SlL G vb 3 triL z3 bs) (hf : SlL G vf 4 fC f0 fs) (w : World) (hG : Has G w) :
    Calls Try.prog 30 #[Value.agg #[Value.int .i64 k, Value.int .i64 key.1, Value.int .i64 key.2.1, Value.int .i64 key.2.2, tv, uv], vb, vf] w (Ret fun r w' => ∃ G', GNew w nX G G' ∧ Has G' w' ∧ SlL G' r 1 cI (0 : Int) (which k key ts bs fs) ∧ Since nX w w') := by
  refine enter (args := [_, _, _]) (X := nX) (G := G) (l := [(0, Value.agg #[Value.int .i64 k, Value.int .i64 key.1, Value.int .i64 key.2.1, Value.int .i64 key.2.2, tv, uv]), (1, vb), (2, vf)]) Try.func30 rfl Try.ntmps30 hG ⟨rfl, rfl, rfl, trivial⟩ (Nat.le_of_ble_eq_true rfl) ?_
  refine c_seq ?_
  refine c_region ?_
  refine r_box .none rfl rfl (IsRow.lit _) (fun b_1 => ?_)
  refine r_val .none rfl (p_assign rfl) ?_
  refine r_nil ?_
  refine e_next ?_
  refine c_seq ?_
  refine c_region ?_
  refine r_val .none rfl (p_assign rfl) ?_
  refine r_nil ?_
  refine e_next ?_
  refine c_seq ?_
  refine c_seq ?_
  refine c_region ?_
  refine r_val .none rfl (p_move rfl) ?_
  refine r_val .none rfl (p_leng Try.underlying73 rfl hf) ?_
  have bd_1 := (hf).bound
  refine r_val .none rfl (p_move rfl) ?_
  refine r_nil ?_
  refine e_next ?_
  refine c_block ?_
  refine c_nilrow 3 1 ?_
  refine c_name (d := 1) rfl (fun u_2 hu_2 => ?_)
  refine c_name (d := 3) rfl (fun u_3 hu_3 => ?_)
  refine c_name (d := 6) rfl (fun u_4 hu_4 => ?_)
  refine c_name (d := 10) rfl (fun u_5 hu_5 => ?_)
  refine c_name (d := 11) rfl (fun u_6 hu_6 => ?_)
  refine c_nameL (k := 1) rfl (fun A_7 hA_7 => ?_)
  refine c_loop (σ := Nat × Value) (fun s => [(12, Value.int .i64 (s.1 : Nat)), (7, s.2), (1, u_2), (3, u_3), (6, u_4), (10, u_5), (11, u_6)]) (fun s => [rowA (s.2) 3 1 ((which k key ts bs (fs.take s.1))).length (((which k key ts bs (fs.take s.1))).flatMap cI), A_7]) (fun _ => _) (fun s => s.1 ≤ fs.length) (fun s => fs.length - s.1) ((0, _)) (Nat.zero_le _) rfl ⟨rfl, rfl, rfl, rfl, rfl, rfl, rfl, trivial⟩ (.keep (fun _ _ h => rowA_nil rfl _ _ h) (.keep (fun _ _ h => h) (.nil))) (fun s hphi => ?_)
  subst hu_2
  subst hu_3
  subst hu_4
  subst hu_5
  subst hu_6
  subst hA_7
  obtain ⟨j, v⟩ := s
  dsimp only at hphi ⊢
  have hwl := which_len k key ts bs (fs.take j)
  rw [List.length_take] at hwl
  refine c_seq ?_
  refine c_region ?_
  refine r_val .none rfl (p_lt rfl rfl) ?_
  refine r_nil ?_
  refine e_next ?_
  refine c_seq ?_
  refine c_splitd (d := 13) rfl (fun h_8 => ?_) (fun h_8 => ?_)
  · skip
    first
      | (exfalso; omega)
      | (
        refine c_cond_t rfl ?_
        refine c_skip ?_
        refine e_next ?_
        refine c_seq ?_
        refine c_block ?_
        refine c_seq ?_
        refine c_region ?_
        refine r_iaddr_g .none rfl Try.underlying73 sz72 rfl hf rfl (by first | exact of_decide_eq_true rfl | omega) (fun p_10 o_11 R_9 => ?_)
        refine r_val .none rfl (p_ldga0 Try.underlying72 rfl sz72 rfl R_9 (by first | exact of_decide_eq_true rfl | omega) (rfl : _ = Value.agg #[_, _, _, _])) ?_
        refine r_alloc .none rfl zr72 (IsRow.lit _) (fun b_2 => ?_)
        refine r_stw (k := 0) .none sz72 rfl rfl (IsRow.lit _) (one_lit rfl rfl) rfl ?_
        refine r_nil ?_
        refine e_next ?_
        refine c_seq ?_
        refine c_region ?_
        refine r_val .none rfl (p_ldw (k := 2) Try.underlying59 rfl sz59 rfl rfl (rfl : _ = Value.agg #[_, _, _, _, _, _])) ?_
        refine r_val .none rfl (p_move rfl) ?_
        refine r_val .none rfl (p_field Try.underlying72 rfl sz26 rfl) ?_
        refine r_val .none rfl (p_lda (k := 0) Try.underlying26 rfl sz26 rfl rfl (by first | exact of_decide_eq_true rfl | omega) (rfl : _ = Value.agg #[_, _, _])) ?_
        refine r_call (vs := [_, _, _]) .none rfl cl27 rfl (fun w hw => c_meets k key ts _ _ _ bs (fs.getD j f0).2 hok ht hb w hw) ?_
        refine r_nil ?_
        refine e_next ?_
        refine c_split (d := 20) rfl (fun h_12 => ?_) (fun h_12 => ?_)
        · skip
          first
            | (exfalso; omega)
            | (
              refine c_cond_t rfl ?_
              refine c_region ?_
              refine r_val .none rfl (p_move rfl) ?_
              refine r_val .none rfl (p_field Try.underlying72 rfl sz3 rfl) ?_
              refine r_val .none rfl (p_ld (k := 0) Try.underlying3 rfl rfl rfl (by first | exact of_decide_eq_true rfl | omega) (rfl : _ = Value.int _ _)) ?_
              refine r_bslice (vs := [(0, Value.int _ _)]) (c := #[_]) .none rfl Try.underlying69 el3 rfl rfl rfl (bs3_10i2 _ _) (IsRow.lit _) (fun b_3 => ?_)
              refine r_append (k := 2) (k2 := 0) .none rfl Try.underlying69 el3 rfl (by decide) rfl rfl rfl rfl rfl (one_lit rfl rfl) (by simp only [maxLen]; omega) (by omega) (fun v_13 => ?_)
              refine r_row1 (k := 2) rfl (fun o_14 => ?_)
              refine r_val .none rfl (p_assign rfl) ?_
              refine r_nil ?_
              refine e_norm_block ?_
              refine e_next ?_
              refine c_region ?_
              refine r_val .none rfl (p_add rfl rfl (by omega)) ?_
              refine r_val .none rfl (p_move rfl) ?_
              refine r_nil ?_
              refine e_round ((j + 1, _)) ⟨by dsimp only; omega, by dsimp only; omega⟩ rfl ⟨rfl, rfl, rfl, rfl, rfl, rfl, rfl, trivial⟩ (.drop (.drop (.keep (fun _ _ h => rowA_snoc (which_yes (by omega) (by assumption)) rfl rfl rfl _ _ h) (.keep (fun _ _ h => h) (.nil)))))
              )
        · skip
          first
            | (exfalso; omega)
            | (
              refine c_cond_f rfl ?_
              refine c_skip ?_
              refine e_norm_block ?_
              refine e_next ?_
              refine c_region ?_
              refine r_val .none rfl (p_add rfl rfl (by omega)) ?_
              refine r_val .none rfl (p_move rfl) ?_
              refine r_nil ?_
              refine e_round ((j + 1, _)) ⟨by dsimp only; omega, by dsimp only; omega⟩ rfl ⟨rfl, rfl, rfl, rfl, rfl, rfl, rfl, trivial⟩ (.drop (.keep (fun _ _ h => rowA_same (which_no (by omega) (by assumption)) _ _ h) (.keep (fun _ _ h => h) (.nil))))
              )
        )
  · skip
    first
      | (exfalso; omega)
      | (
        refine c_cond_f rfl ?_
        refine c_exit ?_
        refine e_exit_then ?_
        refine e_exit_then ?_
        refine e_exit_block ?_
        refine e_next ?_
        refine c_seq ?_
        refine c_region ?_
        refine r_val .none rfl (p_move rfl) ?_
        refine r_val .none rfl (p_assign rfl) ?_
        refine r_nil ?_
        refine e_next ?_
        refine c_ret ?_
        refine e_freeze (k := 0) rfl (fun G_15 hn_16 hs_17 => ?_)
        replace hb := hb.mono hn_16.le
        replace hf := hf.mono hn_16.le
        replace ht := ht.mono hn_16.le
        refine e_ret1 Try.results30 (.tmp rfl .nil) (fun w hm => ⟨_, hn_16, hm.has, ?_, hm.since⟩)
        have e : which k key ts bs (fs.take j) = which k key ts bs fs := by rw [List.take_of_length_le (by omega)]
        exact SlL.of2 (0 : Int) (fun _ => rfl) (by rw [e]) (by rw [e]) hs_17
        )
theorem c_TestKinds (c : CT) (sv : Value) (vb : Value) (bs : List Tri) (t : Tri) {G : Ghost} (hs : Cs G sv c.subs) (hb : SlL G vb 3 triL z3 bs) (w : World) (hG : Has G w) :
    Calls Try.prog 6 #[Value.agg #[Value.int .i64 c.h.k, Value.bool c.h.v0, Value.int .i64 c.h.n0, Value.bool c.h.v1, Value.int .i64 c.h.n1, Value.bool c.h.v2, Value.int .i64 c.h.n2, sv], vb, kT t] w (Ret fun r w' => r = Value.bool true ∧ Since nX w w') := by
  refine enter (args := [_, _, _]) (X := nX) (G := G) (l := [(0, Value.agg #[Value.int .i64 c.h.k, Value.bool c.h.v0, Value.int .i64 c.h.n0, Value.bool c.h.v1, Value.int .i64 c.h.n1, Value.bool c.h.v2, Value.int .i64 c.h.n2, sv]), (1, vb), (2, kT t)]) Try.func6 rfl Try.ntmps6 hG ⟨rfl, rfl, rfl, trivial⟩ (Nat.le_of_ble_eq_true rfl) ?_
  refine c_seq ?_
  refine c_region ?_
  refine r_box .none rfl rfl (IsRow.lit _) (fun b_1 => ?_)
  refine r_box .none rfl rfl (IsRow.lit _) (fun b_2 => ?_)
  refine r_val .none rfl (p_assign rfl) ?_
  refine r_nil ?_
  refine e_next ?_
  refine c_seq ?_
  refine c_seq ?_
  refine c_region ?_
  refine r_val .none rfl (p_ldw (k := 1) Try.underlying47 rfl sz47 rfl rfl (rfl : _ = Value.agg #[_, _, _, _, _, _, _, _])) ?_
  refine r_bslice (vs := [(0, Value.agg #[_, _, _, _, _, _, _, _])]) (c := #[_, _, _, _, _, _, _, _]) .none rfl Try.underlying34 el47 rfl rfl rfl (bs47_10a8 _ _ _ _ _ _ _ _) (IsRow.lit _) (fun b_3 => ?_)
  refine r_freezeB (k := 0) 1 8 rfl rfl (by decide) (fun G_1 hn_2 hs_3 => ?_)
  replace hb := hb.mono hn_2.le
  replace hs := hs.mono hn_2.le
  have hT1 : Cs G_1 (Value.slice (some ⟨b_3, 0, none⟩) 1 1) [c] := Tr.mk [(c, sv)] (SlG.single (c, sv) hs_3 (fun j hj => by match j, hj with | 0, _ => rfl | 1, _ => rfl | 2, _ => rfl | 3, _ => rfl | 4, _ => rfl | 5, _ => rfl | 6, _ => rfl | 7, _ => rfl)) (fun p hm0 => by rw [List.mem_singleton.1 hm0]; exact hs)
  refine r_call (vs := [_]) .none rfl cl19 rfl (fun w hw => c_fine6 _ [c] hT1 w hw) ?_
  refine r_val .none rfl (p_not rfl) ?_
  refine r_val .none rfl (p_move rfl) ?_
  refine' r_or (c := 14) (d := 18) [_, _, _, _] rfl (fun h_4 Q_5 hQ_6 => ?_) (fun h_4 Q_5 hQ_6 => ?_) ?_
  rotate_left 1
  · skip
    try simp only [norms] at h_4
    refine r_val (.some rfl rfl) rfl (p_move rfl) ?_
    refine r_val (.some rfl rfl) rfl (p_leng Try.underlying22 rfl hb) ?_
    have bd_8 := (hb).bound
    refine r_val (.some rfl rfl) rfl (p_gt rfl rfl) ?_
    refine r_val .none rfl (p_pick_f rfl rfl) ?_
    refine r_nil (e_fin (d := 18) hQ_6 rfl (by repeat (first | exact .refl | refine .put rfl ?_ | refine .say rfl ?_ | refine .say2 rfl (by first | assumption | simp_all) ?_)))
  · skip
    repeat (first | refine r_skip rfl (.no rfl rfl) ?_ | refine r_skip rfl (.un rfl rfl) ?_)
    refine r_val (by first | exact .none | exact .some rfl rfl) rfl (p_pick_t rfl rfl) ?_
    refine r_nil (e_fin (d := 18) hQ_6 rfl (by repeat (first | exact .refl | refine .put rfl ?_ | refine .say rfl ?_ | refine .say2 rfl (by first | assumption | simp_all) ?_)))
  refine r_val .none rfl (p_move rfl) ?_
  refine' r_or (c := 19) (d := 23) [_, _, _, _] rfl (fun h_9 Q_10 hQ_11 => ?_) (fun h_9 Q_10 hQ_11 => ?_) ?_
  rotate_left 1
  · skip
    try simp only [norms] at h_9
    refine r_val (.some rfl rfl) rfl (p_move rfl) ?_
    refine r_call (vs := [_]) (.some rfl rfl) rfl cl20 rfl (fun w hw => c_right13 _ _ hb w hw) ?_
    refine r_val (.some rfl rfl) rfl (p_not rfl) ?_
    refine r_val .none rfl (p_pick_f rfl rfl) ?_
    refine r_nil (e_fin (d := 23) hQ_11 rfl (by repeat (first | exact .refl | refine .put rfl ?_ | refine .say rfl ?_ | refine .say2 rfl (by first | assumption | simp_all) ?_)))
  · skip
    repeat (first | refine r_skip rfl (.no rfl rfl) ?_ | refine r_skip rfl (.un rfl rfl) ?_)
    refine r_val (by first | exact .none | exact .some rfl rfl) rfl (p_pick_t rfl rfl) ?_
    refine r_nil (e_fin (d := 23) hQ_11 rfl (by repeat (first | exact .refl | refine .put rfl ?_ | refine .say rfl ?_ | refine .say2 rfl (by first | assumption | simp_all) ?_)))
  refine r_val .none rfl (p_move rfl) ?_
  refine' r_or (c := 24) (d := 28) [_, _, _, _] rfl (fun h_13 Q_14 hQ_15 => ?_) (fun h_13 Q_14 hQ_15 => ?_) ?_
  rotate_left 1
  · skip
    try simp only [norms] at h_13
    refine r_val (.some rfl rfl) rfl (p_ldw (k := 0) Try.underlying26 rfl sz26 rfl rfl (rfl : _ = Value.agg #[_, _, _])) ?_
    refine r_call (vs := [_]) (.some rfl rfl) rfl cl28 rfl (fun w hw => c_rtri13 t w) ?_
    refine r_val (.some rfl rfl) rfl (p_not rfl) ?_
    refine r_val .none rfl (p_pick_f rfl rfl) ?_
    refine r_nil (e_fin (d := 28) hQ_15 rfl (by repeat (first | exact .refl | refine .put rfl ?_ | refine .say rfl ?_ | refine .say2 rfl (by first | assumption | simp_all) ?_)))
  · skip
    repeat (first | refine r_skip rfl (.no rfl rfl) ?_ | refine r_skip rfl (.un rfl rfl) ?_)
    refine r_val (by first | exact .none | exact .some rfl rfl) rfl (p_pick_t rfl rfl) ?_
    refine r_nil (e_fin (d := 28) hQ_15 rfl (by repeat (first | exact .refl | refine .put rfl ?_ | refine .say rfl ?_ | refine .say2 rfl (by first | assumption | simp_all) ?_)))
  refine r_nil ?_
  refine e_next ?_
  refine c_split (d := 28) rfl (fun h_17 => ?_) (fun h_17 => ?_)
  · skip
    try simp only [norms] at h_17
    first
      | (exfalso; omega)
      | (
        refine c_cond_t rfl ?_
        refine c_seq ?_
        refine c_region ?_
        refine r_call (vs := []) .none rfl cl21 rfl (fun w hw => c_awake13 w) ?_
        refine r_val .none rfl (p_assign rfl) ?_
        refine r_nil ?_
        refine e_next ?_
        refine c_ret ?_
        refine e_ret_then ?_
        refine e_ret1 Try.results6 (.tmp rfl .nil) (fun w hm => ⟨?_, hm.since⟩)
        first
        | rfl
        | (rw [hk3, which_ncc]; rfl)
        | (exfalso; have hx : meets (qs.getD 0 s0).1.h.k _ _ bs t = true := (by assumption); rw [hk3, meets_ncc] at hx; cases hx)
        | (rw [meets_kinds]; simp; done)
        )
  · skip
    try simp only [norms] at h_17
    have hC := h_17
    first
      | (exfalso; omega)
      | (
        refine c_cond_f rfl ?_
        refine c_skip ?_
        refine e_next ?_
        refine c_seq ?_
        refine c_region ?_
        refine r_val .none rfl (p_ldw (k := 1) Try.underlying47 rfl sz47 rfl rfl (rfl : _ = Value.agg #[_, _, _, _, _, _, _, _])) ?_
        obtain ⟨⟨⟨c1, c2⟩, c3⟩, c4⟩ := hC
        have hfn := fineL_yes c1
        have hsz : size c ≤ 16 := by have := hfn.2; simp only [sizeL] at this; omega
        have hss : sszL [stepOf [] c] ≤ 5000 := by have := ssz_of c []; simp only [sszL]; omega
        have hoks : ∀ s ∈ [stepOf [] c], ∀ x ∈ s.h.ts, OkT x := fun s hm0 => by rw [List.mem_singleton.1 hm0]; exact ok_stepOf (by simp)
        refine r_callm (vs := [_]) .none rfl cl26 rfl (fun w hw => c_ref4 c sv (by omega) hs w hw) (fun G_18 v_21 hn_19 hr_20 => ?_)
        replace hb := hb.mono hn_19.le
        replace hs := hs.mono hn_19.le
        replace hT1 := hT1.mono hn_19.le
        obtain ⟨u_22, rfl, hRc⟩ := hr_20
        refine r_callm (vs := [_, _]) .none rfl cl29 rfl (fun w hw => c_of c _ (.slice none 0 0) [] (by simp; omega) hRc Tr.nil w hw) (fun G_23 v_26 hn_24 hr_25 => ?_)
        replace hb := hb.mono hn_24.le
        replace hs := hs.mono hn_24.le
        replace hT1 := hT1.mono hn_24.le
        replace hRc := hRc.mono hn_24.le
        obtain ⟨u_27a, u_27b, rfl, u_27s, u_27t⟩ := hr_25
        refine r_bslice (vs := [(0, Value.agg #[_, _, _, _, _, _])]) (c := #[_, _, _, _, _, _]) .none rfl Try.underlying38 el67 rfl rfl rfl (bs67_10a6 _ _ _ _ _ _) (IsRow.lit _) (fun b_4 => ?_)
        refine r_freezeB (k := 0) 1 6 rfl rfl (by decide) (fun G_28 hn_29 hs_30 => ?_)
        replace hb := hb.mono hn_29.le
        replace hs := hs.mono hn_29.le
        replace hT1 := hT1.mono hn_29.le
        replace hRc := hRc.mono hn_29.le
        replace u_27s := u_27s.mono hn_29.le
        replace u_27t := u_27t.mono hn_29.le
        have hT2 : Ss G_28 (Value.slice (some ⟨b_4, 0, none⟩) 1 1) [stepOf [] c] := Ss.mk [(stepOf [] c, u_27a, u_27b)] (SlG.single (stepOf [] c, u_27a, u_27b) hs_30 (fun j hj => by match j, hj with | 0, _ => rfl | 1, _ => rfl | 2, _ => rfl | 3, _ => rfl | 4, _ => rfl | 5, _ => rfl)) (fun p hm0 => by rw [List.mem_singleton.1 hm0]; exact u_27s) (fun p hm0 => by rw [List.mem_singleton.1 hm0]; exact u_27t)
        refine r_callm (vs := [_]) .none rfl cl22 rfl (fun w hw => c_steps _ [stepOf [] c] hss hT2 w hw) (fun G_31 v_34 hn_32 hr_33 => ?_)
        replace hb := hb.mono hn_32.le
        replace hs := hs.mono hn_32.le
        replace hT1 := hT1.mono hn_32.le
        replace hRc := hRc.mono hn_32.le
        replace u_27s := u_27s.mono hn_32.le
        replace u_27t := u_27t.mono hn_32.le
        replace hT2 := hT2.mono hn_32.le
        obtain ⟨qs, hq, hqt, hqp, hql⟩ := hr_33.inv
        have hqn : qs.length = 1 := by have h1 := congrArg List.length hql; simpa using h1.symm
        refine r_iaddr_g (i := 0) .none rfl Try.underlying36 sz59 rfl hq rfl (by first | exact of_decide_eq_true rfl | omega) (fun p_37 o_38 R_36 => ?_)
        have ht := hqt _ (getD_mem (i := 0) (d := s0) (by omega))
        have hsm := hqp _ (getD_mem (i := 0) (d := s0) (by omega))
        have hok := hoks _ (by rw [hql]; exact sv_mem (k := 0) (by omega))
        refine r_val .none rfl (p_ldga0 Try.underlying59 rfl sz59 rfl R_36 (by first | exact of_decide_eq_true rfl | omega) (rfl : _ = Value.agg #[_, _, _, _, _, _])) ?_
        refine r_alloc .none rfl zr59 (IsRow.lit _) (fun b_5 => ?_)
        refine r_stw (k := 0) .none sz59 rfl rfl (IsRow.lit _) (one_lit rfl (all_cons rfl (all_cons rfl (all_cons rfl (all_cons rfl (all_cons (ht).one (all_cons (hsm).one rfl))))))) rfl ?_
        refine r_nil ?_
        refine e_next ?_
        refine c_seq ?_
        refine c_seq ?_
        refine c_region ?_
        refine r_val .none rfl (p_field Try.underlying59 rfl sz3 rfl) ?_
        refine r_val .none rfl (p_ld (k := 0) Try.underlying3 rfl rfl rfl (by first | exact of_decide_eq_true rfl | omega) (rfl : _ = Value.int _ _)) ?_
        refine r_val .none rfl (p_eq rfl rfl) ?_
        refine r_nil ?_
        refine e_next ?_
        refine c_splitd (d := 39) rfl (fun h_39 => ?_) (fun h_39 => ?_)
        · skip
          have hk3 := h_39
          simp only [hk3]
          first
            | (exfalso; omega)
            | (
              refine c_cond_t rfl ?_
              refine c_seq ?_
              refine c_region ?_
              refine r_val .none rfl (p_ldw (k := 0) Try.underlying59 rfl sz59 rfl rfl (rfl : _ = Value.agg #[_, _, _, _, _, _])) ?_
              refine r_val .none rfl (p_move rfl) ?_
              refine r_val .none rfl (p_ldw (k := 1) Try.underlying26 rfl sz26 rfl rfl (rfl : _ = Value.agg #[_, _, _])) ?_
              refine r_call (vs := [_, _, _]) .none rfl cl27 rfl (fun w hw => c_meets (qs.getD 0 s0).1.h.k ((qs.getD 0 s0).1.h.k0, (qs.getD 0 s0).1.h.k1, (qs.getD 0 s0).1.h.k2) (qs.getD 0 s0).1.h.ts _ _ _ bs t hok ht hb w hw) ?_
              refine r_val .none rfl (p_not rfl) ?_
              refine r_val .none rfl (p_move rfl) ?_
              refine r_splitn (d := 45) rfl (fun h_40 => ?_) (fun h_40 => ?_)
              · skip
                first
                  | (exfalso; omega)
                  | (
                    refine r_val (.some rfl rfl) rfl (p_ldw (k := 0) Try.underlying59 rfl sz59 rfl rfl (rfl : _ = Value.agg #[_, _, _, _, _, _])) ?_
                    refine r_val (.some rfl rfl) rfl (p_move rfl) ?_
                    refine r_val (.some rfl rfl) rfl (p_ldw (k := 1) Try.underlying26 rfl sz26 rfl rfl (rfl : _ = Value.agg #[_, _, _])) ?_
                    refine r_val (.some rfl rfl) rfl (p_build (vs := [(0, Value.int _ _), (1, Value.agg #[_, _, _])]) rfl (bl72_0i1_1a3 _ _ _ _)) ?_
                    refine r_bslice (vs := [(0, Value.agg #[_, _, _, _])]) (c := #[_, _, _, _]) (.some rfl rfl) rfl Try.underlying73 el72 rfl rfl rfl (bs72_10a4 _ _ _ _) (IsRow.lit _) (fun b_6 => ?_)
                    refine r_freezeB (k := 0) 1 4 rfl rfl (by decide) (fun G_41 hn_42 hs_43 => ?_)
                    replace hb := hb.mono hn_42.le
                    replace hs := hs.mono hn_42.le
                    replace hT1 := hT1.mono hn_42.le
                    replace hRc := hRc.mono hn_42.le
                    replace u_27s := u_27s.mono hn_42.le
                    replace u_27t := u_27t.mono hn_42.le
                    replace hT2 := hT2.mono hn_42.le
                    replace hq := hq.mono hn_42.le
                    replace hqt := fun p hm0 => (hqt p hm0).mono hn_42.le
                    replace hqp := fun p hm0 => (hqp p hm0).mono hn_42.le
                    replace R_36 := R_36.mono hn_42.le
                    replace ht := ht.mono hn_42.le
                    replace hsm := hsm.mono hn_42.le
                    have hfa : SlL G_41 (Value.slice (some ⟨b_6, 0, none⟩) 1 1) 4 fC f0 [(1, t)] := SlG.single (1, t) hs_43 (fun j hj => by match j, hj with | 0, _ => rfl | 1, _ => rfl | 2, _ => rfl | 3, _ => rfl)
                    refine r_callm (vs := [_, _, _]) (.some rfl rfl) rfl cl30 rfl (fun w hw => c_which (qs.getD 0 s0).1.h.k ((qs.getD 0 s0).1.h.k0, (qs.getD 0 s0).1.h.k1, (qs.getD 0 s0).1.h.k2) (qs.getD 0 s0).1.h.ts _ _ _ bs _ [(1, t)] (by simp) hok ht hb hfa w hw) (fun G_44 v_47 hn_45 hr_46 => ?_)
                    replace hb := hb.mono hn_45.le
                    replace hs := hs.mono hn_45.le
                    replace hT1 := hT1.mono hn_45.le
                    replace hRc := hRc.mono hn_45.le
                    replace u_27s := u_27s.mono hn_45.le
                    replace u_27t := u_27t.mono hn_45.le
                    replace hT2 := hT2.mono hn_45.le
                    replace hq := hq.mono hn_45.le
                    replace hqt := fun p hm0 => (hqt p hm0).mono hn_45.le
                    replace hqp := fun p hm0 => (hqp p hm0).mono hn_45.le
                    replace R_36 := R_36.mono hn_45.le
                    replace ht := ht.mono hn_45.le
                    replace hsm := hsm.mono hn_45.le
                    replace hfa := hfa.mono hn_45.le
                    have u_48 := hr_46
                    refine r_val (.some rfl rfl) rfl (p_leng Try.underlying69 rfl u_48) ?_
                    have bd_49 := (u_48).bound
                    refine r_val (.some rfl rfl) rfl (p_eq rfl rfl) ?_
                    refine r_val .none rfl (p_pick_t rfl rfl) ?_
                    refine r_val .none rfl (p_move rfl) ?_
                    refine' r_and (c := 55) (d := 57) [_, _] rfl (fun h_50 Q_51 hQ_52 => ?_) (fun h_50 Q_51 hQ_52 => ?_) ?_
                    rotate_left 1
                    · skip
                      replace h_50 := of_decide_eq_true h_50
                      refine r_call (vs := []) (.some rfl rfl) rfl cl21 rfl (fun w hw => c_awake13 w) ?_
                      refine r_val .none rfl (p_pick_t rfl rfl) ?_
                      refine r_nil (e_fin (d := 57) hQ_52 rfl (by repeat (first | exact .refl | refine .put rfl ?_ | refine .say rfl ?_ | refine .say2 rfl (by first | assumption | simp_all) ?_)))
                    · skip
                      repeat (first | refine r_skip rfl (.no rfl rfl) ?_ | refine r_skip rfl (.un rfl rfl) ?_)
                      refine r_val (by first | exact .none | exact .some rfl rfl) rfl (p_pick_f rfl rfl) ?_
                      refine r_nil (e_fin (d := 57) hQ_52 rfl (by repeat (first | exact .refl | refine .put rfl ?_ | refine .say rfl ?_ | refine .say2 rfl (by first | assumption | simp_all) ?_)))
                    refine r_val .none rfl (p_assign rfl) ?_
                    refine r_nil ?_
                    refine e_next ?_
                    refine c_ret ?_
                    refine e_ret_then ?_
                    refine e_ret1 Try.results6 (.tmp rfl .nil) (fun w hm => ⟨?_, hm.since⟩)
                    first
                    | rfl
                    | (rw [hk3, which_ncc]; rfl)
                    | (exfalso; have hx : meets (qs.getD 0 s0).1.h.k _ _ bs t = true := (by assumption); rw [hk3, meets_ncc] at hx; cases hx)
                    | (rw [meets_kinds]; simp; done)
                    )
              · skip
                first
                  | (exfalso; omega)
                  | (
                    refine r_skip rfl (.no rfl rfl) ?_
                    refine r_skip rfl (.no rfl rfl) ?_
                    refine r_skip rfl (.no rfl rfl) ?_
                    refine r_skip rfl (.no rfl rfl) ?_
                    refine r_skip rfl (.no rfl rfl) ?_
                    refine r_skip rfl (.no rfl rfl) ?_
                    refine r_skip rfl (.no rfl rfl) ?_
                    refine r_skip rfl (.no rfl rfl) ?_
                    refine r_val .none rfl (p_pick_f rfl rfl) ?_
                    refine r_val .none rfl (p_move rfl) ?_
                    refine r_skip rfl (.no rfl rfl) ?_
                    refine r_val .none rfl (p_pick_f rfl rfl) ?_
                    refine r_val .none rfl (p_assign rfl) ?_
                    refine r_nil ?_
                    refine e_next ?_
                    refine c_ret ?_
                    refine e_ret_then ?_
                    refine e_ret1 Try.results6 (.tmp rfl .nil) (fun w hm => ⟨?_, hm.since⟩)
                    first
                    | rfl
                    | (rw [hk3, which_ncc]; rfl)
                    | (exfalso; have hx : meets (qs.getD 0 s0).1.h.k _ _ bs t = true := (by assumption); rw [hk3, meets_ncc] at hx; cases hx)
                    | (rw [meets_kinds]; simp; done)
                    )
              )
        · skip
          first
            | (exfalso; omega)
            | (
              refine c_cond_f rfl ?_
              refine c_skip ?_
              refine e_next ?_
              refine c_seq ?_
              refine c_region_d (fun _ => false) _ mixed (.keep (fun _ _ h => h) (.keep (fun _ _ h => h) (.keep (fun _ _ h => h) (.nil)))) ?_
              refine d_val1 0 rfl rfl (by kernel_rfl) (fun _ _ => rfl) .none rfl (p_ldw (k := 0) Try.underlying59 rfl sz59 rfl rfl (rfl : _ = Value.agg #[_, _, _, _, _, _])) ?_
              refine d_val1 1 rfl rfl (by kernel_rfl) (fun _ _ => rfl) .none rfl (p_ldw (k := 0) Try.underlying59 rfl sz59 rfl rfl (rfl : _ = Value.agg #[_, _, _, _, _, _])) ?_
              refine d_eff2 2 3 rfl rfl (by kernel_rfl) (fun K_54 hKK_54 hcK_54 => ?_) (fun K_54 hKK_54 hcK_54 => ?_)
              · skip
                refine r_alloc .none rfl zr59 (IsRow.lit _) (fun b_7 => ?_)
                refine r_nil (e_d (i := 2) (brk := (fun _ => false)) (ph' := true) hKK_54 hcK_54 rfl (fun _ => GLe.refl _) (fun _ => .drop (.keep (fun _ _ h => h) (.keep (fun _ _ h => h) (.keep (fun _ _ h => h) (.nil))))) ?_)
                clear hKK_54 hcK_54 K_54
                refine d_eff 3 rfl (by kernel_rfl) (fun K_55 hKK_55 hcK_55 => ?_)
                refine r_alloc .none rfl zr59 (IsRow.lit _) (fun b_8 => ?_)
                refine r_nil (e_d (i := 3) (brk := (fun _ => false)) (ph' := true) hKK_55 hcK_55 rfl (fun _ => GLe.refl _) (fun _ => .drop (.drop (.keep (fun _ _ h => h) (.keep (fun _ _ h => h) (.keep (fun _ _ h => h) (.nil)))))) ?_)
                clear hKK_55 hcK_55 K_55
                refine d_eff 4 rfl (by kernel_rfl) (fun K_56 hKK_56 hcK_56 => ?_)
                refine r_stw (k := 1) .none sz59 rfl rfl (IsRow.lit _) (one_lit rfl (all_cons rfl (all_cons rfl (all_cons rfl (all_cons rfl (all_cons (ht).one (all_cons (hsm).one rfl))))))) rfl ?_
                refine r_nil (e_d (i := 4) (brk := (fun _ => false)) (ph' := true) hKK_56 hcK_56 rfl (fun _ => GLe.refl _) (fun _ => .drop (.drop (.keep (fun _ _ h => h) (.keep (fun _ _ h => h) (.keep (fun _ _ h => h) (.nil)))))) ?_)
                clear hKK_56 hcK_56 K_56
                refine d_eff 5 rfl (by kernel_rfl) (fun K_57 hKK_57 hcK_57 => ?_)
                refine r_stw (k := 0) .none sz59 rfl rfl (IsRow.lit _) (one_lit rfl (all_cons rfl (all_cons rfl (all_cons rfl (all_cons rfl (all_cons (ht).one (all_cons (hsm).one rfl))))))) rfl ?_
                refine r_nil (e_d (i := 5) (brk := (fun _ => false)) (ph' := true) hKK_57 hcK_57 rfl (fun _ => GLe.refl _) (fun _ => .drop (.drop (.keep (fun _ _ h => h) (.keep (fun _ _ h => h) (.keep (fun _ _ h => h) (.nil)))))) ?_)
                clear hKK_57 hcK_57 K_57
                refine d_nil (by kernel_rfl) ?_
                refine e_next ?_
                refine c_seq ?_
                refine c_region ?_
                refine r_val .none rfl (p_field Try.underlying59 rfl sz3 rfl) ?_
                refine r_st (k := 1) .none sz3 rfl rfl rfl rfl (by first | exact of_decide_eq_true rfl | omega) ?_
                refine r_val .none rfl (p_field Try.underlying59 rfl sz3 rfl) ?_
                refine r_st (k := 0) .none sz3 rfl rfl rfl rfl (by first | exact of_decide_eq_true rfl | omega) ?_
                refine r_nil ?_
                refine e_next ?_
                refine c_seq ?_
                refine c_region_q mixed (by kernel_rfl) ?_
                refine q_val .none rfl (p_ldw (k := 1) Try.underlying59 rfl sz59 rfl rfl (rfl : _ = Value.agg #[_, _, _, _, _, _])) ?_
                refine q_val .none rfl (p_move rfl) ?_
                refine q_val .none rfl (p_ldw (k := 3) Try.underlying26 rfl sz26 rfl rfl (rfl : _ = Value.agg #[_, _, _])) ?_
                refine q_call (vs := [_, _, _]) .none rfl cl27 rfl (fun w hw => c_meets 1 ((qs.getD 0 s0).1.h.k0, (qs.getD 0 s0).1.h.k1, (qs.getD 0 s0).1.h.k2) (qs.getD 0 s0).1.h.ts _ _ _ bs t hok ht hb w hw) ?_
                refine q_val .none rfl (p_ldw (k := 0) Try.underlying59 rfl sz59 rfl rfl (rfl : _ = Value.agg #[_, _, _, _, _, _])) ?_
                refine q_val .none rfl (p_move rfl) ?_
                refine q_val .none rfl (p_ldw (k := 3) Try.underlying26 rfl sz26 rfl rfl (rfl : _ = Value.agg #[_, _, _])) ?_
                refine q_call (vs := [_, _, _]) .none rfl cl27 rfl (fun w hw => c_meets 2 ((qs.getD 0 s0).1.h.k0, (qs.getD 0 s0).1.h.k1, (qs.getD 0 s0).1.h.k2) (qs.getD 0 s0).1.h.ts _ _ _ bs t hok ht hb w hw) ?_
                refine q_val .none rfl (p_eqb Try.underlying4 rfl rfl) ?_
                refine q_val .none rfl (p_move rfl) ?_
                refine' q_and (c := 71) (d := 73) [_, _] rfl (fun h_58 Q_59 hQ_60 => ?_) (fun h_58 Q_59 hQ_60 => ?_) ?_
                rotate_left 1
                · skip
                  replace h_58 := of_decide_eq_true h_58
                  refine q_call (vs := []) (.some rfl rfl) rfl cl21 rfl (fun w hw => c_awake13 w) ?_
                  refine q_val .none rfl (p_pick_t rfl rfl) ?_
                  refine q_nil (e_fin (d := 73) hQ_60 rfl (by repeat (first | exact .refl | refine .put rfl ?_ | refine .say rfl ?_ | refine .say2 rfl (by first | assumption | simp_all) ?_)))
                · skip
                  repeat (first | refine q_skip rfl (.no rfl rfl) ?_ | refine q_skip rfl (.un rfl rfl) ?_)
                  refine q_val (by first | exact .none | exact .some rfl rfl) rfl (p_pick_f rfl rfl) ?_
                  refine q_nil (e_fin (d := 73) hQ_60 rfl (by repeat (first | exact .refl | refine .put rfl ?_ | refine .say rfl ?_ | refine .say2 rfl (by first | assumption | simp_all) ?_)))
                refine q_val .none rfl (p_assign rfl) ?_
                refine q_nil ?_
                refine e_next ?_
                refine c_ret ?_
                refine e_ret1 Try.results6 (.tmp rfl .nil) (fun w hm => ⟨?_, hm.since⟩)
                first
                | rfl
                | (rw [hk3, which_ncc]; rfl)
                | (exfalso; have hx : meets (qs.getD 0 s0).1.h.k _ _ bs t = true := (by assumption); rw [hk3, meets_ncc] at hx; cases hx)
                | (rw [meets_kinds]; simp; done)
              · skip
                refine r_alloc .none rfl zr59 (IsRow.lit _) (fun b_9 => ?_)
                refine r_nil (e_d (i := 3) (brk := (fun _ => false)) (ph' := true) hKK_54 hcK_54 rfl (fun _ => GLe.refl _) (fun _ => .drop (.keep (fun _ _ h => h) (.keep (fun _ _ h => h) (.keep (fun _ _ h => h) (.nil))))) ?_)
                clear hKK_54 hcK_54 K_54
                refine d_eff 2 rfl (by kernel_rfl) (fun K_62 hKK_62 hcK_62 => ?_)
                refine r_alloc .none rfl zr59 (IsRow.lit _) (fun b_10 => ?_)
                refine r_nil (e_d (i := 2) (brk := (fun _ => false)) (ph' := true) hKK_62 hcK_62 rfl (fun _ => GLe.refl _) (fun _ => .drop (.drop (.keep (fun _ _ h => h) (.keep (fun _ _ h => h) (.keep (fun _ _ h => h) (.nil)))))) ?_)
                clear hKK_62 hcK_62 K_62
                refine d_eff 4 rfl (by kernel_rfl) (fun K_63 hKK_63 hcK_63 => ?_)
                refine r_stw (k := 0) .none sz59 rfl rfl (IsRow.lit _) (one_lit rfl (all_cons rfl (all_cons rfl (all_cons rfl (all_cons rfl (all_cons (ht).one (all_cons (hsm).one rfl))))))) rfl ?_
                refine r_nil (e_d (i := 4) (brk := (fun _ => false)) (ph' := true) hKK_63 hcK_63 rfl (fun _ => GLe.refl _) (fun _ => .drop (.drop (.keep (fun _ _ h => h) (.keep (fun _ _ h => h) (.keep (fun _ _ h => h) (.nil)))))) ?_)
                clear hKK_63 hcK_63 K_63
                refine d_eff 5 rfl (by kernel_rfl) (fun K_64 hKK_64 hcK_64 => ?_)
                refine r_stw (k := 1) .none sz59 rfl rfl (IsRow.lit _) (one_lit rfl (all_cons rfl (all_cons rfl (all_cons rfl (all_cons rfl (all_cons (ht).one (all_cons (hsm).one rfl))))))) rfl ?_
                refine r_nil (e_d (i := 5) (brk := (fun _ => false)) (ph' := true) hKK_64 hcK_64 rfl (fun _ => GLe.refl _) (fun _ => .drop (.drop (.keep (fun _ _ h => h) (.keep (fun _ _ h => h) (.keep (fun _ _ h => h) (.nil)))))) ?_)
                clear hKK_64 hcK_64 K_64
                refine d_nil (by kernel_rfl) ?_
                refine e_next ?_
                refine c_seq ?_
                refine c_region ?_
                refine r_val .none rfl (p_field Try.underlying59 rfl sz3 rfl) ?_
                refine r_st (k := 0) .none sz3 rfl rfl rfl rfl (by first | exact of_decide_eq_true rfl | omega) ?_
                refine r_val .none rfl (p_field Try.underlying59 rfl sz3 rfl) ?_
                refine r_st (k := 1) .none sz3 rfl rfl rfl rfl (by first | exact of_decide_eq_true rfl | omega) ?_
                refine r_nil ?_
                refine e_next ?_
                refine c_seq ?_
                refine c_region_q mixed (by kernel_rfl) ?_
                refine q_val .none rfl (p_ldw (k := 0) Try.underlying59 rfl sz59 rfl rfl (rfl : _ = Value.agg #[_, _, _, _, _, _])) ?_
                refine q_val .none rfl (p_move rfl) ?_
                refine q_val .none rfl (p_ldw (k := 3) Try.underlying26 rfl sz26 rfl rfl (rfl : _ = Value.agg #[_, _, _])) ?_
                refine q_call (vs := [_, _, _]) .none rfl cl27 rfl (fun w hw => c_meets 1 ((qs.getD 0 s0).1.h.k0, (qs.getD 0 s0).1.h.k1, (qs.getD 0 s0).1.h.k2) (qs.getD 0 s0).1.h.ts _ _ _ bs t hok ht hb w hw) ?_
                refine q_val .none rfl (p_ldw (k := 1) Try.underlying59 rfl sz59 rfl rfl (rfl : _ = Value.agg #[_, _, _, _, _, _])) ?_
                refine q_val .none rfl (p_move rfl) ?_
                refine q_val .none rfl (p_ldw (k := 3) Try.underlying26 rfl sz26 rfl rfl (rfl : _ = Value.agg #[_, _, _])) ?_
                refine q_call (vs := [_, _, _]) .none rfl cl27 rfl (fun w hw => c_meets 2 ((qs.getD 0 s0).1.h.k0, (qs.getD 0 s0).1.h.k1, (qs.getD 0 s0).1.h.k2) (qs.getD 0 s0).1.h.ts _ _ _ bs t hok ht hb w hw) ?_
                refine q_val .none rfl (p_eqb Try.underlying4 rfl rfl) ?_
                refine q_val .none rfl (p_move rfl) ?_
                refine' q_and (c := 71) (d := 73) [_, _] rfl (fun h_65 Q_66 hQ_67 => ?_) (fun h_65 Q_66 hQ_67 => ?_) ?_
                rotate_left 1
                · skip
                  replace h_65 := of_decide_eq_true h_65
                  refine q_call (vs := []) (.some rfl rfl) rfl cl21 rfl (fun w hw => c_awake13 w) ?_
                  refine q_val .none rfl (p_pick_t rfl rfl) ?_
                  refine q_nil (e_fin (d := 73) hQ_67 rfl (by repeat (first | exact .refl | refine .put rfl ?_ | refine .say rfl ?_ | refine .say2 rfl (by first | assumption | simp_all) ?_)))
                · skip
                  repeat (first | refine q_skip rfl (.no rfl rfl) ?_ | refine q_skip rfl (.un rfl rfl) ?_)
                  refine q_val (by first | exact .none | exact .some rfl rfl) rfl (p_pick_f rfl rfl) ?_
                  refine q_nil (e_fin (d := 73) hQ_67 rfl (by repeat (first | exact .refl | refine .put rfl ?_ | refine .say rfl ?_ | refine .say2 rfl (by first | assumption | simp_all) ?_)))
                refine q_val .none rfl (p_assign rfl) ?_
                refine q_nil ?_
                refine e_next ?_
                refine c_ret ?_
                refine e_ret1 Try.results6 (.tmp rfl .nil) (fun w hm => ⟨?_, hm.since⟩)
                first
                | rfl
                | (rw [hk3, which_ncc]; rfl)
                | (exfalso; have hx : meets (qs.getD 0 s0).1.h.k _ _ bs t = true := (by assumption); rw [hk3, meets_ncc] at hx; cases hx)
                | (rw [meets_kinds]; simp; done)
              )
        )
end Go.Proofs.Ytinbigokigkfaaa
