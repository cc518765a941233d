/- Walks: what Go functions of this chapter come to, each as a function on plain data; no condition but those that each theorem names. Printed by a program of this work (gen.py). -/
import Derived.Test.YtoflaphnlfggkaaW06c
import Derived.Test.YtoflaphnlfggkaaRows
namespace Go.Proofs.Ytoflaphnlfggkaa
open Go.Gx Go.Gx.T4 Go.Gx.T3 Go.Gx.T6 Go.Gx.T8 Go.Gx.T4 Go.Gx.T3 Go.Gx.T8 Go.Gx.T4 Go.Gx.T3
theorem cl14 : Callable Try.prog 14 := callable Try.func14 (by kernel_rfl) rfl
theorem bs29_10s3 (a0 : Option Addr) (a1 a2 : Nat) : Instr.fill (fun i => some (i * 1, 1)) ((Array.range (1 * 1)).map ((Value.slice none 0 0).cells[· % (Value.slice none 0 0).cells.size]!)) [(0, Value.slice a0 a1 a2)] = some #[Value.slice a0 a1 a2] := by
  kernel_rfl
theorem el29 : ElemIs Try.prog 29 1 24 (Value.slice none 0 0) := by
  unfold ElemIs
  kernel_rfl
def RchIs (n : Nat) : Prop := ∀ (va vl : Value) (es : List (CT × Value)) (l : List CT) (G : Ghost) (F : Nat → Prop) (w : World), SizeOf.sizeOf l ≤ n → es.length + sizeL l ≤ 1000 → (∀ p ∈ es, Rs G p.2 p.1.subs) → Rs G vl l → Has G w → (rowA va 44 8 es.length (es.flatMap rvC)).holds w F → (∀ b, F b → G b = none) → Calls Try.prog 14 #[va, vl] w (Ret fun r w' => ∃ G', GNew w F G G' ∧ Has G' w' ∧ Ls (fun G v l => Rs G v l) ([] : List CT) G' r (chains (es.map Prod.fst) l) ∧ KeptG (rowA va 44 8 es.length (es.flatMap rvC)) F G' w w')
theorem c_rch_s (n : Nat) (ih : RchIs n) (va vl : Value) (es : List (CT × Value)) (l : List CT) {G : Ghost} {F : Nat → Prop} (hz : SizeOf.sizeOf l ≤ n + 1) (hsz : es.length + sizeL l ≤ 1000) (hes : ∀ p ∈ es, Rs G p.2 p.1.subs) (hs : Rs G vl l) (w : World) (hG : Has G w) (hA : (rowA va 44 8 es.length (es.flatMap rvC)).holds w F) (hFG : ∀ b, F b → G b = none) :
    Calls Try.prog 14 #[va, vl] w (Ret fun r w' => ∃ G', GNew w F G G' ∧ Has G' w' ∧ Ls (fun G v l => Rs G v l) ([] : List CT) G' r (chains (es.map Prod.fst) l) ∧ KeptG (rowA va 44 8 es.length (es.flatMap rvC)) F G' w w') := by
  refine enterO (args := [_, _]) (G := G) (A := rowA va 44 8 es.length (es.flatMap rvC)) (l := [(0, va), (1, vl)]) Try.func14 rfl Try.ntmps14 hG hA hFG ⟨rfl, rfl, trivial⟩ (Nat.le_of_ble_eq_true rfl) ?_
  obtain ⟨rs, hr, hp, rfl⟩ := hs.inv
  have hbd := hr.bound
  refine c_seq ?_
  refine c_region ?_
  refine r_val .none rfl (p_assign rfl) ?_
  refine r_nil ?_
  refine e_next ?_
  refine c_seq ?_
  refine c_region ?_
  refine r_val .none rfl (p_assign rfl) ?_
  refine r_nil ?_
  refine e_next ?_
  refine c_seq ?_
  refine c_seq ?_
  refine c_region ?_
  refine r_val .none rfl (p_move rfl) ?_
  refine r_val .none rfl (p_leng Try.underlying29 rfl hr) ?_
  have bd_1 := (hr).bound
  refine r_val .none rfl (p_move rfl) ?_
  refine r_nil ?_
  refine e_next ?_
  refine c_block ?_
  refine c_nilrow 29 1 ?_
  refine c_name (d := 0) rfl (fun u_2 hu_2 => ?_)
  refine c_name (d := 1) rfl (fun u_3 hu_3 => ?_)
  refine c_name (d := 4) rfl (fun u_4 hu_4 => ?_)
  refine c_name (d := 9) rfl (fun u_5 hu_5 => ?_)
  refine c_name (d := 10) rfl (fun u_6 hu_6 => ?_)
  refine c_nameL (k := 1) rfl (fun A_7 hA_7 => ?_)
  refine c_loop (σ := Nat × Value × List (List CT × Value) × Ghost) (fun s => [(11, Value.int .i64 (s.1 : Nat)), (5, s.2.1), (0, u_2), (1, u_3), (4, u_4), (9, u_5), (10, u_6)]) (fun s => [rowA (s.2.1) 29 1 (s.2.2.1).length ((s.2.2.1).flatMap lC), A_7]) (fun s => s.2.2.2) (fun s => s.1 ≤ rs.length ∧ s.2.2.1.map Prod.fst = chains (es.map Prod.fst) ((rs.map Prod.fst).take s.1) ∧ RhC s.2.2.2 s.2.2.1 ∧ GNew w F G s.2.2.2) (fun s => rs.length - s.1) ((0, _, [], _)) ⟨Nat.zero_le _, by simp [chains], by simp [RhC], GNew.refl _ _ _⟩ rfl ⟨rfl, rfl, rfl, rfl, rfl, rfl, rfl, trivial⟩ (.keep (fun _ _ h => rowA_nil rfl _ _ h) (.keep (fun _ _ h => h) (.nil))) (fun s hphi => ?_)
  subst hu_2
  subst hu_3
  subst hu_4
  subst hu_5
  subst hu_6
  subst hA_7
  obtain ⟨k, v, z, H⟩ := s
  obtain ⟨hk, hzq, hzc, hgn⟩ := hphi
  dsimp only at hk hzq hzc hgn ⊢
  have hzl : z.length = (chains (es.map Prod.fst) ((rs.map Prod.fst).take k)).length := by have := congrArg List.length hzq; simpa using this
  have hcl := chains_take_le (es.map Prod.fst) rs k
  have hst0 := sizeL_take_le (rs.map Prod.fst) k
  have hll := sizeL_len (rs.map Prod.fst)
  rw [List.length_map] at hll
  have hm9 : (es ++ rs.take k).map Prod.fst = es.map Prod.fst ++ (rs.map Prod.fst).take k := by rw [List.map_append, List.map_take]
  refine c_row1 (k := 0) rfl (fun ov => ?_)
  refine c_rowlen (k := 0) rfl (fun l63 => ?_)
  replace hr := hr.mono hgn.le
  replace hp := fun p hm0 => (hp p hm0).mono hgn.le
  replace hes := fun p hm0 => (hes p hm0).mono hgn.le
  refine c_seq ?_
  refine c_region ?_
  refine r_val .none rfl (p_lt rfl rfl) ?_
  refine r_nil ?_
  refine e_next ?_
  refine c_seq ?_
  refine c_splitd (d := 12) rfl (fun h_8 => ?_) (fun h_8 => ?_)
  · skip
    first
      | (exfalso; omega)
      | (
        refine c_cond_t rfl ?_
        refine c_skip ?_
        refine e_next ?_
        refine c_seq ?_
        refine c_block ?_
        refine c_seq ?_
        refine c_region ?_
        refine r_val .none rfl (p_move rfl) ?_
        refine r_iaddr_g .none rfl Try.underlying29 sz44 rfl hr rfl (by first | exact of_decide_eq_true rfl | omega) (fun p_10 o_11 R_9 => ?_)
        have hc_12 := hp _ (getD_mem (i := k) (d := d0) (by omega))
        have hkl := sizeL_len ((rs.map Prod.fst).take k)
        rw [List.length_take, List.length_map] at hkl
        have hsk := sizeL_take (rs := rs) (k := k) (by omega)
        have hsk2 := sizeL_take_le (rs.map Prod.fst) (k + 1)
        have hsq := size_eq (rs.getD k d0).1
        refine r_val .none rfl (p_ldga0 Try.underlying44 rfl sz44 rfl R_9 (by first | exact of_decide_eq_true rfl | omega) (rfl : _ = Value.agg #[_, _, _, _, _, _, _, _])) ?_
        refine r_alloc .none rfl zr44 (IsRow.lit _) (fun b_1 => ?_)
        refine r_val .none rfl (p_assign rfl) ?_
        refine r_stw (k := 0) .none sz44 rfl rfl (IsRow.lit _) (one_lit rfl (all_cons rfl (all_cons rfl (all_cons rfl (all_cons rfl (all_cons rfl (all_cons rfl (all_cons rfl (all_cons (hc_12).one rfl))))))))) rfl ?_
        refine r_nil ?_
        refine e_next ?_
        refine c_seq ?_
        refine c_region ?_
        refine r_val .none rfl (p_assign rfl) ?_
        refine r_nil ?_
        refine e_next ?_
        refine c_seq ?_
        refine c_region ?_
        refine r_val .none rfl (p_move rfl) ?_
        refine r_val .none rfl (p_move rfl) ?_
        refine r_nilrow 44 8 ?_
        refine r_append_o (k := 0) (k2 := 3) .none rfl Try.underlying29 el44 rfl (by decide) rfl rfl rfl rfl (rv_all hes) (by simp only [maxLen]; omega) (by omega) (fun v_14 => ?_)
        refine r_row1 (k := 0) rfl (fun o_15 => ?_)
        refine r_val .none rfl (p_assign rfl) ?_
        refine r_nil ?_
        refine e_next ?_
        refine c_seq ?_
        refine c_region ?_
        refine r_val .none rfl (p_move rfl) ?_
        refine r_val .none rfl (p_move rfl) ?_
        refine r_val .none rfl (p_move rfl) ?_
        refine r_slice0 (k) .none rfl Try.underlying29 sz44 rfl hr rfl (by first | exact of_decide_eq_true rfl | omega) (fun v_16 hs_17 => ?_)
        have hpt_19 := (Tr.take (by omega) hs_17 hp).1
        refine r_append_g (k := 0) .none rfl Try.underlying29 el44 rfl (by decide) rfl rfl rfl hpt_19 (rv_ones (fun p hm0 => hp p (List.mem_of_mem_take hm0))) (by rw [List.length_take]; simp only [maxLen]; omega) (by rw [List.length_take]; omega) (fun v_20 => ?_)
        refine r_row1 (k := 0) rfl (fun o_21 => ?_)
        refine r_conv (B := rowA v_20 _ 8 (es ++ rs.take k).length ((es ++ rs.take k).flatMap rvC)) (k := 0) rfl (fun _ _ h => rowA_congr (by simp) (by rw [List.nil_append, flat_all (cells := rvC) (fun _ => rfl), List.flatMap_append]) _ _ h) ?_
        refine r_val .none rfl (p_assign rfl) ?_
        refine r_nil ?_
        refine e_next ?_
        refine c_seq ?_
        refine c_seq ?_
        refine c_region ?_
        refine r_val .none rfl (p_field Try.underlying44 rfl sz3 rfl) ?_
        refine r_val .none rfl (p_ld (k := 1) Try.underlying3 rfl rfl rfl (by first | exact of_decide_eq_true rfl | omega) (rfl : _ = Value.int _ _)) ?_
        refine r_val .none rfl (p_eq rfl rfl) ?_
        refine r_nil ?_
        refine e_next ?_
        refine c_splitd (d := 26) rfl (fun h_22 => ?_) (fun h_22 => ?_)
        · skip
          have hk3 := h_22
          first
            | (exfalso; omega)
            | (
              refine c_cond_t rfl ?_
              refine c_region ?_
              refine r_val .none rfl (p_move rfl) ?_
              refine r_val .none rfl (p_move rfl) ?_
              refine r_val .none rfl (p_field Try.underlying44 rfl sz29 rfl) ?_
              refine r_val .none rfl (p_ld (k := 1) Try.underlying29 rfl rfl rfl (by first | exact of_decide_eq_true rfl | omega) rfl) ?_
              refine r_callom (k := 0) (vs := [_, _]) .none rfl cl14 rfl rfl (fun w F hw hA hFG => ih _ _ _ _ _ _ w (Nat.le_of_lt_succ (Nat.lt_of_lt_of_le (sub_size (by omega)) hz)) (by rw [List.length_append, List.length_take]; omega) (fun p hm0 => by rcases List.mem_append.1 hm0 with h | h; exact hes p h; exact hp p (List.mem_of_mem_take h)) hc_12 hw hA hFG) (fun G_23 v_26 hn_24 hr_25 => ?_)
              replace hr := hr.mono hn_24.le
              replace hp := fun p hm0 => (hp p hm0).mono hn_24.le
              replace hes := fun p hm0 => (hes p hm0).mono hn_24.le
              replace hzc := RhC.mono hzc hn_24.le
              replace R_9 := R_9.mono hn_24.le
              replace hc_12 := hc_12.mono hn_24.le
              replace hs_17 := hs_17.mono hn_24.le
              replace hpt_19 := hpt_19.mono hn_24.le
              obtain ⟨u_27z, u_27h, u_27p, u_27q⟩ := hr_25
              rw [hm9] at u_27q
              refine r_append_g (k := 2) .none rfl Try.underlying27 el29 rfl (by decide) rfl rfl rfl u_27h (rv_one1 u_27p) (by have h9 := congrArg List.length u_27q; rw [List.length_map] at h9; have h8 := chains_len (rs.getD k d0).1.subs (es.map Prod.fst ++ (rs.map Prod.fst).take k); simp only [maxLen]; omega) (by have h9 := congrArg List.length u_27q; rw [List.length_map] at h9; have h8 := chains_len (rs.getD k d0).1.subs (es.map Prod.fst ++ (rs.map Prod.fst).take k); omega) (fun v_28 => ?_)
              refine r_row1 (k := 2) rfl (fun o_29 => ?_)
              refine r_conv (B := rowA v_28 _ 1 (z ++ u_27z).length ((z ++ u_27z).flatMap lC)) (k := 2) rfl (fun _ _ h => rowA_congr (by simp) (by rw [flat_all (cells := lC) (fun _ => rfl), List.flatMap_append]) _ _ h) ?_
              refine r_val .none rfl (p_assign rfl) ?_
              refine r_nil ?_
              refine e_next ?_
              refine c_seq ?_
              refine c_region ?_
              refine r_val .none rfl (p_move rfl) ?_
              refine r_val .none rfl (p_ldw (k := 1) Try.underlying44 rfl sz44 rfl rfl (rfl : _ = Value.agg #[_, _, _, _, _, _, _, _])) ?_
              refine r_bslice (vs := [(0, Value.agg #[_, _, _, _, _, _, _, _])]) (c := #[_, _, _, _, _, _, _, _]) .none rfl Try.underlying29 el44 rfl rfl rfl (bs44_10a8 _ _ _ _ _ _ _ _) (IsRow.lit _) (fun b_2 => ?_)
              refine r_append (k := 1) (k2 := 0) .none rfl Try.underlying29 el44 rfl (by decide) rfl rfl rfl rfl rfl (one_lit rfl (all_cons rfl (all_cons rfl (all_cons rfl (all_cons rfl (all_cons rfl (all_cons rfl (all_cons rfl (all_cons (hc_12).one rfl))))))))) (by rw [List.length_append, List.length_take]; simp only [maxLen]; omega) (by rw [List.length_append, List.length_take]; omega) (fun v_30 => ?_)
              refine r_row1 (k := 1) rfl (fun o_31 => ?_)
              refine r_val .none rfl (p_assign rfl) ?_
              refine r_nil ?_
              refine e_next ?_
              refine c_region ?_
              refine r_val .none rfl (p_move rfl) ?_
              refine r_val .none rfl (p_move rfl) ?_
              refine r_freeze (k := 1) rfl (fun G_32 hn_33 hs_34 => ?_)
              replace hr := hr.mono hn_33.le
              replace hp := fun p hm0 => (hp p hm0).mono hn_33.le
              replace hes := fun p hm0 => (hes p hm0).mono hn_33.le
              replace hzc := RhC.mono hzc hn_33.le
              replace R_9 := R_9.mono hn_33.le
              replace hc_12 := hc_12.mono hn_33.le
              replace hs_17 := hs_17.mono hn_33.le
              replace hpt_19 := hpt_19.mono hn_33.le
              replace u_27h := u_27h.mono hn_33.le
              replace u_27p := RhC.mono u_27p hn_33.le
              have hs2 : SlL G_32 v_30 8 rvC d0 ((es ++ rs.take k) ++ [rs.getD k d0]) := SlL.of2 d0 (fun _ => rfl) (by simp [Nat.add_assoc]) (by rw [List.flatMap_append (xs := es ++ rs.take k), List.flatMap_cons, List.flatMap_nil, List.append_nil]; rfl) hs_34
              have hva2 : Rs G_32 v_30 (es.map Prod.fst ++ (rs.map Prod.fst).take k ++ [(rs.getD k d0).1]) := by have h := Tr.mk _ hs2 (fun p hm0 => by rcases List.mem_append.1 hm0 with h | h; rcases List.mem_append.1 h with h | h; exact hes p h; exact hp p (List.mem_of_mem_take h); rw [List.mem_singleton.1 h]; exact hc_12); rw [List.map_append, hm9] at h; exact h
              obtain ⟨a_35, c_36, rfl⟩ := SlG.len hs2
              refine r_bslice (vs := [(0, Value.slice _ _ _)]) (c := #[_]) .none rfl Try.underlying27 el29 rfl rfl rfl (bs29_10s3 _ _ _) (IsRow.lit _) (fun b_3 => ?_)
              refine r_append (k := 3) (k2 := 0) .none rfl Try.underlying27 el29 rfl (by decide) rfl rfl rfl rfl rfl (one_lit rfl rfl) (by first | (simp only [maxLen]; omega) | (have h9 := congrArg List.length u_27q; rw [List.length_map] at h9; have h8 := chains_len (rs.getD k d0).1.subs (es.map Prod.fst ++ (rs.map Prod.fst).take k); rw [List.length_append]; simp only [maxLen]; omega)) (by first | omega | (have h9 := congrArg List.length u_27q; rw [List.length_map] at h9; have h8 := chains_len (rs.getD k d0).1.subs (es.map Prod.fst ++ (rs.map Prod.fst).take k); rw [List.length_append]; omega)) (fun v_37 => ?_)
              refine r_row1 (k := 3) rfl (fun o_38 => ?_)
              refine r_val .none rfl (p_assign rfl) ?_
              refine r_nil ?_
              refine e_norm_block ?_
              refine e_next ?_
              refine c_region ?_
              refine r_val .none rfl (p_add rfl rfl (by omega)) ?_
              refine r_val .none rfl (p_move rfl) ?_
              refine r_nil ?_
              refine e_round ((k + 1, _, (z ++ u_27z) ++ [(es.map Prod.fst ++ (rs.map Prod.fst).take k ++ [(rs.getD k d0).1], Value.slice a_35 ((es ++ rs.take k) ++ [rs.getD k d0]).length c_36)], _)) ⟨⟨by dsimp only; omega, by rw [chains_take (by omega), chain1_ncc hk3, List.map_append, List.map_append, hzq, ← u_27q, List.append_assoc]; rfl, RhC.snoc (RhC.app hzc u_27p) hva2, ((hgn.trans hn_24).trans hn_33)⟩, by dsimp only; omega⟩ rfl ⟨rfl, rfl, rfl, rfl, rfl, rfl, rfl, trivial⟩ (.drop (.drop (.drop (.keep (fun _ _ h => rowA_snoc (l := (z ++ u_27z)) (x := (es.map Prod.fst ++ (rs.map Prod.fst).take k ++ [(rs.getD k d0).1], Value.slice a_35 ((es ++ rs.take k) ++ [rs.getD k d0]).length c_36)) rfl rfl rfl rfl _ _ h) (.keep (fun _ _ h => h) (.nil))))))
              )
        · skip
          have hk3 := h_22
          first
            | (exfalso; omega)
            | (
              refine c_cond_f rfl ?_
              refine c_skip ?_
              refine e_next ?_
              refine c_seq ?_
              refine c_region ?_
              refine r_val .none rfl (p_move rfl) ?_
              refine r_val .none rfl (p_ldw (k := 1) Try.underlying44 rfl sz44 rfl rfl (rfl : _ = Value.agg #[_, _, _, _, _, _, _, _])) ?_
              refine r_bslice (vs := [(0, Value.agg #[_, _, _, _, _, _, _, _])]) (c := #[_, _, _, _, _, _, _, _]) .none rfl Try.underlying29 el44 rfl rfl rfl (bs44_10a8 _ _ _ _ _ _ _ _) (IsRow.lit _) (fun b_4 => ?_)
              refine r_append (k := 1) (k2 := 0) .none rfl Try.underlying29 el44 rfl (by decide) rfl rfl rfl rfl rfl (one_lit rfl (all_cons rfl (all_cons rfl (all_cons rfl (all_cons rfl (all_cons rfl (all_cons rfl (all_cons rfl (all_cons (hc_12).one rfl))))))))) (by rw [List.length_append, List.length_take]; simp only [maxLen]; omega) (by rw [List.length_append, List.length_take]; omega) (fun v_39 => ?_)
              refine r_row1 (k := 1) rfl (fun o_40 => ?_)
              refine r_val .none rfl (p_assign rfl) ?_
              refine r_nil ?_
              refine e_next ?_
              refine c_region ?_
              refine r_val .none rfl (p_move rfl) ?_
              refine r_val .none rfl (p_move rfl) ?_
              refine r_freeze (k := 1) rfl (fun G_41 hn_42 hs_43 => ?_)
              replace hr := hr.mono hn_42.le
              replace hp := fun p hm0 => (hp p hm0).mono hn_42.le
              replace hes := fun p hm0 => (hes p hm0).mono hn_42.le
              replace hzc := RhC.mono hzc hn_42.le
              replace R_9 := R_9.mono hn_42.le
              replace hc_12 := hc_12.mono hn_42.le
              replace hs_17 := hs_17.mono hn_42.le
              replace hpt_19 := hpt_19.mono hn_42.le
              have hs2 : SlL G_41 v_39 8 rvC d0 ((es ++ rs.take k) ++ [rs.getD k d0]) := SlL.of2 d0 (fun _ => rfl) (by simp [Nat.add_assoc]) (by rw [List.flatMap_append (xs := es ++ rs.take k), List.flatMap_cons, List.flatMap_nil, List.append_nil]; rfl) hs_43
              have hva2 : Rs G_41 v_39 (es.map Prod.fst ++ (rs.map Prod.fst).take k ++ [(rs.getD k d0).1]) := by have h := Tr.mk _ hs2 (fun p hm0 => by rcases List.mem_append.1 hm0 with h | h; rcases List.mem_append.1 h with h | h; exact hes p h; exact hp p (List.mem_of_mem_take h); rw [List.mem_singleton.1 h]; exact hc_12); rw [List.map_append, hm9] at h; exact h
              obtain ⟨a_44, c_45, rfl⟩ := SlG.len hs2
              refine r_bslice (vs := [(0, Value.slice _ _ _)]) (c := #[_]) .none rfl Try.underlying27 el29 rfl rfl rfl (bs29_10s3 _ _ _) (IsRow.lit _) (fun b_5 => ?_)
              refine r_append (k := 3) (k2 := 0) .none rfl Try.underlying27 el29 rfl (by decide) rfl rfl rfl rfl rfl (one_lit rfl rfl) (by first | (simp only [maxLen]; omega) | (have h9 := congrArg List.length q; rw [List.length_map] at h9; have h8 := chains_len (rs.getD k d0).1.subs (es.map Prod.fst ++ (rs.map Prod.fst).take k); rw [List.length_append]; simp only [maxLen]; omega)) (by first | omega | (have h9 := congrArg List.length q; rw [List.length_map] at h9; have h8 := chains_len (rs.getD k d0).1.subs (es.map Prod.fst ++ (rs.map Prod.fst).take k); rw [List.length_append]; omega)) (fun v_46 => ?_)
              refine r_row1 (k := 3) rfl (fun o_47 => ?_)
              refine r_val .none rfl (p_assign rfl) ?_
              refine r_nil ?_
              refine e_norm_block ?_
              refine e_next ?_
              refine c_region ?_
              refine r_val .none rfl (p_add rfl rfl (by omega)) ?_
              refine r_val .none rfl (p_move rfl) ?_
              refine r_nil ?_
              refine e_round ((k + 1, _, z ++ [(es.map Prod.fst ++ (rs.map Prod.fst).take k ++ [(rs.getD k d0).1], Value.slice a_44 ((es ++ rs.take k) ++ [rs.getD k d0]).length c_45)], _)) ⟨⟨by dsimp only; omega, by rw [chains_take (by omega), chain1_other hk3, List.map_append, hzq]; rfl, RhC.snoc hzc hva2, (hgn.trans hn_42)⟩, by dsimp only; omega⟩ rfl ⟨rfl, rfl, rfl, rfl, rfl, rfl, rfl, trivial⟩ (.drop (.drop (.drop (.keep (fun _ _ h => rowA_snoc (l := z) (x := (es.map Prod.fst ++ (rs.map Prod.fst).take k ++ [(rs.getD k d0).1], Value.slice a_44 ((es ++ rs.take k) ++ [rs.getD k d0]).length c_45)) rfl rfl rfl rfl _ _ h) (.keep (fun _ _ h => h) (.nil))))))
              )
        )
  · skip
    first
      | (exfalso; omega)
      | (
        refine c_cond_f rfl ?_
        refine c_exit ?_
        refine e_exit_then ?_
        refine e_exit_then ?_
        refine e_exit_block ?_
        refine e_next ?_
        refine c_seq ?_
        refine c_region ?_
        refine r_val .none rfl (p_move rfl) ?_
        refine r_val .none rfl (p_assign rfl) ?_
        refine r_nil ?_
        refine e_next ?_
        refine c_ret ?_
        refine e_freeze (k := 0) rfl (fun G_48 hn_49 hs_50 => ?_)
        replace hr := hr.mono hn_49.le
        replace hp := fun p hm0 => (hp p hm0).mono hn_49.le
        replace hes := fun p hm0 => (hes p hm0).mono hn_49.le
        replace hzc := RhC.mono hzc hn_49.le
        refine e_ret1 Try.results14 (.tmp rfl .nil) (fun w hm => ⟨_, (hgn.trans hn_49), hm.has, ?_, hm.keptG [rowA _ 44 8 es.length (es.flatMap rvC)] (.keep (fun _ _ h => h) (.nil)) _ (fun F' h => starL_one h)⟩)
        rw [show chains (es.map Prod.fst) (rs.map Prod.fst) = z.map Prod.fst by rw [hzq, List.take_of_length_le (by simp; omega)]]
        exact Ls.mk z (SlL.of (([] : List CT), Value.slice none 0 0) (fun _ => rfl) rfl hs_50) hzc
        )
theorem c_rch_n : ∀ n, RchIs n
  | 0 => fun va vl es l G F w hz _ _ _ _ _ _ => absurd hz (by cases l <;> simp)
  | n + 1 => fun va vl es l G F w hz hsz hes hs hG hA hFG => c_rch_s n (c_rch_n n) va vl es l hz hsz hes hs w hG hA hFG
theorem c_rch (va vl : Value) (es : List (CT × Value)) (l : List CT) {G : Ghost} {F : Nat → Prop} (hsz : es.length + sizeL l ≤ 1000) (hes : ∀ p ∈ es, Rs G p.2 p.1.subs) (hs : Rs G vl l) (w : World) (hG : Has G w) (hA : (rowA va 44 8 es.length (es.flatMap rvC)).holds w F) (hFG : ∀ b, F b → G b = none) : Calls Try.prog 14 #[va, vl] w (Ret fun r w' => ∃ G', GNew w F G G' ∧ Has G' w' ∧ Ls (fun G v l => Rs G v l) ([] : List CT) G' r (chains (es.map Prod.fst) l) ∧ KeptG (rowA va 44 8 es.length (es.flatMap rvC)) F G' w w') := c_rch_n _ va vl es l G F w (Nat.le_refl _) hsz hes hs hG hA hFG
end Go.Proofs.Ytoflaphnlfggkaa
